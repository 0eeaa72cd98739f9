/- Layers 6, 9, 15: contracts, keys, causes as bodies. -/
import Derived.Test.YtejpcmjokamdcaaProg
import Derived.Test.YtejpcmjokamdcaaElc
import Derived.Test.YtejpcmjokamdcaaEr1
import Derived.Test.YtejpcmjokamdcaaEr2
set_option linter.unusedVariables false
set_option linter.unusedSimpArgs false
namespace Go.Proofs.Ytejpcmjokamdcaa
open Go.Vc Go.RowKit

set_option maxRecDepth 100000 in
set_option maxHeartbeats 4000000 in
theorem kright_any (p v c : Int) (w : World) :
  CV Try.prog 61 #[.agg #[.int .i64 p, .int .i64 v, .int .i64 c]] w (fun x w1 => x = .bool (rightK p v c) ∧ Step No w w1) := by
 have hS : Step No w w := Step.refl _ _
 refine CV_enter Try.f61 _ 31 [(0, .agg #[.int .i64 p, .int .i64 v, .int .i64 c])] Try.func61 rfl rfl (by kernel_rfl) rfl ?_
 refine VC_seq ?_
 refine VC_region ?_
 have hzs1 := hS.size
 refine VL_box (d := 1) (t := 54) (c := #[.int .i64 p, .int .i64 v, .int .i64 c]) (by kernel_rfl) (by kernel_rfl) ?_
 intro b1 w1 hn1
 replace hS := Step.trans hS (hn1.step No)
 have ho1 := hn1.own
 have hzhn1 := hn1.size
 have hqhn1 := hn1.eqb
 refine VL_pure 2 [1] [(1, .pointer (some ⟨b1, 0, none⟩))] (by kernel_rfl) rfl ?_
 refine VL_end (by kernel_rfl) ?_
 refine VQ_next ?_
 refine VC_seq ?_
 refine VC_region ?_
 refine VL_pure 1 [1, 3] [(1, .pointer (some ⟨b1, 0, none⟩)), (3, .pointer (some ⟨b1, 0, none⟩))] (by kernel_rfl) rfl ?_
 refine VL_load (d := 4) (t := 3) (a := ⟨b1, 0, none⟩) (v := .int .i64 p) (by kernel_rfl) (by kernel_rfl) (Loads.own1 ho1 (by kernel_rfl) (by rfl)) ?_
 refine VL_pure 4 [1, 6] [(1, .pointer (some ⟨b1, 0, none⟩)), (6, .bool (decide (p ≥ 0)))] (by kernel_rfl) rfl ?_
 refine VL_join (decide (p ≥ 0)) (fun bV => [(1, .pointer (some ⟨b1, 0, none⟩)), (6, .bool bV)]) 8 [(1, .pointer (some ⟨b1, 0, none⟩)), (10, .bool ((decide (p ≥ 0)) && (decide (p < 8))))] rfl (fun hg1 J1 => ?_) (fun hg1 J1 => ?_) ?_
 ·refine VL_pure 5 [1, 6, 7] [(1, .pointer (some ⟨b1, 0, none⟩)), (6, .bool true), (7, .pointer (some ⟨b1, 0, none⟩))] (by kernel_rfl) rfl ?_
  refine VL_load (d := 8) (t := 3) (a := ⟨b1, 0, none⟩) (v := .int .i64 p) (by kernel_rfl) (by kernel_rfl) (Loads.own1 ho1 (by kernel_rfl) (by rfl)) ?_
  refine VL_pure 8 [1, 10] [(1, .pointer (some ⟨b1, 0, none⟩)), (10, .bool (decide (p < 8)))] (by kernel_rfl) rfl ?_
  exact VL_eq _ (by simp only [hg1, Bool.true_and, Bool.false_and, Bool.true_or, Bool.false_or, Bool.not_true, Bool.not_false]) J1
 ·refine VL_pure 8 [1, 10] [(1, .pointer (some ⟨b1, 0, none⟩)), (10, .bool false)] (by kernel_rfl) rfl ?_
  exact VL_eq _ (by simp only [hg1, Bool.true_and, Bool.false_and, Bool.true_or, Bool.false_or, Bool.not_true, Bool.not_false]) J1
 refine VL_pure 9 [1, 11] [(1, .pointer (some ⟨b1, 0, none⟩)), (11, .bool ((decide (p ≥ 0)) && (decide (p < 8))))] (by kernel_rfl) rfl ?_
 refine VL_join ((decide (p ≥ 0)) && (decide (p < 8))) (fun bV => [(1, .pointer (some ⟨b1, 0, none⟩)), (11, .bool bV)]) 13 [(1, .pointer (some ⟨b1, 0, none⟩)), (15, .bool (((decide (p ≥ 0)) && (decide (p < 8))) && (decide (v ≥ 0))))] rfl (fun hg2 J2 => ?_) (fun hg2 J2 => ?_) ?_
 ·refine VL_pure 10 [1, 11, 12] [(1, .pointer (some ⟨b1, 0, none⟩)), (11, .bool true), (12, .pointer (some ⟨b1, 1, none⟩))] (by kernel_rfl) rfl ?_
  refine VL_load (d := 13) (t := 3) (a := ⟨b1, 1, none⟩) (v := .int .i64 v) (by kernel_rfl) (by kernel_rfl) (Loads.own1 ho1 (by kernel_rfl) (by rfl)) ?_
  refine VL_pure 13 [1, 15] [(1, .pointer (some ⟨b1, 0, none⟩)), (15, .bool (decide (v ≥ 0)))] (by kernel_rfl) rfl ?_
  exact VL_eq _ (by simp only [hg2, Bool.true_and, Bool.false_and, Bool.true_or, Bool.false_or, Bool.not_true, Bool.not_false]) J2
 ·refine VL_pure 13 [1, 15] [(1, .pointer (some ⟨b1, 0, none⟩)), (15, .bool false)] (by kernel_rfl) rfl ?_
  exact VL_eq _ (by simp only [hg2, Bool.true_and, Bool.false_and, Bool.true_or, Bool.false_or, Bool.not_true, Bool.not_false]) J2
 refine VL_pure 14 [1, 16] [(1, .pointer (some ⟨b1, 0, none⟩)), (16, .bool (((decide (p ≥ 0)) && (decide (p < 8))) && (decide (v ≥ 0))))] (by kernel_rfl) rfl ?_
 refine VL_join (((decide (p ≥ 0)) && (decide (p < 8))) && (decide (v ≥ 0))) (fun bV => [(1, .pointer (some ⟨b1, 0, none⟩)), (16, .bool bV)]) 18 [(1, .pointer (some ⟨b1, 0, none⟩)), (20, .bool ((((decide (p ≥ 0)) && (decide (p < 8))) && (decide (v ≥ 0))) && (decide (v < 4096))))] rfl (fun hg3 J3 => ?_) (fun hg3 J3 => ?_) ?_
 ·refine VL_pure 15 [1, 16, 17] [(1, .pointer (some ⟨b1, 0, none⟩)), (16, .bool true), (17, .pointer (some ⟨b1, 1, none⟩))] (by kernel_rfl) rfl ?_
  refine VL_load (d := 18) (t := 3) (a := ⟨b1, 1, none⟩) (v := .int .i64 v) (by kernel_rfl) (by kernel_rfl) (Loads.own1 ho1 (by kernel_rfl) (by rfl)) ?_
  refine VL_pure 18 [1, 20] [(1, .pointer (some ⟨b1, 0, none⟩)), (20, .bool (decide (v < 4096)))] (by kernel_rfl) rfl ?_
  exact VL_eq _ (by simp only [hg3, Bool.true_and, Bool.false_and, Bool.true_or, Bool.false_or, Bool.not_true, Bool.not_false]) J3
 ·refine VL_pure 18 [1, 20] [(1, .pointer (some ⟨b1, 0, none⟩)), (20, .bool false)] (by kernel_rfl) rfl ?_
  exact VL_eq _ (by simp only [hg3, Bool.true_and, Bool.false_and, Bool.true_or, Bool.false_or, Bool.not_true, Bool.not_false]) J3
 refine VL_pure 19 [1, 21] [(1, .pointer (some ⟨b1, 0, none⟩)), (21, .bool ((((decide (p ≥ 0)) && (decide (p < 8))) && (decide (v ≥ 0))) && (decide (v < 4096))))] (by kernel_rfl) rfl ?_
 refine VL_join ((((decide (p ≥ 0)) && (decide (p < 8))) && (decide (v ≥ 0))) && (decide (v < 4096))) (fun bV => [(1, .pointer (some ⟨b1, 0, none⟩)), (21, .bool bV)]) 23 [(1, .pointer (some ⟨b1, 0, none⟩)), (25, .bool (((((decide (p ≥ 0)) && (decide (p < 8))) && (decide (v ≥ 0))) && (decide (v < 4096))) && (decide (c ≥ 0))))] rfl (fun hg4 J4 => ?_) (fun hg4 J4 => ?_) ?_
 ·refine VL_pure 20 [1, 21, 22] [(1, .pointer (some ⟨b1, 0, none⟩)), (21, .bool true), (22, .pointer (some ⟨b1, 2, none⟩))] (by kernel_rfl) rfl ?_
  refine VL_load (d := 23) (t := 3) (a := ⟨b1, 2, none⟩) (v := .int .i64 c) (by kernel_rfl) (by kernel_rfl) (Loads.own1 ho1 (by kernel_rfl) (by rfl)) ?_
  refine VL_pure 23 [1, 25] [(1, .pointer (some ⟨b1, 0, none⟩)), (25, .bool (decide (c ≥ 0)))] (by kernel_rfl) rfl ?_
  exact VL_eq _ (by simp only [hg4, Bool.true_and, Bool.false_and, Bool.true_or, Bool.false_or, Bool.not_true, Bool.not_false]) J4
 ·refine VL_pure 23 [1, 25] [(1, .pointer (some ⟨b1, 0, none⟩)), (25, .bool false)] (by kernel_rfl) rfl ?_
  exact VL_eq _ (by simp only [hg4, Bool.true_and, Bool.false_and, Bool.true_or, Bool.false_or, Bool.not_true, Bool.not_false]) J4
 refine VL_pure 24 [1, 26] [(1, .pointer (some ⟨b1, 0, none⟩)), (26, .bool (((((decide (p ≥ 0)) && (decide (p < 8))) && (decide (v ≥ 0))) && (decide (v < 4096))) && (decide (c ≥ 0))))] (by kernel_rfl) rfl ?_
 refine VL_join (((((decide (p ≥ 0)) && (decide (p < 8))) && (decide (v ≥ 0))) && (decide (v < 4096))) && (decide (c ≥ 0))) (fun bV => [(1, .pointer (some ⟨b1, 0, none⟩)), (26, .bool bV)]) 28 [(30, .bool ((((((decide (p ≥ 0)) && (decide (p < 8))) && (decide (v ≥ 0))) && (decide (v < 4096))) && (decide (c ≥ 0))) && (decide (c < 65536))))] rfl (fun hg5 J5 => ?_) (fun hg5 J5 => ?_) ?_
 ·refine VL_pure 25 [26, 27] [(26, .bool true), (27, .pointer (some ⟨b1, 2, none⟩))] (by kernel_rfl) rfl ?_
  refine VL_load (d := 28) (t := 3) (a := ⟨b1, 2, none⟩) (v := .int .i64 c) (by kernel_rfl) (by kernel_rfl) (Loads.own1 ho1 (by kernel_rfl) (by rfl)) ?_
  refine VL_pure 28 [30] [(30, .bool (decide (c < 65536)))] (by kernel_rfl) rfl ?_
  exact VL_eq _ (by simp only [hg5, Bool.true_and, Bool.false_and, Bool.true_or, Bool.false_or, Bool.not_true, Bool.not_false]) J5
 ·refine VL_pure 28 [30] [(30, .bool false)] (by kernel_rfl) rfl ?_
  exact VL_eq _ (by simp only [hg5, Bool.true_and, Bool.false_and, Bool.true_or, Bool.false_or, Bool.not_true, Bool.not_false]) J5
 refine VL_pure 29 [2] [(2, .bool ((((((decide (p ≥ 0)) && (decide (p < 8))) && (decide (v ≥ 0))) && (decide (v < 4096))) && (decide (c ≥ 0))) && (decide (c < 65536))))] (by kernel_rfl) rfl ?_
 refine VL_end (by kernel_rfl) ?_
 refine VQ_next ?_
 refine VC_ret ?_
 refine VQ_ret1 (.bool ((((((decide (p ≥ 0)) && (decide (p < 8))) && (decide (v ≥ 0))) && (decide (v < 4096))) && (decide (c ≥ 0))) && (decide (c < 65536)))) (.inr rfl) rfl rfl ?_
 exact ⟨congrArg Value.bool (by rw [rightK, Bool.eq_iff_iff]; simp only [Bool.and_eq_true, decide_eq_true_eq]; omega), hS⟩

set_option maxRecDepth 100000 in
set_option maxHeartbeats 4000000 in
theorem rkright_any (p v c : Int) (w : World) :
  CV Try.prog 64 #[.agg #[.int .i64 p, .int .i64 v, .int .i64 c]] w (fun x w1 => x = .bool (rightK p v c) ∧ Step No w w1) := by
 have hS : Step No w w := Step.refl _ _
 refine CV_enter Try.f64 _ 31 [(0, .agg #[.int .i64 p, .int .i64 v, .int .i64 c])] Try.func64 rfl rfl (by kernel_rfl) rfl ?_
 refine VC_seq ?_
 refine VC_region ?_
 have hzs1 := hS.size
 refine VL_box (d := 1) (t := 54) (c := #[.int .i64 p, .int .i64 v, .int .i64 c]) (by kernel_rfl) (by kernel_rfl) ?_
 intro b1 w1 hn1
 replace hS := Step.trans hS (hn1.step No)
 have ho1 := hn1.own
 have hzhn1 := hn1.size
 have hqhn1 := hn1.eqb
 refine VL_pure 2 [1] [(1, .pointer (some ⟨b1, 0, none⟩))] (by kernel_rfl) rfl ?_
 refine VL_end (by kernel_rfl) ?_
 refine VQ_next ?_
 refine VC_seq ?_
 refine VC_region ?_
 refine VL_pure 1 [1, 3] [(1, .pointer (some ⟨b1, 0, none⟩)), (3, .pointer (some ⟨b1, 0, none⟩))] (by kernel_rfl) rfl ?_
 refine VL_load (d := 4) (t := 3) (a := ⟨b1, 0, none⟩) (v := .int .i64 p) (by kernel_rfl) (by kernel_rfl) (Loads.own1 ho1 (by kernel_rfl) (by rfl)) ?_
 refine VL_pure 4 [1, 6] [(1, .pointer (some ⟨b1, 0, none⟩)), (6, .bool (decide (p ≥ 0)))] (by kernel_rfl) rfl ?_
 refine VL_join (decide (p ≥ 0)) (fun bV => [(1, .pointer (some ⟨b1, 0, none⟩)), (6, .bool bV)]) 8 [(1, .pointer (some ⟨b1, 0, none⟩)), (10, .bool ((decide (p ≥ 0)) && (decide (p < 8))))] rfl (fun hg1 J1 => ?_) (fun hg1 J1 => ?_) ?_
 ·refine VL_pure 5 [1, 6, 7] [(1, .pointer (some ⟨b1, 0, none⟩)), (6, .bool true), (7, .pointer (some ⟨b1, 0, none⟩))] (by kernel_rfl) rfl ?_
  refine VL_load (d := 8) (t := 3) (a := ⟨b1, 0, none⟩) (v := .int .i64 p) (by kernel_rfl) (by kernel_rfl) (Loads.own1 ho1 (by kernel_rfl) (by rfl)) ?_
  refine VL_pure 8 [1, 10] [(1, .pointer (some ⟨b1, 0, none⟩)), (10, .bool (decide (p < 8)))] (by kernel_rfl) rfl ?_
  exact VL_eq _ (by simp only [hg1, Bool.true_and, Bool.false_and, Bool.true_or, Bool.false_or, Bool.not_true, Bool.not_false]) J1
 ·refine VL_pure 8 [1, 10] [(1, .pointer (some ⟨b1, 0, none⟩)), (10, .bool false)] (by kernel_rfl) rfl ?_
  exact VL_eq _ (by simp only [hg1, Bool.true_and, Bool.false_and, Bool.true_or, Bool.false_or, Bool.not_true, Bool.not_false]) J1
 refine VL_pure 9 [1, 11] [(1, .pointer (some ⟨b1, 0, none⟩)), (11, .bool ((decide (p ≥ 0)) && (decide (p < 8))))] (by kernel_rfl) rfl ?_
 refine VL_join ((decide (p ≥ 0)) && (decide (p < 8))) (fun bV => [(1, .pointer (some ⟨b1, 0, none⟩)), (11, .bool bV)]) 13 [(1, .pointer (some ⟨b1, 0, none⟩)), (15, .bool (((decide (p ≥ 0)) && (decide (p < 8))) && (decide (v ≥ 0))))] rfl (fun hg2 J2 => ?_) (fun hg2 J2 => ?_) ?_
 ·refine VL_pure 10 [1, 11, 12] [(1, .pointer (some ⟨b1, 0, none⟩)), (11, .bool true), (12, .pointer (some ⟨b1, 1, none⟩))] (by kernel_rfl) rfl ?_
  refine VL_load (d := 13) (t := 3) (a := ⟨b1, 1, none⟩) (v := .int .i64 v) (by kernel_rfl) (by kernel_rfl) (Loads.own1 ho1 (by kernel_rfl) (by rfl)) ?_
  refine VL_pure 13 [1, 15] [(1, .pointer (some ⟨b1, 0, none⟩)), (15, .bool (decide (v ≥ 0)))] (by kernel_rfl) rfl ?_
  exact VL_eq _ (by simp only [hg2, Bool.true_and, Bool.false_and, Bool.true_or, Bool.false_or, Bool.not_true, Bool.not_false]) J2
 ·refine VL_pure 13 [1, 15] [(1, .pointer (some ⟨b1, 0, none⟩)), (15, .bool false)] (by kernel_rfl) rfl ?_
  exact VL_eq _ (by simp only [hg2, Bool.true_and, Bool.false_and, Bool.true_or, Bool.false_or, Bool.not_true, Bool.not_false]) J2
 refine VL_pure 14 [1, 16] [(1, .pointer (some ⟨b1, 0, none⟩)), (16, .bool (((decide (p ≥ 0)) && (decide (p < 8))) && (decide (v ≥ 0))))] (by kernel_rfl) rfl ?_
 refine VL_join (((decide (p ≥ 0)) && (decide (p < 8))) && (decide (v ≥ 0))) (fun bV => [(1, .pointer (some ⟨b1, 0, none⟩)), (16, .bool bV)]) 18 [(1, .pointer (some ⟨b1, 0, none⟩)), (20, .bool ((((decide (p ≥ 0)) && (decide (p < 8))) && (decide (v ≥ 0))) && (decide (v < 4096))))] rfl (fun hg3 J3 => ?_) (fun hg3 J3 => ?_) ?_
 ·refine VL_pure 15 [1, 16, 17] [(1, .pointer (some ⟨b1, 0, none⟩)), (16, .bool true), (17, .pointer (some ⟨b1, 1, none⟩))] (by kernel_rfl) rfl ?_
  refine VL_load (d := 18) (t := 3) (a := ⟨b1, 1, none⟩) (v := .int .i64 v) (by kernel_rfl) (by kernel_rfl) (Loads.own1 ho1 (by kernel_rfl) (by rfl)) ?_
  refine VL_pure 18 [1, 20] [(1, .pointer (some ⟨b1, 0, none⟩)), (20, .bool (decide (v < 4096)))] (by kernel_rfl) rfl ?_
  exact VL_eq _ (by simp only [hg3, Bool.true_and, Bool.false_and, Bool.true_or, Bool.false_or, Bool.not_true, Bool.not_false]) J3
 ·refine VL_pure 18 [1, 20] [(1, .pointer (some ⟨b1, 0, none⟩)), (20, .bool false)] (by kernel_rfl) rfl ?_
  exact VL_eq _ (by simp only [hg3, Bool.true_and, Bool.false_and, Bool.true_or, Bool.false_or, Bool.not_true, Bool.not_false]) J3
 refine VL_pure 19 [1, 21] [(1, .pointer (some ⟨b1, 0, none⟩)), (21, .bool ((((decide (p ≥ 0)) && (decide (p < 8))) && (decide (v ≥ 0))) && (decide (v < 4096))))] (by kernel_rfl) rfl ?_
 refine VL_join ((((decide (p ≥ 0)) && (decide (p < 8))) && (decide (v ≥ 0))) && (decide (v < 4096))) (fun bV => [(1, .pointer (some ⟨b1, 0, none⟩)), (21, .bool bV)]) 23 [(1, .pointer (some ⟨b1, 0, none⟩)), (25, .bool (((((decide (p ≥ 0)) && (decide (p < 8))) && (decide (v ≥ 0))) && (decide (v < 4096))) && (decide (c ≥ 0))))] rfl (fun hg4 J4 => ?_) (fun hg4 J4 => ?_) ?_
 ·refine VL_pure 20 [1, 21, 22] [(1, .pointer (some ⟨b1, 0, none⟩)), (21, .bool true), (22, .pointer (some ⟨b1, 2, none⟩))] (by kernel_rfl) rfl ?_
  refine VL_load (d := 23) (t := 3) (a := ⟨b1, 2, none⟩) (v := .int .i64 c) (by kernel_rfl) (by kernel_rfl) (Loads.own1 ho1 (by kernel_rfl) (by rfl)) ?_
  refine VL_pure 23 [1, 25] [(1, .pointer (some ⟨b1, 0, none⟩)), (25, .bool (decide (c ≥ 0)))] (by kernel_rfl) rfl ?_
  exact VL_eq _ (by simp only [hg4, Bool.true_and, Bool.false_and, Bool.true_or, Bool.false_or, Bool.not_true, Bool.not_false]) J4
 ·refine VL_pure 23 [1, 25] [(1, .pointer (some ⟨b1, 0, none⟩)), (25, .bool false)] (by kernel_rfl) rfl ?_
  exact VL_eq _ (by simp only [hg4, Bool.true_and, Bool.false_and, Bool.true_or, Bool.false_or, Bool.not_true, Bool.not_false]) J4
 refine VL_pure 24 [1, 26] [(1, .pointer (some ⟨b1, 0, none⟩)), (26, .bool (((((decide (p ≥ 0)) && (decide (p < 8))) && (decide (v ≥ 0))) && (decide (v < 4096))) && (decide (c ≥ 0))))] (by kernel_rfl) rfl ?_
 refine VL_join (((((decide (p ≥ 0)) && (decide (p < 8))) && (decide (v ≥ 0))) && (decide (v < 4096))) && (decide (c ≥ 0))) (fun bV => [(1, .pointer (some ⟨b1, 0, none⟩)), (26, .bool bV)]) 28 [(30, .bool ((((((decide (p ≥ 0)) && (decide (p < 8))) && (decide (v ≥ 0))) && (decide (v < 4096))) && (decide (c ≥ 0))) && (decide (c < 65536))))] rfl (fun hg5 J5 => ?_) (fun hg5 J5 => ?_) ?_
 ·refine VL_pure 25 [26, 27] [(26, .bool true), (27, .pointer (some ⟨b1, 2, none⟩))] (by kernel_rfl) rfl ?_
  refine VL_load (d := 28) (t := 3) (a := ⟨b1, 2, none⟩) (v := .int .i64 c) (by kernel_rfl) (by kernel_rfl) (Loads.own1 ho1 (by kernel_rfl) (by rfl)) ?_
  refine VL_pure 28 [30] [(30, .bool (decide (c < 65536)))] (by kernel_rfl) rfl ?_
  exact VL_eq _ (by simp only [hg5, Bool.true_and, Bool.false_and, Bool.true_or, Bool.false_or, Bool.not_true, Bool.not_false]) J5
 ·refine VL_pure 28 [30] [(30, .bool false)] (by kernel_rfl) rfl ?_
  exact VL_eq _ (by simp only [hg5, Bool.true_and, Bool.false_and, Bool.true_or, Bool.false_or, Bool.not_true, Bool.not_false]) J5
 refine VL_pure 29 [2] [(2, .bool ((((((decide (p ≥ 0)) && (decide (p < 8))) && (decide (v ≥ 0))) && (decide (v < 4096))) && (decide (c ≥ 0))) && (decide (c < 65536))))] (by kernel_rfl) rfl ?_
 refine VL_end (by kernel_rfl) ?_
 refine VQ_next ?_
 refine VC_ret ?_
 refine VQ_ret1 (.bool ((((((decide (p ≥ 0)) && (decide (p < 8))) && (decide (v ≥ 0))) && (decide (v < 4096))) && (decide (c ≥ 0))) && (decide (c < 65536)))) (.inr rfl) rfl rfl ?_
 exact ⟨congrArg Value.bool (by rw [rightK, Bool.eq_iff_iff]; simp only [Bool.and_eq_true, decide_eq_true_eq]; omega), hS⟩

set_option maxRecDepth 100000 in
set_option maxHeartbeats 4000000 in
theorem spans_any (b : Nat) (w : World) :
  CV Try.prog 59 #[.pointer (some ⟨b, 0, none⟩)] w (fun x w1 => x = .agg #[.pointer (some ⟨b, 1, none⟩), .pointer (some ⟨b, 2, none⟩), .pointer (some ⟨b, 3, none⟩), .pointer (some ⟨b, 4, none⟩), .pointer (some ⟨b, 5, none⟩)] ∧ Step No w w1) := by
 have hS : Step No w w := Step.refl _ _
 refine CV_enter Try.f59 _ 19 [(0, .pointer (some ⟨b, 0, none⟩))] Try.func59 rfl rfl (by kernel_rfl) rfl ?_
 refine VC_seq ?_
 refine VC_region ?_
 have hzs1 := hS.size
 refine VL_box (d := 2) (t := 101) (c := #[.pointer none, .pointer none, .pointer none, .pointer none, .pointer none]) (by kernel_rfl) (by kernel_rfl) ?_
 intro b1 w1 hn1
 replace hS := Step.trans hS (hn1.step No)
 have ho1 := hn1.own
 have hzhn1 := hn1.size
 have hqhn1 := hn1.eqb
 refine VL_end (by kernel_rfl) ?_
 refine VQ_next ?_
 refine VC_seq ?_
 refine VC_det [[], [0], [0, 1], [], [3], [3, 4], [], [6], [6, 7], [], [9], [9, 10], [], [12], [12, 13], [0, 1, 2, 3, 4, 5, 6, 7, 8, 9, 10, 11, 12, 13, 14], [0, 1, 2, 3, 4, 5, 6, 7, 8, 9, 10, 11, 12, 13, 14, 15]] 15 [.pointer (some ⟨b, 0, none⟩), .pointer (some ⟨b, 0, none⟩), .pointer (some ⟨b, 1, none⟩), .pointer (some ⟨b, 0, none⟩), .pointer (some ⟨b, 0, none⟩), .pointer (some ⟨b, 2, none⟩), .pointer (some ⟨b, 0, none⟩), .pointer (some ⟨b, 0, none⟩), .pointer (some ⟨b, 3, none⟩), .pointer (some ⟨b, 0, none⟩), .pointer (some ⟨b, 0, none⟩), .pointer (some ⟨b, 4, none⟩), .pointer (some ⟨b, 0, none⟩), .pointer (some ⟨b, 0, none⟩), .pointer (some ⟨b, 5, none⟩)] [0, 1, 2, 3, 4, 5, 6, 7, 8, 9, 10, 11, 12, 13, 14] [] (by kernel_rfl) (by kernel_rfl) (by kernel_rfl) (by kernel_rfl) ?_ ?_
 ·exact fun _ _ => trivial
 intro w2 hs1
 replace hS := Step.trans hS hs1
 replace ho1 := ho1.no hs1
 refine VL_keep [2, 5, 8, 11, 14, 17] [(2, .pointer (some ⟨b1, 0, none⟩)), (5, .pointer (some ⟨b, 1, none⟩)), (8, .pointer (some ⟨b, 2, none⟩)), (11, .pointer (some ⟨b, 3, none⟩)), (14, .pointer (some ⟨b, 4, none⟩)), (17, .pointer (some ⟨b, 5, none⟩))] (by kernel_rfl) ?_
 refine VL_pure 16 [2, 18] [(2, .pointer (some ⟨b1, 0, none⟩)), (18, .agg #[.pointer (some ⟨b, 1, none⟩), .pointer (some ⟨b, 2, none⟩), .pointer (some ⟨b, 3, none⟩), .pointer (some ⟨b, 4, none⟩), .pointer (some ⟨b, 5, none⟩)])] (by kernel_rfl) rfl ?_
 refine VL_store (b := b1) (o := 0) (vs := [.pointer (some ⟨b, 1, none⟩), .pointer (some ⟨b, 2, none⟩), .pointer (some ⟨b, 3, none⟩), .pointer (some ⟨b, 4, none⟩), .pointer (some ⟨b, 5, none⟩)]) (by kernel_rfl) (by kernel_rfl) ho1 (Nat.le_of_ble_eq_true (by kernel_rfl)) ?_
 intro w3 hw1
 replace hS := Step.transNew hS hw1.step (fun _ _ _ => by omega)
 have ho2 : Own w3 b1 #[.pointer (some ⟨b, 1, none⟩), .pointer (some ⟨b, 2, none⟩), .pointer (some ⟨b, 3, none⟩), .pointer (some ⟨b, 4, none⟩), .pointer (some ⟨b, 5, none⟩)] 101 := Own.cast hw1.own (by kernel_rfl)
 have hzhw1 := hw1.same
 refine VL_end (by kernel_rfl) ?_
 refine VQ_next ?_
 refine VC_ret ?_
 refine VQ_retC1 (T := 101) (.agg #[.pointer (some ⟨b, 1, none⟩), .pointer (some ⟨b, 2, none⟩), .pointer (some ⟨b, 3, none⟩), .pointer (some ⟨b, 4, none⟩), .pointer (some ⟨b, 5, none⟩)]) (.inr rfl) rfl rfl (Loads.ownL ho2 (n := 5) (by kernel_rfl) (by kernel_rfl) (by kernel_rfl)) ?_
 exact ⟨rfl, hS⟩

theorem getN_any (A : Option Addr) (n c Bd : Nat) (bs : List Int) (w : World) (hn : bs.length = n) (hA : Sl w Bd A (iL .u8 bs)) (hb : Bytes bs) (hl : n ≤ 6) : CV Try.prog 53 #[.slice A n c] w (fun x w1 => x = .int .i64 ((natL bs : Nat) : Int) ∧ Step No w w1) := by
  refine CV.mono (get_any A n c Bd bs w hn hA (by omega)) fun x w1 h => ?_
  rw [getL_eq hb (by omega)] at h
  exact h
set_option maxRecDepth 100000 in
set_option maxHeartbeats 4000000 in
theorem number_any (A : Option Addr) (n c Bd : Nat) (bs : List Int) (w : World) (hn : bs.length = n) (hA : Sl w Bd A (iL .u8 bs)) (hlen : n ≤ 100000) :
  CV Try.prog 62 #[.slice A n c] w (fun x w1 => x = .int .i64 (numL bs) ∧ Step No w w1) := by
 have hS : Step No w w := Step.refl _ _
 refine CV_enter Try.f62 _ 20 [(0, .slice A n c)] Try.func62 rfl rfl (by kernel_rfl) rfl ?_
 refine VC_seq ?_
 refine VC_region ?_
 refine VL_pure 1 [0] [(0, .slice A n c)] (by kernel_rfl) rfl ?_
 refine VL_end (by kernel_rfl) ?_
 refine VQ_next ?_
 refine VC_seq ?_
 refine VC_region ?_
 refine VL_pure 1 [0, 3] [(0, .slice A n c), (3, .int .i64 0)] (by kernel_rfl) rfl ?_
 refine VL_end (by kernel_rfl) ?_
 refine VQ_next ?_
 refine VC_seq ?_
 refine VC_seq ?_
 refine VC_region ?_
 refine VL_pure 3 [0, 3, 6, 7] [(0, .slice A n c), (3, .int .i64 0), (6, .int .i64 ((n : Nat) : Int)), (7, .int .i64 0)] (by kernel_rfl) rfl ?_
 refine VL_end (by kernel_rfl) ?_
 refine VQ_next ?_
 refine VC_block ?_
 refine VC_loop (σ := Nat) (fun σs => [(0, .slice A n c), (6, .int .i64 ((n : Nat) : Int)), (7, .int .i64 ((σs : Nat) : Int)), (3, .int .i64 (numL (bs.take σs)))]) (fun σs w1 => (σs ≤ n) ∧ (Step No w w1) ∧ (Sl w1 Bd A (iL .u8 bs))) (fun σs w1 => n - σs) 0 ⟨rfl, rfl, rfl, rfl, trivial⟩ ?_ ?_
 ·exact ⟨Nat.zero_le _, hS, hA⟩
 rintro j w1 ⟨hj, hS, hA⟩
 try dsimp only at hj hS hA ⊢
 refine VC_seq ?_
 refine VC_region ?_
 refine VL_pure 1 [0, 6, 7, 3, 8] [(0, .slice A n c), (6, .int .i64 ((n : Nat) : Int)), (7, .int .i64 ((j : Nat) : Int)), (3, .int .i64 (numL (bs.take j))), (8, .bool (decide (((j : Nat) : Int) < ((n : Nat) : Int))))] (by kernel_rfl) rfl ?_
 refine VL_end (by kernel_rfl) ?_
 refine VQ_next ?_
 refine VC_seq ?_
 refine VC_dec (((j : Nat) : Int) < ((n : Nat) : Int)) (by kernel_rfl) (fun h1 => ?_) (fun h1 => ?_)
 ·refine VC_skip ?_
  refine VQ_next ?_
  refine VC_seq ?_
  refine VC_block ?_
  refine VC_seq ?_
  refine VC_region ?_
  refine VL_pure 2 [0, 6, 7, 3, 4] [(0, .slice A n c), (6, .int .i64 ((n : Nat) : Int)), (7, .int .i64 ((j : Nat) : Int)), (3, .int .i64 (numL (bs.take j))), (4, .int .i64 ((j : Nat) : Int))] (by kernel_rfl) rfl ?_
  refine VL_end (by kernel_rfl) ?_
  refine VQ_next ?_
  refine VC_region ?_
  refine VL_pure 4 [0, 6, 7, 11, 12, 13] [(0, .slice A n c), (6, .int .i64 ((n : Nat) : Int)), (7, .int .i64 ((j : Nat) : Int)), (11, .int .i64 (IntKind.wrap .i64 ((numL (bs.take j)) * 256))), (12, .slice A n c), (13, .int .i64 ((j : Nat) : Int))] (by kernel_rfl) rfl ?_
  obtain ⟨sb1, so1, rfl, hlbsb1⟩ := hA.open (by simp only [iL_length]; omega)
  refine VL_index (d := 14) (b := sb1) (o := so1) (len := n) (sz := 1) (m := ((j : Nat) : Int)) (by kernel_rfl) (by kernel_rfl) j (by rfl) (by omega) (so1 + j) (by omega) ?_
  refine VL_load (d := 15) (t := 5) (a := ⟨sb1, so1 + j, none⟩) (v := .int .u8 (bs.getD j 0)) (by kernel_rfl) (by kernel_rfl) (Sl.ldI hA (by kernel_rfl) j (by (try simp only [List.length_set, List.length_append, List.length_map, List.length_replicate, List.length_cons, List.length_nil, List.length_take, List.length_drop, List.length_range]) <;> omega)) ?_
  refine VL_pure 8 [0, 6, 7, 17] [(0, .slice (some ⟨sb1, so1, none⟩) n c), (6, .int .i64 ((n : Nat) : Int)), (7, .int .i64 ((j : Nat) : Int)), (17, .int .i64 (IntKind.wrap .i64 ((IntKind.wrap .i64 ((numL (bs.take j)) * 256)) + (IntKind.wrap .i64 (bs.getD j 0)))))] (by kernel_rfl) rfl ?_
  refine VL_eq [(0, .slice (some ⟨sb1, so1, none⟩) n c), (6, .int .i64 ((n : Nat) : Int)), (7, .int .i64 ((j : Nat) : Int)), (17, .int .i64 (numL (bs.take (j + 1))))] (by rw [numL_succ (show j < bs.length by omega)]) ?_
  refine VL_pure 9 [0, 6, 7, 3] [(0, .slice (some ⟨sb1, so1, none⟩) n c), (6, .int .i64 ((n : Nat) : Int)), (7, .int .i64 ((j : Nat) : Int)), (3, .int .i64 (numL (bs.take (j + 1))))] (by kernel_rfl) rfl ?_
  refine VL_end (by kernel_rfl) ?_
  refine VQ_block_normal ?_
  refine VQ_next ?_
  refine VC_region ?_
  refine VL_pure 1 [0, 6, 3, 18] [(0, .slice (some ⟨sb1, so1, none⟩) n c), (6, .int .i64 ((n : Nat) : Int)), (3, .int .i64 (numL (bs.take (j + 1)))), (18, .int .i64 (IntKind.wrap .i64 (((j : Nat) : Int) + 1)))] (by kernel_rfl) rfl ?_
  have he1 : IntKind.wrap .i64 (((j : Nat) : Int) + 1) = ((j + 1 : Nat) : Int) := (by rw [wrap_i64 _ (by omega) (by omega)]; omega)
  refine VL_eq [(0, .slice (some ⟨sb1, so1, none⟩) n c), (6, .int .i64 ((n : Nat) : Int)), (3, .int .i64 (numL (bs.take (j + 1)))), (18, .int .i64 ((j + 1 : Nat) : Int))] (by rw [he1]) ?_
  refine VL_pure 2 [0, 6, 3, 7] [(0, .slice (some ⟨sb1, so1, none⟩) n c), (6, .int .i64 ((n : Nat) : Int)), (3, .int .i64 (numL (bs.take (j + 1)))), (7, .int .i64 ((j + 1 : Nat) : Int))] (by kernel_rfl) rfl ?_
  refine VL_end (by kernel_rfl) ?_
  refine VQ_again (j + 1) ⟨rfl, rfl, rfl, rfl, trivial⟩ ?_ ?_
  ·exact ⟨(by omega), hS, hA⟩
  ·(try dsimp only); omega
 ·refine VC_exit ?_
  refine VQ_then_exit ?_
  refine VQ_then_exit ?_
  refine VQ_block_hit ?_
  refine VQ_next ?_
  refine VC_seq ?_
  refine VC_region ?_
  refine VL_pure 2 [2] [(2, .int .i64 (numL (bs.take j)))] (by kernel_rfl) rfl ?_
  refine VL_end (by kernel_rfl) ?_
  refine VQ_next ?_
  refine VC_ret ?_
  refine VQ_ret1 (.int .i64 (numL (bs.take j))) (.inr rfl) rfl rfl ?_
  obtain rfl : j = n := by omega
  exact ⟨by rw [List.take_of_length_le (by omega)], hS⟩

theorem numberN_any (A : Option Addr) (n c Bd : Nat) (bs : List Int) (w : World) (hn : bs.length = n) (hA : Sl w Bd A (iL .u8 bs)) (hb : Bytes bs) (hl : n ≤ 6) : CV Try.prog 62 #[.slice A n c] w (fun x w1 => x = .int .i64 ((natL bs : Nat) : Int) ∧ Step No w w1) := by
  refine CV.mono (number_any A n c Bd bs w hn hA (by omega)) fun x w1 h => ?_
  rw [numL_eq hb (by omega)] at h
  exact h
end Go.Proofs.Ytejpcmjokamdcaa
