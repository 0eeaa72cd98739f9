/- Layers 6, 9, 15: contracts, keys, causes as bodies. -/
import Derived.Test.YtpfggjaoinfegaaProg
import Derived.Test.YtpfggjaoinfegaaEl1
import Derived.Test.YtpfggjaoinfegaaEr1
import Derived.Test.YtpfggjaoinfegaaEr2
set_option linter.unusedVariables false
set_option linter.unusedSimpArgs false
namespace Go.Proofs.Ytpfggjaoinfegaa
open Go.Vc Go.RowKit

set_option maxRecDepth 100000 in
set_option maxHeartbeats 4000000 in
theorem kright_any (p v c : Int) (w : World) :
    CV Try.prog 39 #[.agg #[.int .i64 p, .int .i64 v, .int .i64 c]] w (fun x w1 => x = .bool (rightK p v c) ∧ Step No w w1) := by
  have hS : Step No w w := Step.refl _ _
  refine CV_enter Try.f39 _ 31 [(0, .agg #[.int .i64 p, .int .i64 v, .int .i64 c])] Try.func39 rfl rfl (by kernel_rfl) rfl ?_
  refine VC_seq ?_
  refine VC_region ?_
  have hzs1 := hS.size
  refine VL_box (d := 1) (t := 47) (c := #[.int .i64 p, .int .i64 v, .int .i64 c]) (by kernel_rfl) (by kernel_rfl) ?_
  intro b1 w1 hn1
  replace hS := Step.trans hS (hn1.step No)
  have ho1 := hn1.own
  have hzhn1 := hn1.size
  have hqhn1 := hn1.eqb
  refine VL_pure 2 [1] [(1, .pointer (some ⟨b1, 0, none⟩))] (by kernel_rfl) rfl ?_
  refine VL_end (by kernel_rfl) ?_
  refine VQ_next ?_
  refine VC_seq ?_
  refine VC_region ?_
  refine VL_pure 1 [1, 3] [(1, .pointer (some ⟨b1, 0, none⟩)), (3, .pointer (some ⟨b1, 0, none⟩))] (by kernel_rfl) rfl ?_
  refine VL_load (d := 4) (t := 3) (a := ⟨b1, 0, none⟩) (v := .int .i64 p) (by kernel_rfl) (by kernel_rfl) (Loads.own1 ho1 (by kernel_rfl) (by rfl)) ?_
  refine VL_pure 4 [1, 6] [(1, .pointer (some ⟨b1, 0, none⟩)), (6, .bool (decide (p ≥ 0)))] (by kernel_rfl) rfl ?_
  refine VL_join (decide (p ≥ 0)) (fun bV => [(1, .pointer (some ⟨b1, 0, none⟩)), (6, .bool bV)]) 8 [(1, .pointer (some ⟨b1, 0, none⟩)), (10, .bool ((decide (p ≥ 0)) && (decide (p < 8))))] rfl (fun hg1 J1 => ?_) (fun hg1 J1 => ?_) ?_
  · refine VL_pure 5 [1, 6, 7] [(1, .pointer (some ⟨b1, 0, none⟩)), (6, .bool true), (7, .pointer (some ⟨b1, 0, none⟩))] (by kernel_rfl) rfl ?_
    refine VL_load (d := 8) (t := 3) (a := ⟨b1, 0, none⟩) (v := .int .i64 p) (by kernel_rfl) (by kernel_rfl) (Loads.own1 ho1 (by kernel_rfl) (by rfl)) ?_
    refine VL_pure 8 [1, 10] [(1, .pointer (some ⟨b1, 0, none⟩)), (10, .bool (decide (p < 8)))] (by kernel_rfl) rfl ?_
    exact VL_eq _ (by simp only [hg1, Bool.true_and, Bool.false_and, Bool.true_or, Bool.false_or, Bool.not_true, Bool.not_false]) J1
  · refine VL_pure 8 [1, 10] [(1, .pointer (some ⟨b1, 0, none⟩)), (10, .bool false)] (by kernel_rfl) rfl ?_
    exact VL_eq _ (by simp only [hg1, Bool.true_and, Bool.false_and, Bool.true_or, Bool.false_or, Bool.not_true, Bool.not_false]) J1
  refine VL_pure 9 [1, 11] [(1, .pointer (some ⟨b1, 0, none⟩)), (11, .bool ((decide (p ≥ 0)) && (decide (p < 8))))] (by kernel_rfl) rfl ?_
  refine VL_join ((decide (p ≥ 0)) && (decide (p < 8))) (fun bV => [(1, .pointer (some ⟨b1, 0, none⟩)), (11, .bool bV)]) 13 [(1, .pointer (some ⟨b1, 0, none⟩)), (15, .bool (((decide (p ≥ 0)) && (decide (p < 8))) && (decide (v ≥ 0))))] rfl (fun hg2 J2 => ?_) (fun hg2 J2 => ?_) ?_
  · refine VL_pure 10 [1, 11, 12] [(1, .pointer (some ⟨b1, 0, none⟩)), (11, .bool true), (12, .pointer (some ⟨b1, 1, none⟩))] (by kernel_rfl) rfl ?_
    refine VL_load (d := 13) (t := 3) (a := ⟨b1, 1, none⟩) (v := .int .i64 v) (by kernel_rfl) (by kernel_rfl) (Loads.own1 ho1 (by kernel_rfl) (by rfl)) ?_
    refine VL_pure 13 [1, 15] [(1, .pointer (some ⟨b1, 0, none⟩)), (15, .bool (decide (v ≥ 0)))] (by kernel_rfl) rfl ?_
    exact VL_eq _ (by simp only [hg2, Bool.true_and, Bool.false_and, Bool.true_or, Bool.false_or, Bool.not_true, Bool.not_false]) J2
  · refine VL_pure 13 [1, 15] [(1, .pointer (some ⟨b1, 0, none⟩)), (15, .bool false)] (by kernel_rfl) rfl ?_
    exact VL_eq _ (by simp only [hg2, Bool.true_and, Bool.false_and, Bool.true_or, Bool.false_or, Bool.not_true, Bool.not_false]) J2
  refine VL_pure 14 [1, 16] [(1, .pointer (some ⟨b1, 0, none⟩)), (16, .bool (((decide (p ≥ 0)) && (decide (p < 8))) && (decide (v ≥ 0))))] (by kernel_rfl) rfl ?_
  refine VL_join (((decide (p ≥ 0)) && (decide (p < 8))) && (decide (v ≥ 0))) (fun bV => [(1, .pointer (some ⟨b1, 0, none⟩)), (16, .bool bV)]) 18 [(1, .pointer (some ⟨b1, 0, none⟩)), (20, .bool ((((decide (p ≥ 0)) && (decide (p < 8))) && (decide (v ≥ 0))) && (decide (v < 4096))))] rfl (fun hg3 J3 => ?_) (fun hg3 J3 => ?_) ?_
  · refine VL_pure 15 [1, 16, 17] [(1, .pointer (some ⟨b1, 0, none⟩)), (16, .bool true), (17, .pointer (some ⟨b1, 1, none⟩))] (by kernel_rfl) rfl ?_
    refine VL_load (d := 18) (t := 3) (a := ⟨b1, 1, none⟩) (v := .int .i64 v) (by kernel_rfl) (by kernel_rfl) (Loads.own1 ho1 (by kernel_rfl) (by rfl)) ?_
    refine VL_pure 18 [1, 20] [(1, .pointer (some ⟨b1, 0, none⟩)), (20, .bool (decide (v < 4096)))] (by kernel_rfl) rfl ?_
    exact VL_eq _ (by simp only [hg3, Bool.true_and, Bool.false_and, Bool.true_or, Bool.false_or, Bool.not_true, Bool.not_false]) J3
  · refine VL_pure 18 [1, 20] [(1, .pointer (some ⟨b1, 0, none⟩)), (20, .bool false)] (by kernel_rfl) rfl ?_
    exact VL_eq _ (by simp only [hg3, Bool.true_and, Bool.false_and, Bool.true_or, Bool.false_or, Bool.not_true, Bool.not_false]) J3
  refine VL_pure 19 [1, 21] [(1, .pointer (some ⟨b1, 0, none⟩)), (21, .bool ((((decide (p ≥ 0)) && (decide (p < 8))) && (decide (v ≥ 0))) && (decide (v < 4096))))] (by kernel_rfl) rfl ?_
  refine VL_join ((((decide (p ≥ 0)) && (decide (p < 8))) && (decide (v ≥ 0))) && (decide (v < 4096))) (fun bV => [(1, .pointer (some ⟨b1, 0, none⟩)), (21, .bool bV)]) 23 [(1, .pointer (some ⟨b1, 0, none⟩)), (25, .bool (((((decide (p ≥ 0)) && (decide (p < 8))) && (decide (v ≥ 0))) && (decide (v < 4096))) && (decide (c ≥ 0))))] rfl (fun hg4 J4 => ?_) (fun hg4 J4 => ?_) ?_
  · refine VL_pure 20 [1, 21, 22] [(1, .pointer (some ⟨b1, 0, none⟩)), (21, .bool true), (22, .pointer (some ⟨b1, 2, none⟩))] (by kernel_rfl) rfl ?_
    refine VL_load (d := 23) (t := 3) (a := ⟨b1, 2, none⟩) (v := .int .i64 c) (by kernel_rfl) (by kernel_rfl) (Loads.own1 ho1 (by kernel_rfl) (by rfl)) ?_
    refine VL_pure 23 [1, 25] [(1, .pointer (some ⟨b1, 0, none⟩)), (25, .bool (decide (c ≥ 0)))] (by kernel_rfl) rfl ?_
    exact VL_eq _ (by simp only [hg4, Bool.true_and, Bool.false_and, Bool.true_or, Bool.false_or, Bool.not_true, Bool.not_false]) J4
  · refine VL_pure 23 [1, 25] [(1, .pointer (some ⟨b1, 0, none⟩)), (25, .bool false)] (by kernel_rfl) rfl ?_
    exact VL_eq _ (by simp only [hg4, Bool.true_and, Bool.false_and, Bool.true_or, Bool.false_or, Bool.not_true, Bool.not_false]) J4
  refine VL_pure 24 [1, 26] [(1, .pointer (some ⟨b1, 0, none⟩)), (26, .bool (((((decide (p ≥ 0)) && (decide (p < 8))) && (decide (v ≥ 0))) && (decide (v < 4096))) && (decide (c ≥ 0))))] (by kernel_rfl) rfl ?_
  refine VL_join (((((decide (p ≥ 0)) && (decide (p < 8))) && (decide (v ≥ 0))) && (decide (v < 4096))) && (decide (c ≥ 0))) (fun bV => [(1, .pointer (some ⟨b1, 0, none⟩)), (26, .bool bV)]) 28 [(30, .bool ((((((decide (p ≥ 0)) && (decide (p < 8))) && (decide (v ≥ 0))) && (decide (v < 4096))) && (decide (c ≥ 0))) && (decide (c < 65536))))] rfl (fun hg5 J5 => ?_) (fun hg5 J5 => ?_) ?_
  · refine VL_pure 25 [26, 27] [(26, .bool true), (27, .pointer (some ⟨b1, 2, none⟩))] (by kernel_rfl) rfl ?_
    refine VL_load (d := 28) (t := 3) (a := ⟨b1, 2, none⟩) (v := .int .i64 c) (by kernel_rfl) (by kernel_rfl) (Loads.own1 ho1 (by kernel_rfl) (by rfl)) ?_
    refine VL_pure 28 [30] [(30, .bool (decide (c < 65536)))] (by kernel_rfl) rfl ?_
    exact VL_eq _ (by simp only [hg5, Bool.true_and, Bool.false_and, Bool.true_or, Bool.false_or, Bool.not_true, Bool.not_false]) J5
  · refine VL_pure 28 [30] [(30, .bool false)] (by kernel_rfl) rfl ?_
    exact VL_eq _ (by simp only [hg5, Bool.true_and, Bool.false_and, Bool.true_or, Bool.false_or, Bool.not_true, Bool.not_false]) J5
  refine VL_pure 29 [2] [(2, .bool ((((((decide (p ≥ 0)) && (decide (p < 8))) && (decide (v ≥ 0))) && (decide (v < 4096))) && (decide (c ≥ 0))) && (decide (c < 65536))))] (by kernel_rfl) rfl ?_
  refine VL_end (by kernel_rfl) ?_
  refine VQ_next ?_
  refine VC_ret ?_
  refine VQ_ret1 (.bool ((((((decide (p ≥ 0)) && (decide (p < 8))) && (decide (v ≥ 0))) && (decide (v < 4096))) && (decide (c ≥ 0))) && (decide (c < 65536)))) (.inr rfl) rfl rfl ?_
  exact ⟨congrArg Value.bool (by rw [rightK, Bool.eq_iff_iff]; simp only [Bool.and_eq_true, decide_eq_true_eq]; omega), hS⟩

set_option maxRecDepth 100000 in
set_option maxHeartbeats 4000000 in
theorem rkright_any (p v c : Int) (w : World) :
    CV Try.prog 28 #[.agg #[.int .i64 p, .int .i64 v, .int .i64 c]] w (fun x w1 => x = .bool (rightK p v c) ∧ Step No w w1) := by
  have hS : Step No w w := Step.refl _ _
  refine CV_enter Try.f28 _ 31 [(0, .agg #[.int .i64 p, .int .i64 v, .int .i64 c])] Try.func28 rfl rfl (by kernel_rfl) rfl ?_
  refine VC_seq ?_
  refine VC_region ?_
  have hzs1 := hS.size
  refine VL_box (d := 1) (t := 47) (c := #[.int .i64 p, .int .i64 v, .int .i64 c]) (by kernel_rfl) (by kernel_rfl) ?_
  intro b1 w1 hn1
  replace hS := Step.trans hS (hn1.step No)
  have ho1 := hn1.own
  have hzhn1 := hn1.size
  have hqhn1 := hn1.eqb
  refine VL_pure 2 [1] [(1, .pointer (some ⟨b1, 0, none⟩))] (by kernel_rfl) rfl ?_
  refine VL_end (by kernel_rfl) ?_
  refine VQ_next ?_
  refine VC_seq ?_
  refine VC_region ?_
  refine VL_pure 1 [1, 3] [(1, .pointer (some ⟨b1, 0, none⟩)), (3, .pointer (some ⟨b1, 0, none⟩))] (by kernel_rfl) rfl ?_
  refine VL_load (d := 4) (t := 3) (a := ⟨b1, 0, none⟩) (v := .int .i64 p) (by kernel_rfl) (by kernel_rfl) (Loads.own1 ho1 (by kernel_rfl) (by rfl)) ?_
  refine VL_pure 4 [1, 6] [(1, .pointer (some ⟨b1, 0, none⟩)), (6, .bool (decide (p ≥ 0)))] (by kernel_rfl) rfl ?_
  refine VL_join (decide (p ≥ 0)) (fun bV => [(1, .pointer (some ⟨b1, 0, none⟩)), (6, .bool bV)]) 8 [(1, .pointer (some ⟨b1, 0, none⟩)), (10, .bool ((decide (p ≥ 0)) && (decide (p < 8))))] rfl (fun hg1 J1 => ?_) (fun hg1 J1 => ?_) ?_
  · refine VL_pure 5 [1, 6, 7] [(1, .pointer (some ⟨b1, 0, none⟩)), (6, .bool true), (7, .pointer (some ⟨b1, 0, none⟩))] (by kernel_rfl) rfl ?_
    refine VL_load (d := 8) (t := 3) (a := ⟨b1, 0, none⟩) (v := .int .i64 p) (by kernel_rfl) (by kernel_rfl) (Loads.own1 ho1 (by kernel_rfl) (by rfl)) ?_
    refine VL_pure 8 [1, 10] [(1, .pointer (some ⟨b1, 0, none⟩)), (10, .bool (decide (p < 8)))] (by kernel_rfl) rfl ?_
    exact VL_eq _ (by simp only [hg1, Bool.true_and, Bool.false_and, Bool.true_or, Bool.false_or, Bool.not_true, Bool.not_false]) J1
  · refine VL_pure 8 [1, 10] [(1, .pointer (some ⟨b1, 0, none⟩)), (10, .bool false)] (by kernel_rfl) rfl ?_
    exact VL_eq _ (by simp only [hg1, Bool.true_and, Bool.false_and, Bool.true_or, Bool.false_or, Bool.not_true, Bool.not_false]) J1
  refine VL_pure 9 [1, 11] [(1, .pointer (some ⟨b1, 0, none⟩)), (11, .bool ((decide (p ≥ 0)) && (decide (p < 8))))] (by kernel_rfl) rfl ?_
  refine VL_join ((decide (p ≥ 0)) && (decide (p < 8))) (fun bV => [(1, .pointer (some ⟨b1, 0, none⟩)), (11, .bool bV)]) 13 [(1, .pointer (some ⟨b1, 0, none⟩)), (15, .bool (((decide (p ≥ 0)) && (decide (p < 8))) && (decide (v ≥ 0))))] rfl (fun hg2 J2 => ?_) (fun hg2 J2 => ?_) ?_
  · refine VL_pure 10 [1, 11, 12] [(1, .pointer (some ⟨b1, 0, none⟩)), (11, .bool true), (12, .pointer (some ⟨b1, 1, none⟩))] (by kernel_rfl) rfl ?_
    refine VL_load (d := 13) (t := 3) (a := ⟨b1, 1, none⟩) (v := .int .i64 v) (by kernel_rfl) (by kernel_rfl) (Loads.own1 ho1 (by kernel_rfl) (by rfl)) ?_
    refine VL_pure 13 [1, 15] [(1, .pointer (some ⟨b1, 0, none⟩)), (15, .bool (decide (v ≥ 0)))] (by kernel_rfl) rfl ?_
    exact VL_eq _ (by simp only [hg2, Bool.true_and, Bool.false_and, Bool.true_or, Bool.false_or, Bool.not_true, Bool.not_false]) J2
  · refine VL_pure 13 [1, 15] [(1, .pointer (some ⟨b1, 0, none⟩)), (15, .bool false)] (by kernel_rfl) rfl ?_
    exact VL_eq _ (by simp only [hg2, Bool.true_and, Bool.false_and, Bool.true_or, Bool.false_or, Bool.not_true, Bool.not_false]) J2
  refine VL_pure 14 [1, 16] [(1, .pointer (some ⟨b1, 0, none⟩)), (16, .bool (((decide (p ≥ 0)) && (decide (p < 8))) && (decide (v ≥ 0))))] (by kernel_rfl) rfl ?_
  refine VL_join (((decide (p ≥ 0)) && (decide (p < 8))) && (decide (v ≥ 0))) (fun bV => [(1, .pointer (some ⟨b1, 0, none⟩)), (16, .bool bV)]) 18 [(1, .pointer (some ⟨b1, 0, none⟩)), (20, .bool ((((decide (p ≥ 0)) && (decide (p < 8))) && (decide (v ≥ 0))) && (decide (v < 4096))))] rfl (fun hg3 J3 => ?_) (fun hg3 J3 => ?_) ?_
  · refine VL_pure 15 [1, 16, 17] [(1, .pointer (some ⟨b1, 0, none⟩)), (16, .bool true), (17, .pointer (some ⟨b1, 1, none⟩))] (by kernel_rfl) rfl ?_
    refine VL_load (d := 18) (t := 3) (a := ⟨b1, 1, none⟩) (v := .int .i64 v) (by kernel_rfl) (by kernel_rfl) (Loads.own1 ho1 (by kernel_rfl) (by rfl)) ?_
    refine VL_pure 18 [1, 20] [(1, .pointer (some ⟨b1, 0, none⟩)), (20, .bool (decide (v < 4096)))] (by kernel_rfl) rfl ?_
    exact VL_eq _ (by simp only [hg3, Bool.true_and, Bool.false_and, Bool.true_or, Bool.false_or, Bool.not_true, Bool.not_false]) J3
  · refine VL_pure 18 [1, 20] [(1, .pointer (some ⟨b1, 0, none⟩)), (20, .bool false)] (by kernel_rfl) rfl ?_
    exact VL_eq _ (by simp only [hg3, Bool.true_and, Bool.false_and, Bool.true_or, Bool.false_or, Bool.not_true, Bool.not_false]) J3
  refine VL_pure 19 [1, 21] [(1, .pointer (some ⟨b1, 0, none⟩)), (21, .bool ((((decide (p ≥ 0)) && (decide (p < 8))) && (decide (v ≥ 0))) && (decide (v < 4096))))] (by kernel_rfl) rfl ?_
  refine VL_join ((((decide (p ≥ 0)) && (decide (p < 8))) && (decide (v ≥ 0))) && (decide (v < 4096))) (fun bV => [(1, .pointer (some ⟨b1, 0, none⟩)), (21, .bool bV)]) 23 [(1, .pointer (some ⟨b1, 0, none⟩)), (25, .bool (((((decide (p ≥ 0)) && (decide (p < 8))) && (decide (v ≥ 0))) && (decide (v < 4096))) && (decide (c ≥ 0))))] rfl (fun hg4 J4 => ?_) (fun hg4 J4 => ?_) ?_
  · refine VL_pure 20 [1, 21, 22] [(1, .pointer (some ⟨b1, 0, none⟩)), (21, .bool true), (22, .pointer (some ⟨b1, 2, none⟩))] (by kernel_rfl) rfl ?_
    refine VL_load (d := 23) (t := 3) (a := ⟨b1, 2, none⟩) (v := .int .i64 c) (by kernel_rfl) (by kernel_rfl) (Loads.own1 ho1 (by kernel_rfl) (by rfl)) ?_
    refine VL_pure 23 [1, 25] [(1, .pointer (some ⟨b1, 0, none⟩)), (25, .bool (decide (c ≥ 0)))] (by kernel_rfl) rfl ?_
    exact VL_eq _ (by simp only [hg4, Bool.true_and, Bool.false_and, Bool.true_or, Bool.false_or, Bool.not_true, Bool.not_false]) J4
  · refine VL_pure 23 [1, 25] [(1, .pointer (some ⟨b1, 0, none⟩)), (25, .bool false)] (by kernel_rfl) rfl ?_
    exact VL_eq _ (by simp only [hg4, Bool.true_and, Bool.false_and, Bool.true_or, Bool.false_or, Bool.not_true, Bool.not_false]) J4
  refine VL_pure 24 [1, 26] [(1, .pointer (some ⟨b1, 0, none⟩)), (26, .bool (((((decide (p ≥ 0)) && (decide (p < 8))) && (decide (v ≥ 0))) && (decide (v < 4096))) && (decide (c ≥ 0))))] (by kernel_rfl) rfl ?_
  refine VL_join (((((decide (p ≥ 0)) && (decide (p < 8))) && (decide (v ≥ 0))) && (decide (v < 4096))) && (decide (c ≥ 0))) (fun bV => [(1, .pointer (some ⟨b1, 0, none⟩)), (26, .bool bV)]) 28 [(30, .bool ((((((decide (p ≥ 0)) && (decide (p < 8))) && (decide (v ≥ 0))) && (decide (v < 4096))) && (decide (c ≥ 0))) && (decide (c < 65536))))] rfl (fun hg5 J5 => ?_) (fun hg5 J5 => ?_) ?_
  · refine VL_pure 25 [26, 27] [(26, .bool true), (27, .pointer (some ⟨b1, 2, none⟩))] (by kernel_rfl) rfl ?_
    refine VL_load (d := 28) (t := 3) (a := ⟨b1, 2, none⟩) (v := .int .i64 c) (by kernel_rfl) (by kernel_rfl) (Loads.own1 ho1 (by kernel_rfl) (by rfl)) ?_
    refine VL_pure 28 [30] [(30, .bool (decide (c < 65536)))] (by kernel_rfl) rfl ?_
    exact VL_eq _ (by simp only [hg5, Bool.true_and, Bool.false_and, Bool.true_or, Bool.false_or, Bool.not_true, Bool.not_false]) J5
  · refine VL_pure 28 [30] [(30, .bool false)] (by kernel_rfl) rfl ?_
    exact VL_eq _ (by simp only [hg5, Bool.true_and, Bool.false_and, Bool.true_or, Bool.false_or, Bool.not_true, Bool.not_false]) J5
  refine VL_pure 29 [2] [(2, .bool ((((((decide (p ≥ 0)) && (decide (p < 8))) && (decide (v ≥ 0))) && (decide (v < 4096))) && (decide (c ≥ 0))) && (decide (c < 65536))))] (by kernel_rfl) rfl ?_
  refine VL_end (by kernel_rfl) ?_
  refine VQ_next ?_
  refine VC_ret ?_
  refine VQ_ret1 (.bool ((((((decide (p ≥ 0)) && (decide (p < 8))) && (decide (v ≥ 0))) && (decide (v < 4096))) && (decide (c ≥ 0))) && (decide (c < 65536)))) (.inr rfl) rfl rfl ?_
  exact ⟨congrArg Value.bool (by rw [rightK, Bool.eq_iff_iff]; simp only [Bool.and_eq_true, decide_eq_true_eq]; omega), hS⟩

set_option maxRecDepth 100000 in
set_option maxHeartbeats 4000000 in
theorem is_any (id : Int) (A : Option Addr) (n c : Nat) (want size : Int) (w : World) :
    CV Try.prog 41 #[.agg #[.int .u8 id, .slice A n c], .int .u8 want, .int .i64 size] w (fun x w1 => x = .int .i64 (isE id want ((n : Nat) : Int) size) ∧ Step No w w1) := by
  have hS : Step No w w := Step.refl _ _
  refine CV_enter Try.f41 _ 18 [(0, .agg #[.int .u8 id, .slice A n c]), (1, .int .u8 want), (2, .int .i64 size)] Try.func41 rfl rfl (by kernel_rfl) rfl ?_
  refine VC_seq ?_
  refine VC_region ?_
  have hzs1 := hS.size
  refine VL_box (d := 3) (t := 40) (c := #[.int .u8 id, .slice A n c]) (by kernel_rfl) (by kernel_rfl) ?_
  intro b1 w1 hn1
  replace hS := Step.trans hS (hn1.step No)
  have ho1 := hn1.own
  have hzhn1 := hn1.size
  have hqhn1 := hn1.eqb
  refine VL_pure 2 [1, 2, 3] [(1, .int .u8 want), (2, .int .i64 size), (3, .pointer (some ⟨b1, 0, none⟩))] (by kernel_rfl) rfl ?_
  refine VL_end (by kernel_rfl) ?_
  refine VQ_next ?_
  refine VC_seq ?_
  refine VC_block ?_
  refine VC_seq ?_
  refine VC_region ?_
  refine VL_pure 1 [1, 2, 3, 8] [(1, .int .u8 want), (2, .int .i64 size), (3, .pointer (some ⟨b1, 0, none⟩)), (8, .pointer (some ⟨b1, 0, none⟩))] (by kernel_rfl) rfl ?_
  refine VL_load (d := 9) (t := 5) (a := ⟨b1, 0, none⟩) (v := .int .u8 id) (by kernel_rfl) (by kernel_rfl) (Loads.own1 ho1 (by kernel_rfl) (by rfl)) ?_
  refine VL_pure 5 [2, 3, 7] [(2, .int .i64 size), (3, .pointer (some ⟨b1, 0, none⟩)), (7, .bool (id != want))] (by kernel_rfl) rfl ?_
  refine VL_end (by kernel_rfl) ?_
  refine VQ_next ?_
  refine VC_ne id want (by kernel_rfl) (fun h1 => ?_) (fun h1 => ?_)
  · refine VC_seq ?_
    refine VC_region ?_
    refine VL_pure 1 [6] [(6, .int .i64 12)] (by kernel_rfl) rfl ?_
    refine VL_end (by kernel_rfl) ?_
    refine VQ_next ?_
    refine VC_ret ?_
    refine VQ_block_ret ?_
    refine VQ_then_ret ?_
    refine VQ_ret1 (.int .i64 12) (.inr rfl) rfl rfl ?_
    exact ⟨congrArg (Value.int .i64) (by unfold isE; first | rw [if_pos (by omega)] | rw [if_neg (by omega), if_pos (by omega)] | rw [if_neg (by omega), if_neg (by omega)]), hS⟩
  · refine VC_seq ?_
    refine VC_region ?_
    refine VL_pure 1 [2, 13] [(2, .int .i64 size), (13, .pointer (some ⟨b1, 1, none⟩))] (by kernel_rfl) rfl ?_
    refine VL_load (d := 14) (t := 23) (a := ⟨b1, 1, none⟩) (v := .slice A n c) (by kernel_rfl) (by kernel_rfl) (Loads.own1 ho1 (by kernel_rfl) (by rfl)) ?_
    refine VL_pure 6 [12] [(12, .bool (((n : Nat) : Int) != size))] (by kernel_rfl) rfl ?_
    refine VL_end (by kernel_rfl) ?_
    refine VQ_next ?_
    refine VC_ne ((n : Nat) : Int) size (by kernel_rfl) (fun h2 => ?_) (fun h2 => ?_)
    · refine VC_seq ?_
      refine VC_region ?_
      refine VL_pure 1 [6] [(6, .int .i64 5)] (by kernel_rfl) rfl ?_
      refine VL_end (by kernel_rfl) ?_
      refine VQ_next ?_
      refine VC_ret ?_
      refine VQ_block_ret ?_
      refine VQ_then_ret ?_
      refine VQ_ret1 (.int .i64 5) (.inr rfl) rfl rfl ?_
      exact ⟨congrArg (Value.int .i64) (by unfold isE; first | rw [if_pos (by omega)] | rw [if_neg (by omega), if_pos (by omega)] | rw [if_neg (by omega), if_neg (by omega)]), hS⟩
    · refine VC_skip ?_
      refine VQ_block_normal ?_
      refine VQ_next ?_
      refine VC_seq ?_
      refine VC_region ?_
      refine VL_pure 1 [6] [(6, .int .i64 0)] (by kernel_rfl) rfl ?_
      refine VL_end (by kernel_rfl) ?_
      refine VQ_next ?_
      refine VC_ret ?_
      refine VQ_ret1 (.int .i64 0) (.inr rfl) rfl rfl ?_
      exact ⟨congrArg (Value.int .i64) (by unfold isE; first | rw [if_pos (by omega)] | rw [if_neg (by omega), if_pos (by omega)] | rw [if_neg (by omega), if_neg (by omega)]), hS⟩

set_option maxRecDepth 100000 in
set_option maxHeartbeats 4000000 in
theorem spans_any (b : Nat) (w : World) :
    CV Try.prog 38 #[.pointer (some ⟨b, 0, none⟩)] w (fun x w1 => x = .agg #[.pointer (some ⟨b, 1, none⟩), .pointer (some ⟨b, 2, none⟩), .pointer (some ⟨b, 3, none⟩), .pointer (some ⟨b, 4, none⟩), .pointer (some ⟨b, 5, none⟩)] ∧ Step No w w1) := by
  have hS : Step No w w := Step.refl _ _
  refine CV_enter Try.f38 _ 19 [(0, .pointer (some ⟨b, 0, none⟩))] Try.func38 rfl rfl (by kernel_rfl) rfl ?_
  refine VC_seq ?_
  refine VC_region ?_
  have hzs1 := hS.size
  refine VL_box (d := 2) (t := 78) (c := #[.pointer none, .pointer none, .pointer none, .pointer none, .pointer none]) (by kernel_rfl) (by kernel_rfl) ?_
  intro b1 w1 hn1
  replace hS := Step.trans hS (hn1.step No)
  have ho1 := hn1.own
  have hzhn1 := hn1.size
  have hqhn1 := hn1.eqb
  refine VL_end (by kernel_rfl) ?_
  refine VQ_next ?_
  refine VC_seq ?_
  refine VC_det [[], [0], [0, 1], [], [3], [3, 4], [], [6], [6, 7], [], [9], [9, 10], [], [12], [12, 13], [0, 1, 2, 3, 4, 5, 6, 7, 8, 9, 10, 11, 12, 13, 14], [0, 1, 2, 3, 4, 5, 6, 7, 8, 9, 10, 11, 12, 13, 14, 15]] 15 [.pointer (some ⟨b, 0, none⟩), .pointer (some ⟨b, 0, none⟩), .pointer (some ⟨b, 1, none⟩), .pointer (some ⟨b, 0, none⟩), .pointer (some ⟨b, 0, none⟩), .pointer (some ⟨b, 2, none⟩), .pointer (some ⟨b, 0, none⟩), .pointer (some ⟨b, 0, none⟩), .pointer (some ⟨b, 3, none⟩), .pointer (some ⟨b, 0, none⟩), .pointer (some ⟨b, 0, none⟩), .pointer (some ⟨b, 4, none⟩), .pointer (some ⟨b, 0, none⟩), .pointer (some ⟨b, 0, none⟩), .pointer (some ⟨b, 5, none⟩)] [0, 1, 2, 3, 4, 5, 6, 7, 8, 9, 10, 11, 12, 13, 14] [] (by kernel_rfl) (by kernel_rfl) (by kernel_rfl) (by kernel_rfl) ?_ ?_
  · exact fun _ _ => trivial
  intro w2 hs1
  replace hS := Step.trans hS hs1
  replace ho1 := ho1.no hs1
  refine VL_keep [2, 5, 8, 11, 14, 17] [(2, .pointer (some ⟨b1, 0, none⟩)), (5, .pointer (some ⟨b, 1, none⟩)), (8, .pointer (some ⟨b, 2, none⟩)), (11, .pointer (some ⟨b, 3, none⟩)), (14, .pointer (some ⟨b, 4, none⟩)), (17, .pointer (some ⟨b, 5, none⟩))] (by kernel_rfl) ?_
  refine VL_pure 16 [2, 18] [(2, .pointer (some ⟨b1, 0, none⟩)), (18, .agg #[.pointer (some ⟨b, 1, none⟩), .pointer (some ⟨b, 2, none⟩), .pointer (some ⟨b, 3, none⟩), .pointer (some ⟨b, 4, none⟩), .pointer (some ⟨b, 5, none⟩)])] (by kernel_rfl) rfl ?_
  refine VL_store (b := b1) (o := 0) (vs := [.pointer (some ⟨b, 1, none⟩), .pointer (some ⟨b, 2, none⟩), .pointer (some ⟨b, 3, none⟩), .pointer (some ⟨b, 4, none⟩), .pointer (some ⟨b, 5, none⟩)]) (by kernel_rfl) (by kernel_rfl) ho1 (Nat.le_of_ble_eq_true (by kernel_rfl)) ?_
  intro w3 hw1
  replace hS := Step.transNew hS hw1.step (fun _ _ _ => by omega)
  have ho2 : Own w3 b1 #[.pointer (some ⟨b, 1, none⟩), .pointer (some ⟨b, 2, none⟩), .pointer (some ⟨b, 3, none⟩), .pointer (some ⟨b, 4, none⟩), .pointer (some ⟨b, 5, none⟩)] 78 := Own.cast hw1.own (by kernel_rfl)
  have hzhw1 := hw1.same
  refine VL_end (by kernel_rfl) ?_
  refine VQ_next ?_
  refine VC_ret ?_
  refine VQ_retC1 (T := 78) (.agg #[.pointer (some ⟨b, 1, none⟩), .pointer (some ⟨b, 2, none⟩), .pointer (some ⟨b, 3, none⟩), .pointer (some ⟨b, 4, none⟩), .pointer (some ⟨b, 5, none⟩)]) (.inr rfl) rfl rfl (Loads.ownL ho2 (n := 5) (by kernel_rfl) (by kernel_rfl) (by kernel_rfl)) ?_
  exact ⟨rfl, hS⟩

theorem getN_any (A : Option Addr) (n c Bd : Nat) (bs : List Int) (w : World) (hn : bs.length = n) (hA : Sl w Bd A (iL .u8 bs)) (hb : Bytes bs) (hl : n ≤ 6) : CV Try.prog 33 #[.slice A n c] w (fun x w1 => x = .int .i64 ((natL bs : Nat) : Int) ∧ Step No w w1) := by
  refine CV.mono (get_any A n c Bd bs w hn hA (by omega)) fun x w1 h => ?_
  rw [getL_eq hb (by omega)] at h
  exact h
set_option maxRecDepth 100000 in
set_option maxHeartbeats 4000000 in
theorem number_any (A : Option Addr) (n c Bd : Nat) (bs : List Int) (w : World) (hn : bs.length = n) (hA : Sl w Bd A (iL .u8 bs)) (hlen : n ≤ 100000) :
    CV Try.prog 42 #[.slice A n c] w (fun x w1 => x = .int .i64 (numL bs) ∧ Step No w w1) := by
  have hS : Step No w w := Step.refl _ _
  refine CV_enter Try.f42 _ 20 [(0, .slice A n c)] Try.func42 rfl rfl (by kernel_rfl) rfl ?_
  refine VC_seq ?_
  refine VC_region ?_
  refine VL_pure 1 [0] [(0, .slice A n c)] (by kernel_rfl) rfl ?_
  refine VL_end (by kernel_rfl) ?_
  refine VQ_next ?_
  refine VC_seq ?_
  refine VC_region ?_
  refine VL_pure 1 [0, 3] [(0, .slice A n c), (3, .int .i64 0)] (by kernel_rfl) rfl ?_
  refine VL_end (by kernel_rfl) ?_
  refine VQ_next ?_
  refine VC_seq ?_
  refine VC_seq ?_
  refine VC_region ?_
  refine VL_pure 3 [0, 3, 6, 7] [(0, .slice A n c), (3, .int .i64 0), (6, .int .i64 ((n : Nat) : Int)), (7, .int .i64 0)] (by kernel_rfl) rfl ?_
  refine VL_end (by kernel_rfl) ?_
  refine VQ_next ?_
  refine VC_block ?_
  refine VC_loop (σ := Nat) (fun σs => [(0, .slice A n c), (6, .int .i64 ((n : Nat) : Int)), (7, .int .i64 ((σs : Nat) : Int)), (3, .int .i64 (numL (bs.take σs)))]) (fun σs w1 => (σs ≤ n) ∧ (Step No w w1) ∧ (Sl w1 Bd A (iL .u8 bs))) (fun σs w1 => n - σs) 0 ⟨rfl, rfl, rfl, rfl, trivial⟩ ?_ ?_
  · exact ⟨Nat.zero_le _, hS, hA⟩
  rintro j w1 ⟨hj, hS, hA⟩
  try dsimp only at hj hS hA ⊢
  refine VC_seq ?_
  refine VC_region ?_
  refine VL_pure 1 [0, 6, 7, 3, 8] [(0, .slice A n c), (6, .int .i64 ((n : Nat) : Int)), (7, .int .i64 ((j : Nat) : Int)), (3, .int .i64 (numL (bs.take j))), (8, .bool (decide (((j : Nat) : Int) < ((n : Nat) : Int))))] (by kernel_rfl) rfl ?_
  refine VL_end (by kernel_rfl) ?_
  refine VQ_next ?_
  refine VC_seq ?_
  refine VC_dec (((j : Nat) : Int) < ((n : Nat) : Int)) (by kernel_rfl) (fun h1 => ?_) (fun h1 => ?_)
  · refine VC_skip ?_
    refine VQ_next ?_
    refine VC_seq ?_
    refine VC_block ?_
    refine VC_seq ?_
    refine VC_region ?_
    refine VL_pure 2 [0, 6, 7, 3, 4] [(0, .slice A n c), (6, .int .i64 ((n : Nat) : Int)), (7, .int .i64 ((j : Nat) : Int)), (3, .int .i64 (numL (bs.take j))), (4, .int .i64 ((j : Nat) : Int))] (by kernel_rfl) rfl ?_
    refine VL_end (by kernel_rfl) ?_
    refine VQ_next ?_
    refine VC_region ?_
    refine VL_pure 4 [0, 6, 7, 11, 12, 13] [(0, .slice A n c), (6, .int .i64 ((n : Nat) : Int)), (7, .int .i64 ((j : Nat) : Int)), (11, .int .i64 (IntKind.wrap .i64 ((numL (bs.take j)) * 256))), (12, .slice A n c), (13, .int .i64 ((j : Nat) : Int))] (by kernel_rfl) rfl ?_
    obtain ⟨sb1, so1, rfl, hlbsb1⟩ := hA.open (by simp only [iL_length]; omega)
    refine VL_index (d := 14) (b := sb1) (o := so1) (len := n) (sz := 1) (m := ((j : Nat) : Int)) (by kernel_rfl) (by kernel_rfl) j (by rfl) (by omega) (so1 + j) (by omega) ?_
    refine VL_load (d := 15) (t := 5) (a := ⟨sb1, so1 + j, none⟩) (v := .int .u8 (bs.getD j 0)) (by kernel_rfl) (by kernel_rfl) (Sl.ldI hA (by kernel_rfl) j (by (try simp only [List.length_set, List.length_append, List.length_map, List.length_replicate, List.length_cons, List.length_nil, List.length_take, List.length_drop, List.length_range]) <;> omega)) ?_
    refine VL_pure 8 [0, 6, 7, 17] [(0, .slice (some ⟨sb1, so1, none⟩) n c), (6, .int .i64 ((n : Nat) : Int)), (7, .int .i64 ((j : Nat) : Int)), (17, .int .i64 (IntKind.wrap .i64 ((IntKind.wrap .i64 ((numL (bs.take j)) * 256)) + (IntKind.wrap .i64 (bs.getD j 0)))))] (by kernel_rfl) rfl ?_
    refine VL_eq [(0, .slice (some ⟨sb1, so1, none⟩) n c), (6, .int .i64 ((n : Nat) : Int)), (7, .int .i64 ((j : Nat) : Int)), (17, .int .i64 (numL (bs.take (j + 1))))] (by rw [numL_succ (show j < bs.length by omega)]) ?_
    refine VL_pure 9 [0, 6, 7, 3] [(0, .slice (some ⟨sb1, so1, none⟩) n c), (6, .int .i64 ((n : Nat) : Int)), (7, .int .i64 ((j : Nat) : Int)), (3, .int .i64 (numL (bs.take (j + 1))))] (by kernel_rfl) rfl ?_
    refine VL_end (by kernel_rfl) ?_
    refine VQ_block_normal ?_
    refine VQ_next ?_
    refine VC_region ?_
    refine VL_pure 1 [0, 6, 3, 18] [(0, .slice (some ⟨sb1, so1, none⟩) n c), (6, .int .i64 ((n : Nat) : Int)), (3, .int .i64 (numL (bs.take (j + 1)))), (18, .int .i64 (IntKind.wrap .i64 (((j : Nat) : Int) + 1)))] (by kernel_rfl) rfl ?_
    have he1 : IntKind.wrap .i64 (((j : Nat) : Int) + 1) = ((j + 1 : Nat) : Int) := (by rw [wrap_i64 _ (by omega) (by omega)]; omega)
    refine VL_eq [(0, .slice (some ⟨sb1, so1, none⟩) n c), (6, .int .i64 ((n : Nat) : Int)), (3, .int .i64 (numL (bs.take (j + 1)))), (18, .int .i64 ((j + 1 : Nat) : Int))] (by rw [he1]) ?_
    refine VL_pure 2 [0, 6, 3, 7] [(0, .slice (some ⟨sb1, so1, none⟩) n c), (6, .int .i64 ((n : Nat) : Int)), (3, .int .i64 (numL (bs.take (j + 1)))), (7, .int .i64 ((j + 1 : Nat) : Int))] (by kernel_rfl) rfl ?_
    refine VL_end (by kernel_rfl) ?_
    refine VQ_again (j + 1) ⟨rfl, rfl, rfl, rfl, trivial⟩ ?_ ?_
    · exact ⟨(by omega), hS, hA⟩
    · (try dsimp only); omega
  · refine VC_exit ?_
    refine VQ_then_exit ?_
    refine VQ_then_exit ?_
    refine VQ_block_hit ?_
    refine VQ_next ?_
    refine VC_seq ?_
    refine VC_region ?_
    refine VL_pure 2 [2] [(2, .int .i64 (numL (bs.take j)))] (by kernel_rfl) rfl ?_
    refine VL_end (by kernel_rfl) ?_
    refine VQ_next ?_
    refine VC_ret ?_
    refine VQ_ret1 (.int .i64 (numL (bs.take j))) (.inr rfl) rfl rfl ?_
    obtain rfl : j = n := by omega
    exact ⟨by rw [List.take_of_length_le (by omega)], hS⟩

theorem numberN_any (A : Option Addr) (n c Bd : Nat) (bs : List Int) (w : World) (hn : bs.length = n) (hA : Sl w Bd A (iL .u8 bs)) (hb : Bytes bs) (hl : n ≤ 6) : CV Try.prog 42 #[.slice A n c] w (fun x w1 => x = .int .i64 ((natL bs : Nat) : Int) ∧ Step No w w1) := by
  refine CV.mono (number_any A n c Bd bs w hn hA (by omega)) fun x w1 h => ?_
  rw [numL_eq hb (by omega)] at h
  exact h
set_option maxRecDepth 100000 in
set_option maxHeartbeats 4000000 in
theorem rbytes_any (v many : Nat) (w : World) (hm : many ≤ 8 ∧ v < 9223372036854775808) :
    CV Try.prog 40 #[.int .i64 ((v : Nat) : Int), .int .i64 ((many : Nat) : Int)] w (fun x w1 => ∃ A' c', x = .slice A' many c' ∧ Rw w1 w.heap.size 5 A' many c' (iL .u8 (digL v many)) ∧ Step No w w1) := by
  have hS : Step No w w := Step.refl _ _
  refine CV_enter Try.f40 _ 21 [(0, .int .i64 ((v : Nat) : Int)), (1, .int .i64 ((many : Nat) : Int))] Try.func40 rfl rfl (by kernel_rfl) rfl ?_
  refine VC_seq ?_
  refine VC_region ?_
  refine VL_pure 1 [0, 1] [(0, .int .i64 ((v : Nat) : Int)), (1, .int .i64 ((many : Nat) : Int))] (by kernel_rfl) rfl ?_
  refine VL_end (by kernel_rfl) ?_
  refine VQ_next ?_
  refine VC_seq ?_
  refine VC_region ?_
  refine VL_pure 1 [0, 1, 5] [(0, .int .i64 ((v : Nat) : Int)), (1, .int .i64 ((many : Nat) : Int)), (5, .slice none 0 0)] (by kernel_rfl) rfl ?_
  refine VL_end (by kernel_rfl) ?_
  refine VQ_next ?_
  refine VC_seq ?_
  refine VC_seq ?_
  refine VC_region ?_
  refine VL_pure 1 [0, 1, 5, 6] [(0, .int .i64 ((v : Nat) : Int)), (1, .int .i64 ((many : Nat) : Int)), (5, .slice none 0 0), (6, .int .i64 0)] (by kernel_rfl) rfl ?_
  refine VL_end (by kernel_rfl) ?_
  refine VQ_next ?_
  refine VC_block ?_
  obtain ⟨base1, hbase1E⟩ : ∃ x, x = w.heap.size := ⟨_, rfl⟩
  have hbase1 : base1 ≤ w.heap.size := Nat.le_of_eq hbase1E
  have hzs1 := hS.size
  have hzk1 := hbase1
  refine VC_loop (σ := Nat × Nat × (Option Addr) × Nat) (fun σs => [(1, .int .i64 ((many : Nat) : Int)), (6, .int .i64 ((σs.1 : Nat) : Int)), (0, .int .i64 ((σs.2.1 : Nat) : Int)), (5, .slice σs.2.2.1 σs.1 σs.2.2.2)]) (fun σs w1 => (σs.1 ≤ many) ∧ (σs.2.1 = v / 256 ^ σs.1) ∧ (σs.2.1 ≤ v) ∧ (Step No w w1) ∧ (base1 ≤ w1.heap.size) ∧ (Rw w1 base1 5 σs.2.2.1 σs.1 σs.2.2.2 (iL .u8 (digL v σs.1)))) (fun σs w1 => many - σs.1) ⟨0, v, none, 0⟩ ⟨rfl, rfl, rfl, rfl, trivial⟩ ?_ ?_
  · exact ⟨Nat.zero_le _, (by simp), Nat.le_refl _, hS, hbase1, (Rw.cast (Rw.nil w base1 5) rfl rfl)⟩
  rintro ⟨i, q, A1, c1⟩ w1 ⟨hi, hq, hqv, hS, hbase1, hr1⟩
  try dsimp only at hi hq hqv hS hbase1 hr1 ⊢
  refine VC_seq ?_
  refine VC_seq ?_
  refine VC_region ?_
  refine VL_pure 3 [1, 6, 0, 5, 9] [(1, .int .i64 ((many : Nat) : Int)), (6, .int .i64 ((i : Nat) : Int)), (0, .int .i64 ((q : Nat) : Int)), (5, .slice A1 i c1), (9, .bool (decide (((i : Nat) : Int) < ((many : Nat) : Int))))] (by kernel_rfl) rfl ?_
  refine VL_end (by kernel_rfl) ?_
  refine VQ_next ?_
  refine VC_dec (((i : Nat) : Int) < ((many : Nat) : Int)) (by kernel_rfl) (fun h1 => ?_) (fun h1 => ?_)
  · refine VC_skip ?_
    refine VQ_next ?_
    refine VC_seq ?_
    refine VC_block ?_
    refine VC_seq ?_
    refine VC_region ?_
    refine VL_pure 2 [1, 6, 0, 5, 13] [(1, .int .i64 ((many : Nat) : Int)), (6, .int .i64 ((i : Nat) : Int)), (0, .int .i64 ((q : Nat) : Int)), (5, .slice A1 i c1), (13, .int .i64 (((q : Nat) : Int).tmod 256))] (by kernel_rfl) rfl ?_
    have he1 : ((q : Nat) : Int).tmod 256 = ((q % 256 : Nat) : Int) := (tmod_nat q 256)
    refine VL_eq [(1, .int .i64 ((many : Nat) : Int)), (6, .int .i64 ((i : Nat) : Int)), (0, .int .i64 ((q : Nat) : Int)), (5, .slice A1 i c1), (13, .int .i64 ((q % 256 : Nat) : Int))] (by rw [he1]) ?_
    refine VL_pure 3 [1, 6, 0, 5, 14] [(1, .int .i64 ((many : Nat) : Int)), (6, .int .i64 ((i : Nat) : Int)), (0, .int .i64 ((q : Nat) : Int)), (5, .slice A1 i c1), (14, .int .u8 (IntKind.wrap .u8 ((q % 256 : Nat) : Int)))] (by kernel_rfl) rfl ?_
    have hzs2 := hS.size
    have hzk2 := hbase1
    have hub1 := hr1.ub
    refine VL_bs (d := 15) (e := 5) (c := #[.int .u8 (IntKind.wrap .u8 ((q % 256 : Nat) : Int))]) (len := 1) (by kernel_rfl) (by kernel_rfl) ?_
    intro b1 w2 hn1
    replace hS := Step.trans hS (hn1.step No)
    replace hbase1 := Nat.le_trans hbase1 (hn1.step No).size
    replace hr1 := hr1.no (hn1.step No)
    have ho1 := hn1.own
    have hzhn1 := hn1.size
    have hqhn1 := hn1.eqb
    refine VL_pure 5 [1, 6, 0, 15, 16] [(1, .int .i64 ((many : Nat) : Int)), (6, .int .i64 ((i : Nat) : Int)), (0, .int .i64 ((q : Nat) : Int)), (15, .slice (some ⟨b1, 0, none⟩) 1 1), (16, .slice A1 i c1)] (by kernel_rfl) rfl ?_
    have hzs3 := hS.size
    have hzk3 := hbase1
    have hzl1 := ho1.lt
    have hbase2 := Nat.le_of_lt ho1.lt
    refine VL_appendT (d := 17) (e := 5) (A := (some ⟨b1, 0, none⟩)) (m := 1) (c := 1) (A2 := A1) (m2 := i) (c2 := c1) (bytes := 1) (by kernel_rfl) (by kernel_rfl) (by kernel_rfl) b1 w2.heap.size (iL .u8 ([IntKind.wrap .u8 ((q % 256 : Nat) : Int)])) (iL .u8 (digL v i)) (Rw.of_new ho1 (Nat.le_refl _) (Nat.le_of_ble_eq_true (by kernel_rfl))) (by rw [iL_length]; first | done | exact (Rw.lenI hr1)) (Sl.mono (Rw.slI hr1) (by first | exact Nat.le_refl _ | omega)) iL_one (i + 1) (by omega) (by simp only [maxLen]; omega) (by omega) (by omega) ?_
    intro A2 c2 w3 hr2 hg1
    replace hr2 : Rw w3 b1 5 A2 (i + 1) c2 (iL .u8 (([IntKind.wrap .u8 ((q % 256 : Nat) : Int)]) ++ (digL v i))) := Rw.cast hr2 rfl (by simp only [iL, List.map_append, List.map_cons, List.map_nil, List.append_assoc, List.cons_append, List.nil_append, List.append_nil])
    have hzhg1 := hg1.size
    have hg1S : Step (fun k => b1 ≤ k) _ _ := Step.mono hg1 (fun i hi => hi.1)
    replace hS := Step.transNew hS hg1S (fun i hi hG => by (try simp only at hG); omega)
    replace hbase1 := Nat.le_trans hbase1 (hg1S).size
    replace hr1 := hr1.stepU hub1 hg1S (fun k hk hk2 hG => by (try simp only at hG); omega)
    replace hbase2 := Nat.le_trans hbase2 (hg1S).size
    refine VL_pure 7 [1, 6, 0, 5] [(1, .int .i64 ((many : Nat) : Int)), (6, .int .i64 ((i : Nat) : Int)), (0, .int .i64 ((q : Nat) : Int)), (5, .slice A2 (i + 1) c2)] (by kernel_rfl) rfl ?_
    refine VL_end (by kernel_rfl) ?_
    refine VQ_next ?_
    refine VC_region ?_
    refine VL_pure 2 [1, 6, 5, 19] [(1, .int .i64 ((many : Nat) : Int)), (6, .int .i64 ((i : Nat) : Int)), (5, .slice A2 (i + 1) c2), (19, .int .i64 (IntKind.wrap .i64 (((q : Nat) : Int).tdiv 256)))] (by kernel_rfl) rfl ?_
    have he2 : IntKind.wrap .i64 (((q : Nat) : Int).tdiv 256) = ((q / 256 : Nat) : Int) := (by rw [show ((q : Nat) : Int).tdiv 256 = ((q / 256 : Nat) : Int) from tdiv_nat q 256, wrap_i64 _ (by omega) (by omega)])
    refine VL_eq [(1, .int .i64 ((many : Nat) : Int)), (6, .int .i64 ((i : Nat) : Int)), (5, .slice A2 (i + 1) c2), (19, .int .i64 ((q / 256 : Nat) : Int))] (by rw [he2]) ?_
    refine VL_pure 3 [1, 6, 5, 0] [(1, .int .i64 ((many : Nat) : Int)), (6, .int .i64 ((i : Nat) : Int)), (5, .slice A2 (i + 1) c2), (0, .int .i64 ((q / 256 : Nat) : Int))] (by kernel_rfl) rfl ?_
    refine VL_end (by kernel_rfl) ?_
    refine VQ_block_normal ?_
    refine VQ_next ?_
    refine VC_region ?_
    refine VL_pure 2 [1, 5, 0, 11] [(1, .int .i64 ((many : Nat) : Int)), (5, .slice A2 (i + 1) c2), (0, .int .i64 ((q / 256 : Nat) : Int)), (11, .int .i64 (IntKind.wrap .i64 (((i : Nat) : Int) + 1)))] (by kernel_rfl) rfl ?_
    have he3 : IntKind.wrap .i64 (((i : Nat) : Int) + 1) = ((i + 1 : Nat) : Int) := (by rw [wrap_i64 _ (by omega) (by omega)]; omega)
    refine VL_eq [(1, .int .i64 ((many : Nat) : Int)), (5, .slice A2 (i + 1) c2), (0, .int .i64 ((q / 256 : Nat) : Int)), (11, .int .i64 ((i + 1 : Nat) : Int))] (by rw [he3]) ?_
    refine VL_pure 3 [1, 5, 0, 6] [(1, .int .i64 ((many : Nat) : Int)), (5, .slice A2 (i + 1) c2), (0, .int .i64 ((q / 256 : Nat) : Int)), (6, .int .i64 ((i + 1 : Nat) : Int))] (by kernel_rfl) rfl ?_
    refine VL_end (by kernel_rfl) ?_
    refine VQ_again ⟨i + 1, q / 256, A2, c2⟩ ⟨rfl, rfl, rfl, rfl, trivial⟩ ?_ ?_
    · exact ⟨(by dsimp only; omega), (by dsimp only; rw [hq, Nat.pow_succ, Nat.div_div_eq_div_mul]), (by dsimp only; omega), hS, hbase1, (Rw.low (Rw.cast hr2 (by omega) (by rw [digL_front, ← hq]; rfl)) (by omega))⟩
    · (try dsimp only); omega
  · refine VC_exit ?_
    refine VQ_then_exit ?_
    refine VQ_then_exit ?_
    refine VQ_block_hit ?_
    refine VQ_next ?_
    refine VC_seq ?_
    refine VC_region ?_
    refine VL_pure 2 [4] [(4, .slice A1 i c1)] (by kernel_rfl) rfl ?_
    refine VL_end (by kernel_rfl) ?_
    refine VQ_next ?_
    refine VC_ret ?_
    refine VQ_ret1 (.slice A1 i c1) (.inr rfl) rfl rfl ?_
    obtain rfl : i = many := by omega
    exact ⟨_, _, rfl, Rw.low hr1 (by omega), hS⟩

set_option maxRecDepth 100000 in
set_option maxHeartbeats 4000000 in
theorem traffic_yes (k : Int) (p e h b t : Nat) (w : World) (hr : rightC k p e h b t = 0) :
    CV Try.prog 18 #[.agg #[.int .i64 k, .int .i64 ((p : Nat) : Int), .int .i64 ((e : Nat) : Int), .int .i64 ((h : Nat) : Int), .int .i64 ((b : Nat) : Int), .int .i64 ((t : Nat) : Int)]] w (fun x w1 => ∃ A' c', x = .tuple #[.agg #[.int .u8 89, .slice A' 31 c'], .int .i64 0] ∧ Rw w1 w.heap.size 5 A' 31 c' (iL .u8 (trafL k p e h b t)) ∧ Step No w w1) := by
  have hS : Step No w w := Step.refl _ _
  have hrn := right_nat hr
  refine CV_enter Try.f18 _ 30 [(0, .agg #[.int .i64 k, .int .i64 ((p : Nat) : Int), .int .i64 ((e : Nat) : Int), .int .i64 ((h : Nat) : Int), .int .i64 ((b : Nat) : Int), .int .i64 ((t : Nat) : Int)])] Try.func18 rfl rfl (by kernel_rfl) rfl ?_
  refine VC_seq ?_
  refine VC_region ?_
  have hzs1 := hS.size
  refine VL_box (d := 1) (t := 45) (c := #[.int .i64 k, .int .i64 ((p : Nat) : Int), .int .i64 ((e : Nat) : Int), .int .i64 ((h : Nat) : Int), .int .i64 ((b : Nat) : Int), .int .i64 ((t : Nat) : Int)]) (by kernel_rfl) (by kernel_rfl) ?_
  intro b1 w1 hn1
  replace hS := Step.trans hS (hn1.step No)
  have ho1 := hn1.own
  have hzhn1 := hn1.size
  have hqhn1 := hn1.eqb
  have hzs2 := hS.size
  have hzl1 := ho1.lt
  refine VL_box (d := 2) (t := 40) (c := #[.int .u8 0, .slice none 0 0]) (by kernel_rfl) (by kernel_rfl) ?_
  intro b2 w2 hn2
  replace hS := Step.trans hS (hn2.step No)
  replace ho1 := ho1.no (hn2.step No)
  have ho2 := hn2.own
  have hzhn2 := hn2.size
  have hqhn2 := hn2.eqb
  refine VL_pure 3 [1, 2] [(1, .pointer (some ⟨b1, 0, none⟩)), (2, .pointer (some ⟨b2, 0, none⟩))] (by kernel_rfl) rfl ?_
  refine VL_end (by kernel_rfl) ?_
  refine VQ_next ?_
  refine VC_seq ?_
  refine VC_seq ?_
  refine VC_region ?_
  refine VL_load (d := 8) (t := 45) (a := ⟨b1, 0, none⟩) (v := .agg #[.int .i64 k, .int .i64 ((p : Nat) : Int), .int .i64 ((e : Nat) : Int), .int .i64 ((h : Nat) : Int), .int .i64 ((b : Nat) : Int), .int .i64 ((t : Nat) : Int)]) (by kernel_rfl) (by kernel_rfl) (Loads.ownL ho1 (n := 6) (by kernel_rfl) (by kernel_rfl) (by kernel_rfl)) ?_
  have hzs3 := hS.size
  have hzl2 := ho1.lt
  have hzl3 := ho2.lt
  refine VL_call (d := 9) (f := 37) (args := #[.agg #[.int .i64 k, .int .i64 ((p : Nat) : Int), .int .i64 ((e : Nat) : Int), .int .i64 ((h : Nat) : Int), .int .i64 ((b : Nat) : Int), .int .i64 ((t : Nat) : Int)]]) (by kernel_rfl) (by kernel_rfl) (by kernel_rfl) Try.call37 (right_any k ((p : Nat) : Int) ((e : Nat) : Int) ((h : Nat) : Int) ((b : Nat) : Int) ((t : Nat) : Int) _) ?_
  rintro _ w3 ⟨rfl, hc1⟩
  replace hS := Step.trans hS hc1
  replace ho1 := ho1.no hc1
  replace ho2 := ho2.no hc1
  refine VL_pure 3 [1, 2, 4] [(1, .pointer (some ⟨b1, 0, none⟩)), (2, .pointer (some ⟨b2, 0, none⟩)), (4, .int .i64 (rightC k ((p : Nat) : Int) ((e : Nat) : Int) ((h : Nat) : Int) ((b : Nat) : Int) ((t : Nat) : Int)))] (by kernel_rfl) rfl ?_
  refine VL_end (by kernel_rfl) ?_
  refine VQ_next ?_
  refine VC_seq ?_
  refine VC_region ?_
  refine VL_pure 2 [1, 2, 4, 11] [(1, .pointer (some ⟨b1, 0, none⟩)), (2, .pointer (some ⟨b2, 0, none⟩)), (4, .int .i64 (rightC k ((p : Nat) : Int) ((e : Nat) : Int) ((h : Nat) : Int) ((b : Nat) : Int) ((t : Nat) : Int))), (11, .bool ((rightC k ((p : Nat) : Int) ((e : Nat) : Int) ((h : Nat) : Int) ((b : Nat) : Int) ((t : Nat) : Int)) != 0))] (by kernel_rfl) rfl ?_
  refine VL_end (by kernel_rfl) ?_
  refine VQ_next ?_
  refine VC_is (b := (rightC k ((p : Nat) : Int) ((e : Nat) : Int) ((h : Nat) : Int) ((b : Nat) : Int) ((t : Nat) : Int)) != 0) false (by kernel_rfl) (by rw [hr]; rfl) ?_
  refine VC_ite_false ?_
  refine VC_skip ?_
  refine VQ_next ?_
  refine VC_seq ?_
  refine VC_region ?_
  refine VL_pure 1 [1, 2, 14] [(1, .pointer (some ⟨b1, 0, none⟩)), (2, .pointer (some ⟨b2, 0, none⟩)), (14, .pointer (some ⟨b1, 0, none⟩))] (by kernel_rfl) rfl ?_
  refine VL_load (d := 15) (t := 3) (a := ⟨b1, 0, none⟩) (v := .int .i64 k) (by kernel_rfl) (by kernel_rfl) (Loads.own1 ho1 (by kernel_rfl) (by rfl)) ?_
  refine VL_pure 3 [1, 2, 16] [(1, .pointer (some ⟨b1, 0, none⟩)), (2, .pointer (some ⟨b2, 0, none⟩)), (16, .int .u8 (IntKind.wrap .u8 k))] (by kernel_rfl) rfl ?_
  have hzs4 := hS.size
  have hzl4 := ho1.lt
  have hzl5 := ho2.lt
  refine VL_bs (d := 17) (e := 5) (c := #[.int .u8 (IntKind.wrap .u8 k)]) (len := 1) (by kernel_rfl) (by kernel_rfl) ?_
  intro b3 w4 hn3
  replace hS := Step.trans hS (hn3.step No)
  replace ho1 := ho1.no (hn3.step No)
  replace ho2 := ho2.no (hn3.step No)
  have ho3 := hn3.own
  have hzhn3 := hn3.size
  have hqhn3 := hn3.eqb
  refine VL_pure 5 [1, 2, 5] [(1, .pointer (some ⟨b1, 0, none⟩)), (2, .pointer (some ⟨b2, 0, none⟩)), (5, .slice (some ⟨b3, 0, none⟩) 1 1)] (by kernel_rfl) rfl ?_
  refine VL_end (by kernel_rfl) ?_
  refine VQ_next ?_
  refine VC_seq ?_
  refine VC_seq ?_
  refine VC_region ?_
  have hzs5 := hS.size
  have hzl6 := ho1.lt
  have hzl7 := ho2.lt
  have hzl8 := ho3.lt
  refine VL_call (d := 18) (f := 38) (args := #[.pointer (some ⟨b1, 0, none⟩)]) (by kernel_rfl) (by kernel_rfl) (by kernel_rfl) Try.call38 (spans_any b1 _) ?_
  rintro _ w5 ⟨rfl, hc2⟩
  replace hS := Step.trans hS hc2
  replace ho1 := ho1.no hc2
  replace ho2 := ho2.no hc2
  replace ho3 := ho3.no hc2
  refine VL_pure 2 [2, 5, 18, 19] [(2, .pointer (some ⟨b2, 0, none⟩)), (5, .slice (some ⟨b3, 0, none⟩) 1 1), (18, .agg #[.pointer (some ⟨b1, 1, none⟩), .pointer (some ⟨b1, 2, none⟩), .pointer (some ⟨b1, 3, none⟩), .pointer (some ⟨b1, 4, none⟩), .pointer (some ⟨b1, 5, none⟩)]), (19, .int .i64 0)] (by kernel_rfl) rfl ?_
  refine VL_end (by kernel_rfl) ?_
  refine VQ_next ?_
  refine VC_block ?_
  refine VC_rounds ?_
  refine VCL_round ?_
  refine VC_seq ?_
  refine VC_region ?_
  refine VL_pure 1 [2, 5, 18, 19, 20] [(2, .pointer (some ⟨b2, 0, none⟩)), (5, .slice (some ⟨b3, 0, none⟩) 1 1), (18, .agg #[.pointer (some ⟨b1, 1, none⟩), .pointer (some ⟨b1, 2, none⟩), .pointer (some ⟨b1, 3, none⟩), .pointer (some ⟨b1, 4, none⟩), .pointer (some ⟨b1, 5, none⟩)]), (19, .int .i64 0), (20, .bool true)] (by kernel_rfl) rfl ?_
  refine VL_end (by kernel_rfl) ?_
  refine VQ_next ?_
  refine VC_seq ?_
  refine VC_true (by kernel_rfl) ?_
  refine VC_skip ?_
  refine VQ_next ?_
  refine VC_seq ?_
  refine VC_block ?_
  refine VC_seq ?_
  refine VC_region ?_
  refine VL_pure 2 [2, 5, 18, 19, 7] [(2, .pointer (some ⟨b2, 0, none⟩)), (5, .slice (some ⟨b3, 0, none⟩) 1 1), (18, .agg #[.pointer (some ⟨b1, 1, none⟩), .pointer (some ⟨b1, 2, none⟩), .pointer (some ⟨b1, 3, none⟩), .pointer (some ⟨b1, 4, none⟩), .pointer (some ⟨b1, 5, none⟩)]), (19, .int .i64 0), (7, .pointer (some ⟨b1, 1, none⟩))] (by kernel_rfl) rfl ?_
  refine VL_end (by kernel_rfl) ?_
  refine VQ_next ?_
  refine VC_region ?_
  refine VL_pure 3 [2, 18, 19, 22, 24] [(2, .pointer (some ⟨b2, 0, none⟩)), (18, .agg #[.pointer (some ⟨b1, 1, none⟩), .pointer (some ⟨b1, 2, none⟩), .pointer (some ⟨b1, 3, none⟩), .pointer (some ⟨b1, 4, none⟩), .pointer (some ⟨b1, 5, none⟩)]), (19, .int .i64 0), (22, .slice (some ⟨b3, 0, none⟩) 1 1), (24, .pointer (some ⟨b1, 1, none⟩))] (by kernel_rfl) rfl ?_
  refine VL_load (d := 25) (t := 3) (a := ⟨b1, 1, none⟩) (v := .int .i64 ((p : Nat) : Int)) (by kernel_rfl) (by kernel_rfl) (Loads.own1 ho1 (by kernel_rfl) (by rfl)) ?_
  have hbase1 := Nat.le_of_lt ho3.lt
  have hzs6 := hS.size
  have hzl9 := ho1.lt
  have hzl10 := ho2.lt
  refine VL_call (d := 26) (f := 32) (by kernel_rfl) (by kernel_rfl) (by kernel_rfl) Try.call32 (put_any (some ⟨b3, 0, none⟩) 1 1 _ b3 ([IntKind.wrap .u8 k]) p 6 (Rw.of_new ho3 (Nat.le_refl _) (Nat.le_of_ble_eq_true (by kernel_rfl))) (by omega) (by omega) (by omega)) ?_
  rintro _ w6 ⟨A1, c1, rfl, hr1, hc3⟩
  have hzhc3 := StepT.size hc3
  have hc3S : Step (fun k => b3 ≤ k ∧ (k < b1 ∨ b1 < k) ∧ (k < b2 ∨ b2 < k)) _ _ := Step.mono hc3 (fun i hi => ⟨hi.1, Nat.lt_or_gt_of_ne (hi.2.ne ho1 (by decide)), Nat.lt_or_gt_of_ne (hi.2.ne ho2 (by decide))⟩)
  replace hS := Step.transNew hS hc3S (fun i hi hG => by (try simp only at hG); omega)
  replace ho1 := ho1.step hc3S (by (try simp only); omega)
  replace ho2 := ho2.step hc3S (by (try simp only); omega)
  replace hbase1 := Nat.le_trans hbase1 (hc3S).size
  replace hr1 : Rw w6 b3 5 A1 7 c1 (iL .u8 (([IntKind.wrap .u8 k]) ++ (digL p 6))) := Rw.cast hr1 (by omega) (by first | rfl | simp only [List.nil_append, List.append_assoc])
  refine VL_pure 6 [2, 18, 19, 5] [(2, .pointer (some ⟨b2, 0, none⟩)), (18, .agg #[.pointer (some ⟨b1, 1, none⟩), .pointer (some ⟨b1, 2, none⟩), .pointer (some ⟨b1, 3, none⟩), .pointer (some ⟨b1, 4, none⟩), .pointer (some ⟨b1, 5, none⟩)]), (19, .int .i64 0), (5, .slice A1 7 c1)] (by kernel_rfl) rfl ?_
  refine VL_end (by kernel_rfl) ?_
  refine VQ_block_normal ?_
  refine VQ_next ?_
  refine VC_region ?_
  refine VL_pure 2 [2, 18, 19, 5] [(2, .pointer (some ⟨b2, 0, none⟩)), (18, .agg #[.pointer (some ⟨b1, 1, none⟩), .pointer (some ⟨b1, 2, none⟩), .pointer (some ⟨b1, 3, none⟩), .pointer (some ⟨b1, 4, none⟩), .pointer (some ⟨b1, 5, none⟩)]), (19, .int .i64 1), (5, .slice A1 7 c1)] (by kernel_rfl) rfl ?_
  refine VL_end (by kernel_rfl) ?_
  refine VQ_round ?_
  refine VCL_round ?_
  refine VC_seq ?_
  refine VC_region ?_
  refine VL_pure 1 [2, 18, 19, 5, 20] [(2, .pointer (some ⟨b2, 0, none⟩)), (18, .agg #[.pointer (some ⟨b1, 1, none⟩), .pointer (some ⟨b1, 2, none⟩), .pointer (some ⟨b1, 3, none⟩), .pointer (some ⟨b1, 4, none⟩), .pointer (some ⟨b1, 5, none⟩)]), (19, .int .i64 1), (5, .slice A1 7 c1), (20, .bool true)] (by kernel_rfl) rfl ?_
  refine VL_end (by kernel_rfl) ?_
  refine VQ_next ?_
  refine VC_seq ?_
  refine VC_true (by kernel_rfl) ?_
  refine VC_skip ?_
  refine VQ_next ?_
  refine VC_seq ?_
  refine VC_block ?_
  refine VC_seq ?_
  refine VC_region ?_
  refine VL_pure 2 [2, 18, 19, 5, 7] [(2, .pointer (some ⟨b2, 0, none⟩)), (18, .agg #[.pointer (some ⟨b1, 1, none⟩), .pointer (some ⟨b1, 2, none⟩), .pointer (some ⟨b1, 3, none⟩), .pointer (some ⟨b1, 4, none⟩), .pointer (some ⟨b1, 5, none⟩)]), (19, .int .i64 1), (5, .slice A1 7 c1), (7, .pointer (some ⟨b1, 2, none⟩))] (by kernel_rfl) rfl ?_
  refine VL_end (by kernel_rfl) ?_
  refine VQ_next ?_
  refine VC_region ?_
  refine VL_pure 3 [2, 18, 19, 22, 24] [(2, .pointer (some ⟨b2, 0, none⟩)), (18, .agg #[.pointer (some ⟨b1, 1, none⟩), .pointer (some ⟨b1, 2, none⟩), .pointer (some ⟨b1, 3, none⟩), .pointer (some ⟨b1, 4, none⟩), .pointer (some ⟨b1, 5, none⟩)]), (19, .int .i64 1), (22, .slice A1 7 c1), (24, .pointer (some ⟨b1, 2, none⟩))] (by kernel_rfl) rfl ?_
  refine VL_load (d := 25) (t := 3) (a := ⟨b1, 2, none⟩) (v := .int .i64 ((e : Nat) : Int)) (by kernel_rfl) (by kernel_rfl) (Loads.own1 ho1 (by kernel_rfl) (by rfl)) ?_
  have hzs7 := hS.size
  have hzl11 := ho1.lt
  have hzl12 := ho2.lt
  refine VL_call (d := 26) (f := 32) (by kernel_rfl) (by kernel_rfl) (by kernel_rfl) Try.call32 (put_any A1 7 c1 _ b3 (([IntKind.wrap .u8 k]) ++ (digL p 6)) e 6 hr1 (by omega) (by omega) (by omega)) ?_
  rintro _ w7 ⟨A2, c2, rfl, hr2, hc4⟩
  have hzhc4 := StepT.size hc4
  have hc4S : Step (fun k => b3 ≤ k ∧ (k < b1 ∨ b1 < k) ∧ (k < b2 ∨ b2 < k)) _ _ := Step.mono hc4 (fun i hi => ⟨hi.1, Nat.lt_or_gt_of_ne (hi.2.ne ho1 (by decide)), Nat.lt_or_gt_of_ne (hi.2.ne ho2 (by decide))⟩)
  replace hS := Step.transNew hS hc4S (fun i hi hG => by (try simp only at hG); omega)
  replace ho1 := ho1.step hc4S (by (try simp only); omega)
  replace ho2 := ho2.step hc4S (by (try simp only); omega)
  replace hbase1 := Nat.le_trans hbase1 (hc4S).size
  replace hr2 : Rw w7 b3 5 A2 13 c2 (iL .u8 (([IntKind.wrap .u8 k]) ++ (digL p 6) ++ (digL e 6))) := Rw.cast hr2 (by omega) (by first | rfl | simp only [List.nil_append, List.append_assoc])
  refine VL_pure 6 [2, 18, 19, 5] [(2, .pointer (some ⟨b2, 0, none⟩)), (18, .agg #[.pointer (some ⟨b1, 1, none⟩), .pointer (some ⟨b1, 2, none⟩), .pointer (some ⟨b1, 3, none⟩), .pointer (some ⟨b1, 4, none⟩), .pointer (some ⟨b1, 5, none⟩)]), (19, .int .i64 1), (5, .slice A2 13 c2)] (by kernel_rfl) rfl ?_
  refine VL_end (by kernel_rfl) ?_
  refine VQ_block_normal ?_
  refine VQ_next ?_
  refine VC_region ?_
  refine VL_pure 2 [2, 18, 19, 5] [(2, .pointer (some ⟨b2, 0, none⟩)), (18, .agg #[.pointer (some ⟨b1, 1, none⟩), .pointer (some ⟨b1, 2, none⟩), .pointer (some ⟨b1, 3, none⟩), .pointer (some ⟨b1, 4, none⟩), .pointer (some ⟨b1, 5, none⟩)]), (19, .int .i64 2), (5, .slice A2 13 c2)] (by kernel_rfl) rfl ?_
  refine VL_end (by kernel_rfl) ?_
  refine VQ_round ?_
  refine VCL_round ?_
  refine VC_seq ?_
  refine VC_region ?_
  refine VL_pure 1 [2, 18, 19, 5, 20] [(2, .pointer (some ⟨b2, 0, none⟩)), (18, .agg #[.pointer (some ⟨b1, 1, none⟩), .pointer (some ⟨b1, 2, none⟩), .pointer (some ⟨b1, 3, none⟩), .pointer (some ⟨b1, 4, none⟩), .pointer (some ⟨b1, 5, none⟩)]), (19, .int .i64 2), (5, .slice A2 13 c2), (20, .bool true)] (by kernel_rfl) rfl ?_
  refine VL_end (by kernel_rfl) ?_
  refine VQ_next ?_
  refine VC_seq ?_
  refine VC_true (by kernel_rfl) ?_
  refine VC_skip ?_
  refine VQ_next ?_
  refine VC_seq ?_
  refine VC_block ?_
  refine VC_seq ?_
  refine VC_region ?_
  refine VL_pure 2 [2, 18, 19, 5, 7] [(2, .pointer (some ⟨b2, 0, none⟩)), (18, .agg #[.pointer (some ⟨b1, 1, none⟩), .pointer (some ⟨b1, 2, none⟩), .pointer (some ⟨b1, 3, none⟩), .pointer (some ⟨b1, 4, none⟩), .pointer (some ⟨b1, 5, none⟩)]), (19, .int .i64 2), (5, .slice A2 13 c2), (7, .pointer (some ⟨b1, 3, none⟩))] (by kernel_rfl) rfl ?_
  refine VL_end (by kernel_rfl) ?_
  refine VQ_next ?_
  refine VC_region ?_
  refine VL_pure 3 [2, 18, 19, 22, 24] [(2, .pointer (some ⟨b2, 0, none⟩)), (18, .agg #[.pointer (some ⟨b1, 1, none⟩), .pointer (some ⟨b1, 2, none⟩), .pointer (some ⟨b1, 3, none⟩), .pointer (some ⟨b1, 4, none⟩), .pointer (some ⟨b1, 5, none⟩)]), (19, .int .i64 2), (22, .slice A2 13 c2), (24, .pointer (some ⟨b1, 3, none⟩))] (by kernel_rfl) rfl ?_
  refine VL_load (d := 25) (t := 3) (a := ⟨b1, 3, none⟩) (v := .int .i64 ((h : Nat) : Int)) (by kernel_rfl) (by kernel_rfl) (Loads.own1 ho1 (by kernel_rfl) (by rfl)) ?_
  have hzs8 := hS.size
  have hzl13 := ho1.lt
  have hzl14 := ho2.lt
  refine VL_call (d := 26) (f := 32) (by kernel_rfl) (by kernel_rfl) (by kernel_rfl) Try.call32 (put_any A2 13 c2 _ b3 (([IntKind.wrap .u8 k]) ++ (digL p 6) ++ (digL e 6)) h 6 hr2 (by omega) (by omega) (by omega)) ?_
  rintro _ w8 ⟨A3, c3, rfl, hr3, hc5⟩
  have hzhc5 := StepT.size hc5
  have hc5S : Step (fun k => b3 ≤ k ∧ (k < b1 ∨ b1 < k) ∧ (k < b2 ∨ b2 < k)) _ _ := Step.mono hc5 (fun i hi => ⟨hi.1, Nat.lt_or_gt_of_ne (hi.2.ne ho1 (by decide)), Nat.lt_or_gt_of_ne (hi.2.ne ho2 (by decide))⟩)
  replace hS := Step.transNew hS hc5S (fun i hi hG => by (try simp only at hG); omega)
  replace ho1 := ho1.step hc5S (by (try simp only); omega)
  replace ho2 := ho2.step hc5S (by (try simp only); omega)
  replace hbase1 := Nat.le_trans hbase1 (hc5S).size
  replace hr3 : Rw w8 b3 5 A3 19 c3 (iL .u8 (([IntKind.wrap .u8 k]) ++ (digL p 6) ++ (digL e 6) ++ (digL h 6))) := Rw.cast hr3 (by omega) (by first | rfl | simp only [List.nil_append, List.append_assoc])
  refine VL_pure 6 [2, 18, 19, 5] [(2, .pointer (some ⟨b2, 0, none⟩)), (18, .agg #[.pointer (some ⟨b1, 1, none⟩), .pointer (some ⟨b1, 2, none⟩), .pointer (some ⟨b1, 3, none⟩), .pointer (some ⟨b1, 4, none⟩), .pointer (some ⟨b1, 5, none⟩)]), (19, .int .i64 2), (5, .slice A3 19 c3)] (by kernel_rfl) rfl ?_
  refine VL_end (by kernel_rfl) ?_
  refine VQ_block_normal ?_
  refine VQ_next ?_
  refine VC_region ?_
  refine VL_pure 2 [2, 18, 19, 5] [(2, .pointer (some ⟨b2, 0, none⟩)), (18, .agg #[.pointer (some ⟨b1, 1, none⟩), .pointer (some ⟨b1, 2, none⟩), .pointer (some ⟨b1, 3, none⟩), .pointer (some ⟨b1, 4, none⟩), .pointer (some ⟨b1, 5, none⟩)]), (19, .int .i64 3), (5, .slice A3 19 c3)] (by kernel_rfl) rfl ?_
  refine VL_end (by kernel_rfl) ?_
  refine VQ_round ?_
  refine VCL_round ?_
  refine VC_seq ?_
  refine VC_region ?_
  refine VL_pure 1 [2, 18, 19, 5, 20] [(2, .pointer (some ⟨b2, 0, none⟩)), (18, .agg #[.pointer (some ⟨b1, 1, none⟩), .pointer (some ⟨b1, 2, none⟩), .pointer (some ⟨b1, 3, none⟩), .pointer (some ⟨b1, 4, none⟩), .pointer (some ⟨b1, 5, none⟩)]), (19, .int .i64 3), (5, .slice A3 19 c3), (20, .bool true)] (by kernel_rfl) rfl ?_
  refine VL_end (by kernel_rfl) ?_
  refine VQ_next ?_
  refine VC_seq ?_
  refine VC_true (by kernel_rfl) ?_
  refine VC_skip ?_
  refine VQ_next ?_
  refine VC_seq ?_
  refine VC_block ?_
  refine VC_seq ?_
  refine VC_region ?_
  refine VL_pure 2 [2, 18, 19, 5, 7] [(2, .pointer (some ⟨b2, 0, none⟩)), (18, .agg #[.pointer (some ⟨b1, 1, none⟩), .pointer (some ⟨b1, 2, none⟩), .pointer (some ⟨b1, 3, none⟩), .pointer (some ⟨b1, 4, none⟩), .pointer (some ⟨b1, 5, none⟩)]), (19, .int .i64 3), (5, .slice A3 19 c3), (7, .pointer (some ⟨b1, 4, none⟩))] (by kernel_rfl) rfl ?_
  refine VL_end (by kernel_rfl) ?_
  refine VQ_next ?_
  refine VC_region ?_
  refine VL_pure 3 [2, 18, 19, 22, 24] [(2, .pointer (some ⟨b2, 0, none⟩)), (18, .agg #[.pointer (some ⟨b1, 1, none⟩), .pointer (some ⟨b1, 2, none⟩), .pointer (some ⟨b1, 3, none⟩), .pointer (some ⟨b1, 4, none⟩), .pointer (some ⟨b1, 5, none⟩)]), (19, .int .i64 3), (22, .slice A3 19 c3), (24, .pointer (some ⟨b1, 4, none⟩))] (by kernel_rfl) rfl ?_
  refine VL_load (d := 25) (t := 3) (a := ⟨b1, 4, none⟩) (v := .int .i64 ((b : Nat) : Int)) (by kernel_rfl) (by kernel_rfl) (Loads.own1 ho1 (by kernel_rfl) (by rfl)) ?_
  have hzs9 := hS.size
  have hzl15 := ho1.lt
  have hzl16 := ho2.lt
  refine VL_call (d := 26) (f := 32) (by kernel_rfl) (by kernel_rfl) (by kernel_rfl) Try.call32 (put_any A3 19 c3 _ b3 (([IntKind.wrap .u8 k]) ++ (digL p 6) ++ (digL e 6) ++ (digL h 6)) b 6 hr3 (by omega) (by omega) (by omega)) ?_
  rintro _ w9 ⟨A4, c4, rfl, hr4, hc6⟩
  have hzhc6 := StepT.size hc6
  have hc6S : Step (fun k => b3 ≤ k ∧ (k < b1 ∨ b1 < k) ∧ (k < b2 ∨ b2 < k)) _ _ := Step.mono hc6 (fun i hi => ⟨hi.1, Nat.lt_or_gt_of_ne (hi.2.ne ho1 (by decide)), Nat.lt_or_gt_of_ne (hi.2.ne ho2 (by decide))⟩)
  replace hS := Step.transNew hS hc6S (fun i hi hG => by (try simp only at hG); omega)
  replace ho1 := ho1.step hc6S (by (try simp only); omega)
  replace ho2 := ho2.step hc6S (by (try simp only); omega)
  replace hbase1 := Nat.le_trans hbase1 (hc6S).size
  replace hr4 : Rw w9 b3 5 A4 25 c4 (iL .u8 (([IntKind.wrap .u8 k]) ++ (digL p 6) ++ (digL e 6) ++ (digL h 6) ++ (digL b 6))) := Rw.cast hr4 (by omega) (by first | rfl | simp only [List.nil_append, List.append_assoc])
  refine VL_pure 6 [2, 18, 19, 5] [(2, .pointer (some ⟨b2, 0, none⟩)), (18, .agg #[.pointer (some ⟨b1, 1, none⟩), .pointer (some ⟨b1, 2, none⟩), .pointer (some ⟨b1, 3, none⟩), .pointer (some ⟨b1, 4, none⟩), .pointer (some ⟨b1, 5, none⟩)]), (19, .int .i64 3), (5, .slice A4 25 c4)] (by kernel_rfl) rfl ?_
  refine VL_end (by kernel_rfl) ?_
  refine VQ_block_normal ?_
  refine VQ_next ?_
  refine VC_region ?_
  refine VL_pure 2 [2, 18, 19, 5] [(2, .pointer (some ⟨b2, 0, none⟩)), (18, .agg #[.pointer (some ⟨b1, 1, none⟩), .pointer (some ⟨b1, 2, none⟩), .pointer (some ⟨b1, 3, none⟩), .pointer (some ⟨b1, 4, none⟩), .pointer (some ⟨b1, 5, none⟩)]), (19, .int .i64 4), (5, .slice A4 25 c4)] (by kernel_rfl) rfl ?_
  refine VL_end (by kernel_rfl) ?_
  refine VQ_round ?_
  refine VCL_round ?_
  refine VC_seq ?_
  refine VC_region ?_
  refine VL_pure 1 [2, 18, 19, 5, 20] [(2, .pointer (some ⟨b2, 0, none⟩)), (18, .agg #[.pointer (some ⟨b1, 1, none⟩), .pointer (some ⟨b1, 2, none⟩), .pointer (some ⟨b1, 3, none⟩), .pointer (some ⟨b1, 4, none⟩), .pointer (some ⟨b1, 5, none⟩)]), (19, .int .i64 4), (5, .slice A4 25 c4), (20, .bool true)] (by kernel_rfl) rfl ?_
  refine VL_end (by kernel_rfl) ?_
  refine VQ_next ?_
  refine VC_seq ?_
  refine VC_true (by kernel_rfl) ?_
  refine VC_skip ?_
  refine VQ_next ?_
  refine VC_seq ?_
  refine VC_block ?_
  refine VC_seq ?_
  refine VC_region ?_
  refine VL_pure 2 [2, 18, 19, 5, 7] [(2, .pointer (some ⟨b2, 0, none⟩)), (18, .agg #[.pointer (some ⟨b1, 1, none⟩), .pointer (some ⟨b1, 2, none⟩), .pointer (some ⟨b1, 3, none⟩), .pointer (some ⟨b1, 4, none⟩), .pointer (some ⟨b1, 5, none⟩)]), (19, .int .i64 4), (5, .slice A4 25 c4), (7, .pointer (some ⟨b1, 5, none⟩))] (by kernel_rfl) rfl ?_
  refine VL_end (by kernel_rfl) ?_
  refine VQ_next ?_
  refine VC_region ?_
  refine VL_pure 3 [2, 18, 19, 22, 24] [(2, .pointer (some ⟨b2, 0, none⟩)), (18, .agg #[.pointer (some ⟨b1, 1, none⟩), .pointer (some ⟨b1, 2, none⟩), .pointer (some ⟨b1, 3, none⟩), .pointer (some ⟨b1, 4, none⟩), .pointer (some ⟨b1, 5, none⟩)]), (19, .int .i64 4), (22, .slice A4 25 c4), (24, .pointer (some ⟨b1, 5, none⟩))] (by kernel_rfl) rfl ?_
  refine VL_load (d := 25) (t := 3) (a := ⟨b1, 5, none⟩) (v := .int .i64 ((t : Nat) : Int)) (by kernel_rfl) (by kernel_rfl) (Loads.own1 ho1 (by kernel_rfl) (by rfl)) ?_
  have hzs10 := hS.size
  have hzl17 := ho1.lt
  have hzl18 := ho2.lt
  refine VL_call (d := 26) (f := 32) (by kernel_rfl) (by kernel_rfl) (by kernel_rfl) Try.call32 (put_any A4 25 c4 _ b3 (([IntKind.wrap .u8 k]) ++ (digL p 6) ++ (digL e 6) ++ (digL h 6) ++ (digL b 6)) t 6 hr4 (by omega) (by omega) (by omega)) ?_
  rintro _ w10 ⟨A5, c5, rfl, hr5, hc7⟩
  have hzhc7 := StepT.size hc7
  have hc7S : Step (fun k => b3 ≤ k ∧ (k < b1 ∨ b1 < k) ∧ (k < b2 ∨ b2 < k)) _ _ := Step.mono hc7 (fun i hi => ⟨hi.1, Nat.lt_or_gt_of_ne (hi.2.ne ho1 (by decide)), Nat.lt_or_gt_of_ne (hi.2.ne ho2 (by decide))⟩)
  replace hS := Step.transNew hS hc7S (fun i hi hG => by (try simp only at hG); omega)
  replace ho1 := ho1.step hc7S (by (try simp only); omega)
  replace ho2 := ho2.step hc7S (by (try simp only); omega)
  replace hbase1 := Nat.le_trans hbase1 (hc7S).size
  replace hr5 : Rw w10 b3 5 A5 31 c5 (iL .u8 (([IntKind.wrap .u8 k]) ++ (digL p 6) ++ (digL e 6) ++ (digL h 6) ++ (digL b 6) ++ (digL t 6))) := Rw.cast hr5 (by omega) (by first | rfl | simp only [List.nil_append, List.append_assoc])
  refine VL_pure 6 [2, 18, 19, 5] [(2, .pointer (some ⟨b2, 0, none⟩)), (18, .agg #[.pointer (some ⟨b1, 1, none⟩), .pointer (some ⟨b1, 2, none⟩), .pointer (some ⟨b1, 3, none⟩), .pointer (some ⟨b1, 4, none⟩), .pointer (some ⟨b1, 5, none⟩)]), (19, .int .i64 4), (5, .slice A5 31 c5)] (by kernel_rfl) rfl ?_
  refine VL_end (by kernel_rfl) ?_
  refine VQ_block_normal ?_
  refine VQ_next ?_
  refine VC_region ?_
  refine VL_pure 2 [2, 18, 19, 5] [(2, .pointer (some ⟨b2, 0, none⟩)), (18, .agg #[.pointer (some ⟨b1, 1, none⟩), .pointer (some ⟨b1, 2, none⟩), .pointer (some ⟨b1, 3, none⟩), .pointer (some ⟨b1, 4, none⟩), .pointer (some ⟨b1, 5, none⟩)]), (19, .int .i64 5), (5, .slice A5 31 c5)] (by kernel_rfl) rfl ?_
  refine VL_end (by kernel_rfl) ?_
  refine VQ_round ?_
  refine VCL_round ?_
  refine VC_seq ?_
  refine VC_region ?_
  refine VL_pure 1 [2, 18, 19, 5, 20] [(2, .pointer (some ⟨b2, 0, none⟩)), (18, .agg #[.pointer (some ⟨b1, 1, none⟩), .pointer (some ⟨b1, 2, none⟩), .pointer (some ⟨b1, 3, none⟩), .pointer (some ⟨b1, 4, none⟩), .pointer (some ⟨b1, 5, none⟩)]), (19, .int .i64 5), (5, .slice A5 31 c5), (20, .bool false)] (by kernel_rfl) rfl ?_
  refine VL_end (by kernel_rfl) ?_
  refine VQ_next ?_
  refine VC_seq ?_
  refine VC_false (by kernel_rfl) ?_
  refine VC_exit ?_
  refine VQ_then_exit ?_
  refine VQ_then_exit ?_
  refine VQ_block_hit ?_
  refine VQ_next ?_
  refine VC_seq ?_
  refine VC_region ?_
  refine VL_pure 2 [2, 29] [(2, .pointer (some ⟨b2, 0, none⟩)), (29, .agg #[.int .u8 89, .slice A5 31 c5])] (by kernel_rfl) rfl ?_
  refine VL_store (b := b2) (o := 0) (vs := [.int .u8 89, .slice A5 31 c5]) (by kernel_rfl) (by kernel_rfl) ho2 (Nat.le_of_ble_eq_true (by kernel_rfl)) ?_
  intro w11 hw1
  replace hS := Step.transNew hS hw1.step (fun _ _ _ => by omega)
  replace ho1 := ho1.step hw1.step (show ¬ b1 = b2 by omega)
  replace hbase1 := Nat.le_trans hbase1 (hw1.step).size
  replace hr5 := hr5.keepT ho2 (by decide) hw1.step
  have ho4 : Own w11 b2 #[.int .u8 89, .slice A5 31 c5] 40 := Own.cast hw1.own (by kernel_rfl)
  have hzhw1 := hw1.same
  refine VL_pure 4 [2, 3] [(2, .pointer (some ⟨b2, 0, none⟩)), (3, .int .i64 0)] (by kernel_rfl) rfl ?_
  refine VL_end (by kernel_rfl) ?_
  refine VQ_next ?_
  refine VC_ret ?_
  refine VQ_retC1T1 (T := 40) (.agg #[.int .u8 89, .slice A5 31 c5]) (.int .i64 0) (.inr rfl) rfl rfl rfl (Loads.ownL ho4 (n := 2) (by kernel_rfl) (by kernel_rfl) (by kernel_rfl)) ?_
  exact ⟨_, _, rfl, Rw.low (Rw.cast hr5 (by omega) (by simp [trafL])) (by omega), hS⟩

set_option maxRecDepth 100000 in
set_option maxHeartbeats 4000000 in
theorem traffic_no (k p e h b t : Int) (w : World) (hr : rightC k p e h b t ≠ 0) :
    CV Try.prog 18 #[.agg #[.int .i64 k, .int .i64 p, .int .i64 e, .int .i64 h, .int .i64 b, .int .i64 t]] w (fun x w1 => x = .tuple #[.agg #[.int .u8 0, .slice none 0 0], .int .i64 (rightC k p e h b t)] ∧ Step No w w1) := by
  have hS : Step No w w := Step.refl _ _
  refine CV_enter Try.f18 _ 30 [(0, .agg #[.int .i64 k, .int .i64 p, .int .i64 e, .int .i64 h, .int .i64 b, .int .i64 t])] Try.func18 rfl rfl (by kernel_rfl) rfl ?_
  refine VC_seq ?_
  refine VC_region ?_
  have hzs1 := hS.size
  refine VL_box (d := 1) (t := 45) (c := #[.int .i64 k, .int .i64 p, .int .i64 e, .int .i64 h, .int .i64 b, .int .i64 t]) (by kernel_rfl) (by kernel_rfl) ?_
  intro b1 w1 hn1
  replace hS := Step.trans hS (hn1.step No)
  have ho1 := hn1.own
  have hzhn1 := hn1.size
  have hqhn1 := hn1.eqb
  have hzs2 := hS.size
  have hzl1 := ho1.lt
  refine VL_box (d := 2) (t := 40) (c := #[.int .u8 0, .slice none 0 0]) (by kernel_rfl) (by kernel_rfl) ?_
  intro b2 w2 hn2
  replace hS := Step.trans hS (hn2.step No)
  replace ho1 := ho1.no (hn2.step No)
  have ho2 := hn2.own
  have hzhn2 := hn2.size
  have hqhn2 := hn2.eqb
  refine VL_pure 3 [1, 2] [(1, .pointer (some ⟨b1, 0, none⟩)), (2, .pointer (some ⟨b2, 0, none⟩))] (by kernel_rfl) rfl ?_
  refine VL_end (by kernel_rfl) ?_
  refine VQ_next ?_
  refine VC_seq ?_
  refine VC_seq ?_
  refine VC_region ?_
  refine VL_load (d := 8) (t := 45) (a := ⟨b1, 0, none⟩) (v := .agg #[.int .i64 k, .int .i64 p, .int .i64 e, .int .i64 h, .int .i64 b, .int .i64 t]) (by kernel_rfl) (by kernel_rfl) (Loads.ownL ho1 (n := 6) (by kernel_rfl) (by kernel_rfl) (by kernel_rfl)) ?_
  have hzs3 := hS.size
  have hzl2 := ho1.lt
  have hzl3 := ho2.lt
  refine VL_call (d := 9) (f := 37) (args := #[.agg #[.int .i64 k, .int .i64 p, .int .i64 e, .int .i64 h, .int .i64 b, .int .i64 t]]) (by kernel_rfl) (by kernel_rfl) (by kernel_rfl) Try.call37 (right_any k p e h b t _) ?_
  rintro _ w3 ⟨rfl, hc1⟩
  replace hS := Step.trans hS hc1
  replace ho1 := ho1.no hc1
  replace ho2 := ho2.no hc1
  refine VL_pure 3 [1, 2, 4] [(1, .pointer (some ⟨b1, 0, none⟩)), (2, .pointer (some ⟨b2, 0, none⟩)), (4, .int .i64 (rightC k p e h b t))] (by kernel_rfl) rfl ?_
  refine VL_end (by kernel_rfl) ?_
  refine VQ_next ?_
  refine VC_seq ?_
  refine VC_region ?_
  refine VL_pure 2 [1, 2, 4, 11] [(1, .pointer (some ⟨b1, 0, none⟩)), (2, .pointer (some ⟨b2, 0, none⟩)), (4, .int .i64 (rightC k p e h b t)), (11, .bool ((rightC k p e h b t) != 0))] (by kernel_rfl) rfl ?_
  refine VL_end (by kernel_rfl) ?_
  refine VQ_next ?_
  refine VC_is (b := (rightC k p e h b t) != 0) true (by kernel_rfl) (by simpa using hr) ?_
  refine VC_ite_true ?_
  refine VC_seq ?_
  refine VC_region ?_
  refine VL_pure 2 [2, 12, 13] [(2, .pointer (some ⟨b2, 0, none⟩)), (12, .agg #[.int .u8 0, .slice none 0 0]), (13, .int .i64 (rightC k p e h b t))] (by kernel_rfl) rfl ?_
  refine VL_store (b := b2) (o := 0) (vs := [.int .u8 0, .slice none 0 0]) (by kernel_rfl) (by kernel_rfl) ho2 (Nat.le_of_ble_eq_true (by kernel_rfl)) ?_
  intro w4 hw1
  replace hS := Step.transNew hS hw1.step (fun _ _ _ => by omega)
  replace ho1 := ho1.step hw1.step (show ¬ b1 = b2 by omega)
  have ho3 : Own w4 b2 #[.int .u8 0, .slice none 0 0] 40 := Own.cast hw1.own (by kernel_rfl)
  have hzhw1 := hw1.same
  refine VL_pure 4 [2, 3] [(2, .pointer (some ⟨b2, 0, none⟩)), (3, .int .i64 (rightC k p e h b t))] (by kernel_rfl) rfl ?_
  refine VL_end (by kernel_rfl) ?_
  refine VQ_next ?_
  refine VC_ret ?_
  refine VQ_then_ret ?_
  refine VQ_retC1T1 (T := 40) (.agg #[.int .u8 0, .slice none 0 0]) (.int .i64 (rightC k p e h b t)) (.inr rfl) rfl rfl rfl (Loads.ownL ho3 (n := 2) (by kernel_rfl) (by kernel_rfl) (by kernel_rfl)) ?_
  exact ⟨rfl, hS⟩

set_option maxRecDepth 100000 in
set_option maxHeartbeats 4000000 in
theorem rtraffic_yes (k : Int) (p e h b t : Nat) (w : World) (hr : rightC k p e h b t = 0) :
    CV Try.prog 20 #[.agg #[.int .i64 k, .int .i64 ((p : Nat) : Int), .int .i64 ((e : Nat) : Int), .int .i64 ((h : Nat) : Int), .int .i64 ((b : Nat) : Int), .int .i64 ((t : Nat) : Int)]] w (fun x w1 => ∃ A' c', x = .tuple #[.slice A' 31 c', .int .i64 0] ∧ Rw w1 w.heap.size 5 A' 31 c' (iL .u8 (trafL k p e h b t)) ∧ Step No w w1) := by
  have hS : Step No w w := Step.refl _ _
  have hrn := right_nat hr
  refine CV_enter Try.f20 _ 37 [(0, .agg #[.int .i64 k, .int .i64 ((p : Nat) : Int), .int .i64 ((e : Nat) : Int), .int .i64 ((h : Nat) : Int), .int .i64 ((b : Nat) : Int), .int .i64 ((t : Nat) : Int)])] Try.func20 rfl rfl (by kernel_rfl) rfl ?_
  refine VC_seq ?_
  refine VC_region ?_
  have hzs1 := hS.size
  refine VL_box (d := 1) (t := 45) (c := #[.int .i64 k, .int .i64 ((p : Nat) : Int), .int .i64 ((e : Nat) : Int), .int .i64 ((h : Nat) : Int), .int .i64 ((b : Nat) : Int), .int .i64 ((t : Nat) : Int)]) (by kernel_rfl) (by kernel_rfl) ?_
  intro b1 w1 hn1
  replace hS := Step.trans hS (hn1.step No)
  have ho1 := hn1.own
  have hzhn1 := hn1.size
  have hqhn1 := hn1.eqb
  refine VL_pure 3 [1] [(1, .pointer (some ⟨b1, 0, none⟩))] (by kernel_rfl) rfl ?_
  refine VL_end (by kernel_rfl) ?_
  refine VQ_next ?_
  refine VC_seq ?_
  refine VC_region ?_
  refine VL_load (d := 6) (t := 45) (a := ⟨b1, 0, none⟩) (v := .agg #[.int .i64 k, .int .i64 ((p : Nat) : Int), .int .i64 ((e : Nat) : Int), .int .i64 ((h : Nat) : Int), .int .i64 ((b : Nat) : Int), .int .i64 ((t : Nat) : Int)]) (by kernel_rfl) (by kernel_rfl) (Loads.ownL ho1 (n := 6) (by kernel_rfl) (by kernel_rfl) (by kernel_rfl)) ?_
  have hzs2 := hS.size
  have hzl1 := ho1.lt
  refine VL_call (d := 7) (f := 29) (args := #[.agg #[.int .i64 k, .int .i64 ((p : Nat) : Int), .int .i64 ((e : Nat) : Int), .int .i64 ((h : Nat) : Int), .int .i64 ((b : Nat) : Int), .int .i64 ((t : Nat) : Int)]]) (by kernel_rfl) (by kernel_rfl) (by kernel_rfl) Try.call29 (rright_any k ((p : Nat) : Int) ((e : Nat) : Int) ((h : Nat) : Int) ((b : Nat) : Int) ((t : Nat) : Int) _) ?_
  rintro _ w2 ⟨rfl, hc1⟩
  replace hS := Step.trans hS hc1
  replace ho1 := ho1.no hc1
  refine VL_pure 3 [1, 4] [(1, .pointer (some ⟨b1, 0, none⟩)), (4, .int .i64 (rightC k ((p : Nat) : Int) ((e : Nat) : Int) ((h : Nat) : Int) ((b : Nat) : Int) ((t : Nat) : Int)))] (by kernel_rfl) rfl ?_
  refine VL_end (by kernel_rfl) ?_
  refine VQ_next ?_
  refine VC_seq ?_
  refine VC_seq ?_
  refine VC_region ?_
  refine VL_pure 2 [1, 4, 9] [(1, .pointer (some ⟨b1, 0, none⟩)), (4, .int .i64 (rightC k ((p : Nat) : Int) ((e : Nat) : Int) ((h : Nat) : Int) ((b : Nat) : Int) ((t : Nat) : Int))), (9, .bool ((rightC k ((p : Nat) : Int) ((e : Nat) : Int) ((h : Nat) : Int) ((b : Nat) : Int) ((t : Nat) : Int)) != 0))] (by kernel_rfl) rfl ?_
  refine VL_end (by kernel_rfl) ?_
  refine VQ_next ?_
  refine VC_is (b := (rightC k ((p : Nat) : Int) ((e : Nat) : Int) ((h : Nat) : Int) ((b : Nat) : Int) ((t : Nat) : Int)) != 0) false (by kernel_rfl) (by rw [hr]; rfl) ?_
  refine VC_ite_false ?_
  refine VC_skip ?_
  refine VQ_next ?_
  refine VC_seq ?_
  obtain ⟨base1, hbase1E⟩ : ∃ x, x = w2.heap.size := ⟨_, rfl⟩
  have hbase1 : base1 ≤ w2.heap.size := Nat.le_of_eq hbase1E
  have hzs3 := hS.size
  have hzl2 := ho1.lt
  have hzk1 := hbase1
  refine VC_ex [[], [0], [0, 1], [0, 1, 2], [], [4], [4, 5], [0, 1, 2, 3, 4, 5, 6], [0, 1, 2, 3, 4, 5, 6, 7]] 7 [.pointer (some ⟨b1, 0, none⟩), .int .i64 k, .int .u8 (IntKind.wrap .u8 k), undef, .pointer (some ⟨b1, 1, none⟩), .int .i64 ((p : Nat) : Int), undef] [0, 2, 4] [1, 5] [3, 6] (fun k9 v9 x9 => (k9 = 3 → ∃ A9 c9, v9 = .slice A9 1 c9 ∧ Rw x9 base1 5 A9 1 c9 (iL .u8 ([IntKind.wrap .u8 k]))) ∧ (k9 = 6 → ∃ A9 c9, v9 = .slice A9 6 c9 ∧ Rw x9 base1 5 A9 6 c9 (iL .u8 (digL p 6)))) (by kernel_rfl) (by kernel_rfl) (by kernel_rfl) (fun _ _ _ _ h9 hs9 => ⟨fun e9 => (by obtain ⟨A9, c9, g1, g2⟩ := h9.1 e9; exact ⟨A9, c9, g1, g2.no hs9⟩), fun e9 => (by obtain ⟨A9, c9, g1, g2⟩ := h9.2 e9; exact ⟨A9, c9, g1, g2.no hs9⟩)⟩) (by kernel_rfl) (by kernel_rfl) (by kernel_rfl) (by kernel_rfl) ?_ ?_ ?_
  · intro w3 hs1
    replace hS := Step.trans hS hs1
    replace ho1 := ho1.no hs1
    replace hbase1 := Nat.le_trans hbase1 (hs1).size
    exact ⟨Det1_load (d := 12) (t := 3) (a := ⟨b1, 0, none⟩) (by kernel_rfl) (by kernel_rfl) (Loads.own1 ho1 (by kernel_rfl) (by rfl)), Det1_load (d := 16) (t := 3) (a := ⟨b1, 1, none⟩) (by kernel_rfl) (by kernel_rfl) (Loads.own1 ho1 (by kernel_rfl) (by rfl)), trivial⟩
  · intro w3 hs1
    have hzx := hs1.size
    replace hS := Step.trans hS hs1
    replace ho1 := ho1.no hs1
    replace hbase1 := Nat.le_trans hbase1 (hs1).size
    exact ⟨Ex1_bs (d := 14) (e := 5) (c := #[.int .u8 (IntKind.wrap .u8 k)]) (len := 1) (by kernel_rfl) (by kernel_rfl) (fun b w9 hn => ⟨fun _ => ⟨_, _, rfl, Rw.of_new (base := base1) hn.own (by have hq := hn.eqb; omega) (Nat.le_of_ble_eq_true (by kernel_rfl))⟩, fun e => absurd e (by decide)⟩), Ex1_call (d := 17) (f := 40) (by kernel_rfl) (by kernel_rfl) (by kernel_rfl) Try.call40 (rbytes_any p 6 _ (by omega)) (fun v9 w9 ⟨A9, c9, g1, g2, g3⟩ => ⟨g3, ⟨fun e => absurd e (by decide), fun _ => ⟨A9, c9, g1, g2.low (by omega)⟩⟩⟩), trivial⟩
  intro w4 us1 hs2 hB1
  replace hS := Step.trans hS hs2
  replace ho1 := ho1.no hs2
  replace hbase1 := Nat.le_trans hbase1 (hs2).size
  obtain ⟨⟨hB3, -⟩, ⟨-, hB6⟩, -⟩ := hB1
  obtain ⟨A1, c1, he1, hr1⟩ := hB3 rfl
  obtain ⟨A2, c2, he2, hr2⟩ := hB6 rfl
  refine VL_keep [1, 14, 17] [(1, .pointer (some ⟨b1, 0, none⟩)), (14, us1 3), (17, us1 6)] (by kernel_rfl) ?_
  rw [he1]
  rw [he2]
  have hzs4 := hS.size
  have hzl3 := ho1.lt
  have hzk2 := hbase1
  refine VL_appendT (d := 18) (e := 5) (A := A1) (m := 1) (c := c1) (A2 := A2) (m2 := 6) (c2 := c2) (bytes := 1) (by kernel_rfl) (by kernel_rfl) (by kernel_rfl) base1 w4.heap.size (iL .u8 ([IntKind.wrap .u8 k])) (iL .u8 (digL p 6)) hr1 (by rw [iL_length]; first | done | exact (Rw.lenI hr2)) (Sl.mono (Rw.slI hr2) (by first | exact Nat.le_refl _ | omega)) iL_one 7 (by omega) (by simp only [maxLen]; omega) (by omega) (by omega) ?_
  intro A3 c3 w5 hr3 hg1
  replace hr3 : Rw w5 base1 5 A3 7 c3 (iL .u8 (([IntKind.wrap .u8 k]) ++ (digL p 6))) := Rw.cast hr3 rfl (by simp only [iL, List.map_append, List.map_cons, List.map_nil, List.append_assoc, List.cons_append, List.nil_append, List.append_nil])
  have hzhg1 := hg1.size
  have hg1S : Step (fun k => base1 ≤ k ∧ (k < b1 ∨ b1 < k)) _ _ := Step.mono hg1 (fun i hi => ⟨hi.1, Nat.lt_or_gt_of_ne (hi.2.ne ho1 (by decide))⟩)
  replace hS := Step.transNew hS hg1S (fun i hi hG => by (try simp only at hG); omega)
  replace ho1 := ho1.step hg1S (by (try simp only); omega)
  replace hbase1 := Nat.le_trans hbase1 (hg1S).size
  refine VL_pure 9 [1, 5] [(1, .pointer (some ⟨b1, 0, none⟩)), (5, .slice A3 7 c3)] (by kernel_rfl) rfl ?_
  refine VL_end (by kernel_rfl) ?_
  refine VQ_next ?_
  refine VC_seq ?_
  have hs3 := drew_step w5
  have hs3z : w5.heap.size = w5.drew.heap.size := rfl
  refine VC_text [[], [], [1], [1, 2], [0, 1, 2, 3], [], [5], [0, 1, 2, 3, 4, 5, 6], [0, 1, 2, 3, 4, 5, 6, 7], [0, 1, 2, 3, 4, 5, 6, 7, 8]] 7 (fun x y => Step (fun k => (base1 ≤ k ∧ (k < b1 ∨ b1 < k)) ∨ w5.heap.size ≤ k) x y) [3, 4] [0, 1, 2, 5, 6, 3, 4] (by kernel_rfl) (by kernel_rfl) (by kernel_rfl) (by kernel_rfl) (fun x => Step.refl _ x) (fun h k => Step.trans h k) Step.weak ?_
  have hzs5 := hS.size
  have hzl4 := ho1.lt
  generalize w5.drew = w6 at hs3 hs3z ⊢
  replace hS := Step.trans hS hs3
  replace ho1 := ho1.no hs3
  replace hbase1 := Nat.le_trans hbase1 (hs3).size
  replace hr3 := hr3.no hs3
  refine VT_pures 2 (kn' := [(1, .pointer (some ⟨b1, 2, none⟩)), (0, .slice A3 7 c3)]) (by kernel_rfl) ?_
  refine VT_load (d := 21) (t := 3) (a := ⟨b1, 2, none⟩) (v := .int .i64 ((e : Nat) : Int)) (by kernel_rfl) (by kernel_rfl) ?_ ?_
  · intro w7 hr4
    replace hS := Step.transNew hS hr4 (fun i hi hG => by (try simp only at hG); omega)
    replace ho1 := ho1.step hr4 (by (try simp only); omega)
    replace hbase1 := Nat.le_trans hbase1 (hr4).size
    exact (Loads.own1 ho1 (by kernel_rfl) (by rfl))
  refine VT_pures 1 (kn' := [(5, .pointer (some ⟨b1, 3, none⟩)), (2, .int .i64 ((e : Nat) : Int)), (1, .pointer (some ⟨b1, 2, none⟩)), (0, .slice A3 7 c3)]) (by kernel_rfl) ?_
  refine VT_load (d := 25) (t := 3) (a := ⟨b1, 3, none⟩) (v := .int .i64 ((h : Nat) : Int)) (by kernel_rfl) (by kernel_rfl) ?_ ?_
  · intro w8 hr5
    replace hS := Step.transNew hS hr5 (fun i hi hG => by (try simp only at hG); omega)
    replace ho1 := ho1.step hr5 (by (try simp only); omega)
    replace hbase1 := Nat.le_trans hbase1 (hr5).size
    exact (Loads.own1 ho1 (by kernel_rfl) (by rfl))
  refine VT_chain (by kernel_rfl) ?_
  intro w9 hs4
  have hzhs4 := hs4.size
  replace hS := Step.trans hS hs4
  replace ho1 := ho1.no hs4
  replace hbase1 := Nat.le_trans hbase1 (hs4).size
  replace hr3 := hr3.no hs4
  have hzs6 := hS.size
  have hzl5 := ho1.lt
  refine VTc_call (d := 22) (f := 40) (by kernel_rfl) (by kernel_rfl) (by kernel_rfl) Try.call40 (rbytes_any e 6 _ (by omega)) ?_ ?_
  · rintro _ w10 ⟨A4, c4, rfl, hr6, hc2⟩
    exact Step.mono hc2 (by intro i hi; first | exact hi.elim | ((try simp only at hi ⊢); omega))
  rintro _ w10 ⟨A4, c4, rfl, hr6, hc2⟩
  have hzhc2 := (hc2).size
  replace hS := Step.trans hS hc2
  replace ho1 := ho1.no hc2
  replace hbase1 := Nat.le_trans hbase1 (hc2).size
  replace hr3 := hr3.no hc2
  obtain ⟨base2, hbase2E⟩ : ∃ x, x = w9.heap.size := ⟨_, rfl⟩
  rw [← hbase2E] at hr6
  have hbase2 : base2 ≤ w10.heap.size := by rw [hbase2E]; exact hc2.size
  refine VT_chain (by kernel_rfl) ?_
  intro w11 hs5
  have hzhs5 := hs5.size
  replace hS := Step.trans hS hs5
  replace ho1 := ho1.no hs5
  replace hbase1 := Nat.le_trans hbase1 (hs5).size
  replace hr3 := hr3.no hs5
  replace hbase2 := Nat.le_trans hbase2 (hs5).size
  replace hr6 := hr6.no hs5
  have hzs7 := hS.size
  have hzl6 := ho1.lt
  have hzk3 := hbase1
  have hzk4 := hbase2
  refine VTc_appendT (d := 23) (e := 5) (A := A3) (mm := 7) (c := c3) (A2 := A4) (m2 := 6) (c2 := c4) (bytes := 1) (by kernel_rfl) (by kernel_rfl) (by kernel_rfl) base1 w11.heap.size (iL .u8 (([IntKind.wrap .u8 k]) ++ (digL p 6))) (iL .u8 (digL e 6)) hr3 (by rw [iL_length]; first | done | exact (Rw.lenI hr6)) (Sl.mono (Rw.slI hr6) (by first | exact Nat.le_refl _ | omega)) iL_one 13 (by omega) (by simp only [maxLen]; omega) (by omega) (by omega) ?_ ?_
  · intro w1 hs1; exact Step.mono hs1 (fun i hi => by have hi1 := hi.1; have hxb1 := hi.2.ne ho1 (by decide); (try simp only); omega)
  intro A5 c5 w12 hr7 hg2
  replace hr7 : Rw w12 base1 5 A5 13 c5 (iL .u8 (([IntKind.wrap .u8 k]) ++ (digL p 6) ++ (digL e 6))) := Rw.cast hr7 rfl (by simp only [iL, List.map_append, List.map_cons, List.map_nil, List.append_assoc, List.cons_append, List.nil_append, List.append_nil])
  have hzhg2 := hg2.size
  have hg2S : Step (fun k => base1 ≤ k ∧ (k < b1 ∨ b1 < k)) _ _ := Step.mono hg2 (fun i hi => ⟨hi.1, Nat.lt_or_gt_of_ne (hi.2.ne ho1 (by decide))⟩)
  replace hS := Step.transNew hS hg2S (fun i hi hG => by (try simp only at hG); omega)
  replace ho1 := ho1.step hg2S (by (try simp only); omega)
  replace hbase1 := Nat.le_trans hbase1 (hg2S).size
  replace hbase2 := Nat.le_trans hbase2 (hg2S).size
  refine VT_end ?_
  intro w13 hs6
  replace hS := Step.trans hS hs6
  replace ho1 := ho1.no hs6
  replace hbase1 := Nat.le_trans hbase1 (hs6).size
  replace hbase2 := Nat.le_trans hbase2 (hs6).size
  replace hr7 := hr7.no hs6
  refine VL_keep [1, 25, 23] [(1, .pointer (some ⟨b1, 0, none⟩)), (25, .int .i64 ((h : Nat) : Int)), (23, .slice A5 13 c5)] (by kernel_rfl) ?_
  have hzs8 := hS.size
  have hzl7 := ho1.lt
  refine VL_call (d := 26) (f := 40) (by kernel_rfl) (by kernel_rfl) (by kernel_rfl) Try.call40 (rbytes_any h 6 _ (by omega)) ?_
  rintro _ w14 ⟨A6, c6, rfl, hr8, hc3⟩
  replace hS := Step.trans hS hc3
  replace ho1 := ho1.no hc3
  replace hbase1 := Nat.le_trans hbase1 (hc3).size
  replace hbase2 := Nat.le_trans hbase2 (hc3).size
  replace hr7 := hr7.no hc3
  obtain ⟨base3, hbase3E⟩ : ∃ x, x = w13.heap.size := ⟨_, rfl⟩
  rw [← hbase3E] at hr8
  have hbase3 : base3 ≤ w14.heap.size := by rw [hbase3E]; exact hc3.size
  have hzs9 := hS.size
  have hzl8 := ho1.lt
  have hzk5 := hbase1
  have hzk6 := hbase2
  have hzk7 := hbase3
  refine VL_appendT (d := 27) (e := 5) (A := A5) (m := 13) (c := c5) (A2 := A6) (m2 := 6) (c2 := c6) (bytes := 1) (by kernel_rfl) (by kernel_rfl) (by kernel_rfl) base1 w14.heap.size (iL .u8 (([IntKind.wrap .u8 k]) ++ (digL p 6) ++ (digL e 6))) (iL .u8 (digL h 6)) hr7 (by rw [iL_length]; first | done | exact (Rw.lenI hr8)) (Sl.mono (Rw.slI hr8) (by first | exact Nat.le_refl _ | omega)) iL_one 19 (by omega) (by simp only [maxLen]; omega) (by omega) (by omega) ?_
  intro A7 c7 w15 hr9 hg3
  replace hr9 : Rw w15 base1 5 A7 19 c7 (iL .u8 (([IntKind.wrap .u8 k]) ++ (digL p 6) ++ (digL e 6) ++ (digL h 6))) := Rw.cast hr9 rfl (by simp only [iL, List.map_append, List.map_cons, List.map_nil, List.append_assoc, List.cons_append, List.nil_append, List.append_nil])
  have hzhg3 := hg3.size
  have hg3S : Step (fun k => base1 ≤ k ∧ (k < b1 ∨ b1 < k)) _ _ := Step.mono hg3 (fun i hi => ⟨hi.1, Nat.lt_or_gt_of_ne (hi.2.ne ho1 (by decide))⟩)
  replace hS := Step.transNew hS hg3S (fun i hi hG => by (try simp only at hG); omega)
  replace ho1 := ho1.step hg3S (by (try simp only); omega)
  replace hbase1 := Nat.le_trans hbase1 (hg3S).size
  replace hbase2 := Nat.le_trans hbase2 (hg3S).size
  replace hbase3 := Nat.le_trans hbase3 (hg3S).size
  refine VL_pure 10 [1, 5] [(1, .pointer (some ⟨b1, 0, none⟩)), (5, .slice A7 19 c7)] (by kernel_rfl) rfl ?_
  refine VL_end (by kernel_rfl) ?_
  refine VQ_next ?_
  refine VC_seq ?_
  have hs7 := drew_step w15
  have hs7z : w15.heap.size = w15.drew.heap.size := rfl
  refine VC_text [[], [], [1], [1, 2], [0, 1, 2, 3], [], [5], [0, 1, 2, 3, 4, 5, 6], [0, 1, 2, 3, 4, 5, 6, 7], [0, 1, 2, 3, 4, 5, 6, 7, 8], [0, 1, 2, 3, 4, 5, 6, 7, 8, 9]] 7 (fun x y => Step (fun k => (base1 ≤ k ∧ (k < b1 ∨ b1 < k)) ∨ w15.heap.size ≤ k) x y) [3, 4] [0, 1, 2, 5, 6, 3, 4] (by kernel_rfl) (by kernel_rfl) (by kernel_rfl) (by kernel_rfl) (fun x => Step.refl _ x) (fun h k => Step.trans h k) Step.weak ?_
  have hzs10 := hS.size
  have hzl9 := ho1.lt
  generalize w15.drew = w16 at hs7 hs7z ⊢
  replace hS := Step.trans hS hs7
  replace ho1 := ho1.no hs7
  replace hbase1 := Nat.le_trans hbase1 (hs7).size
  replace hbase2 := Nat.le_trans hbase2 (hs7).size
  replace hbase3 := Nat.le_trans hbase3 (hs7).size
  replace hr9 := hr9.no hs7
  refine VT_pures 2 (kn' := [(1, .pointer (some ⟨b1, 4, none⟩)), (0, .slice A7 19 c7)]) (by kernel_rfl) ?_
  refine VT_load (d := 30) (t := 3) (a := ⟨b1, 4, none⟩) (v := .int .i64 ((b : Nat) : Int)) (by kernel_rfl) (by kernel_rfl) ?_ ?_
  · intro w17 hr10
    replace hS := Step.transNew hS hr10 (fun i hi hG => by (try simp only at hG); omega)
    replace ho1 := ho1.step hr10 (by (try simp only); omega)
    replace hbase1 := Nat.le_trans hbase1 (hr10).size
    replace hbase2 := Nat.le_trans hbase2 (hr10).size
    replace hbase3 := Nat.le_trans hbase3 (hr10).size
    exact (Loads.own1 ho1 (by kernel_rfl) (by rfl))
  refine VT_pures 1 (kn' := [(5, .pointer (some ⟨b1, 5, none⟩)), (2, .int .i64 ((b : Nat) : Int)), (1, .pointer (some ⟨b1, 4, none⟩)), (0, .slice A7 19 c7)]) (by kernel_rfl) ?_
  refine VT_load (d := 34) (t := 3) (a := ⟨b1, 5, none⟩) (v := .int .i64 ((t : Nat) : Int)) (by kernel_rfl) (by kernel_rfl) ?_ ?_
  · intro w18 hr11
    replace hS := Step.transNew hS hr11 (fun i hi hG => by (try simp only at hG); omega)
    replace ho1 := ho1.step hr11 (by (try simp only); omega)
    replace hbase1 := Nat.le_trans hbase1 (hr11).size
    replace hbase2 := Nat.le_trans hbase2 (hr11).size
    replace hbase3 := Nat.le_trans hbase3 (hr11).size
    exact (Loads.own1 ho1 (by kernel_rfl) (by rfl))
  refine VT_chain (by kernel_rfl) ?_
  intro w19 hs8
  have hzhs8 := hs8.size
  replace hS := Step.trans hS hs8
  replace ho1 := ho1.no hs8
  replace hbase1 := Nat.le_trans hbase1 (hs8).size
  replace hbase2 := Nat.le_trans hbase2 (hs8).size
  replace hbase3 := Nat.le_trans hbase3 (hs8).size
  replace hr9 := hr9.no hs8
  have hzs11 := hS.size
  have hzl10 := ho1.lt
  refine VTc_call (d := 31) (f := 40) (by kernel_rfl) (by kernel_rfl) (by kernel_rfl) Try.call40 (rbytes_any b 6 _ (by omega)) ?_ ?_
  · rintro _ w20 ⟨A8, c8, rfl, hr12, hc4⟩
    exact Step.mono hc4 (by intro i hi; first | exact hi.elim | ((try simp only at hi ⊢); omega))
  rintro _ w20 ⟨A8, c8, rfl, hr12, hc4⟩
  have hzhc4 := (hc4).size
  replace hS := Step.trans hS hc4
  replace ho1 := ho1.no hc4
  replace hbase1 := Nat.le_trans hbase1 (hc4).size
  replace hbase2 := Nat.le_trans hbase2 (hc4).size
  replace hbase3 := Nat.le_trans hbase3 (hc4).size
  replace hr9 := hr9.no hc4
  obtain ⟨base4, hbase4E⟩ : ∃ x, x = w19.heap.size := ⟨_, rfl⟩
  rw [← hbase4E] at hr12
  have hbase4 : base4 ≤ w20.heap.size := by rw [hbase4E]; exact hc4.size
  refine VT_chain (by kernel_rfl) ?_
  intro w21 hs9
  have hzhs9 := hs9.size
  replace hS := Step.trans hS hs9
  replace ho1 := ho1.no hs9
  replace hbase1 := Nat.le_trans hbase1 (hs9).size
  replace hbase2 := Nat.le_trans hbase2 (hs9).size
  replace hbase3 := Nat.le_trans hbase3 (hs9).size
  replace hr9 := hr9.no hs9
  replace hbase4 := Nat.le_trans hbase4 (hs9).size
  replace hr12 := hr12.no hs9
  have hzs12 := hS.size
  have hzl11 := ho1.lt
  have hzk8 := hbase1
  have hzk9 := hbase2
  have hzk10 := hbase3
  have hzk11 := hbase4
  refine VTc_appendT (d := 32) (e := 5) (A := A7) (mm := 19) (c := c7) (A2 := A8) (m2 := 6) (c2 := c8) (bytes := 1) (by kernel_rfl) (by kernel_rfl) (by kernel_rfl) base1 w21.heap.size (iL .u8 (([IntKind.wrap .u8 k]) ++ (digL p 6) ++ (digL e 6) ++ (digL h 6))) (iL .u8 (digL b 6)) hr9 (by rw [iL_length]; first | done | exact (Rw.lenI hr12)) (Sl.mono (Rw.slI hr12) (by first | exact Nat.le_refl _ | omega)) iL_one 25 (by omega) (by simp only [maxLen]; omega) (by omega) (by omega) ?_ ?_
  · intro w1 hs1; exact Step.mono hs1 (fun i hi => by have hi1 := hi.1; have hxb1 := hi.2.ne ho1 (by decide); (try simp only); omega)
  intro A9 c9 w22 hr13 hg4
  replace hr13 : Rw w22 base1 5 A9 25 c9 (iL .u8 (([IntKind.wrap .u8 k]) ++ (digL p 6) ++ (digL e 6) ++ (digL h 6) ++ (digL b 6))) := Rw.cast hr13 rfl (by simp only [iL, List.map_append, List.map_cons, List.map_nil, List.append_assoc, List.cons_append, List.nil_append, List.append_nil])
  have hzhg4 := hg4.size
  have hg4S : Step (fun k => base1 ≤ k ∧ (k < b1 ∨ b1 < k)) _ _ := Step.mono hg4 (fun i hi => ⟨hi.1, Nat.lt_or_gt_of_ne (hi.2.ne ho1 (by decide))⟩)
  replace hS := Step.transNew hS hg4S (fun i hi hG => by (try simp only at hG); omega)
  replace ho1 := ho1.step hg4S (by (try simp only); omega)
  replace hbase1 := Nat.le_trans hbase1 (hg4S).size
  replace hbase2 := Nat.le_trans hbase2 (hg4S).size
  replace hbase3 := Nat.le_trans hbase3 (hg4S).size
  replace hbase4 := Nat.le_trans hbase4 (hg4S).size
  refine VT_end ?_
  intro w23 hs10
  replace hS := Step.trans hS hs10
  replace ho1 := ho1.no hs10
  replace hbase1 := Nat.le_trans hbase1 (hs10).size
  replace hbase2 := Nat.le_trans hbase2 (hs10).size
  replace hbase3 := Nat.le_trans hbase3 (hs10).size
  replace hbase4 := Nat.le_trans hbase4 (hs10).size
  replace hr13 := hr13.no hs10
  refine VL_keep [34, 32] [(34, .int .i64 ((t : Nat) : Int)), (32, .slice A9 25 c9)] (by kernel_rfl) ?_
  have hzs13 := hS.size
  have hzl12 := ho1.lt
  refine VL_call (d := 35) (f := 40) (by kernel_rfl) (by kernel_rfl) (by kernel_rfl) Try.call40 (rbytes_any t 6 _ (by omega)) ?_
  rintro _ w24 ⟨A10, c10, rfl, hr14, hc5⟩
  replace hS := Step.trans hS hc5
  replace ho1 := ho1.no hc5
  replace hbase1 := Nat.le_trans hbase1 (hc5).size
  replace hbase2 := Nat.le_trans hbase2 (hc5).size
  replace hbase3 := Nat.le_trans hbase3 (hc5).size
  replace hbase4 := Nat.le_trans hbase4 (hc5).size
  replace hr13 := hr13.no hc5
  obtain ⟨base5, hbase5E⟩ : ∃ x, x = w23.heap.size := ⟨_, rfl⟩
  rw [← hbase5E] at hr14
  have hbase5 : base5 ≤ w24.heap.size := by rw [hbase5E]; exact hc5.size
  have hzs14 := hS.size
  have hzl13 := ho1.lt
  have hzk12 := hbase1
  have hzk13 := hbase2
  have hzk14 := hbase3
  have hzk15 := hbase4
  have hzk16 := hbase5
  refine VL_appendT (d := 36) (e := 5) (A := A9) (m := 25) (c := c9) (A2 := A10) (m2 := 6) (c2 := c10) (bytes := 1) (by kernel_rfl) (by kernel_rfl) (by kernel_rfl) base1 w24.heap.size (iL .u8 (([IntKind.wrap .u8 k]) ++ (digL p 6) ++ (digL e 6) ++ (digL h 6) ++ (digL b 6))) (iL .u8 (digL t 6)) hr13 (by rw [iL_length]; first | done | exact (Rw.lenI hr14)) (Sl.mono (Rw.slI hr14) (by first | exact Nat.le_refl _ | omega)) iL_one 31 (by omega) (by simp only [maxLen]; omega) (by omega) (by omega) ?_
  intro A11 c11 w25 hr15 hg5
  replace hr15 : Rw w25 base1 5 A11 31 c11 (iL .u8 (([IntKind.wrap .u8 k]) ++ (digL p 6) ++ (digL e 6) ++ (digL h 6) ++ (digL b 6) ++ (digL t 6))) := Rw.cast hr15 rfl (by simp only [iL, List.map_append, List.map_cons, List.map_nil, List.append_assoc, List.cons_append, List.nil_append, List.append_nil])
  have hzhg5 := hg5.size
  have hg5S : Step (fun k => base1 ≤ k ∧ (k < b1 ∨ b1 < k)) _ _ := Step.mono hg5 (fun i hi => ⟨hi.1, Nat.lt_or_gt_of_ne (hi.2.ne ho1 (by decide))⟩)
  replace hS := Step.transNew hS hg5S (fun i hi hG => by (try simp only at hG); omega)
  replace ho1 := ho1.step hg5S (by (try simp only); omega)
  replace hbase1 := Nat.le_trans hbase1 (hg5S).size
  replace hbase2 := Nat.le_trans hbase2 (hg5S).size
  replace hbase3 := Nat.le_trans hbase3 (hg5S).size
  replace hbase4 := Nat.le_trans hbase4 (hg5S).size
  replace hbase5 := Nat.le_trans hbase5 (hg5S).size
  refine VL_pure 11 [2, 3] [(2, .slice A11 31 c11), (3, .int .i64 0)] (by kernel_rfl) rfl ?_
  refine VL_end (by kernel_rfl) ?_
  refine VQ_next ?_
  refine VC_ret ?_
  refine VQ_ret2 (.slice A11 31 c11) (.int .i64 0) (.inr rfl) rfl rfl rfl ?_
  exact ⟨_, _, rfl, Rw.low (Rw.cast hr15 (by omega) (by simp [trafL])) (by omega), hS⟩

set_option maxRecDepth 100000 in
set_option maxHeartbeats 4000000 in
theorem rtraffic_no (k p e h b t : Int) (w : World) (hr : rightC k p e h b t ≠ 0) :
    CV Try.prog 20 #[.agg #[.int .i64 k, .int .i64 p, .int .i64 e, .int .i64 h, .int .i64 b, .int .i64 t]] w (fun x w1 => x = .tuple #[.slice none 0 0, .int .i64 (rightC k p e h b t)] ∧ Step No w w1) := by
  have hS : Step No w w := Step.refl _ _
  refine CV_enter Try.f20 _ 37 [(0, .agg #[.int .i64 k, .int .i64 p, .int .i64 e, .int .i64 h, .int .i64 b, .int .i64 t])] Try.func20 rfl rfl (by kernel_rfl) rfl ?_
  refine VC_seq ?_
  refine VC_region ?_
  have hzs1 := hS.size
  refine VL_box (d := 1) (t := 45) (c := #[.int .i64 k, .int .i64 p, .int .i64 e, .int .i64 h, .int .i64 b, .int .i64 t]) (by kernel_rfl) (by kernel_rfl) ?_
  intro b1 w1 hn1
  replace hS := Step.trans hS (hn1.step No)
  have ho1 := hn1.own
  have hzhn1 := hn1.size
  have hqhn1 := hn1.eqb
  refine VL_pure 3 [1] [(1, .pointer (some ⟨b1, 0, none⟩))] (by kernel_rfl) rfl ?_
  refine VL_end (by kernel_rfl) ?_
  refine VQ_next ?_
  refine VC_seq ?_
  refine VC_region ?_
  refine VL_load (d := 6) (t := 45) (a := ⟨b1, 0, none⟩) (v := .agg #[.int .i64 k, .int .i64 p, .int .i64 e, .int .i64 h, .int .i64 b, .int .i64 t]) (by kernel_rfl) (by kernel_rfl) (Loads.ownL ho1 (n := 6) (by kernel_rfl) (by kernel_rfl) (by kernel_rfl)) ?_
  have hzs2 := hS.size
  have hzl1 := ho1.lt
  refine VL_call (d := 7) (f := 29) (args := #[.agg #[.int .i64 k, .int .i64 p, .int .i64 e, .int .i64 h, .int .i64 b, .int .i64 t]]) (by kernel_rfl) (by kernel_rfl) (by kernel_rfl) Try.call29 (rright_any k p e h b t _) ?_
  rintro _ w2 ⟨rfl, hc1⟩
  replace hS := Step.trans hS hc1
  replace ho1 := ho1.no hc1
  refine VL_pure 3 [1, 4] [(1, .pointer (some ⟨b1, 0, none⟩)), (4, .int .i64 (rightC k p e h b t))] (by kernel_rfl) rfl ?_
  refine VL_end (by kernel_rfl) ?_
  refine VQ_next ?_
  refine VC_seq ?_
  refine VC_seq ?_
  refine VC_region ?_
  refine VL_pure 2 [1, 4, 9] [(1, .pointer (some ⟨b1, 0, none⟩)), (4, .int .i64 (rightC k p e h b t)), (9, .bool ((rightC k p e h b t) != 0))] (by kernel_rfl) rfl ?_
  refine VL_end (by kernel_rfl) ?_
  refine VQ_next ?_
  refine VC_is (b := (rightC k p e h b t) != 0) true (by kernel_rfl) (by simpa using hr) ?_
  refine VC_ite_true ?_
  refine VC_seq ?_
  refine VC_region ?_
  refine VL_pure 3 [2, 3] [(2, .slice none 0 0), (3, .int .i64 (rightC k p e h b t))] (by kernel_rfl) rfl ?_
  refine VL_end (by kernel_rfl) ?_
  refine VQ_next ?_
  refine VC_ret ?_
  refine VQ_then_ret ?_
  refine VQ_ret2 (.slice none 0 0) (.int .i64 (rightC k p e h b t)) (.inr rfl) rfl rfl rfl ?_
  exact ⟨rfl, hS⟩

end Go.Proofs.Ytpfggjaoinfegaa
