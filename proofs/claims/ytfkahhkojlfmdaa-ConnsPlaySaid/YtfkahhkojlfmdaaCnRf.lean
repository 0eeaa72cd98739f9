/- Layer 9, the document's table. -/
import Derived.Test.YtfkahhkojlfmdaaProg
import Derived.Test.YtfkahhkojlfmdaaCni
import Derived.Test.YtfkahhkojlfmdaaCn4
set_option linter.unusedVariables false
set_option linter.unusedSimpArgs false
namespace Go.Proofs.Ytfkahhkojlfmdaa
open Go.Vc Go.RowKit

set_option maxRecDepth 100000 in
set_option maxHeartbeats 4000000 in
theorem rright_any (p v c : Int) (w : World) :
    CV Try.prog 26 #[.agg #[.int .i64 p, .int .i64 v, .int .i64 c]] w (fun x w1 => x = .bool (rightB p v c) ∧ Step No w w1) := by
  have hS : Step No w w := Step.refl _ _
  refine CV_enter Try.f26 _ 31 [(0, .agg #[.int .i64 p, .int .i64 v, .int .i64 c])] Try.func26 rfl rfl (by kernel_rfl) rfl ?_
  refine VC_seq ?_
  refine VC_region ?_
  have hzs1 := hS.size
  refine VL_box (d := 1) (t := 29) (c := #[.int .i64 p, .int .i64 v, .int .i64 c]) (by kernel_rfl) (by kernel_rfl) ?_
  intro b1 w1 hn1
  replace hS := Step.trans hS (hn1.step No)
  have ho1 := hn1.own
  have hzhn1 := hn1.size
  have hqhn1 := hn1.eqb
  refine VL_pure 2 [1] [(1, .pointer (some ⟨b1, 0, none⟩))] (by kernel_rfl) rfl ?_
  refine VL_end (by kernel_rfl) ?_
  refine VQ_next ?_
  refine VC_seq ?_
  refine VC_region ?_
  refine VL_pure 1 [1, 3] [(1, .pointer (some ⟨b1, 0, none⟩)), (3, .pointer (some ⟨b1, 0, none⟩))] (by kernel_rfl) rfl ?_
  refine VL_load (d := 4) (t := 3) (a := ⟨b1, 0, none⟩) (v := .int .i64 p) (by kernel_rfl) (by kernel_rfl) (Loads.own1 ho1 (by kernel_rfl) (by rfl)) ?_
  refine VL_pure 4 [1, 6] [(1, .pointer (some ⟨b1, 0, none⟩)), (6, .bool (decide (p ≥ 0)))] (by kernel_rfl) rfl ?_
  refine VL_join (decide (p ≥ 0)) (fun bV => [(1, .pointer (some ⟨b1, 0, none⟩)), (6, .bool bV)]) 8 [(1, .pointer (some ⟨b1, 0, none⟩)), (10, .bool ((decide (p ≥ 0)) && (decide (p < 8))))] rfl (fun hg1 J1 => ?_) (fun hg1 J1 => ?_) ?_
  · refine VL_pure 5 [1, 6, 7] [(1, .pointer (some ⟨b1, 0, none⟩)), (6, .bool true), (7, .pointer (some ⟨b1, 0, none⟩))] (by kernel_rfl) rfl ?_
    refine VL_load (d := 8) (t := 3) (a := ⟨b1, 0, none⟩) (v := .int .i64 p) (by kernel_rfl) (by kernel_rfl) (Loads.own1 ho1 (by kernel_rfl) (by rfl)) ?_
    refine VL_pure 8 [1, 10] [(1, .pointer (some ⟨b1, 0, none⟩)), (10, .bool (decide (p < 8)))] (by kernel_rfl) rfl ?_
    exact VL_eq _ (by simp only [hg1, Bool.true_and, Bool.false_and, Bool.true_or, Bool.false_or, Bool.not_true, Bool.not_false]) J1
  · refine VL_pure 8 [1, 10] [(1, .pointer (some ⟨b1, 0, none⟩)), (10, .bool false)] (by kernel_rfl) rfl ?_
    exact VL_eq _ (by simp only [hg1, Bool.true_and, Bool.false_and, Bool.true_or, Bool.false_or, Bool.not_true, Bool.not_false]) J1
  refine VL_pure 9 [1, 11] [(1, .pointer (some ⟨b1, 0, none⟩)), (11, .bool ((decide (p ≥ 0)) && (decide (p < 8))))] (by kernel_rfl) rfl ?_
  refine VL_join ((decide (p ≥ 0)) && (decide (p < 8))) (fun bV => [(1, .pointer (some ⟨b1, 0, none⟩)), (11, .bool bV)]) 13 [(1, .pointer (some ⟨b1, 0, none⟩)), (15, .bool (((decide (p ≥ 0)) && (decide (p < 8))) && (decide (v ≥ 0))))] rfl (fun hg2 J2 => ?_) (fun hg2 J2 => ?_) ?_
  · refine VL_pure 10 [1, 11, 12] [(1, .pointer (some ⟨b1, 0, none⟩)), (11, .bool true), (12, .pointer (some ⟨b1, 1, none⟩))] (by kernel_rfl) rfl ?_
    refine VL_load (d := 13) (t := 3) (a := ⟨b1, 1, none⟩) (v := .int .i64 v) (by kernel_rfl) (by kernel_rfl) (Loads.own1 ho1 (by kernel_rfl) (by rfl)) ?_
    refine VL_pure 13 [1, 15] [(1, .pointer (some ⟨b1, 0, none⟩)), (15, .bool (decide (v ≥ 0)))] (by kernel_rfl) rfl ?_
    exact VL_eq _ (by simp only [hg2, Bool.true_and, Bool.false_and, Bool.true_or, Bool.false_or, Bool.not_true, Bool.not_false]) J2
  · refine VL_pure 13 [1, 15] [(1, .pointer (some ⟨b1, 0, none⟩)), (15, .bool false)] (by kernel_rfl) rfl ?_
    exact VL_eq _ (by simp only [hg2, Bool.true_and, Bool.false_and, Bool.true_or, Bool.false_or, Bool.not_true, Bool.not_false]) J2
  refine VL_pure 14 [1, 16] [(1, .pointer (some ⟨b1, 0, none⟩)), (16, .bool (((decide (p ≥ 0)) && (decide (p < 8))) && (decide (v ≥ 0))))] (by kernel_rfl) rfl ?_
  refine VL_join (((decide (p ≥ 0)) && (decide (p < 8))) && (decide (v ≥ 0))) (fun bV => [(1, .pointer (some ⟨b1, 0, none⟩)), (16, .bool bV)]) 18 [(1, .pointer (some ⟨b1, 0, none⟩)), (20, .bool ((((decide (p ≥ 0)) && (decide (p < 8))) && (decide (v ≥ 0))) && (decide (v < 4096))))] rfl (fun hg3 J3 => ?_) (fun hg3 J3 => ?_) ?_
  · refine VL_pure 15 [1, 16, 17] [(1, .pointer (some ⟨b1, 0, none⟩)), (16, .bool true), (17, .pointer (some ⟨b1, 1, none⟩))] (by kernel_rfl) rfl ?_
    refine VL_load (d := 18) (t := 3) (a := ⟨b1, 1, none⟩) (v := .int .i64 v) (by kernel_rfl) (by kernel_rfl) (Loads.own1 ho1 (by kernel_rfl) (by rfl)) ?_
    refine VL_pure 18 [1, 20] [(1, .pointer (some ⟨b1, 0, none⟩)), (20, .bool (decide (v < 4096)))] (by kernel_rfl) rfl ?_
    exact VL_eq _ (by simp only [hg3, Bool.true_and, Bool.false_and, Bool.true_or, Bool.false_or, Bool.not_true, Bool.not_false]) J3
  · refine VL_pure 18 [1, 20] [(1, .pointer (some ⟨b1, 0, none⟩)), (20, .bool false)] (by kernel_rfl) rfl ?_
    exact VL_eq _ (by simp only [hg3, Bool.true_and, Bool.false_and, Bool.true_or, Bool.false_or, Bool.not_true, Bool.not_false]) J3
  refine VL_pure 19 [1, 21] [(1, .pointer (some ⟨b1, 0, none⟩)), (21, .bool ((((decide (p ≥ 0)) && (decide (p < 8))) && (decide (v ≥ 0))) && (decide (v < 4096))))] (by kernel_rfl) rfl ?_
  refine VL_join ((((decide (p ≥ 0)) && (decide (p < 8))) && (decide (v ≥ 0))) && (decide (v < 4096))) (fun bV => [(1, .pointer (some ⟨b1, 0, none⟩)), (21, .bool bV)]) 23 [(1, .pointer (some ⟨b1, 0, none⟩)), (25, .bool (((((decide (p ≥ 0)) && (decide (p < 8))) && (decide (v ≥ 0))) && (decide (v < 4096))) && (decide (c ≥ 0))))] rfl (fun hg4 J4 => ?_) (fun hg4 J4 => ?_) ?_
  · refine VL_pure 20 [1, 21, 22] [(1, .pointer (some ⟨b1, 0, none⟩)), (21, .bool true), (22, .pointer (some ⟨b1, 2, none⟩))] (by kernel_rfl) rfl ?_
    refine VL_load (d := 23) (t := 3) (a := ⟨b1, 2, none⟩) (v := .int .i64 c) (by kernel_rfl) (by kernel_rfl) (Loads.own1 ho1 (by kernel_rfl) (by rfl)) ?_
    refine VL_pure 23 [1, 25] [(1, .pointer (some ⟨b1, 0, none⟩)), (25, .bool (decide (c ≥ 0)))] (by kernel_rfl) rfl ?_
    exact VL_eq _ (by simp only [hg4, Bool.true_and, Bool.false_and, Bool.true_or, Bool.false_or, Bool.not_true, Bool.not_false]) J4
  · refine VL_pure 23 [1, 25] [(1, .pointer (some ⟨b1, 0, none⟩)), (25, .bool false)] (by kernel_rfl) rfl ?_
    exact VL_eq _ (by simp only [hg4, Bool.true_and, Bool.false_and, Bool.true_or, Bool.false_or, Bool.not_true, Bool.not_false]) J4
  refine VL_pure 24 [1, 26] [(1, .pointer (some ⟨b1, 0, none⟩)), (26, .bool (((((decide (p ≥ 0)) && (decide (p < 8))) && (decide (v ≥ 0))) && (decide (v < 4096))) && (decide (c ≥ 0))))] (by kernel_rfl) rfl ?_
  refine VL_join (((((decide (p ≥ 0)) && (decide (p < 8))) && (decide (v ≥ 0))) && (decide (v < 4096))) && (decide (c ≥ 0))) (fun bV => [(1, .pointer (some ⟨b1, 0, none⟩)), (26, .bool bV)]) 28 [(30, .bool ((((((decide (p ≥ 0)) && (decide (p < 8))) && (decide (v ≥ 0))) && (decide (v < 4096))) && (decide (c ≥ 0))) && (decide (c < 65536))))] rfl (fun hg5 J5 => ?_) (fun hg5 J5 => ?_) ?_
  · refine VL_pure 25 [26, 27] [(26, .bool true), (27, .pointer (some ⟨b1, 2, none⟩))] (by kernel_rfl) rfl ?_
    refine VL_load (d := 28) (t := 3) (a := ⟨b1, 2, none⟩) (v := .int .i64 c) (by kernel_rfl) (by kernel_rfl) (Loads.own1 ho1 (by kernel_rfl) (by rfl)) ?_
    refine VL_pure 28 [30] [(30, .bool (decide (c < 65536)))] (by kernel_rfl) rfl ?_
    exact VL_eq _ (by simp only [hg5, Bool.true_and, Bool.false_and, Bool.true_or, Bool.false_or, Bool.not_true, Bool.not_false]) J5
  · refine VL_pure 28 [30] [(30, .bool false)] (by kernel_rfl) rfl ?_
    exact VL_eq _ (by simp only [hg5, Bool.true_and, Bool.false_and, Bool.true_or, Bool.false_or, Bool.not_true, Bool.not_false]) J5
  refine VL_pure 29 [2] [(2, .bool ((((((decide (p ≥ 0)) && (decide (p < 8))) && (decide (v ≥ 0))) && (decide (v < 4096))) && (decide (c ≥ 0))) && (decide (c < 65536))))] (by kernel_rfl) rfl ?_
  refine VL_end (by kernel_rfl) ?_
  refine VQ_next ?_
  refine VC_ret ?_
  refine VQ_ret1 (.bool ((((((decide (p ≥ 0)) && (decide (p < 8))) && (decide (v ≥ 0))) && (decide (v < 4096))) && (decide (c ≥ 0))) && (decide (c < 65536)))) (.inr rfl) rfl rfl ?_
  exact ⟨congrArg Value.bool (by unfold rightB; rw [Bool.eq_iff_iff]; simp [and_assoc]), hS⟩

set_option maxRecDepth 100000 in
set_option maxHeartbeats 4000000 in
theorem rbefore_any (p v c p' v' c' : Int) (w : World) :
    CV Try.prog 33 #[.agg #[.int .i64 p, .int .i64 v, .int .i64 c], .agg #[.int .i64 p', .int .i64 v', .int .i64 c']] w (fun x w1 => x = .bool (befK p v c p' v' c') ∧ Step No w w1) := by
  have hS : Step No w w := Step.refl _ _
  refine CV_enter Try.f33 _ 30 [(0, .agg #[.int .i64 p, .int .i64 v, .int .i64 c]), (1, .agg #[.int .i64 p', .int .i64 v', .int .i64 c'])] Try.func33 rfl rfl (by kernel_rfl) rfl ?_
  refine VC_seq ?_
  refine VC_region ?_
  have hzs1 := hS.size
  refine VL_box (d := 2) (t := 29) (c := #[.int .i64 p, .int .i64 v, .int .i64 c]) (by kernel_rfl) (by kernel_rfl) ?_
  intro b1 w1 hn1
  replace hS := Step.trans hS (hn1.step No)
  have ho1 := hn1.own
  have hzhn1 := hn1.size
  have hqhn1 := hn1.eqb
  have hzs2 := hS.size
  have hzl1 := ho1.lt
  refine VL_box (d := 3) (t := 29) (c := #[.int .i64 p', .int .i64 v', .int .i64 c']) (by kernel_rfl) (by kernel_rfl) ?_
  intro b2 w2 hn2
  replace hS := Step.trans hS (hn2.step No)
  replace ho1 := ho1.no (hn2.step No)
  have ho2 := hn2.own
  have hzhn2 := hn2.size
  have hqhn2 := hn2.eqb
  refine VL_pure 3 [2, 3] [(2, .pointer (some ⟨b1, 0, none⟩)), (3, .pointer (some ⟨b2, 0, none⟩))] (by kernel_rfl) rfl ?_
  refine VL_end (by kernel_rfl) ?_
  refine VQ_next ?_
  refine VC_seq ?_
  refine VC_seq ?_
  refine VC_region ?_
  refine VL_pure 1 [2, 3, 5] [(2, .pointer (some ⟨b1, 0, none⟩)), (3, .pointer (some ⟨b2, 0, none⟩)), (5, .pointer (some ⟨b1, 0, none⟩))] (by kernel_rfl) rfl ?_
  refine VL_load (d := 6) (t := 3) (a := ⟨b1, 0, none⟩) (v := .int .i64 p) (by kernel_rfl) (by kernel_rfl) (Loads.own1 ho1 (by kernel_rfl) (by rfl)) ?_
  refine VL_pure 3 [2, 3, 6, 7] [(2, .pointer (some ⟨b1, 0, none⟩)), (3, .pointer (some ⟨b2, 0, none⟩)), (6, .int .i64 p), (7, .pointer (some ⟨b2, 0, none⟩))] (by kernel_rfl) rfl ?_
  refine VL_load (d := 8) (t := 3) (a := ⟨b2, 0, none⟩) (v := .int .i64 p') (by kernel_rfl) (by kernel_rfl) (Loads.own1 ho2 (by kernel_rfl) (by rfl)) ?_
  refine VL_pure 5 [2, 3, 9] [(2, .pointer (some ⟨b1, 0, none⟩)), (3, .pointer (some ⟨b2, 0, none⟩)), (9, .bool (p != p'))] (by kernel_rfl) rfl ?_
  refine VL_end (by kernel_rfl) ?_
  refine VQ_next ?_
  refine VC_ne p p' (by kernel_rfl) (fun h1 => ?_) (fun h1 => ?_)
  · refine VC_seq ?_
    refine VC_region ?_
    refine VL_pure 1 [3, 10] [(3, .pointer (some ⟨b2, 0, none⟩)), (10, .pointer (some ⟨b1, 0, none⟩))] (by kernel_rfl) rfl ?_
    refine VL_load (d := 11) (t := 3) (a := ⟨b1, 0, none⟩) (v := .int .i64 p) (by kernel_rfl) (by kernel_rfl) (Loads.own1 ho1 (by kernel_rfl) (by rfl)) ?_
    refine VL_pure 3 [11, 12] [(11, .int .i64 p), (12, .pointer (some ⟨b2, 0, none⟩))] (by kernel_rfl) rfl ?_
    refine VL_load (d := 13) (t := 3) (a := ⟨b2, 0, none⟩) (v := .int .i64 p') (by kernel_rfl) (by kernel_rfl) (Loads.own1 ho2 (by kernel_rfl) (by rfl)) ?_
    refine VL_pure 6 [4] [(4, .bool (decide (p < p')))] (by kernel_rfl) rfl ?_
    refine VL_end (by kernel_rfl) ?_
    refine VQ_next ?_
    refine VC_ret ?_
    refine VQ_then_ret ?_
    refine VQ_ret1 (.bool (decide (p < p'))) (.inr rfl) rfl rfl ?_
    exact ⟨congrArg Value.bool (by unfold befK; rw [Bool.eq_iff_iff]; simp; omega), hS⟩
  · refine VC_skip ?_
    refine VQ_next ?_
    refine VC_seq ?_
    refine VC_seq ?_
    refine VC_region ?_
    refine VL_pure 1 [2, 3, 15] [(2, .pointer (some ⟨b1, 0, none⟩)), (3, .pointer (some ⟨b2, 0, none⟩)), (15, .pointer (some ⟨b1, 1, none⟩))] (by kernel_rfl) rfl ?_
    refine VL_load (d := 16) (t := 3) (a := ⟨b1, 1, none⟩) (v := .int .i64 v) (by kernel_rfl) (by kernel_rfl) (Loads.own1 ho1 (by kernel_rfl) (by rfl)) ?_
    refine VL_pure 3 [2, 3, 16, 17] [(2, .pointer (some ⟨b1, 0, none⟩)), (3, .pointer (some ⟨b2, 0, none⟩)), (16, .int .i64 v), (17, .pointer (some ⟨b2, 1, none⟩))] (by kernel_rfl) rfl ?_
    refine VL_load (d := 18) (t := 3) (a := ⟨b2, 1, none⟩) (v := .int .i64 v') (by kernel_rfl) (by kernel_rfl) (Loads.own1 ho2 (by kernel_rfl) (by rfl)) ?_
    refine VL_pure 5 [2, 3, 19] [(2, .pointer (some ⟨b1, 0, none⟩)), (3, .pointer (some ⟨b2, 0, none⟩)), (19, .bool (v != v'))] (by kernel_rfl) rfl ?_
    refine VL_end (by kernel_rfl) ?_
    refine VQ_next ?_
    refine VC_ne v v' (by kernel_rfl) (fun h2 => ?_) (fun h2 => ?_)
    · refine VC_seq ?_
      refine VC_region ?_
      refine VL_pure 1 [3, 20] [(3, .pointer (some ⟨b2, 0, none⟩)), (20, .pointer (some ⟨b1, 1, none⟩))] (by kernel_rfl) rfl ?_
      refine VL_load (d := 21) (t := 3) (a := ⟨b1, 1, none⟩) (v := .int .i64 v) (by kernel_rfl) (by kernel_rfl) (Loads.own1 ho1 (by kernel_rfl) (by rfl)) ?_
      refine VL_pure 3 [21, 22] [(21, .int .i64 v), (22, .pointer (some ⟨b2, 1, none⟩))] (by kernel_rfl) rfl ?_
      refine VL_load (d := 23) (t := 3) (a := ⟨b2, 1, none⟩) (v := .int .i64 v') (by kernel_rfl) (by kernel_rfl) (Loads.own1 ho2 (by kernel_rfl) (by rfl)) ?_
      refine VL_pure 6 [4] [(4, .bool (decide (v < v')))] (by kernel_rfl) rfl ?_
      refine VL_end (by kernel_rfl) ?_
      refine VQ_next ?_
      refine VC_ret ?_
      refine VQ_then_ret ?_
      refine VQ_ret1 (.bool (decide (v < v'))) (.inr rfl) rfl rfl ?_
      exact ⟨congrArg Value.bool (by unfold befK; rw [Bool.eq_iff_iff]; simp; omega), hS⟩
    · refine VC_skip ?_
      refine VQ_next ?_
      refine VC_seq ?_
      refine VC_region ?_
      refine VL_pure 1 [3, 25] [(3, .pointer (some ⟨b2, 0, none⟩)), (25, .pointer (some ⟨b1, 2, none⟩))] (by kernel_rfl) rfl ?_
      refine VL_load (d := 26) (t := 3) (a := ⟨b1, 2, none⟩) (v := .int .i64 c) (by kernel_rfl) (by kernel_rfl) (Loads.own1 ho1 (by kernel_rfl) (by rfl)) ?_
      refine VL_pure 3 [26, 27] [(26, .int .i64 c), (27, .pointer (some ⟨b2, 2, none⟩))] (by kernel_rfl) rfl ?_
      refine VL_load (d := 28) (t := 3) (a := ⟨b2, 2, none⟩) (v := .int .i64 c') (by kernel_rfl) (by kernel_rfl) (Loads.own1 ho2 (by kernel_rfl) (by rfl)) ?_
      refine VL_pure 6 [4] [(4, .bool (decide (c < c')))] (by kernel_rfl) rfl ?_
      refine VL_end (by kernel_rfl) ?_
      refine VQ_next ?_
      refine VC_ret ?_
      refine VQ_ret1 (.bool (decide (c < c'))) (.inr rfl) rfl rfl ?_
      exact ⟨congrArg Value.bool (by unfold befK; rw [Bool.eq_iff_iff]; simp; omega), hS⟩

set_option maxRecDepth 100000 in
set_option maxHeartbeats 4000000 in
theorem rat_any (p lo : Nat) (room : Int) (L : List Ent) (kp kv kc : Int) (w : World) (hR : Rt w p lo room L) (hm : L.length ≤ 1000) :
    CV Try.prog 32 #[.pointer (some ⟨p, 0, none⟩), .agg #[.int .i64 kp, .int .i64 kv, .int .i64 kc]] w (fun x w1 => x = .int .i64 (atI L kp kv kc) ∧ Step No w w1) := by
  have hS : Step No w w := Step.refl _ _
  obtain ⟨A, n, c, hi, ho, hn, hcn, hhi, hv⟩ := hR
  refine CV_enter Try.f32 _ 26 [(0, .pointer (some ⟨p, 0, none⟩)), (1, .agg #[.int .i64 kp, .int .i64 kv, .int .i64 kc])] Try.func32 rfl rfl (by kernel_rfl) rfl ?_
  refine VC_seq ?_
  refine VC_region ?_
  have hzs1 := hS.size
  have hzl1 := ho.lt
  have hzk1 := hhi
  refine VL_box (d := 3) (t := 29) (c := #[.int .i64 kp, .int .i64 kv, .int .i64 kc]) (by kernel_rfl) (by kernel_rfl) ?_
  intro b1 w1 hn1
  replace hS := Step.trans hS (hn1.step No)
  replace ho := ho.no (hn1.step No)
  replace hv := hv.step (hn1.step No) (fun k hk1 hk2 hF => hF)
  replace hhi := Nat.le_trans hhi (hn1.step No).size
  have ho1 := hn1.own
  have hzhn1 := hn1.size
  have hqhn1 := hn1.eqb
  refine VL_pure 2 [0, 3] [(0, .pointer (some ⟨p, 0, none⟩)), (3, .pointer (some ⟨b1, 0, none⟩))] (by kernel_rfl) rfl ?_
  refine VL_end (by kernel_rfl) ?_
  refine VQ_next ?_
  refine VC_seq ?_
  refine VC_seq ?_
  refine VC_region ?_
  refine VL_pure 3 [0, 3, 8] [(0, .pointer (some ⟨p, 0, none⟩)), (3, .pointer (some ⟨b1, 0, none⟩)), (8, .pointer (some ⟨p, 0, none⟩))] (by kernel_rfl) rfl ?_
  refine VL_load (d := 9) (t := 43) (a := ⟨p, 0, none⟩) (v := .slice A n c) (by kernel_rfl) (by kernel_rfl) (Loads.own1 ho (by kernel_rfl) (by rfl)) ?_
  refine VL_pure 6 [0, 3, 10, 11] [(0, .pointer (some ⟨p, 0, none⟩)), (3, .pointer (some ⟨b1, 0, none⟩)), (10, .int .i64 ((n : Nat) : Int)), (11, .int .i64 0)] (by kernel_rfl) rfl ?_
  refine VL_end (by kernel_rfl) ?_
  refine VQ_next ?_
  refine VC_block ?_
  refine VC_loop (σ := Nat) (fun σs => [(0, .pointer (some ⟨p, 0, none⟩)), (3, .pointer (some ⟨b1, 0, none⟩)), (10, .int .i64 ((n : Nat) : Int)), (11, .int .i64 ((σs : Nat) : Int))]) (fun σs wr => σs ≤ n ∧ (∀ j, j < σs → ∀ x, L[j]? = some x → keyIs x kp kv kc = false) ∧ (Step No w wr) ∧ (Own wr p #[.slice A n c, .int .i64 room] 54) ∧ (Sl2 wr lo hi A (flat Ent.cells L)) ∧ (hi ≤ wr.heap.size) ∧ (Own wr b1 #[.int .i64 kp, .int .i64 kv, .int .i64 kc] 29)) (fun σs wr => n - σs) 0 ⟨rfl, rfl, rfl, rfl, trivial⟩ ?_ ?_
  · exact ⟨Nat.zero_le _, fun j h => absurd h (by omega), hS, ho, hv, hhi, ho1⟩
  rintro i wr ⟨hi0, hb, hS, ho, hv, hhi, ho1⟩
  try dsimp only at hi0 hb hS ho hv hhi ho1 ⊢
  refine VC_seq ?_
  refine VC_region ?_
  refine VL_pure 1 [0, 3, 10, 11, 12] [(0, .pointer (some ⟨p, 0, none⟩)), (3, .pointer (some ⟨b1, 0, none⟩)), (10, .int .i64 ((n : Nat) : Int)), (11, .int .i64 ((i : Nat) : Int)), (12, .bool (decide (((i : Nat) : Int) < ((n : Nat) : Int))))] (by kernel_rfl) rfl ?_
  refine VL_end (by kernel_rfl) ?_
  refine VQ_next ?_
  refine VC_seq ?_
  refine VC_dec (((i : Nat) : Int) < ((n : Nat) : Int)) (by kernel_rfl) (fun h1 => ?_) (fun h1 => ?_)
  · refine VC_skip ?_
    refine VQ_next ?_
    refine VC_seq ?_
    refine VC_block ?_
    refine VC_seq ?_
    refine VC_region ?_
    refine VL_pure 2 [0, 3, 10, 11, 5] [(0, .pointer (some ⟨p, 0, none⟩)), (3, .pointer (some ⟨b1, 0, none⟩)), (10, .int .i64 ((n : Nat) : Int)), (11, .int .i64 ((i : Nat) : Int)), (5, .int .i64 ((i : Nat) : Int))] (by kernel_rfl) rfl ?_
    refine VL_end (by kernel_rfl) ?_
    refine VQ_next ?_
    refine VC_seq ?_
    obtain ⟨sb1, so1, rfl, hlbsb1⟩ := (Sl2.sl hv).open (by rw [flat_len ecells_len]; have hq9 : L.length = n := hn; omega)
    obtain ⟨y1, hy1⟩ : ∃ x, L[i]? = some x := ⟨_, List.getElem?_eq_getElem (by have hq9 : L.length = n := hn; omega)⟩
    refine VC_det [[], [0], [0, 1], [0, 1, 2], [], [0, 1, 2, 3, 4], [0, 1, 2, 3, 4, 5], [0, 1, 2, 3, 4, 5, 6], [], [0, 1, 2, 3, 4, 5, 6, 7, 8]] 9 [.pointer (some ⟨p, 0, none⟩), .pointer (some ⟨p, 0, none⟩), .pointer (some ⟨p, 0, none⟩), .slice (some ⟨sb1, so1, none⟩) n c, .int .i64 ((i : Nat) : Int), .pointer (some ⟨sb1, so1 + i * 4, none⟩), .pointer (some ⟨sb1, so1 + i * 4, none⟩), .agg #[.int .i64 y1.p, .int .i64 y1.v, .int .i64 y1.c], .agg #[.int .i64 kp, .int .i64 kv, .int .i64 kc]] [0, 1, 2, 4, 6] [3, 5, 7, 8] (by kernel_rfl) (by kernel_rfl) (by kernel_rfl) (by kernel_rfl) ?_ ?_
    · intro w2 hs1
      replace hS := Step.trans hS hs1
      replace ho := ho.no hs1
      replace hv := hv.step hs1 (fun k hk1 hk2 hF => hF)
      replace hhi := Nat.le_trans hhi (hs1).size
      replace ho1 := ho1.no hs1
      exact ⟨Det1_load (d := 17) (t := 43) (a := ⟨p, 0, none⟩) (by kernel_rfl) (by kernel_rfl) (Loads.own1 ho (by kernel_rfl) (by rfl)), Det1_index (d := 19) (b := sb1) (o := so1) (len := n) (sz := 4) (m := ((i : Nat) : Int)) (by kernel_rfl) (by kernel_rfl) i (by rfl) (by omega) (so1 + i * 4) (by omega), Det1_load (d := 21) (t := 29) (a := ⟨sb1, so1 + i * 4, none⟩) (by kernel_rfl) (by kernel_rfl) (Sl.flatAgg (sz := 4) (Sl2.sl hv) ecells_len hy1 0 3 (by kernel_rfl) (by decide) _ (by first | rfl | omega)), Det1_load (d := 22) (t := 29) (a := ⟨b1, 0, none⟩) (by kernel_rfl) (by kernel_rfl) (Loads.ownL ho1 (n := 3) (by kernel_rfl) (by kernel_rfl) (by kernel_rfl)), trivial⟩
    intro w2 hs1
    replace hS := Step.trans hS hs1
    replace ho := ho.no hs1
    replace hv := hv.step hs1 (fun k hk1 hk2 hF => hF)
    replace hhi := Nat.le_trans hhi (hs1).size
    replace ho1 := ho1.no hs1
    refine VL_keep [0, 3, 10, 11, 5, 21, 22] [(0, .pointer (some ⟨p, 0, none⟩)), (3, .pointer (some ⟨b1, 0, none⟩)), (10, .int .i64 ((n : Nat) : Int)), (11, .int .i64 ((i : Nat) : Int)), (5, .int .i64 ((i : Nat) : Int)), (21, .agg #[.int .i64 y1.p, .int .i64 y1.v, .int .i64 y1.c]), (22, .agg #[.int .i64 kp, .int .i64 kv, .int .i64 kc])] (by kernel_rfl) ?_
    refine VL_agEq (d := 23) (dd := 9) (ls := ([.int .i64] ++ [.int .i64] ++ [.int .i64] ++ [])) (pos := true) (t := 29) (xs := #[.int .i64 y1.p, .int .i64 y1.v, .int .i64 y1.c]) (ys := #[.int .i64 kp, .int .i64 kv, .int .i64 kc]) (by kernel_rfl) (by kernel_rfl) (by kernel_rfl) (by kernel_rfl) (by first | exact ⟨⟨_, rfl⟩, ⟨_, rfl⟩, ⟨_, rfl⟩, trivial⟩ | trivial) (by first | exact ⟨⟨_, rfl⟩, ⟨_, rfl⟩, ⟨_, rfl⟩, trivial⟩ | trivial) (keyIs y1 kp kv kc) (by rw [Bool.eq_iff_iff]; simp [cellsEq, leafEq, keyIs]) ?_
    refine VL_end (by kernel_rfl) ?_
    refine VQ_next ?_
    refine VC_cond (keyIs y1 kp kv kc) (by kernel_rfl) (fun h2 => ?_) (fun h2 => ?_)
    · try simp only [Bool.and_eq_true, Bool.or_eq_true, decide_eq_true_eq, Bool.not_eq_true', decide_eq_false_iff_not, Bool.and_eq_false_iff, Bool.or_eq_false_iff, beq_iff_eq, bne_iff_ne, beq_eq_false_iff_ne, bne_eq_false_iff_eq, Bool.not_eq_eq_eq_not, Bool.not_true, Bool.not_false] at h2
      refine VC_seq ?_
      refine VC_region ?_
      refine VL_pure 2 [4] [(4, .int .i64 ((i : Nat) : Int))] (by kernel_rfl) rfl ?_
      refine VL_end (by kernel_rfl) ?_
      refine VQ_next ?_
      refine VC_ret ?_
      refine VQ_block_ret ?_
      refine VQ_then_ret ?_
      refine VQ_then_ret ?_
      refine VQ_block_ret ?_
      refine VQ_then_ret ?_
      refine VQ_ret1 (.int .i64 ((i : Nat) : Int)) (.inr rfl) rfl rfl ?_
      exact ⟨congrArg (Value.int .i64) (atI_hit hb hy1 (by first | assumption | simp_all)).symm, hS⟩
    · try simp only [Bool.and_eq_true, Bool.or_eq_true, decide_eq_true_eq, Bool.not_eq_true', decide_eq_false_iff_not, Bool.and_eq_false_iff, Bool.or_eq_false_iff, beq_iff_eq, bne_iff_ne, beq_eq_false_iff_ne, bne_eq_false_iff_eq, Bool.not_eq_eq_eq_not, Bool.not_true, Bool.not_false] at h2
      refine VC_skip ?_
      refine VQ_block_normal ?_
      refine VQ_next ?_
      refine VC_region ?_
      refine VL_pure 1 [0, 3, 10, 25] [(0, .pointer (some ⟨p, 0, none⟩)), (3, .pointer (some ⟨b1, 0, none⟩)), (10, .int .i64 ((n : Nat) : Int)), (25, .int .i64 (IntKind.wrap .i64 (((i : Nat) : Int) + 1)))] (by kernel_rfl) rfl ?_
      have he1 : IntKind.wrap .i64 (((i : Nat) : Int) + 1) = ((i + 1 : Nat) : Int) := (by rw [wrap_i64 _ (by omega) (by omega)]; omega)
      refine VL_eq [(0, .pointer (some ⟨p, 0, none⟩)), (3, .pointer (some ⟨b1, 0, none⟩)), (10, .int .i64 ((n : Nat) : Int)), (25, .int .i64 ((i + 1 : Nat) : Int))] (by rw [he1]) ?_
      refine VL_pure 2 [0, 3, 10, 11] [(0, .pointer (some ⟨p, 0, none⟩)), (3, .pointer (some ⟨b1, 0, none⟩)), (10, .int .i64 ((n : Nat) : Int)), (11, .int .i64 ((i + 1 : Nat) : Int))] (by kernel_rfl) rfl ?_
      refine VL_end (by kernel_rfl) ?_
      refine VQ_again (i + 1) ⟨rfl, rfl, rfl, rfl, trivial⟩ ?_ ?_
      · exact ⟨by omega, fun j h x hx => by
          by_cases e : j = i
          · subst e
            rw [Option.some.inj (hx.symm.trans hy1)]
            first | assumption | simp_all
          · exact hb j (by omega) x hx, hS, ho, hv, hhi, ho1⟩
      · (try dsimp only); omega
  · refine VC_exit ?_
    refine VQ_then_exit ?_
    refine VQ_then_exit ?_
    refine VQ_block_hit ?_
    refine VQ_next ?_
    refine VC_seq ?_
    refine VC_region ?_
    refine VL_pure 1 [4] [(4, .int .i64 (-1))] (by kernel_rfl) rfl ?_
    refine VL_end (by kernel_rfl) ?_
    refine VQ_next ?_
    refine VC_ret ?_
    refine VQ_ret1 (.int .i64 (-1)) (.inr rfl) rfl rfl ?_
    exact ⟨congrArg (Value.int .i64) (atI_none (fun j h => hb j (by omega))).symm, hS⟩

set_option maxRecDepth 100000 in
set_option maxHeartbeats 4000000 in
theorem rnew_any (m : Int) (w : World) :
    CV Try.prog 21 #[.int .i64 m] w (fun x w1 => ∃ p, x = .pointer (some ⟨p, 0, none⟩) ∧ ¬ p < w.heap.size ∧ p < w1.heap.size ∧ Own w1 p #[.slice none 0 0, .int .i64 (imax 0 (imin m 64))] 54 ∧ Step No w w1) := by
  have hS : Step No w w := Step.refl _ _
  refine CV_enter Try.f21 _ 8 [(0, .int .i64 m)] Try.func21 rfl rfl (by kernel_rfl) rfl ?_
  refine VC_seq ?_
  refine VC_region ?_
  refine VL_pure 1 [0] [(0, .int .i64 m)] (by kernel_rfl) rfl ?_
  refine VL_end (by kernel_rfl) ?_
  refine VQ_next ?_
  refine VC_seq ?_
  refine VC_region ?_
  refine VL_pure 4 [6] [(6, .agg #[.slice none 0 0, .int .i64 (imax 0 (imin m 64))])] (by kernel_rfl) rfl ?_
  have hzs1 := hS.size
  refine VL_box (d := 7) (t := 54) (c := #[.slice none 0 0, .int .i64 (imax 0 (imin m 64))]) (by kernel_rfl) (by kernel_rfl) ?_
  intro b1 w1 hn1
  replace hS := Step.trans hS (hn1.step No)
  have ho1 := hn1.own
  have hzhn1 := hn1.size
  have hqhn1 := hn1.eqb
  refine VL_pure 6 [2] [(2, .pointer (some ⟨b1, 0, none⟩))] (by kernel_rfl) rfl ?_
  refine VL_end (by kernel_rfl) ?_
  refine VQ_next ?_
  refine VC_ret ?_
  refine VQ_ret1 (.pointer (some ⟨b1, 0, none⟩)) (.inr rfl) rfl rfl ?_
  exact ⟨_, rfl, by omega, ho1.lt, ho1, hS⟩

end Go.Proofs.Ytfkahhkojlfmdaa
