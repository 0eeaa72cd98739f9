/- What the functions of package conns do, one by one: keys, homes, tables. -/
import Derived.Test.YtfkahhkojlfmdaaProg
import Derived.Test.YtfkahhkojlfmdaaCn0
set_option linter.unusedVariables false
set_option linter.unusedSimpArgs false
namespace Go.Proofs.Ytfkahhkojlfmdaa
open Go.Vc Go.RowKit

theorem right_any (p v c : Int) (w : World) :
    CV Try.prog 13 #[.agg #[.int .i64 p, .int .i64 v, .int .i64 c]] w (fun x w1 => x = .bool (rightB p v c) ∧ Step No w w1) := by
  have hS : Step No w w := Step.refl _ _
  refine CV_enter Try.f13 _ 31 [(0, .agg #[.int .i64 p, .int .i64 v, .int .i64 c])] Try.func13 rfl rfl (by kernel_rfl) rfl ?_
  refine VC_seq ?_
  refine VC_region ?_
  have hzs1 := hS.size
  refine VL_box (d := 1) (t := 29) (c := #[.int .i64 p, .int .i64 v, .int .i64 c]) (by kernel_rfl) (by kernel_rfl) ?_
  intro b1 w1 hn1
  replace hS := Step.trans hS (hn1.step No)
  have ho1 := hn1.own
  have hzhn1 := hn1.size
  have hqhn1 := hn1.eqb
  refine VL_pure 2 [1] [(1, .pointer (some ⟨b1, 0, none⟩))] (by kernel_rfl) rfl ?_
  refine VL_end (by kernel_rfl) ?_
  refine VQ_next ?_
  refine VC_seq ?_
  refine VC_region ?_
  refine VL_pure 1 [1, 3] [(1, .pointer (some ⟨b1, 0, none⟩)), (3, .pointer (some ⟨b1, 0, none⟩))] (by kernel_rfl) rfl ?_
  refine VL_load (d := 4) (t := 3) (a := ⟨b1, 0, none⟩) (v := .int .i64 p) (by kernel_rfl) (by kernel_rfl) (Loads.own1 ho1 (by kernel_rfl) (by rfl)) ?_
  refine VL_pure 4 [1, 6] [(1, .pointer (some ⟨b1, 0, none⟩)), (6, .bool (decide (p ≥ 0)))] (by kernel_rfl) rfl ?_
  refine VL_join (decide (p ≥ 0)) (fun bV => [(1, .pointer (some ⟨b1, 0, none⟩)), (6, .bool bV)]) 8 [(1, .pointer (some ⟨b1, 0, none⟩)), (10, .bool ((decide (p ≥ 0)) && (decide (p < 8))))] rfl (fun hg1 J1 => ?_) (fun hg1 J1 => ?_) ?_
  · refine VL_pure 5 [1, 6, 7] [(1, .pointer (some ⟨b1, 0, none⟩)), (6, .bool true), (7, .pointer (some ⟨b1, 0, none⟩))] (by kernel_rfl) rfl ?_
    refine VL_load (d := 8) (t := 3) (a := ⟨b1, 0, none⟩) (v := .int .i64 p) (by kernel_rfl) (by kernel_rfl) (Loads.own1 ho1 (by kernel_rfl) (by rfl)) ?_
    refine VL_pure 8 [1, 10] [(1, .pointer (some ⟨b1, 0, none⟩)), (10, .bool (decide (p < 8)))] (by kernel_rfl) rfl ?_
    exact VL_eq _ (by simp only [hg1, Bool.true_and, Bool.false_and, Bool.true_or, Bool.false_or, Bool.not_true, Bool.not_false]) J1
  · refine VL_pure 8 [1, 10] [(1, .pointer (some ⟨b1, 0, none⟩)), (10, .bool false)] (by kernel_rfl) rfl ?_
    exact VL_eq _ (by simp only [hg1, Bool.true_and, Bool.false_and, Bool.true_or, Bool.false_or, Bool.not_true, Bool.not_false]) J1
  refine VL_pure 9 [1, 11] [(1, .pointer (some ⟨b1, 0, none⟩)), (11, .bool ((decide (p ≥ 0)) && (decide (p < 8))))] (by kernel_rfl) rfl ?_
  refine VL_join ((decide (p ≥ 0)) && (decide (p < 8))) (fun bV => [(1, .pointer (some ⟨b1, 0, none⟩)), (11, .bool bV)]) 13 [(1, .pointer (some ⟨b1, 0, none⟩)), (15, .bool (((decide (p ≥ 0)) && (decide (p < 8))) && (decide (v ≥ 0))))] rfl (fun hg2 J2 => ?_) (fun hg2 J2 => ?_) ?_
  · refine VL_pure 10 [1, 11, 12] [(1, .pointer (some ⟨b1, 0, none⟩)), (11, .bool true), (12, .pointer (some ⟨b1, 1, none⟩))] (by kernel_rfl) rfl ?_
    refine VL_load (d := 13) (t := 3) (a := ⟨b1, 1, none⟩) (v := .int .i64 v) (by kernel_rfl) (by kernel_rfl) (Loads.own1 ho1 (by kernel_rfl) (by rfl)) ?_
    refine VL_pure 13 [1, 15] [(1, .pointer (some ⟨b1, 0, none⟩)), (15, .bool (decide (v ≥ 0)))] (by kernel_rfl) rfl ?_
    exact VL_eq _ (by simp only [hg2, Bool.true_and, Bool.false_and, Bool.true_or, Bool.false_or, Bool.not_true, Bool.not_false]) J2
  · refine VL_pure 13 [1, 15] [(1, .pointer (some ⟨b1, 0, none⟩)), (15, .bool false)] (by kernel_rfl) rfl ?_
    exact VL_eq _ (by simp only [hg2, Bool.true_and, Bool.false_and, Bool.true_or, Bool.false_or, Bool.not_true, Bool.not_false]) J2
  refine VL_pure 14 [1, 16] [(1, .pointer (some ⟨b1, 0, none⟩)), (16, .bool (((decide (p ≥ 0)) && (decide (p < 8))) && (decide (v ≥ 0))))] (by kernel_rfl) rfl ?_
  refine VL_join (((decide (p ≥ 0)) && (decide (p < 8))) && (decide (v ≥ 0))) (fun bV => [(1, .pointer (some ⟨b1, 0, none⟩)), (16, .bool bV)]) 18 [(1, .pointer (some ⟨b1, 0, none⟩)), (20, .bool ((((decide (p ≥ 0)) && (decide (p < 8))) && (decide (v ≥ 0))) && (decide (v < 4096))))] rfl (fun hg3 J3 => ?_) (fun hg3 J3 => ?_) ?_
  · refine VL_pure 15 [1, 16, 17] [(1, .pointer (some ⟨b1, 0, none⟩)), (16, .bool true), (17, .pointer (some ⟨b1, 1, none⟩))] (by kernel_rfl) rfl ?_
    refine VL_load (d := 18) (t := 3) (a := ⟨b1, 1, none⟩) (v := .int .i64 v) (by kernel_rfl) (by kernel_rfl) (Loads.own1 ho1 (by kernel_rfl) (by rfl)) ?_
    refine VL_pure 18 [1, 20] [(1, .pointer (some ⟨b1, 0, none⟩)), (20, .bool (decide (v < 4096)))] (by kernel_rfl) rfl ?_
    exact VL_eq _ (by simp only [hg3, Bool.true_and, Bool.false_and, Bool.true_or, Bool.false_or, Bool.not_true, Bool.not_false]) J3
  · refine VL_pure 18 [1, 20] [(1, .pointer (some ⟨b1, 0, none⟩)), (20, .bool false)] (by kernel_rfl) rfl ?_
    exact VL_eq _ (by simp only [hg3, Bool.true_and, Bool.false_and, Bool.true_or, Bool.false_or, Bool.not_true, Bool.not_false]) J3
  refine VL_pure 19 [1, 21] [(1, .pointer (some ⟨b1, 0, none⟩)), (21, .bool ((((decide (p ≥ 0)) && (decide (p < 8))) && (decide (v ≥ 0))) && (decide (v < 4096))))] (by kernel_rfl) rfl ?_
  refine VL_join ((((decide (p ≥ 0)) && (decide (p < 8))) && (decide (v ≥ 0))) && (decide (v < 4096))) (fun bV => [(1, .pointer (some ⟨b1, 0, none⟩)), (21, .bool bV)]) 23 [(1, .pointer (some ⟨b1, 0, none⟩)), (25, .bool (((((decide (p ≥ 0)) && (decide (p < 8))) && (decide (v ≥ 0))) && (decide (v < 4096))) && (decide (c ≥ 0))))] rfl (fun hg4 J4 => ?_) (fun hg4 J4 => ?_) ?_
  · refine VL_pure 20 [1, 21, 22] [(1, .pointer (some ⟨b1, 0, none⟩)), (21, .bool true), (22, .pointer (some ⟨b1, 2, none⟩))] (by kernel_rfl) rfl ?_
    refine VL_load (d := 23) (t := 3) (a := ⟨b1, 2, none⟩) (v := .int .i64 c) (by kernel_rfl) (by kernel_rfl) (Loads.own1 ho1 (by kernel_rfl) (by rfl)) ?_
    refine VL_pure 23 [1, 25] [(1, .pointer (some ⟨b1, 0, none⟩)), (25, .bool (decide (c ≥ 0)))] (by kernel_rfl) rfl ?_
    exact VL_eq _ (by simp only [hg4, Bool.true_and, Bool.false_and, Bool.true_or, Bool.false_or, Bool.not_true, Bool.not_false]) J4
  · refine VL_pure 23 [1, 25] [(1, .pointer (some ⟨b1, 0, none⟩)), (25, .bool false)] (by kernel_rfl) rfl ?_
    exact VL_eq _ (by simp only [hg4, Bool.true_and, Bool.false_and, Bool.true_or, Bool.false_or, Bool.not_true, Bool.not_false]) J4
  refine VL_pure 24 [1, 26] [(1, .pointer (some ⟨b1, 0, none⟩)), (26, .bool (((((decide (p ≥ 0)) && (decide (p < 8))) && (decide (v ≥ 0))) && (decide (v < 4096))) && (decide (c ≥ 0))))] (by kernel_rfl) rfl ?_
  refine VL_join (((((decide (p ≥ 0)) && (decide (p < 8))) && (decide (v ≥ 0))) && (decide (v < 4096))) && (decide (c ≥ 0))) (fun bV => [(1, .pointer (some ⟨b1, 0, none⟩)), (26, .bool bV)]) 28 [(30, .bool ((((((decide (p ≥ 0)) && (decide (p < 8))) && (decide (v ≥ 0))) && (decide (v < 4096))) && (decide (c ≥ 0))) && (decide (c < 65536))))] rfl (fun hg5 J5 => ?_) (fun hg5 J5 => ?_) ?_
  · refine VL_pure 25 [26, 27] [(26, .bool true), (27, .pointer (some ⟨b1, 2, none⟩))] (by kernel_rfl) rfl ?_
    refine VL_load (d := 28) (t := 3) (a := ⟨b1, 2, none⟩) (v := .int .i64 c) (by kernel_rfl) (by kernel_rfl) (Loads.own1 ho1 (by kernel_rfl) (by rfl)) ?_
    refine VL_pure 28 [30] [(30, .bool (decide (c < 65536)))] (by kernel_rfl) rfl ?_
    exact VL_eq _ (by simp only [hg5, Bool.true_and, Bool.false_and, Bool.true_or, Bool.false_or, Bool.not_true, Bool.not_false]) J5
  · refine VL_pure 28 [30] [(30, .bool false)] (by kernel_rfl) rfl ?_
    exact VL_eq _ (by simp only [hg5, Bool.true_and, Bool.false_and, Bool.true_or, Bool.false_or, Bool.not_true, Bool.not_false]) J5
  refine VL_pure 29 [2] [(2, .bool ((((((decide (p ≥ 0)) && (decide (p < 8))) && (decide (v ≥ 0))) && (decide (v < 4096))) && (decide (c ≥ 0))) && (decide (c < 65536))))] (by kernel_rfl) rfl ?_
  refine VL_end (by kernel_rfl) ?_
  refine VQ_next ?_
  refine VC_ret ?_
  refine VQ_ret1 (.bool ((((((decide (p ≥ 0)) && (decide (p < 8))) && (decide (v ≥ 0))) && (decide (v < 4096))) && (decide (c ≥ 0))) && (decide (c < 65536)))) (.inr rfl) rfl rfl ?_
  exact ⟨congrArg Value.bool (by unfold rightB; rw [Bool.eq_iff_iff]; simp [and_assoc]), hS⟩

theorem home_any (p v c : Int) (w : World) :
    CV Try.prog 34 #[.agg #[.int .i64 p, .int .i64 v, .int .i64 c]] w (fun x w1 => x = .int .i64 ((homeN p v c : Nat) : Int) ∧ Step No w w1) := by
  have hS : Step No w w := Step.refl _ _
  refine CV_enter Try.f34 _ 23 [(0, .agg #[.int .i64 p, .int .i64 v, .int .i64 c])] Try.func34 rfl rfl (by kernel_rfl) rfl ?_
  refine VC_seq ?_
  refine VC_region ?_
  have hzs1 := hS.size
  refine VL_box (d := 1) (t := 29) (c := #[.int .i64 p, .int .i64 v, .int .i64 c]) (by kernel_rfl) (by kernel_rfl) ?_
  intro b1 w1 hn1
  replace hS := Step.trans hS (hn1.step No)
  have ho1 := hn1.own
  have hzhn1 := hn1.size
  have hqhn1 := hn1.eqb
  refine VL_pure 2 [1] [(1, .pointer (some ⟨b1, 0, none⟩))] (by kernel_rfl) rfl ?_
  refine VL_end (by kernel_rfl) ?_
  refine VQ_next ?_
  refine VC_seq ?_
  refine VC_region ?_
  refine VL_pure 1 [1, 4] [(1, .pointer (some ⟨b1, 0, none⟩)), (4, .pointer (some ⟨b1, 0, none⟩))] (by kernel_rfl) rfl ?_
  refine VL_load (d := 5) (t := 3) (a := ⟨b1, 0, none⟩) (v := .int .i64 p) (by kernel_rfl) (by kernel_rfl) (Loads.own1 ho1 (by kernel_rfl) (by rfl)) ?_
  refine VL_pure 4 [1, 6, 7] [(1, .pointer (some ⟨b1, 0, none⟩)), (6, .int .i64 (IntKind.wrap .i64 (p * 4096))), (7, .pointer (some ⟨b1, 1, none⟩))] (by kernel_rfl) rfl ?_
  refine VL_load (d := 8) (t := 3) (a := ⟨b1, 1, none⟩) (v := .int .i64 v) (by kernel_rfl) (by kernel_rfl) (Loads.own1 ho1 (by kernel_rfl) (by rfl)) ?_
  refine VL_pure 9 [11, 12] [(11, .int .u32 (IntKind.wrap .u32 ((IntKind.wrap .u32 (IntKind.wrap .i64 ((IntKind.wrap .i64 (p * 4096)) + v))) * 65536))), (12, .pointer (some ⟨b1, 2, none⟩))] (by kernel_rfl) rfl ?_
  refine VL_load (d := 13) (t := 3) (a := ⟨b1, 2, none⟩) (v := .int .i64 c) (by kernel_rfl) (by kernel_rfl) (Loads.own1 ho1 (by kernel_rfl) (by rfl)) ?_
  refine VL_pure 14 [3] [(3, .int .u32 (bXor .u32 (IntKind.wrap .u32 ((IntKind.wrap .u32 (IntKind.wrap .i64 ((IntKind.wrap .i64 (p * 4096)) + v))) * 65536)) (IntKind.wrap .u32 ((IntKind.wrap .u32 c) * 2654435761))))] (by kernel_rfl) rfl ?_
  refine VL_end (by kernel_rfl) ?_
  refine VQ_next ?_
  refine VC_seq ?_
  refine VC_region ?_
  refine VL_pure 7 [2] [(2, .int .i64 (IntKind.wrap .i64 ((bXor .u32 (bXor .u32 (IntKind.wrap .u32 ((IntKind.wrap .u32 (IntKind.wrap .i64 ((IntKind.wrap .i64 (p * 4096)) + v))) * 65536)) (IntKind.wrap .u32 ((IntKind.wrap .u32 c) * 2654435761))) ((bXor .u32 (IntKind.wrap .u32 ((IntKind.wrap .u32 (IntKind.wrap .i64 ((IntKind.wrap .i64 (p * 4096)) + v))) * 65536)) (IntKind.wrap .u32 ((IntKind.wrap .u32 c) * 2654435761))).fdiv (2 ^ 16))).tmod 128)))] (by kernel_rfl) rfl ?_
  refine VL_end (by kernel_rfl) ?_
  refine VQ_next ?_
  refine VC_ret ?_
  refine VQ_ret1 (.int .i64 (IntKind.wrap .i64 ((bXor .u32 (bXor .u32 (IntKind.wrap .u32 ((IntKind.wrap .u32 (IntKind.wrap .i64 ((IntKind.wrap .i64 (p * 4096)) + v))) * 65536)) (IntKind.wrap .u32 ((IntKind.wrap .u32 c) * 2654435761))) ((bXor .u32 (IntKind.wrap .u32 ((IntKind.wrap .u32 (IntKind.wrap .i64 ((IntKind.wrap .i64 (p * 4096)) + v))) * 65536)) (IntKind.wrap .u32 ((IntKind.wrap .u32 c) * 2654435761))).fdiv (2 ^ 16))).tmod 128))) (.inr rfl) rfl rfl ?_
  exact ⟨congrArg _ (homeN_eq p v c), hS⟩

theorem new_any (m : Int) (w : World) :
    CV Try.prog 10 #[.int .i64 m] w (fun x w1 => ∃ b, x = .pointer (some ⟨b, 0, none⟩) ∧ ¬ b < w.heap.size ∧ Own w1 b (encT noSlots 0 (imax 0 (imin m 64))) 62 ∧ Step No w w1) := by
  have hS : Step No w w := Step.refl _ _
  refine CV_enter Try.f10 _ 8 [(0, .int .i64 m)] Try.func10 rfl rfl (by kernel_rfl) rfl ?_
  refine VC_seq ?_
  refine VC_region ?_
  refine VL_pure 1 [0] [(0, .int .i64 m)] (by kernel_rfl) rfl ?_
  refine VL_end (by kernel_rfl) ?_
  refine VQ_next ?_
  refine VC_seq ?_
  refine VC_region ?_
  refine VL_pure 4 [6] [(6, .agg (encT noSlots 0 (imax 0 (imin m 64))))] (by kernel_rfl) rfl ?_
  have hzs1 := hS.size
  refine VL_box (d := 7) (t := 62) (c := (encT noSlots 0 (imax 0 (imin m 64)))) (by kernel_rfl) (by kernel_rfl) ?_
  intro b1 w1 hn1
  replace hS := Step.trans hS (hn1.step No)
  have ho1 := hn1.own
  have hzhn1 := hn1.size
  have hqhn1 := hn1.eqb
  refine VL_pure 6 [2] [(2, .pointer (some ⟨b1, 0, none⟩))] (by kernel_rfl) rfl ?_
  refine VL_end (by kernel_rfl) ?_
  refine VQ_next ?_
  refine VC_ret ?_
  refine VQ_ret1 (.pointer (some ⟨b1, 0, none⟩)) (.inr rfl) rfl rfl ?_
  exact ⟨_, rfl, by omega, ho1, hS⟩

theorem len_any (b : Nat) (s : Nat → Slot) (len room : Int) (w : World) (ht : Own w b (encT s len room) 62) :
    CV Try.prog 15 #[.pointer (some ⟨b, 0, none⟩)] w (fun x w1 => x = .int .i64 len ∧ Step No w w1) := by
  have hS : Step No w w := Step.refl _ _
  refine CV_enter Try.f15 _ 9 [(0, .pointer (some ⟨b, 0, none⟩))] Try.func15 rfl rfl (by kernel_rfl) rfl ?_
  refine VC_seq ?_
  refine VC_region ?_
  refine VL_pure 1 [0] [(0, .pointer (some ⟨b, 0, none⟩))] (by kernel_rfl) rfl ?_
  refine VL_end (by kernel_rfl) ?_
  refine VQ_next ?_
  refine VC_seq ?_
  refine VC_seq ?_
  refine VC_region ?_
  refine VL_pure 2 [0, 4] [(0, .pointer (some ⟨b, 0, none⟩)), (4, .bool false)] (by kernel_rfl) rfl ?_
  refine VL_end (by kernel_rfl) ?_
  refine VQ_next ?_
  refine VC_false (by kernel_rfl) ?_
  refine VC_skip ?_
  refine VQ_next ?_
  refine VC_seq ?_
  refine VC_region ?_
  refine VL_pure 3 [7] [(7, .pointer (some ⟨b, 640, none⟩))] (by kernel_rfl) rfl ?_
  refine VL_load (d := 8) (t := 3) (a := ⟨b, 640, none⟩) (v := .int .i64 len) (by kernel_rfl) (by kernel_rfl) (Loads.own1 ht (by kernel_rfl) (encT_len s len room)) ?_
  refine VL_pure 5 [2] [(2, .int .i64 len)] (by kernel_rfl) rfl ?_
  refine VL_end (by kernel_rfl) ?_
  refine VQ_next ?_
  refine VC_ret ?_
  refine VQ_ret1 (.int .i64 len) (.inr rfl) rfl rfl ?_
  exact ⟨rfl, hS⟩

theorem find_any (b : Nat) (s : Nat → Slot) (len room : Int) (p v c : Int) (w : World) (ht : Own w b (encT s len room) 62) (e : Nat) (he : e < 128) (hu : (s e).used = false) :
    CV Try.prog 27 #[.pointer (some ⟨b, 0, none⟩), .agg #[.int .i64 p, .int .i64 v, .int .i64 c]] w (fun x w1 => x = .int .i64 ((findN s p v c : Nat) : Int) ∧ Step No w w1) := by
  have hS : Step No w w := Step.refl _ _
  refine CV_enter Try.f27 _ 28 [(0, .pointer (some ⟨b, 0, none⟩)), (1, .agg #[.int .i64 p, .int .i64 v, .int .i64 c])] Try.func27 rfl rfl (by kernel_rfl) rfl ?_
  refine VC_seq ?_
  refine VC_region ?_
  have hzs1 := hS.size
  have hzl1 := ht.lt
  refine VL_box (d := 3) (t := 29) (c := #[.int .i64 p, .int .i64 v, .int .i64 c]) (by kernel_rfl) (by kernel_rfl) ?_
  intro b1 w1 hn1
  replace hS := Step.trans hS (hn1.step No)
  replace ht := ht.no (hn1.step No)
  have ho1 := hn1.own
  have hzhn1 := hn1.size
  have hqhn1 := hn1.eqb
  refine VL_pure 2 [0, 3] [(0, .pointer (some ⟨b, 0, none⟩)), (3, .pointer (some ⟨b1, 0, none⟩))] (by kernel_rfl) rfl ?_
  refine VL_end (by kernel_rfl) ?_
  refine VQ_next ?_
  refine VC_scope ?_
  refine VC_seq ?_
  refine VC_region ?_
  refine VL_load (d := 6) (t := 29) (a := ⟨b1, 0, none⟩) (v := .agg #[.int .i64 p, .int .i64 v, .int .i64 c]) (by kernel_rfl) (by kernel_rfl) (Loads.ownL ho1 (n := 3) (by kernel_rfl) (by kernel_rfl) (by kernel_rfl)) ?_
  have hzs2 := hS.size
  have hzl2 := ht.lt
  have hzl3 := ho1.lt
  refine VL_call (d := 7) (f := 34) (args := #[.agg #[.int .i64 p, .int .i64 v, .int .i64 c]]) (by kernel_rfl) (by kernel_rfl) (by kernel_rfl) Try.call34 (home_any _ _ _ _) ?_
  rintro _ w2 ⟨rfl, hc1⟩
  replace hS := Step.trans hS hc1
  replace ht := ht.no hc1
  replace ho1 := ho1.no hc1
  refine VL_pure 3 [0, 3, 5] [(0, .pointer (some ⟨b, 0, none⟩)), (3, .pointer (some ⟨b1, 0, none⟩)), (5, .int .i64 (((homeN p v c) : Nat) : Int))] (by kernel_rfl) rfl ?_
  refine VL_end (by kernel_rfl) ?_
  refine VQ_next ?_
  refine VC_seq ?_
  refine VC_label ?_
  refine VQ_next ?_
  refine VC_seq ?_
  refine VC_block ?_
  obtain ⟨d0, hd0, hg0⟩ := find_start s p v c e he hu
  refine VC_loop (σ := Nat × Nat) (fun σs => [(0, .pointer (some ⟨b, 0, none⟩)), (3, .pointer (some ⟨b1, 0, none⟩)), (5, .int .i64 ((σs.1 : Nat) : Int))]) (fun σs wr => σs.1 < 128 ∧ (σs.1 + σs.2) % 128 = e ∧ go s p v c (σs.2 + 1) σs.1 = findN s p v c ∧ Step No w wr ∧ Own wr b1 #[.int .i64 p, .int .i64 v, .int .i64 c] 29 ∧ Own wr b (encT s len room) 62) (fun σs wr => σs.2) ⟨homeN p v c, d0⟩ ⟨rfl, rfl, rfl, trivial⟩ ?_ ?_
  · exact ⟨homeN_lt p v c, hd0, hg0, hS, ho1, ht⟩
  rintro ⟨k, d⟩ wr ⟨hk, hd, hgo, hS, ho1, ht⟩
  try dsimp only at hk hd hgo hS ho1 ht ⊢
  refine VC_seq ?_
  refine VC_seq ?_
  refine VC_region ?_
  refine VL_pure 4 [0, 3, 5, 9, 11] [(0, .pointer (some ⟨b, 0, none⟩)), (3, .pointer (some ⟨b1, 0, none⟩)), (5, .int .i64 ((k : Nat) : Int)), (9, .int .i64 ((k : Nat) : Int)), (11, .pointer (some ⟨b, 0, none⟩))] (by kernel_rfl) rfl ?_
  refine VL_index (d := 12) (b := b) (o := 0) (len := 128) (sz := 5) (m := ((k : Nat) : Int)) (by kernel_rfl) (by kernel_rfl) k (by rfl) (by omega) (k * 5) (by omega) ?_
  refine VL_pure 6 [0, 3, 5, 13] [(0, .pointer (some ⟨b, 0, none⟩)), (3, .pointer (some ⟨b1, 0, none⟩)), (5, .int .i64 ((k : Nat) : Int)), (13, .pointer (some ⟨b, k * 5 + 4, none⟩))] (by kernel_rfl) rfl ?_
  refine VL_load (d := 14) (t := 4) (a := ⟨b, k * 5 + 4, none⟩) (v := .bool ((s k).used)) (by kernel_rfl) (by kernel_rfl) (Loads.own1 ht (by kernel_rfl) (encT_used s len room k hk)) ?_
  refine VL_end (by kernel_rfl) ?_
  refine VQ_next ?_
  refine VC_cond ((s k).used) (by kernel_rfl) (fun h1 => ?_) (fun h1 => ?_)
  · try simp only [Bool.and_eq_true, Bool.or_eq_true, decide_eq_true_eq, Bool.not_eq_true', decide_eq_false_iff_not, Bool.and_eq_false_iff, Bool.or_eq_false_iff, beq_iff_eq, bne_iff_ne, beq_eq_false_iff_ne, bne_eq_false_iff_eq, Bool.not_eq_eq_eq_not, Bool.not_true, Bool.not_false] at h1
    refine VC_skip ?_
    refine VQ_next ?_
    refine VC_block ?_
    refine VC_seq ?_
    refine VC_seq ?_
    refine VC_det [[], [], [0], [0, 2], [0, 1, 2, 3], [0, 1, 2, 3, 4], [0, 1, 2, 3, 4, 5], [], [0, 1, 2, 3, 4, 5, 6, 7]] 8 [.pointer (some ⟨b, 0, none⟩), .int .i64 ((k : Nat) : Int), .pointer (some ⟨b, 0, none⟩), .pointer (some ⟨b, 0, none⟩), .pointer (some ⟨b, k * 5, none⟩), .pointer (some ⟨b, k * 5, none⟩), .agg #[.int .i64 ((s k).p), .int .i64 ((s k).v), .int .i64 ((s k).c)], .agg #[.int .i64 p, .int .i64 v, .int .i64 c]] [0, 1, 2, 3, 5] [4, 6, 7] (by kernel_rfl) (by kernel_rfl) (by kernel_rfl) (by kernel_rfl) ?_ ?_
    · intro w3 hs1
      replace hS := Step.trans hS hs1
      replace ht := ht.no hs1
      replace ho1 := ho1.no hs1
      exact ⟨Det1_index (d := 19) (b := b) (o := 0) (len := 128) (sz := 5) (m := ((k : Nat) : Int)) (by kernel_rfl) (by kernel_rfl) k (by rfl) (by omega) (k * 5) (by omega), Det1_load (d := 21) (t := 29) (a := ⟨b, k * 5, none⟩) (by kernel_rfl) (by kernel_rfl) (Loads.own ht (n := 3) (by kernel_rfl) (by rw [encT_size]; omega) (encT_key s len room k hk)), Det1_load (d := 22) (t := 29) (a := ⟨b1, 0, none⟩) (by kernel_rfl) (by kernel_rfl) (Loads.ownL ho1 (n := 3) (by kernel_rfl) (by kernel_rfl) (by kernel_rfl)), trivial⟩
    intro w3 hs1
    replace hS := Step.trans hS hs1
    replace ht := ht.no hs1
    replace ho1 := ho1.no hs1
    refine VL_keep [0, 3, 5, 21, 22] [(0, .pointer (some ⟨b, 0, none⟩)), (3, .pointer (some ⟨b1, 0, none⟩)), (5, .int .i64 ((k : Nat) : Int)), (21, .agg #[.int .i64 ((s k).p), .int .i64 ((s k).v), .int .i64 ((s k).c)]), (22, .agg #[.int .i64 p, .int .i64 v, .int .i64 c])] (by kernel_rfl) ?_
    refine VL_agEq (d := 23) (dd := 9) (ls := ([.int .i64] ++ [.int .i64] ++ [.int .i64] ++ [])) (pos := true) (t := 29) (xs := #[.int .i64 ((s k).p), .int .i64 ((s k).v), .int .i64 ((s k).c)]) (ys := #[.int .i64 p, .int .i64 v, .int .i64 c]) (by kernel_rfl) (by kernel_rfl) (by kernel_rfl) (by kernel_rfl) (by first | exact ⟨⟨_, rfl⟩, ⟨_, rfl⟩, ⟨_, rfl⟩, trivial⟩ | trivial) (by first | exact ⟨⟨_, rfl⟩, ⟨_, rfl⟩, ⟨_, rfl⟩, trivial⟩ | trivial) (hitB (s k) p v c) (by rw [Bool.eq_iff_iff]; simp [cellsEq, leafEq, hitB]) ?_
    refine VL_end (by kernel_rfl) ?_
    refine VQ_next ?_
    refine VC_cond (hitB (s k) p v c) (by kernel_rfl) (fun h2 => ?_) (fun h2 => ?_)
    · try simp only [Bool.and_eq_true, Bool.or_eq_true, decide_eq_true_eq, Bool.not_eq_true', decide_eq_false_iff_not, Bool.and_eq_false_iff, Bool.or_eq_false_iff, beq_iff_eq, bne_iff_ne, beq_eq_false_iff_ne, bne_eq_false_iff_eq, Bool.not_eq_eq_eq_not, Bool.not_true, Bool.not_false] at h2
      refine VC_exit ?_
      refine VQ_then_exit ?_
      refine VQ_block_miss (by kernel_rfl) ?_
      refine VQ_then_exit ?_
      refine VQ_block_hit ?_
      refine VQ_next ?_
      refine VC_seq ?_
      refine VC_region ?_
      refine VL_pure 2 [4] [(4, .int .i64 ((k : Nat) : Int))] (by kernel_rfl) rfl ?_
      refine VL_end (by kernel_rfl) ?_
      refine VQ_next ?_
      refine VC_ret ?_
      refine VQ_scope_ret ?_
      refine VQ_ret1 (.int .i64 ((k : Nat) : Int)) (.inr rfl) rfl rfl ?_
      exact ⟨congrArg (fun n : Nat => Value.int .i64 (n : Int)) (hgo.symm.trans (go_stop s p v c d k (by first | exact Or.inl h1 | exact Or.inr h2))).symm, hS⟩
    · try simp only [Bool.and_eq_true, Bool.or_eq_true, decide_eq_true_eq, Bool.not_eq_true', decide_eq_false_iff_not, Bool.and_eq_false_iff, Bool.or_eq_false_iff, beq_iff_eq, bne_iff_ne, beq_eq_false_iff_ne, bne_eq_false_iff_eq, Bool.not_eq_eq_eq_not, Bool.not_true, Bool.not_false] at h2
      refine VC_skip ?_
      refine VQ_next ?_
      refine VC_region ?_
      refine VL_pure 3 [0, 3, 26] [(0, .pointer (some ⟨b, 0, none⟩)), (3, .pointer (some ⟨b1, 0, none⟩)), (26, .int .i64 ((IntKind.wrap .i64 (((k : Nat) : Int) + 1)).tmod 128))] (by kernel_rfl) rfl ?_
      refine VL_eq [(0, .pointer (some ⟨b, 0, none⟩)), (3, .pointer (some ⟨b1, 0, none⟩)), (26, .int .i64 (((k + 1) % 128 : Nat) : Int))] (by rw [wrap_i64 (_ + 1) (by omega) (by omega), Int.tmod_eq_emod_of_nonneg (by omega)]; rfl) ?_
      refine VL_pure 4 [0, 3, 5] [(0, .pointer (some ⟨b, 0, none⟩)), (3, .pointer (some ⟨b1, 0, none⟩)), (5, .int .i64 (((k + 1) % 128 : Nat) : Int))] (by kernel_rfl) rfl ?_
      refine VL_end (by kernel_rfl) ?_
      refine VQ_block_normal ?_
      refine VQ_again ⟨(k + 1) % 128, d - 1⟩ ⟨rfl, rfl, rfl, trivial⟩ ?_ ?_
      · obtain ⟨a1, a2, a3, a4⟩ := find_again s p v c k d e _ hk hd hu hgo h1 h2
        exact ⟨a1, a2, a3, hS, ho1, ht⟩
      · exact (find_again s p v c k d e _ hk hd hu hgo h1 h2).2.2.2
  · try simp only [Bool.and_eq_true, Bool.or_eq_true, decide_eq_true_eq, Bool.not_eq_true', decide_eq_false_iff_not, Bool.and_eq_false_iff, Bool.or_eq_false_iff, beq_iff_eq, bne_iff_ne, beq_eq_false_iff_ne, bne_eq_false_iff_eq, Bool.not_eq_eq_eq_not, Bool.not_true, Bool.not_false] at h1
    refine VC_exit ?_
    refine VQ_then_exit ?_
    refine VQ_then_exit ?_
    refine VQ_block_hit ?_
    refine VQ_next ?_
    refine VC_seq ?_
    refine VC_region ?_
    refine VL_pure 2 [4] [(4, .int .i64 ((k : Nat) : Int))] (by kernel_rfl) rfl ?_
    refine VL_end (by kernel_rfl) ?_
    refine VQ_next ?_
    refine VC_ret ?_
    refine VQ_scope_ret ?_
    refine VQ_ret1 (.int .i64 ((k : Nat) : Int)) (.inr rfl) rfl rfl ?_
    exact ⟨congrArg (fun n : Nat => Value.int .i64 (n : Int)) (hgo.symm.trans (go_stop s p v c d k (by first | exact Or.inl h1 | exact Or.inr h2))).symm, hS⟩

theorem get_any (b : Nat) (s : Nat → Slot) (len room : Int) (p v c : Int) (w : World) (ht : Own w b (encT s len room) 62) (e : Nat) (he : e < 128) (hu : (s e).used = false) :
    CV Try.prog 14 #[.pointer (some ⟨b, 0, none⟩), .agg #[.int .i64 p, .int .i64 v, .int .i64 c]] w (fun x w1 => x = .tuple #[.int .i64 (s (findN s p v c)).n, .bool (s (findN s p v c)).used] ∧ Step No w w1) := by
  have hS : Step No w w := Step.refl _ _
  have hk := findN_lt s p v c
  have hbl := ht.lt
  refine CV_enter Try.f14 _ 21 [(0, .pointer (some ⟨b, 0, none⟩)), (1, .agg #[.int .i64 p, .int .i64 v, .int .i64 c])] Try.func14 rfl rfl (by kernel_rfl) rfl ?_
  refine VC_seq ?_
  refine VC_region ?_
  have hzs1 := hS.size
  have hzl1 := ht.lt
  refine VL_box (d := 3) (t := 29) (c := #[.int .i64 p, .int .i64 v, .int .i64 c]) (by kernel_rfl) (by kernel_rfl) ?_
  intro b1 w1 hn1
  replace hS := Step.trans hS (hn1.step No)
  replace ht := ht.no (hn1.step No)
  have ho1 := hn1.own
  have hzhn1 := hn1.size
  have hqhn1 := hn1.eqb
  refine VL_pure 3 [0, 3] [(0, .pointer (some ⟨b, 0, none⟩)), (3, .pointer (some ⟨b1, 0, none⟩))] (by kernel_rfl) rfl ?_
  refine VL_end (by kernel_rfl) ?_
  refine VQ_next ?_
  refine VC_seq ?_
  refine VC_seq ?_
  refine VC_region ?_
  refine VL_pure 2 [0, 3, 8] [(0, .pointer (some ⟨b, 0, none⟩)), (3, .pointer (some ⟨b1, 0, none⟩)), (8, .bool false)] (by kernel_rfl) rfl ?_
  refine VL_end (by kernel_rfl) ?_
  refine VQ_next ?_
  refine VC_false (by kernel_rfl) ?_
  refine VC_skip ?_
  refine VQ_next ?_
  refine VC_seq ?_
  refine VC_mix [[], [], [], [1, 2], [0], [0, 4], [0, 1, 2, 3, 4, 5], [0, 1, 2, 3, 4, 5, 6], [], [0, 1, 2, 3, 4, 5, 6, 7, 8]] 9 [.pointer (some ⟨b, 0, none⟩), .pointer (some ⟨b, 0, none⟩), .agg #[.int .i64 p, .int .i64 v, .int .i64 c], .int .i64 ((findN s p v c : Nat) : Int), .pointer (some ⟨b, 0, none⟩), .pointer (some ⟨b, 0, none⟩), .pointer (some ⟨b, (findN s p v c) * 5, none⟩), .agg #[.int .i64 ((s (findN s p v c)).p), .int .i64 ((s (findN s p v c)).v), .int .i64 ((s (findN s p v c)).c), .int .i64 ((s (findN s p v c)).n), .bool ((s (findN s p v c)).used)], undef] [0, 1, 4, 5] [2, 3, 6, 7] [(8, 59, #[.int .i64 0, .int .i64 0, .int .i64 0, .int .i64 0, .bool false])] (by kernel_rfl) (by kernel_rfl) (by kernel_rfl) (by kernel_rfl) (by kernel_rfl) (by kernel_rfl) (by kernel_rfl) ?_ (by kernel_rfl) ?_
  · intro w2 hs1
    replace hS := Step.trans hS hs1
    replace ht := ht.no hs1
    replace ho1 := ho1.no hs1
    exact ⟨Det1_load (d := 11) (t := 29) (a := ⟨b1, 0, none⟩) (by kernel_rfl) (by kernel_rfl) (Loads.ownL ho1 (n := 3) (by kernel_rfl) (by kernel_rfl) (by kernel_rfl)), Det1_call (d := 12) (f := 27) (args := #[.pointer (some ⟨b, 0, none⟩), .agg #[.int .i64 p, .int .i64 v, .int .i64 c]]) (by kernel_rfl) (by kernel_rfl) (by kernel_rfl) Try.call27 (by exact find_any b s len room p v c w2 ht e he hu), Det1_index (d := 15) (b := b) (o := 0) (len := 128) (sz := 5) (m := ((findN s p v c : Nat) : Int)) (by kernel_rfl) (by kernel_rfl) (findN s p v c) (by rfl) (by omega) ((findN s p v c) * 5) (by omega), Det1_load (d := 16) (t := 59) (a := ⟨b, (findN s p v c) * 5, none⟩) (by kernel_rfl) (by kernel_rfl) (Loads.own ht (n := 5) (by kernel_rfl) (by rw [encT_size]; omega) (encT_all s len room (findN s p v c) hk)), trivial⟩
  intro w2 bs1 hs1 hnw1
  replace hS := Step.trans hS hs1
  replace ht := ht.no hs1
  replace ho1 := ho1.no hs1
  refine VL_keep [16, 6] [(16, .agg #[.int .i64 ((s (findN s p v c)).p), .int .i64 ((s (findN s p v c)).v), .int .i64 ((s (findN s p v c)).c), .int .i64 ((s (findN s p v c)).n), .bool ((s (findN s p v c)).used)]), (6, .pointer (some ⟨(bs1 8), 0, none⟩))] (by kernel_rfl) ?_
  obtain ⟨⟨hleb2, hob2⟩, -⟩ := hnw1
  generalize bs1 8 = b2 at hleb2 hob2 ⊢
  refine VL_keep [16, 6] [(16, .agg #[.int .i64 ((s (findN s p v c)).p), .int .i64 ((s (findN s p v c)).v), .int .i64 ((s (findN s p v c)).c), .int .i64 ((s (findN s p v c)).n), .bool ((s (findN s p v c)).used)]), (6, .pointer (some ⟨b2, 0, none⟩))] (by kernel_rfl) ?_
  refine VL_store (b := b2) (o := 0) (vs := [.int .i64 ((s (findN s p v c)).p), .int .i64 ((s (findN s p v c)).v), .int .i64 ((s (findN s p v c)).c), .int .i64 ((s (findN s p v c)).n), .bool ((s (findN s p v c)).used)]) (by kernel_rfl) (by kernel_rfl) hob2 (Nat.le_of_ble_eq_true (by kernel_rfl)) ?_
  intro w3 hw1
  replace hS := Step.transNew hS hw1.step (fun _ _ _ => by omega)
  replace ht := ht.step hw1.step (show ¬ b = b2 by omega)
  replace ho1 := ho1.step hw1.step (show ¬ b1 = b2 by omega)
  have ho2 : Own w3 b2 #[.int .i64 ((s (findN s p v c)).p), .int .i64 ((s (findN s p v c)).v), .int .i64 ((s (findN s p v c)).c), .int .i64 ((s (findN s p v c)).n), .bool ((s (findN s p v c)).used)] 59 := Own.cast hw1.own (by kernel_rfl)
  have hzhw1 := hw1.same
  refine VL_end (by kernel_rfl) ?_
  refine VQ_next ?_
  refine VC_seq ?_
  refine VC_det [[], [0], [], [2], [0, 1], [0, 1, 2, 3, 4]] 5 [.pointer (some ⟨b2, 3, none⟩), .int .i64 ((s (findN s p v c)).n), .pointer (some ⟨b2, 4, none⟩), .bool ((s (findN s p v c)).used), .int .i64 ((s (findN s p v c)).n)] [0, 2, 4] [1, 3] (by kernel_rfl) (by kernel_rfl) (by kernel_rfl) (by kernel_rfl) ?_ ?_
  · intro w4 hs2
    replace hS := Step.trans hS hs2
    replace ht := ht.no hs2
    replace ho1 := ho1.no hs2
    replace ho2 := ho2.no hs2
    exact ⟨Det1_load (d := 18) (t := 3) (a := ⟨b2, 3, none⟩) (by kernel_rfl) (by kernel_rfl) (Loads.own1 ho2 (by kernel_rfl) (by rfl)), Det1_load (d := 20) (t := 4) (a := ⟨b2, 4, none⟩) (by kernel_rfl) (by kernel_rfl) (Loads.own1 ho2 (by kernel_rfl) (by rfl)), trivial⟩
  intro w4 hs2
  replace hS := Step.trans hS hs2
  replace ht := ht.no hs2
  replace ho1 := ho1.no hs2
  replace ho2 := ho2.no hs2
  refine VL_keep [20, 4] [(20, .bool ((s (findN s p v c)).used)), (4, .int .i64 ((s (findN s p v c)).n))] (by kernel_rfl) ?_
  refine VL_pure 6 [4, 5] [(4, .int .i64 ((s (findN s p v c)).n)), (5, .bool ((s (findN s p v c)).used))] (by kernel_rfl) rfl ?_
  refine VL_end (by kernel_rfl) ?_
  refine VQ_next ?_
  refine VC_ret ?_
  refine VQ_ret2 (.int .i64 ((s (findN s p v c)).n)) (.bool ((s (findN s p v c)).used)) (.inr rfl) rfl rfl rfl ?_
  exact ⟨rfl, hS⟩

theorem put_any (b : Nat) (s : Nat → Slot) (len room : Int) (p v c n : Int) (w : World) (ht : Own w b (encT s len room) 62) (e : Nat) (he : e < 128) (hu : (s e).used = false) (hl0 : 0 ≤ len) (hl : len < 1000) :
    CV Try.prog 11 #[.pointer (some ⟨b, 0, none⟩), .agg #[.int .i64 p, .int .i64 v, .int .i64 c], .int .i64 n] w (fun x w1 => x = .int .i64 (putC s len room p v c) ∧ Own w1 b (encT (putS s len room p v c n) (putL s len room p v c) room) 62 ∧ Step (Just b) w w1) := by
  have hS : Step (Just b) w w := Step.refl _ _
  have hk := findN_lt s p v c
  have hbl := ht.lt
  refine CV_enter Try.f11 _ 49 [(0, .pointer (some ⟨b, 0, none⟩)), (1, .agg #[.int .i64 p, .int .i64 v, .int .i64 c]), (2, .int .i64 n)] Try.func11 rfl rfl (by kernel_rfl) rfl ?_
  refine VC_seq ?_
  refine VC_region ?_
  have hzs1 := hS.size
  have hzl1 := ht.lt
  refine VL_box (d := 4) (t := 29) (c := #[.int .i64 p, .int .i64 v, .int .i64 c]) (by kernel_rfl) (by kernel_rfl) ?_
  intro b1 w1 hn1
  replace hS := Step.trans hS (Step.weak (hn1.step No))
  replace ht := ht.no (hn1.step No)
  have ho1 := hn1.own
  have hzhn1 := hn1.size
  have hqhn1 := hn1.eqb
  refine VL_pure 2 [0, 2, 4] [(0, .pointer (some ⟨b, 0, none⟩)), (2, .int .i64 n), (4, .pointer (some ⟨b1, 0, none⟩))] (by kernel_rfl) rfl ?_
  refine VL_end (by kernel_rfl) ?_
  refine VQ_next ?_
  refine VC_seq ?_
  refine VC_seq ?_
  refine VC_region ?_
  refine VL_pure 2 [0, 2, 4, 9] [(0, .pointer (some ⟨b, 0, none⟩)), (2, .int .i64 n), (4, .pointer (some ⟨b1, 0, none⟩)), (9, .bool false)] (by kernel_rfl) rfl ?_
  refine VL_end (by kernel_rfl) ?_
  refine VQ_next ?_
  refine VC_false (by kernel_rfl) ?_
  refine VC_skip ?_
  refine VQ_next ?_
  refine VC_seq ?_
  refine VC_seq ?_
  refine VC_region ?_
  refine VL_load (d := 10) (t := 29) (a := ⟨b1, 0, none⟩) (v := .agg #[.int .i64 p, .int .i64 v, .int .i64 c]) (by kernel_rfl) (by kernel_rfl) (Loads.ownL ho1 (n := 3) (by kernel_rfl) (by kernel_rfl) (by kernel_rfl)) ?_
  have hzs2 := hS.size
  have hzl2 := ht.lt
  have hzl3 := ho1.lt
  refine VL_call (d := 11) (f := 13) (args := #[.agg #[.int .i64 p, .int .i64 v, .int .i64 c]]) (by kernel_rfl) (by kernel_rfl) (by kernel_rfl) Try.call13 (right_any _ _ _ _) ?_
  rintro _ w2 ⟨rfl, hc1⟩
  replace hS := Step.trans hS (Step.weak hc1)
  replace ht := ht.no hc1
  replace ho1 := ho1.no hc1
  refine VL_pure 3 [0, 2, 4, 12] [(0, .pointer (some ⟨b, 0, none⟩)), (2, .int .i64 n), (4, .pointer (some ⟨b1, 0, none⟩)), (12, .bool (!(rightB p v c)))] (by kernel_rfl) rfl ?_
  refine VL_end (by kernel_rfl) ?_
  refine VQ_next ?_
  refine VC_cond (!(rightB p v c)) (by kernel_rfl) (fun h1 => ?_) (fun h1 => ?_)
  · try simp only [Bool.and_eq_true, Bool.or_eq_true, decide_eq_true_eq, Bool.not_eq_true', decide_eq_false_iff_not, Bool.and_eq_false_iff, Bool.or_eq_false_iff, beq_iff_eq, bne_iff_ne, beq_eq_false_iff_ne, bne_eq_false_iff_eq, Bool.not_eq_eq_eq_not, Bool.not_true, Bool.not_false] at h1
    refine VC_seq ?_
    refine VC_region ?_
    refine VL_pure 1 [6] [(6, .int .i64 1)] (by kernel_rfl) rfl ?_
    refine VL_end (by kernel_rfl) ?_
    refine VQ_next ?_
    refine VC_ret ?_
    refine VQ_then_ret ?_
    refine VQ_ret1 (.int .i64 1) (.inr rfl) rfl rfl ?_
    exact put_fin s len room p v c n (ht := ht) hS (by first | exact .inl ⟨h1, rfl, rfl⟩ | exact .inr (.inl ⟨h1, h2, rfl, rfl⟩) | exact .inr (.inr (.inl ⟨h1, h2, h3, rfl, rfl⟩)) | exact .inr (.inr (.inr ⟨h1, h2, h3, rfl, rfl⟩)))
  · try simp only [Bool.and_eq_true, Bool.or_eq_true, decide_eq_true_eq, Bool.not_eq_true', decide_eq_false_iff_not, Bool.and_eq_false_iff, Bool.or_eq_false_iff, beq_iff_eq, bne_iff_ne, beq_eq_false_iff_ne, bne_eq_false_iff_eq, Bool.not_eq_eq_eq_not, Bool.not_true, Bool.not_false] at h1
    refine VC_skip ?_
    refine VQ_next ?_
    refine VC_seq ?_
    refine VC_region ?_
    refine VL_pure 1 [0, 2, 4, 13] [(0, .pointer (some ⟨b, 0, none⟩)), (2, .int .i64 n), (4, .pointer (some ⟨b1, 0, none⟩)), (13, .pointer (some ⟨b, 0, none⟩))] (by kernel_rfl) rfl ?_
    refine VL_load (d := 14) (t := 29) (a := ⟨b1, 0, none⟩) (v := .agg #[.int .i64 p, .int .i64 v, .int .i64 c]) (by kernel_rfl) (by kernel_rfl) (Loads.ownL ho1 (n := 3) (by kernel_rfl) (by kernel_rfl) (by kernel_rfl)) ?_
    have hzs3 := hS.size
    have hzl4 := ht.lt
    have hzl5 := ho1.lt
    refine VL_call (d := 15) (f := 27) (args := #[.pointer (some ⟨b, 0, none⟩), .agg #[.int .i64 p, .int .i64 v, .int .i64 c]]) (by kernel_rfl) (by kernel_rfl) (by kernel_rfl) Try.call27 (find_any b s len room p v c w2 ht e he hu) ?_
    rintro _ w3 ⟨rfl, hc2⟩
    replace hS := Step.trans hS (Step.weak hc2)
    replace ht := ht.no hc2
    replace ho1 := ho1.no hc2
    refine VL_pure 4 [0, 2, 4, 7] [(0, .pointer (some ⟨b, 0, none⟩)), (2, .int .i64 n), (4, .pointer (some ⟨b1, 0, none⟩)), (7, .int .i64 ((findN s p v c : Nat) : Int))] (by kernel_rfl) rfl ?_
    refine VL_end (by kernel_rfl) ?_
    refine VQ_next ?_
    refine VC_seq ?_
    refine VC_block ?_
    refine VC_seq ?_
    refine VC_region ?_
    refine VL_pure 4 [0, 2, 4, 7, 18, 20] [(0, .pointer (some ⟨b, 0, none⟩)), (2, .int .i64 n), (4, .pointer (some ⟨b1, 0, none⟩)), (7, .int .i64 ((findN s p v c : Nat) : Int)), (18, .int .i64 ((findN s p v c : Nat) : Int)), (20, .pointer (some ⟨b, 0, none⟩))] (by kernel_rfl) rfl ?_
    refine VL_index (d := 21) (b := b) (o := 0) (len := 128) (sz := 5) (m := ((findN s p v c : Nat) : Int)) (by kernel_rfl) (by kernel_rfl) (findN s p v c) (by rfl) (by omega) ((findN s p v c) * 5) (by omega) ?_
    refine VL_pure 6 [0, 2, 4, 7, 22] [(0, .pointer (some ⟨b, 0, none⟩)), (2, .int .i64 n), (4, .pointer (some ⟨b1, 0, none⟩)), (7, .int .i64 ((findN s p v c : Nat) : Int)), (22, .pointer (some ⟨b, (findN s p v c) * 5 + 4, none⟩))] (by kernel_rfl) rfl ?_
    refine VL_load (d := 23) (t := 4) (a := ⟨b, (findN s p v c) * 5 + 4, none⟩) (v := .bool ((s (findN s p v c)).used)) (by kernel_rfl) (by kernel_rfl) (Loads.own1 ht (by kernel_rfl) (encT_used s len room (findN s p v c) hk)) ?_
    refine VL_pure 8 [0, 2, 4, 7, 16] [(0, .pointer (some ⟨b, 0, none⟩)), (2, .int .i64 n), (4, .pointer (some ⟨b1, 0, none⟩)), (7, .int .i64 ((findN s p v c : Nat) : Int)), (16, .bool ((s (findN s p v c)).used))] (by kernel_rfl) rfl ?_
    refine VL_end (by kernel_rfl) ?_
    refine VQ_next ?_
    refine VC_cond ((s (findN s p v c)).used) (by kernel_rfl) (fun h2 => ?_) (fun h2 => ?_)
    · try simp only [Bool.and_eq_true, Bool.or_eq_true, decide_eq_true_eq, Bool.not_eq_true', decide_eq_false_iff_not, Bool.and_eq_false_iff, Bool.or_eq_false_iff, beq_iff_eq, bne_iff_ne, beq_eq_false_iff_ne, bne_eq_false_iff_eq, Bool.not_eq_eq_eq_not, Bool.not_true, Bool.not_false] at h2
      refine VC_seq ?_
      refine VC_region ?_
      refine VL_pure 1 [6] [(6, .int .i64 7)] (by kernel_rfl) rfl ?_
      refine VL_end (by kernel_rfl) ?_
      refine VQ_next ?_
      refine VC_ret ?_
      refine VQ_block_ret ?_
      refine VQ_then_ret ?_
      refine VQ_ret1 (.int .i64 7) (.inr rfl) rfl rfl ?_
      exact put_fin s len room p v c n (ht := ht) hS (by first | exact .inl ⟨h1, rfl, rfl⟩ | exact .inr (.inl ⟨h1, h2, rfl, rfl⟩) | exact .inr (.inr (.inl ⟨h1, h2, h3, rfl, rfl⟩)) | exact .inr (.inr (.inr ⟨h1, h2, h3, rfl, rfl⟩)))
    · try simp only [Bool.and_eq_true, Bool.or_eq_true, decide_eq_true_eq, Bool.not_eq_true', decide_eq_false_iff_not, Bool.and_eq_false_iff, Bool.or_eq_false_iff, beq_iff_eq, bne_iff_ne, beq_eq_false_iff_ne, bne_eq_false_iff_eq, Bool.not_eq_eq_eq_not, Bool.not_true, Bool.not_false] at h2
      refine VC_seq ?_
      refine VC_det [[], [0], [0, 1], [0, 1, 2], [], [4], [4, 5], [4, 5, 6], [0, 1, 2, 3, 4, 5, 6, 7], [0, 1, 2, 3, 4, 5, 6, 7, 8]] 8 [.pointer (some ⟨b, 0, none⟩), .pointer (some ⟨b, 0, none⟩), .pointer (some ⟨b, 640, none⟩), .int .i64 len, .pointer (some ⟨b, 0, none⟩), .pointer (some ⟨b, 0, none⟩), .pointer (some ⟨b, 641, none⟩), .int .i64 room] [0, 1, 2, 4, 5, 6] [3, 7] (by kernel_rfl) (by kernel_rfl) (by kernel_rfl) (by kernel_rfl) ?_ ?_
      · intro w4 hs1
        replace hS := Step.trans hS (Step.weak hs1)
        replace ht := ht.no hs1
        replace ho1 := ho1.no hs1
        exact ⟨Det1_load (d := 28) (t := 3) (a := ⟨b, 640, none⟩) (by kernel_rfl) (by kernel_rfl) (Loads.own1 ht (by kernel_rfl) (encT_len s len room)), Det1_load (d := 32) (t := 3) (a := ⟨b, 641, none⟩) (by kernel_rfl) (by kernel_rfl) (Loads.own1 ht (by kernel_rfl) (encT_room s len room)), trivial⟩
      intro w4 hs1
      replace hS := Step.trans hS (Step.weak hs1)
      replace ht := ht.no hs1
      replace ho1 := ho1.no hs1
      refine VL_keep [0, 2, 4, 7, 28, 32] [(0, .pointer (some ⟨b, 0, none⟩)), (2, .int .i64 n), (4, .pointer (some ⟨b1, 0, none⟩)), (7, .int .i64 ((findN s p v c : Nat) : Int)), (28, .int .i64 len), (32, .int .i64 room)] (by kernel_rfl) ?_
      refine VL_pure 10 [0, 2, 4, 7, 24] [(0, .pointer (some ⟨b, 0, none⟩)), (2, .int .i64 n), (4, .pointer (some ⟨b1, 0, none⟩)), (7, .int .i64 ((findN s p v c : Nat) : Int)), (24, .bool (decide (len ≥ room)))] (by kernel_rfl) rfl ?_
      refine VL_end (by kernel_rfl) ?_
      refine VQ_next ?_
      refine VC_dec (len ≥ room) (by kernel_rfl) (fun h3 => ?_) (fun h3 => ?_)
      · refine VC_seq ?_
        refine VC_region ?_
        refine VL_pure 1 [6] [(6, .int .i64 9)] (by kernel_rfl) rfl ?_
        refine VL_end (by kernel_rfl) ?_
        refine VQ_next ?_
        refine VC_ret ?_
        refine VQ_block_ret ?_
        refine VQ_then_ret ?_
        refine VQ_ret1 (.int .i64 9) (.inr rfl) rfl rfl ?_
        exact put_fin s len room p v c n (ht := ht) hS (by first | exact .inl ⟨h1, rfl, rfl⟩ | exact .inr (.inl ⟨h1, h2, rfl, rfl⟩) | exact .inr (.inr (.inl ⟨h1, h2, h3, rfl, rfl⟩)) | exact .inr (.inr (.inr ⟨h1, h2, h3, rfl, rfl⟩)))
      · refine VC_skip ?_
        refine VQ_block_normal ?_
        refine VQ_next ?_
        refine VC_seq ?_
        refine VC_det [[], [], [], [], [2, 3], [0], [0, 5], [0, 1, 2, 3, 4, 5, 6], [0, 1, 2, 3, 4, 5, 6, 7]] 7 [.pointer (some ⟨b, 0, none⟩), .int .i64 ((findN s p v c : Nat) : Int), .agg #[.int .i64 p, .int .i64 v, .int .i64 c], .int .i64 n, .agg #[.int .i64 p, .int .i64 v, .int .i64 c, .int .i64 n, .bool true], .pointer (some ⟨b, 0, none⟩), .pointer (some ⟨b, 0, none⟩)] [0, 1, 3, 4, 5, 6] [2] (by kernel_rfl) (by kernel_rfl) (by kernel_rfl) (by kernel_rfl) ?_ ?_
        · intro w5 hs2
          replace hS := Step.trans hS (Step.weak hs2)
          replace ht := ht.no hs2
          replace ho1 := ho1.no hs2
          exact ⟨Det1_load (d := 36) (t := 29) (a := ⟨b1, 0, none⟩) (by kernel_rfl) (by kernel_rfl) (Loads.ownL ho1 (n := 3) (by kernel_rfl) (by kernel_rfl) (by kernel_rfl)), trivial⟩
        intro w5 hs2
        replace hS := Step.trans hS (Step.weak hs2)
        replace ht := ht.no hs2
        replace ho1 := ho1.no hs2
        refine VL_keep [0, 35, 38, 40] [(0, .pointer (some ⟨b, 0, none⟩)), (35, .int .i64 ((findN s p v c : Nat) : Int)), (38, .agg #[.int .i64 p, .int .i64 v, .int .i64 c, .int .i64 n, .bool true]), (40, .pointer (some ⟨b, 0, none⟩))] (by kernel_rfl) ?_
        refine VL_index (d := 41) (b := b) (o := 0) (len := 128) (sz := 5) (m := ((findN s p v c : Nat) : Int)) (by kernel_rfl) (by kernel_rfl) (findN s p v c) (by rfl) (by omega) ((findN s p v c) * 5) (by omega) ?_
        refine VL_store (b := b) (o := (findN s p v c) * 5) (vs := [.int .i64 p, .int .i64 v, .int .i64 c, .int .i64 n, .bool true]) (by kernel_rfl) (by kernel_rfl) ht (by rw [encT_size]; show _ + 5 ≤ _; omega) ?_
        intro w6 hw1
        replace hS := Step.trans hS (Step.mono hw1.step (by intro i hi; first | exact hi | (have hi9 : i = b := hi; (first | show _ ∨ _ | show _ = _); omega)))
        replace ho1 := ho1.step hw1.step (show ¬ b1 = b by omega)
        have ho2 : Own w6 b (encT (setS s (findN s p v c) ⟨p, v, c, n, true⟩) len room) 62 := Own.cast hw1.own (setRow_slot s len room (findN s p v c) hk ⟨p, v, c, n, true⟩)
        have hzhw1 := hw1.same
        refine VL_end (by kernel_rfl) ?_
        refine VQ_next ?_
        refine VC_seq ?_
        refine VC_region ?_
        refine VL_pure 3 [42, 44] [(42, .pointer (some ⟨b, 0, none⟩)), (44, .pointer (some ⟨b, 640, none⟩))] (by kernel_rfl) rfl ?_
        refine VL_load (d := 45) (t := 3) (a := ⟨b, 640, none⟩) (v := .int .i64 len) (by kernel_rfl) (by kernel_rfl) (Loads.own1 ho2 (by kernel_rfl) (encT_len (setS s (findN s p v c) ⟨p, v, c, n, true⟩) len room)) ?_
        refine VL_pure 5 [42, 46] [(42, .pointer (some ⟨b, 0, none⟩)), (46, .int .i64 (IntKind.wrap .i64 (len + 1)))] (by kernel_rfl) rfl ?_
        refine VL_eq [(42, .pointer (some ⟨b, 0, none⟩)), (46, .int .i64 (len + 1))] (by rw [wrap_i64 (len + 1) (by omega) (by omega)]) ?_
        refine VL_pure 7 [46, 48] [(46, .int .i64 (len + 1)), (48, .pointer (some ⟨b, 640, none⟩))] (by kernel_rfl) rfl ?_
        refine VL_store (b := b) (o := 640) (vs := [.int .i64 (len + 1)]) (by kernel_rfl) (by kernel_rfl) ho2 (by rw [encT_size]; exact Nat.le_of_ble_eq_true (by kernel_rfl)) ?_
        intro w7 hw2
        replace hS := Step.trans hS (Step.mono hw2.step (by intro i hi; first | exact hi | (have hi9 : i = b := hi; (first | show _ ∨ _ | show _ = _); omega)))
        replace ho1 := ho1.step hw2.step (show ¬ b1 = b by omega)
        have ho3 : Own w7 b (encT (setS s (findN s p v c) ⟨p, v, c, n, true⟩) (len + 1) room) 62 := Own.cast hw2.own (setRow_len _ _ _ _)
        have hzhw2 := hw2.same
        refine VL_end (by kernel_rfl) ?_
        refine VQ_next ?_
        refine VC_seq ?_
        refine VC_region ?_
        refine VL_pure 1 [6] [(6, .int .i64 0)] (by kernel_rfl) rfl ?_
        refine VL_end (by kernel_rfl) ?_
        refine VQ_next ?_
        refine VC_ret ?_
        refine VQ_ret1 (.int .i64 0) (.inr rfl) rfl rfl ?_
        exact put_fin s len room p v c n (ht := ho3) hS (by first | exact .inl ⟨h1, rfl, rfl⟩ | exact .inr (.inl ⟨h1, h2, rfl, rfl⟩) | exact .inr (.inr (.inl ⟨h1, h2, h3, rfl, rfl⟩)) | exact .inr (.inr (.inr ⟨h1, h2, h3, rfl, rfl⟩)))

theorem free_any (b : Nat) (s : Nat → Slot) (len room : Int) (p v fr : Int) (w : World) (ht : Own w b (encT s len room) 62) (e : Nat) (he : e < 128) (hu : (s e).used = false) :
    CV Try.prog 12 #[.pointer (some ⟨b, 0, none⟩), .int .i64 p, .int .i64 v, .int .i64 fr] w (fun x w1 => ∃ r ok, x = .tuple #[.int .i64 r, .bool ok] ∧ FreeP s p v fr r ok ∧ Step No w w1) := by
  have hS : Step No w w := Step.refl _ _
  have hbl := ht.lt
  refine CV_enter Try.f12 _ 38 [(0, .pointer (some ⟨b, 0, none⟩)), (1, .int .i64 p), (2, .int .i64 v), (3, .int .i64 fr)] Try.func12 rfl rfl (by kernel_rfl) rfl ?_
  refine VC_seq ?_
  refine VC_region ?_
  refine VL_pure 2 [0, 1, 2, 3] [(0, .pointer (some ⟨b, 0, none⟩)), (1, .int .i64 p), (2, .int .i64 v), (3, .int .i64 fr)] (by kernel_rfl) rfl ?_
  refine VL_end (by kernel_rfl) ?_
  refine VQ_next ?_
  refine VC_seq ?_
  refine VC_seq ?_
  refine VC_region ?_
  refine VL_pure 3 [0, 1, 2, 10] [(0, .pointer (some ⟨b, 0, none⟩)), (1, .int .i64 p), (2, .int .i64 v), (10, .int .i64 (imax fr 0))] (by kernel_rfl) rfl ?_
  refine VL_end (by kernel_rfl) ?_
  refine VQ_next ?_
  refine VC_block ?_
  refine VC_loop (σ := Int) (fun σs => [(0, .pointer (some ⟨b, 0, none⟩)), (1, .int .i64 p), (2, .int .i64 v), (10, .int .i64 σs)]) (fun σs wr => imax fr 0 ≤ σs ∧ (∀ i, imax fr 0 ≤ i → i < σs → rightB p v i = true ∧ there s p v i = true) ∧ Step No w wr ∧ Own wr b (encT s len room) 62) (fun σs wr => (65536 - σs).toNat) (imax fr 0) ⟨rfl, rfl, rfl, rfl, trivial⟩ ?_ ?_
  · exact ⟨Int.le_refl _, fun i h1 h2 => by omega, hS, ht⟩
  rintro c wr ⟨hc, hall, hS, ht⟩
  try dsimp only at hc hall hS ht ⊢
  refine VC_seq ?_
  refine VC_seq ?_
  refine VC_region ?_
  refine VL_pure 7 [0, 1, 2, 10, 17, 21] [(0, .pointer (some ⟨b, 0, none⟩)), (1, .int .i64 p), (2, .int .i64 v), (10, .int .i64 c), (17, .bool true), (21, .agg #[.int .i64 p, .int .i64 v, .int .i64 c])] (by kernel_rfl) rfl ?_
  have hzs1 := hS.size
  have hzl1 := ht.lt
  refine VL_call (d := 22) (f := 13) (args := #[.agg #[.int .i64 p, .int .i64 v, .int .i64 c]]) (by kernel_rfl) (by kernel_rfl) (by kernel_rfl) Try.call13 (right_any _ _ _ _) ?_
  rintro _ w1 ⟨rfl, hc1⟩
  replace hS := Step.trans hS hc1
  replace ht := ht.no hc1
  refine VL_pure 9 [0, 1, 2, 10, 23] [(0, .pointer (some ⟨b, 0, none⟩)), (1, .int .i64 p), (2, .int .i64 v), (10, .int .i64 c), (23, .bool (rightB p v c))] (by kernel_rfl) rfl ?_
  refine VL_end (by kernel_rfl) ?_
  refine VQ_next ?_
  refine VC_cond (rightB p v c) (by kernel_rfl) (fun h1 => ?_) (fun h1 => ?_)
  · try simp only [Bool.and_eq_true, Bool.or_eq_true, decide_eq_true_eq, Bool.not_eq_true', decide_eq_false_iff_not, Bool.and_eq_false_iff, Bool.or_eq_false_iff, beq_iff_eq, bne_iff_ne, beq_eq_false_iff_ne, bne_eq_false_iff_eq, Bool.not_eq_eq_eq_not, Bool.not_true, Bool.not_false] at h1
    refine VC_skip ?_
    refine VQ_next ?_
    refine VC_seq ?_
    refine VC_block ?_
    refine VC_seq ?_
    refine VC_region ?_
    refine VL_pure 5 [0, 1, 2, 10, 27, 31] [(0, .pointer (some ⟨b, 0, none⟩)), (1, .int .i64 p), (2, .int .i64 v), (10, .int .i64 c), (27, .pointer (some ⟨b, 0, none⟩)), (31, .agg #[.int .i64 p, .int .i64 v, .int .i64 c])] (by kernel_rfl) rfl ?_
    have hzs2 := hS.size
    have hzl2 := ht.lt
    refine VL_call (d := 32) (f := 14) (args := #[.pointer (some ⟨b, 0, none⟩), .agg #[.int .i64 p, .int .i64 v, .int .i64 c]]) (by kernel_rfl) (by kernel_rfl) (by kernel_rfl) Try.call14 (get_any b s len room p v c w1 ht e he hu) ?_
    rintro _ w2 ⟨rfl, hc2⟩
    replace hS := Step.trans hS hc2
    replace ht := ht.no hc2
    refine VL_pure 11 [0, 1, 2, 10, 12] [(0, .pointer (some ⟨b, 0, none⟩)), (1, .int .i64 p), (2, .int .i64 v), (10, .int .i64 c), (12, .bool (there s p v c))] (by kernel_rfl) rfl ?_
    refine VL_end (by kernel_rfl) ?_
    refine VQ_next ?_
    refine VC_seq ?_
    refine VC_region ?_
    refine VL_pure 2 [0, 1, 2, 10, 36] [(0, .pointer (some ⟨b, 0, none⟩)), (1, .int .i64 p), (2, .int .i64 v), (10, .int .i64 c), (36, .bool (!(there s p v c)))] (by kernel_rfl) rfl ?_
    refine VL_end (by kernel_rfl) ?_
    refine VQ_next ?_
    refine VC_cond (!(there s p v c)) (by kernel_rfl) (fun h2 => ?_) (fun h2 => ?_)
    · try simp only [Bool.and_eq_true, Bool.or_eq_true, decide_eq_true_eq, Bool.not_eq_true', decide_eq_false_iff_not, Bool.and_eq_false_iff, Bool.or_eq_false_iff, beq_iff_eq, bne_iff_ne, beq_eq_false_iff_ne, bne_eq_false_iff_eq, Bool.not_eq_eq_eq_not, Bool.not_true, Bool.not_false] at h2
      refine VC_seq ?_
      refine VC_region ?_
      refine VL_pure 3 [8, 9] [(8, .int .i64 c), (9, .bool true)] (by kernel_rfl) rfl ?_
      refine VL_end (by kernel_rfl) ?_
      refine VQ_next ?_
      refine VC_ret ?_
      refine VQ_block_ret ?_
      refine VQ_then_ret ?_
      refine VQ_then_ret ?_
      refine VQ_block_ret ?_
      refine VQ_then_ret ?_
      refine VQ_ret2 (.int .i64 c) (.bool true) (.inr rfl) rfl rfl rfl ?_
      first | exact ⟨_, _, rfl, ⟨c, hc, hall, .inl ⟨rfl, rfl, h1, by simpa using h2⟩⟩, hS⟩ | exact ⟨_, _, rfl, ⟨c, hc, hall, .inr ⟨rfl, rfl, h1⟩⟩, hS⟩
    · try simp only [Bool.and_eq_true, Bool.or_eq_true, decide_eq_true_eq, Bool.not_eq_true', decide_eq_false_iff_not, Bool.and_eq_false_iff, Bool.or_eq_false_iff, beq_iff_eq, bne_iff_ne, beq_eq_false_iff_ne, bne_eq_false_iff_eq, Bool.not_eq_eq_eq_not, Bool.not_true, Bool.not_false] at h2
      refine VC_skip ?_
      refine VQ_block_normal ?_
      refine VQ_next ?_
      refine VC_region ?_
      refine VL_pure 2 [0, 1, 2, 25] [(0, .pointer (some ⟨b, 0, none⟩)), (1, .int .i64 p), (2, .int .i64 v), (25, .int .i64 (IntKind.wrap .i64 (c + 1)))] (by kernel_rfl) rfl ?_
      refine VL_eq [(0, .pointer (some ⟨b, 0, none⟩)), (1, .int .i64 p), (2, .int .i64 v), (25, .int .i64 (c + 1))] (by rw [wrap_i64 (c + 1) (by have := rightB_lt h1; omega) (by have := rightB_lt h1; omega)]) ?_
      refine VL_pure 3 [0, 1, 2, 10] [(0, .pointer (some ⟨b, 0, none⟩)), (1, .int .i64 p), (2, .int .i64 v), (10, .int .i64 (c + 1))] (by kernel_rfl) rfl ?_
      refine VL_end (by kernel_rfl) ?_
      refine VQ_again (c + 1) ⟨rfl, rfl, rfl, rfl, trivial⟩ ?_ ?_
      · exact ⟨by omega, free_next hall h1 (by simpa using h2), hS, ht⟩
      · have := rightB_lt h1; omega
  · try simp only [Bool.and_eq_true, Bool.or_eq_true, decide_eq_true_eq, Bool.not_eq_true', decide_eq_false_iff_not, Bool.and_eq_false_iff, Bool.or_eq_false_iff, beq_iff_eq, bne_iff_ne, beq_eq_false_iff_ne, bne_eq_false_iff_eq, Bool.not_eq_eq_eq_not, Bool.not_true, Bool.not_false] at h1
    refine VC_exit ?_
    refine VQ_then_exit ?_
    refine VQ_then_exit ?_
    refine VQ_block_hit ?_
    refine VQ_next ?_
    refine VC_seq ?_
    refine VC_region ?_
    refine VL_pure 2 [8, 9] [(8, .int .i64 0), (9, .bool false)] (by kernel_rfl) rfl ?_
    refine VL_end (by kernel_rfl) ?_
    refine VQ_next ?_
    refine VC_ret ?_
    refine VQ_ret2 (.int .i64 0) (.bool false) (.inr rfl) rfl rfl rfl ?_
    first | exact ⟨_, _, rfl, ⟨c, hc, hall, .inl ⟨rfl, rfl, h1, by simpa using h2⟩⟩, hS⟩ | exact ⟨_, _, rfl, ⟨c, hc, hall, .inr ⟨rfl, rfl, h1⟩⟩, hS⟩

end Go.Proofs.Ytfkahhkojlfmdaa
