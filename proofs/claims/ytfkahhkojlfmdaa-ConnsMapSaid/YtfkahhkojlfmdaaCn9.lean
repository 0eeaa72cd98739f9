/- How keys lie to each other; the sort. -/
import Derived.Test.YtfkahhkojlfmdaaProg
import Derived.Test.YtfkahhkojlfmdaaVc21
import Derived.Test.YtfkahhkojlfmdaaCn6
import Derived.Test.YtfkahhkojlfmdaaVc7
set_option linter.unusedVariables false
set_option linter.unusedSimpArgs false
namespace Go.Proofs.Ytfkahhkojlfmdaa
open Go.Vc Go.RowKit

def cmpI (x y : Int) : Int := if x < y then -1 else if x > y then 1 else 0
def cmpK (p v c p' v' c' : Int) : Int := if cmpI p p' ≠ 0 then cmpI p p' else if cmpI v v' ≠ 0 then cmpI v v' else cmpI c c'
theorem cmpK_lt (p v c p' v' c' : Int) : decide (cmpK p v c p' v' c' < 0) = befK p v c p' v' c' := by
  rw [Bool.eq_iff_iff, decide_eq_true_eq, befK_iff]
  unfold cmpK cmpI
  repeat' split
  all_goals omega
theorem orI_0 {x y z : Int} (h : x ≠ 0) : x = (if x ≠ 0 then x else if y ≠ 0 then y else z) := by rw [if_pos h]
theorem orI_1 {x y z : Int} (h0 : ¬ x ≠ 0) (h : y ≠ 0) : y = (if x ≠ 0 then x else if y ≠ 0 then y else z) := by rw [if_neg h0, if_pos h]
theorem orI_2 {x y z : Int} (h0 : ¬ x ≠ 0) (h1 : ¬ y ≠ 0) : z = (if x ≠ 0 then x else if y ≠ 0 then y else z) := by rw [if_neg h0, if_neg h1]
theorem orI_3 {x y z : Int} (h0 : ¬ x ≠ 0) (h1 : ¬ y ≠ 0) (h2 : ¬ z ≠ 0) : 0 = (if x ≠ 0 then x else if y ≠ 0 then y else z) := by rw [if_neg h0, if_neg h1]; omega
theorem nan_any (x : Int) (w : World) :
    CV Try.prog 49 #[.int .i64 x] w (fun v w1 => v = .bool false ∧ Step No w w1 ∧ w.drawn ≤ w1.drawn) := by
  have hS : Step No w w := Step.refl _ _
  refine CV_enter Try.f49 _ 6 [(0, .int .i64 x)] Try.func49 rfl rfl (by kernel_rfl) rfl ?_
  refine VC_seq ?_
  refine VC_region ?_
  refine VL_pure 1 [0] [(0, .int .i64 x)] (by kernel_rfl) rfl ?_
  refine VL_end (by kernel_rfl) ?_
  refine VQ_next ?_
  refine VC_seq ?_
  refine VC_region ?_
  refine VL_pure 4 [2] [(2, .bool (x != x))] (by kernel_rfl) rfl ?_
  refine VL_end (by kernel_rfl) ?_
  refine VQ_next ?_
  refine VC_ret ?_
  refine VQ_ret1 (.bool (x != x)) (.inr rfl) rfl rfl ?_
  exact ⟨by simp, hS, Nat.le_refl _⟩

theorem cmp_any (x y : Int) (w : World) :
    CV Try.prog 38 #[.int .i64 x, .int .i64 y] w (fun v w1 => v = .int .i64 (cmpI x y) ∧ Step No w w1 ∧ w.drawn ≤ w1.drawn) := by
  have hS : Step No w w := Step.refl _ _
  refine CV_enter Try.f38 _ 20 [(0, .int .i64 x), (1, .int .i64 y)] Try.func38 rfl rfl (by kernel_rfl) rfl ?_
  refine VC_seq ?_
  refine VC_region ?_
  refine VL_pure 1 [0, 1] [(0, .int .i64 x), (1, .int .i64 y)] (by kernel_rfl) rfl ?_
  refine VL_end (by kernel_rfl) ?_
  refine VQ_next ?_
  refine VC_seq ?_
  refine VC_region ?_
  refine VL_pure 1 [0, 1, 7] [(0, .int .i64 x), (1, .int .i64 y), (7, .int .i64 x)] (by kernel_rfl) rfl ?_
  have hzs1 := hS.size
  refine VL_call (d := 8) (f := 49) (args := #[.int .i64 x]) (by kernel_rfl) (by kernel_rfl) (by kernel_rfl) Try.call49 (nan_any x _) ?_
  rintro _ w1 ⟨rfl, hc1, hdrhc1⟩
  replace hS := Step.trans hS hc1
  refine VL_pure 3 [0, 1, 5] [(0, .int .i64 x), (1, .int .i64 y), (5, .bool false)] (by kernel_rfl) rfl ?_
  refine VL_end (by kernel_rfl) ?_
  refine VQ_next ?_
  refine VC_seq ?_
  refine VC_region ?_
  refine VL_pure 1 [0, 1, 5, 9] [(0, .int .i64 x), (1, .int .i64 y), (5, .bool false), (9, .int .i64 y)] (by kernel_rfl) rfl ?_
  have hzs2 := hS.size
  refine VL_call (d := 10) (f := 49) (args := #[.int .i64 y]) (by kernel_rfl) (by kernel_rfl) (by kernel_rfl) Try.call49 (nan_any y _) ?_
  rintro _ w2 ⟨rfl, hc2, hdrhc2⟩
  replace hS := Step.trans hS hc2
  refine VL_pure 3 [0, 1, 5, 6] [(0, .int .i64 x), (1, .int .i64 y), (5, .bool false), (6, .bool false)] (by kernel_rfl) rfl ?_
  refine VL_end (by kernel_rfl) ?_
  refine VQ_next ?_
  refine VC_seq ?_
  refine VC_seq ?_
  refine VC_region ?_
  refine VL_pure 1 [0, 1, 6, 11] [(0, .int .i64 x), (1, .int .i64 y), (6, .bool false), (11, .bool false)] (by kernel_rfl) rfl ?_
  refine VL_end (by kernel_rfl) ?_
  refine VQ_next ?_
  refine VC_false (by kernel_rfl) ?_
  refine VC_skip ?_
  refine VQ_next ?_
  refine VC_seq ?_
  refine VC_seq ?_
  refine VC_region ?_
  refine VL_pure 1 [0, 1, 13] [(0, .int .i64 x), (1, .int .i64 y), (13, .bool false)] (by kernel_rfl) rfl ?_
  refine VL_end (by kernel_rfl) ?_
  refine VQ_next ?_
  refine VC_false (by kernel_rfl) ?_
  refine VC_skip ?_
  refine VQ_next ?_
  refine VC_seq ?_
  refine VC_seq ?_
  refine VC_region ?_
  refine VL_pure 3 [0, 1, 16] [(0, .int .i64 x), (1, .int .i64 y), (16, .bool (decide (x < y)))] (by kernel_rfl) rfl ?_
  refine VL_end (by kernel_rfl) ?_
  refine VQ_next ?_
  refine VC_dec (x < y) (by kernel_rfl) (fun h1 => ?_) (fun h1 => ?_)
  · refine VC_seq ?_
    refine VC_region ?_
    refine VL_pure 1 [4] [(4, .int .i64 (-1))] (by kernel_rfl) rfl ?_
    refine VL_end (by kernel_rfl) ?_
    refine VQ_next ?_
    refine VC_ret ?_
    refine VQ_then_ret ?_
    refine VQ_ret1 (.int .i64 (-1)) (.inr rfl) rfl rfl ?_
    exact ⟨by unfold cmpI; first | rw [if_pos (by assumption)] | rw [if_neg (by assumption), if_pos (by assumption)] | rw [if_neg (by assumption), if_neg (by assumption)], hS, by omega⟩
  · refine VC_skip ?_
    refine VQ_next ?_
    refine VC_seq ?_
    refine VC_seq ?_
    refine VC_region ?_
    refine VL_pure 3 [19] [(19, .bool (decide (x > y)))] (by kernel_rfl) rfl ?_
    refine VL_end (by kernel_rfl) ?_
    refine VQ_next ?_
    refine VC_dec (x > y) (by kernel_rfl) (fun h2 => ?_) (fun h2 => ?_)
    · refine VC_seq ?_
      refine VC_region ?_
      refine VL_pure 1 [4] [(4, .int .i64 1)] (by kernel_rfl) rfl ?_
      refine VL_end (by kernel_rfl) ?_
      refine VQ_next ?_
      refine VC_ret ?_
      refine VQ_then_ret ?_
      refine VQ_ret1 (.int .i64 1) (.inr rfl) rfl rfl ?_
      exact ⟨by unfold cmpI; first | rw [if_pos (by assumption)] | rw [if_neg (by assumption), if_pos (by assumption)] | rw [if_neg (by assumption), if_neg (by assumption)], hS, by omega⟩
    · refine VC_skip ?_
      refine VQ_next ?_
      refine VC_seq ?_
      refine VC_region ?_
      refine VL_pure 1 [4] [(4, .int .i64 0)] (by kernel_rfl) rfl ?_
      refine VL_end (by kernel_rfl) ?_
      refine VQ_next ?_
      refine VC_ret ?_
      refine VQ_ret1 (.int .i64 0) (.inr rfl) rfl rfl ?_
      exact ⟨by unfold cmpI; first | rw [if_pos (by assumption)] | rw [if_neg (by assumption), if_pos (by assumption)] | rw [if_neg (by assumption), if_neg (by assumption)], hS, by omega⟩

set_option maxRecDepth 100000 in
set_option maxHeartbeats 4000000 in
theorem or_any (a x y z : Int) (b : Nat) (w : World) (ho : Own w b #[.int .i64 x, .int .i64 y, .int .i64 z] a.toNat) :
    CV Try.prog 37 #[.slice (some ⟨b, 0, none⟩) 3 3] w (fun v w1 => v = .int .i64 (if x ≠ 0 then x else if y ≠ 0 then y else z) ∧ Step No w w1 ∧ w.drawn ≤ w1.drawn) := by
  have hS : Step No w w := Step.refl _ _
  refine CV_enter Try.f37 _ 18 [(0, .slice (some ⟨b, 0, none⟩) 3 3)] Try.func37 rfl rfl (by kernel_rfl) rfl ?_
  refine VC_seq ?_
  refine VC_region ?_
  refine VL_pure 1 [0] [(0, .slice (some ⟨b, 0, none⟩) 3 3)] (by kernel_rfl) rfl ?_
  refine VL_end (by kernel_rfl) ?_
  refine VQ_next ?_
  refine VC_seq ?_
  refine VC_region ?_
  refine VL_pure 1 [0, 3] [(0, .slice (some ⟨b, 0, none⟩) 3 3), (3, .int .i64 0)] (by kernel_rfl) rfl ?_
  refine VL_end (by kernel_rfl) ?_
  refine VQ_next ?_
  refine VC_seq ?_
  refine VC_seq ?_
  refine VC_region ?_
  refine VL_pure 3 [3, 6, 7, 8] [(3, .int .i64 0), (6, .slice (some ⟨b, 0, none⟩) 3 3), (7, .int .i64 3), (8, .int .i64 0)] (by kernel_rfl) rfl ?_
  refine VL_end (by kernel_rfl) ?_
  refine VQ_next ?_
  refine VC_block ?_
  refine VC_rounds ?_
  refine VCL_round ?_
  refine VC_seq ?_
  refine VC_region ?_
  refine VL_pure 1 [3, 6, 7, 8, 9] [(3, .int .i64 0), (6, .slice (some ⟨b, 0, none⟩) 3 3), (7, .int .i64 3), (8, .int .i64 0), (9, .bool true)] (by kernel_rfl) rfl ?_
  refine VL_end (by kernel_rfl) ?_
  refine VQ_next ?_
  refine VC_seq ?_
  refine VC_true (by kernel_rfl) ?_
  refine VC_skip ?_
  refine VQ_next ?_
  refine VC_seq ?_
  refine VC_block ?_
  refine VC_seq ?_
  refine VC_region ?_
  refine VL_index (d := 10) (b := b) (o := 0) (len := 3) (sz := 1) (m := 0) (by kernel_rfl) (by kernel_rfl) 0 (by rfl) (by omega) 0 (by omega) ?_
  refine VL_load (d := 11) (t := 3) (a := ⟨b, 0, none⟩) (v := .int .i64 x) (by kernel_rfl) (by kernel_rfl) (Loads.own1 ho (by kernel_rfl) (by rfl)) ?_
  refine VL_pure 3 [3, 6, 7, 8, 5] [(3, .int .i64 0), (6, .slice (some ⟨b, 0, none⟩) 3 3), (7, .int .i64 3), (8, .int .i64 0), (5, .int .i64 x)] (by kernel_rfl) rfl ?_
  refine VL_end (by kernel_rfl) ?_
  refine VQ_next ?_
  refine VC_seq ?_
  refine VC_region ?_
  refine VL_pure 3 [3, 6, 7, 8, 5, 14] [(3, .int .i64 0), (6, .slice (some ⟨b, 0, none⟩) 3 3), (7, .int .i64 3), (8, .int .i64 0), (5, .int .i64 x), (14, .bool (x != 0))] (by kernel_rfl) rfl ?_
  refine VL_end (by kernel_rfl) ?_
  refine VQ_next ?_
  refine VC_ne x 0 (by kernel_rfl) (fun h1 => ?_) (fun h1 => ?_)
  · refine VC_seq ?_
    refine VC_region ?_
    refine VL_pure 2 [2] [(2, .int .i64 x)] (by kernel_rfl) rfl ?_
    refine VL_end (by kernel_rfl) ?_
    refine VQ_next ?_
    refine VC_ret ?_
    refine VQ_block_ret ?_
    refine VQ_then_ret ?_
    refine VQ_then_ret ?_
    refine VQ_block_ret ?_
    refine VQ_then_ret ?_
    refine VQ_ret1 (.int .i64 x) (.inr rfl) rfl rfl ?_
    exact ⟨congrArg (Value.int .i64) (orI_0 (by omega)), hS, by omega⟩
  · refine VC_skip ?_
    refine VQ_block_normal ?_
    refine VQ_next ?_
    refine VC_region ?_
    refine VL_pure 2 [3, 6, 7, 8] [(3, .int .i64 0), (6, .slice (some ⟨b, 0, none⟩) 3 3), (7, .int .i64 3), (8, .int .i64 1)] (by kernel_rfl) rfl ?_
    refine VL_end (by kernel_rfl) ?_
    refine VQ_round ?_
    refine VCL_round ?_
    refine VC_seq ?_
    refine VC_region ?_
    refine VL_pure 1 [3, 6, 7, 8, 9] [(3, .int .i64 0), (6, .slice (some ⟨b, 0, none⟩) 3 3), (7, .int .i64 3), (8, .int .i64 1), (9, .bool true)] (by kernel_rfl) rfl ?_
    refine VL_end (by kernel_rfl) ?_
    refine VQ_next ?_
    refine VC_seq ?_
    refine VC_true (by kernel_rfl) ?_
    refine VC_skip ?_
    refine VQ_next ?_
    refine VC_seq ?_
    refine VC_block ?_
    refine VC_seq ?_
    refine VC_region ?_
    refine VL_index (d := 10) (b := b) (o := 0) (len := 3) (sz := 1) (m := 1) (by kernel_rfl) (by kernel_rfl) 1 (by rfl) (by omega) 1 (by omega) ?_
    refine VL_load (d := 11) (t := 3) (a := ⟨b, 1, none⟩) (v := .int .i64 y) (by kernel_rfl) (by kernel_rfl) (Loads.own1 ho (by kernel_rfl) (by rfl)) ?_
    refine VL_pure 3 [3, 6, 7, 8, 5] [(3, .int .i64 0), (6, .slice (some ⟨b, 0, none⟩) 3 3), (7, .int .i64 3), (8, .int .i64 1), (5, .int .i64 y)] (by kernel_rfl) rfl ?_
    refine VL_end (by kernel_rfl) ?_
    refine VQ_next ?_
    refine VC_seq ?_
    refine VC_region ?_
    refine VL_pure 3 [3, 6, 7, 8, 5, 14] [(3, .int .i64 0), (6, .slice (some ⟨b, 0, none⟩) 3 3), (7, .int .i64 3), (8, .int .i64 1), (5, .int .i64 y), (14, .bool (y != 0))] (by kernel_rfl) rfl ?_
    refine VL_end (by kernel_rfl) ?_
    refine VQ_next ?_
    refine VC_ne y 0 (by kernel_rfl) (fun h2 => ?_) (fun h2 => ?_)
    · refine VC_seq ?_
      refine VC_region ?_
      refine VL_pure 2 [2] [(2, .int .i64 y)] (by kernel_rfl) rfl ?_
      refine VL_end (by kernel_rfl) ?_
      refine VQ_next ?_
      refine VC_ret ?_
      refine VQ_block_ret ?_
      refine VQ_then_ret ?_
      refine VQ_then_ret ?_
      refine VQ_block_ret ?_
      refine VQ_then_ret ?_
      refine VQ_ret1 (.int .i64 y) (.inr rfl) rfl rfl ?_
      exact ⟨congrArg (Value.int .i64) (orI_1 (by omega) (by omega)), hS, by omega⟩
    · refine VC_skip ?_
      refine VQ_block_normal ?_
      refine VQ_next ?_
      refine VC_region ?_
      refine VL_pure 2 [3, 6, 7, 8] [(3, .int .i64 0), (6, .slice (some ⟨b, 0, none⟩) 3 3), (7, .int .i64 3), (8, .int .i64 2)] (by kernel_rfl) rfl ?_
      refine VL_end (by kernel_rfl) ?_
      refine VQ_round ?_
      refine VCL_round ?_
      refine VC_seq ?_
      refine VC_region ?_
      refine VL_pure 1 [3, 6, 7, 8, 9] [(3, .int .i64 0), (6, .slice (some ⟨b, 0, none⟩) 3 3), (7, .int .i64 3), (8, .int .i64 2), (9, .bool true)] (by kernel_rfl) rfl ?_
      refine VL_end (by kernel_rfl) ?_
      refine VQ_next ?_
      refine VC_seq ?_
      refine VC_true (by kernel_rfl) ?_
      refine VC_skip ?_
      refine VQ_next ?_
      refine VC_seq ?_
      refine VC_block ?_
      refine VC_seq ?_
      refine VC_region ?_
      refine VL_index (d := 10) (b := b) (o := 0) (len := 3) (sz := 1) (m := 2) (by kernel_rfl) (by kernel_rfl) 2 (by rfl) (by omega) 2 (by omega) ?_
      refine VL_load (d := 11) (t := 3) (a := ⟨b, 2, none⟩) (v := .int .i64 z) (by kernel_rfl) (by kernel_rfl) (Loads.own1 ho (by kernel_rfl) (by rfl)) ?_
      refine VL_pure 3 [3, 6, 7, 8, 5] [(3, .int .i64 0), (6, .slice (some ⟨b, 0, none⟩) 3 3), (7, .int .i64 3), (8, .int .i64 2), (5, .int .i64 z)] (by kernel_rfl) rfl ?_
      refine VL_end (by kernel_rfl) ?_
      refine VQ_next ?_
      refine VC_seq ?_
      refine VC_region ?_
      refine VL_pure 3 [3, 6, 7, 8, 5, 14] [(3, .int .i64 0), (6, .slice (some ⟨b, 0, none⟩) 3 3), (7, .int .i64 3), (8, .int .i64 2), (5, .int .i64 z), (14, .bool (z != 0))] (by kernel_rfl) rfl ?_
      refine VL_end (by kernel_rfl) ?_
      refine VQ_next ?_
      refine VC_ne z 0 (by kernel_rfl) (fun h3 => ?_) (fun h3 => ?_)
      · refine VC_seq ?_
        refine VC_region ?_
        refine VL_pure 2 [2] [(2, .int .i64 z)] (by kernel_rfl) rfl ?_
        refine VL_end (by kernel_rfl) ?_
        refine VQ_next ?_
        refine VC_ret ?_
        refine VQ_block_ret ?_
        refine VQ_then_ret ?_
        refine VQ_then_ret ?_
        refine VQ_block_ret ?_
        refine VQ_then_ret ?_
        refine VQ_ret1 (.int .i64 z) (.inr rfl) rfl rfl ?_
        exact ⟨congrArg (Value.int .i64) (orI_2 (by omega) (by omega)), hS, by omega⟩
      · refine VC_skip ?_
        refine VQ_block_normal ?_
        refine VQ_next ?_
        refine VC_region ?_
        refine VL_pure 2 [3, 6, 7, 8] [(3, .int .i64 0), (6, .slice (some ⟨b, 0, none⟩) 3 3), (7, .int .i64 3), (8, .int .i64 3)] (by kernel_rfl) rfl ?_
        refine VL_end (by kernel_rfl) ?_
        refine VQ_round ?_
        refine VCL_round ?_
        refine VC_seq ?_
        refine VC_region ?_
        refine VL_pure 1 [3, 6, 7, 8, 9] [(3, .int .i64 0), (6, .slice (some ⟨b, 0, none⟩) 3 3), (7, .int .i64 3), (8, .int .i64 3), (9, .bool false)] (by kernel_rfl) rfl ?_
        refine VL_end (by kernel_rfl) ?_
        refine VQ_next ?_
        refine VC_seq ?_
        refine VC_false (by kernel_rfl) ?_
        refine VC_exit ?_
        refine VQ_then_exit ?_
        refine VQ_then_exit ?_
        refine VQ_block_hit ?_
        refine VQ_next ?_
        refine VC_seq ?_
        refine VC_region ?_
        refine VL_pure 2 [2] [(2, .int .i64 0)] (by kernel_rfl) rfl ?_
        refine VL_end (by kernel_rfl) ?_
        refine VQ_next ?_
        refine VC_ret ?_
        refine VQ_ret1 (.int .i64 0) (.inr rfl) rfl rfl ?_
        exact ⟨congrArg (Value.int .i64) ((orI_3 (by omega) (by omega) (by omega))), hS, by omega⟩

set_option maxRecDepth 100000 in
set_option maxHeartbeats 4000000 in
theorem compare_any (p v c p' v' c' : Int) (w : World) :
    CV Try.prog 31 #[.agg #[.int .i64 p, .int .i64 v, .int .i64 c], .agg #[.int .i64 p', .int .i64 v', .int .i64 c']] w (fun x w1 => x = .int .i64 (cmpK p v c p' v' c') ∧ Step No w w1 ∧ w.drawn ≤ w1.drawn) := by
  have hS : Step No w w := Step.refl _ _
  refine CV_enter Try.f31 _ 22 [(0, .agg #[.int .i64 p, .int .i64 v, .int .i64 c]), (1, .agg #[.int .i64 p', .int .i64 v', .int .i64 c'])] Try.func31 rfl rfl (by kernel_rfl) rfl ?_
  refine VC_seq ?_
  refine VC_region ?_
  have hzs1 := hS.size
  refine VL_box (d := 2) (t := 29) (c := #[.int .i64 p, .int .i64 v, .int .i64 c]) (by kernel_rfl) (by kernel_rfl) ?_
  intro b1 w1 hn1
  replace hS := Step.trans hS (hn1.step No)
  have ho1 := hn1.own
  have hzhn1 := hn1.size
  have hqhn1 := hn1.eqb
  have hrhn1 := hn1.drawn
  have hzs2 := hS.size
  have hzl1 := ho1.lt
  refine VL_box (d := 3) (t := 29) (c := #[.int .i64 p', .int .i64 v', .int .i64 c']) (by kernel_rfl) (by kernel_rfl) ?_
  intro b2 w2 hn2
  replace hS := Step.trans hS (hn2.step No)
  replace ho1 := ho1.no (hn2.step No)
  have ho2 := hn2.own
  have hzhn2 := hn2.size
  have hqhn2 := hn2.eqb
  have hrhn2 := hn2.drawn
  refine VL_pure 3 [2, 3] [(2, .pointer (some ⟨b1, 0, none⟩)), (3, .pointer (some ⟨b2, 0, none⟩))] (by kernel_rfl) rfl ?_
  refine VL_end (by kernel_rfl) ?_
  refine VQ_next ?_
  refine VC_seq ?_
  refine VC_detD [[], [0], [], [2], [0, 1, 2, 3], [], [5], [], [7], [0, 1, 2, 3, 4, 5, 6, 7, 8], [], [10], [], [12], [0, 1, 2, 3, 4, 5, 6, 7, 8, 9, 10, 11, 12, 13], [0, 1, 2, 3, 4, 5, 6, 7, 8, 9, 10, 11, 12, 13, 14], [0, 1, 2, 3, 4, 5, 6, 7, 8, 9, 10, 11, 12, 13, 14, 15], [0, 1, 2, 3, 4, 5, 6, 7, 8, 9, 10, 11, 12, 13, 14, 15, 16]] 14 [.pointer (some ⟨b1, 0, none⟩), .int .i64 p, .pointer (some ⟨b2, 0, none⟩), .int .i64 p', .int .i64 (cmpI p p'), .pointer (some ⟨b1, 1, none⟩), .int .i64 v, .pointer (some ⟨b2, 1, none⟩), .int .i64 v', .int .i64 (cmpI v v'), .pointer (some ⟨b1, 2, none⟩), .int .i64 c, .pointer (some ⟨b2, 2, none⟩), .int .i64 c'] [0, 2, 5, 7, 10, 12] [1, 3, 4, 6, 8, 9, 11, 13] (by kernel_rfl) (by kernel_rfl) (by kernel_rfl) (by kernel_rfl) ?_ ?_
  · intro w3 hs1
    replace hs1 := hs1.1
    replace hS := Step.trans hS hs1
    replace ho1 := ho1.no hs1
    replace ho2 := ho2.no hs1
    exact ⟨DetD_load (d := 6) (t := 3) (a := ⟨b1, 0, none⟩) (by kernel_rfl) (by kernel_rfl) (Loads.own1 ho1 (by kernel_rfl) (by rfl)), DetD_load (d := 8) (t := 3) (a := ⟨b2, 0, none⟩) (by kernel_rfl) (by kernel_rfl) (Loads.own1 ho2 (by kernel_rfl) (by rfl)), DetD_call (d := 9) (f := 38) (args := #[.int .i64 p, .int .i64 p']) (by kernel_rfl) (by kernel_rfl) (by kernel_rfl) Try.call38 (by exact cmp_any p p' _), DetD_load (d := 11) (t := 3) (a := ⟨b1, 1, none⟩) (by kernel_rfl) (by kernel_rfl) (Loads.own1 ho1 (by kernel_rfl) (by rfl)), DetD_load (d := 13) (t := 3) (a := ⟨b2, 1, none⟩) (by kernel_rfl) (by kernel_rfl) (Loads.own1 ho2 (by kernel_rfl) (by rfl)), DetD_call (d := 14) (f := 38) (args := #[.int .i64 v, .int .i64 v']) (by kernel_rfl) (by kernel_rfl) (by kernel_rfl) Try.call38 (by exact cmp_any v v' _), DetD_load (d := 16) (t := 3) (a := ⟨b1, 2, none⟩) (by kernel_rfl) (by kernel_rfl) (Loads.own1 ho1 (by kernel_rfl) (by rfl)), DetD_load (d := 18) (t := 3) (a := ⟨b2, 2, none⟩) (by kernel_rfl) (by kernel_rfl) (Loads.own1 ho2 (by kernel_rfl) (by rfl)), trivial⟩
  intro w3 hs1
  have hs1d := hs1.2
  replace hs1 := hs1.1
  replace hS := Step.trans hS hs1
  replace ho1 := ho1.no hs1
  replace ho2 := ho2.no hs1
  refine VL_keep [9, 14, 16, 18] [(9, .int .i64 (cmpI p p')), (14, .int .i64 (cmpI v v')), (16, .int .i64 c), (18, .int .i64 c')] (by kernel_rfl) ?_
  have hzs3 := hS.size
  have hzl2 := ho1.lt
  have hzl3 := ho2.lt
  refine VL_call (d := 19) (f := 38) (args := #[.int .i64 c, .int .i64 c']) (by kernel_rfl) (by kernel_rfl) (by kernel_rfl) Try.call38 (cmp_any c c' _) ?_
  rintro _ w4 ⟨rfl, hc1, hdrhc1⟩
  replace hS := Step.trans hS hc1
  replace ho1 := ho1.no hc1
  replace ho2 := ho2.no hc1
  have hzs4 := hS.size
  have hzl4 := ho1.lt
  have hzl5 := ho2.lt
  refine VL_bs (d := 20) (e := 3) (c := #[.int .i64 (cmpI p p'), .int .i64 (cmpI v v'), .int .i64 (cmpI c c')]) (len := 3) (by kernel_rfl) (by kernel_rfl) ?_
  intro b3 w5 hn3
  replace hS := Step.trans hS (hn3.step No)
  replace ho1 := ho1.no (hn3.step No)
  replace ho2 := ho2.no (hn3.step No)
  have ho3 := hn3.own
  have hzhn3 := hn3.size
  have hqhn3 := hn3.eqb
  have hrhn3 := hn3.drawn
  have hzs5 := hS.size
  have hzl6 := ho1.lt
  have hzl7 := ho2.lt
  have hzl8 := ho3.lt
  refine VL_call (d := 21) (f := 37) (args := #[.slice (some ⟨b3, 0, none⟩) 3 3]) (by kernel_rfl) (by kernel_rfl) (by kernel_rfl) Try.call37 (or_any 3 (cmpI p p') (cmpI v v') (cmpI c c') b3 _ ho3) ?_
  rintro _ w6 ⟨rfl, hc2, hdrhc2⟩
  replace hS := Step.trans hS hc2
  replace ho1 := ho1.no hc2
  replace ho2 := ho2.no hc2
  replace ho3 := ho3.no hc2
  refine VL_pure 18 [4] [(4, .int .i64 (cmpK p v c p' v' c'))] (by kernel_rfl) rfl ?_
  refine VL_end (by kernel_rfl) ?_
  refine VQ_next ?_
  refine VC_ret ?_
  refine VQ_ret1 (.int .i64 (cmpK p v c p' v' c')) (.inr rfl) rfl rfl ?_
  exact ⟨rfl, hS, by omega⟩

set_option maxRecDepth 100000 in
set_option maxHeartbeats 4000000 in
theorem before_any (p v c p' v' c' : Int) (w : World) :
    CV Try.prog 20 #[.agg #[.int .i64 p, .int .i64 v, .int .i64 c], .agg #[.int .i64 p', .int .i64 v', .int .i64 c']] w (fun x w1 => x = .bool (befK p v c p' v' c') ∧ Step No w w1) := by
  have hS : Step No w w := Step.refl _ _
  refine CV_enter Try.f20 _ 9 [(0, .agg #[.int .i64 p, .int .i64 v, .int .i64 c]), (1, .agg #[.int .i64 p', .int .i64 v', .int .i64 c'])] Try.func20 rfl rfl (by kernel_rfl) rfl ?_
  refine VC_seq ?_
  refine VC_region ?_
  have hzs1 := hS.size
  refine VL_box (d := 2) (t := 29) (c := #[.int .i64 p, .int .i64 v, .int .i64 c]) (by kernel_rfl) (by kernel_rfl) ?_
  intro b1 w1 hn1
  replace hS := Step.trans hS (hn1.step No)
  have ho1 := hn1.own
  have hzhn1 := hn1.size
  have hqhn1 := hn1.eqb
  have hzs2 := hS.size
  have hzl1 := ho1.lt
  refine VL_box (d := 3) (t := 29) (c := #[.int .i64 p', .int .i64 v', .int .i64 c']) (by kernel_rfl) (by kernel_rfl) ?_
  intro b2 w2 hn2
  replace hS := Step.trans hS (hn2.step No)
  replace ho1 := ho1.no (hn2.step No)
  have ho2 := hn2.own
  have hzhn2 := hn2.size
  have hqhn2 := hn2.eqb
  refine VL_pure 3 [2, 3] [(2, .pointer (some ⟨b1, 0, none⟩)), (3, .pointer (some ⟨b2, 0, none⟩))] (by kernel_rfl) rfl ?_
  refine VL_end (by kernel_rfl) ?_
  refine VQ_next ?_
  refine VC_seq ?_
  refine VC_region ?_
  refine VL_load (d := 5) (t := 29) (a := ⟨b1, 0, none⟩) (v := .agg #[.int .i64 p, .int .i64 v, .int .i64 c]) (by kernel_rfl) (by kernel_rfl) (Loads.ownL ho1 (n := 3) (by kernel_rfl) (by kernel_rfl) (by kernel_rfl)) ?_
  refine VL_load (d := 6) (t := 29) (a := ⟨b2, 0, none⟩) (v := .agg #[.int .i64 p', .int .i64 v', .int .i64 c']) (by kernel_rfl) (by kernel_rfl) (Loads.ownL ho2 (n := 3) (by kernel_rfl) (by kernel_rfl) (by kernel_rfl)) ?_
  have hzs3 := hS.size
  have hzl2 := ho1.lt
  have hzl3 := ho2.lt
  refine VL_call (d := 7) (f := 31) (args := #[.agg #[.int .i64 p, .int .i64 v, .int .i64 c], .agg #[.int .i64 p', .int .i64 v', .int .i64 c']]) (by kernel_rfl) (by kernel_rfl) (by kernel_rfl) Try.call31 (compare_any p v c p' v' c' _) ?_
  rintro _ w3 ⟨rfl, hc1, hdrhc1⟩
  replace hS := Step.trans hS hc1
  replace ho1 := ho1.no hc1
  replace ho2 := ho2.no hc1
  refine VL_pure 5 [4] [(4, .bool (decide ((cmpK p v c p' v' c') < 0)))] (by kernel_rfl) rfl ?_
  refine VL_end (by kernel_rfl) ?_
  refine VQ_next ?_
  refine VC_ret ?_
  refine VQ_ret1 (.bool (decide ((cmpK p v c p' v' c') < 0))) (.inr rfl) rfl rfl ?_
  exact ⟨congrArg Value.bool (cmpK_lt p v c p' v' c'), hS⟩

set_option maxRecDepth 100000 in
set_option maxHeartbeats 4000000 in
theorem less_any (x y : Slot) (w : World) :
    CV Try.prog 30 #[.agg #[.int .i64 x.p, .int .i64 x.v, .int .i64 x.c, .int .i64 x.n, .bool x.used], .agg #[.int .i64 y.p, .int .i64 y.v, .int .i64 y.c, .int .i64 y.n, .bool y.used]] w (fun v w1 => v = .int .i64 (cmpK x.p x.v x.c y.p y.v y.c) ∧ Step No w w1 ∧ w.drawn ≤ w1.drawn) := by
  have hS : Step No w w := Step.refl _ _
  refine CV_enter Try.f30 _ 10 [(0, .agg #[.int .i64 x.p, .int .i64 x.v, .int .i64 x.c, .int .i64 x.n, .bool x.used]), (1, .agg #[.int .i64 y.p, .int .i64 y.v, .int .i64 y.c, .int .i64 y.n, .bool y.used])] Try.func30 rfl rfl (by kernel_rfl) rfl ?_
  refine VC_seq ?_
  refine VC_region ?_
  have hzs1 := hS.size
  refine VL_box (d := 2) (t := 59) (c := #[.int .i64 x.p, .int .i64 x.v, .int .i64 x.c, .int .i64 x.n, .bool x.used]) (by kernel_rfl) (by kernel_rfl) ?_
  intro b1 w1 hn1
  replace hS := Step.trans hS (hn1.step No)
  have ho1 := hn1.own
  have hzhn1 := hn1.size
  have hqhn1 := hn1.eqb
  have hrhn1 := hn1.drawn
  have hzs2 := hS.size
  have hzl1 := ho1.lt
  refine VL_box (d := 3) (t := 59) (c := #[.int .i64 y.p, .int .i64 y.v, .int .i64 y.c, .int .i64 y.n, .bool y.used]) (by kernel_rfl) (by kernel_rfl) ?_
  intro b2 w2 hn2
  replace hS := Step.trans hS (hn2.step No)
  replace ho1 := ho1.no (hn2.step No)
  have ho2 := hn2.own
  have hzhn2 := hn2.size
  have hqhn2 := hn2.eqb
  have hrhn2 := hn2.drawn
  refine VL_pure 3 [2, 3] [(2, .pointer (some ⟨b1, 0, none⟩)), (3, .pointer (some ⟨b2, 0, none⟩))] (by kernel_rfl) rfl ?_
  refine VL_end (by kernel_rfl) ?_
  refine VQ_next ?_
  refine VC_seq ?_
  refine VC_region ?_
  refine VL_pure 1 [3, 5] [(3, .pointer (some ⟨b2, 0, none⟩)), (5, .pointer (some ⟨b1, 0, none⟩))] (by kernel_rfl) rfl ?_
  refine VL_load (d := 6) (t := 29) (a := ⟨b1, 0, none⟩) (v := .agg #[.int .i64 x.p, .int .i64 x.v, .int .i64 x.c]) (by kernel_rfl) (by kernel_rfl) (Loads.ownL ho1 (n := 3) (by kernel_rfl) (by kernel_rfl) (by kernel_rfl)) ?_
  refine VL_pure 3 [6, 7] [(6, .agg #[.int .i64 x.p, .int .i64 x.v, .int .i64 x.c]), (7, .pointer (some ⟨b2, 0, none⟩))] (by kernel_rfl) rfl ?_
  refine VL_load (d := 8) (t := 29) (a := ⟨b2, 0, none⟩) (v := .agg #[.int .i64 y.p, .int .i64 y.v, .int .i64 y.c]) (by kernel_rfl) (by kernel_rfl) (Loads.ownL ho2 (n := 3) (by kernel_rfl) (by kernel_rfl) (by kernel_rfl)) ?_
  have hzs3 := hS.size
  have hzl2 := ho1.lt
  have hzl3 := ho2.lt
  refine VL_call (d := 9) (f := 31) (args := #[.agg #[.int .i64 x.p, .int .i64 x.v, .int .i64 x.c], .agg #[.int .i64 y.p, .int .i64 y.v, .int .i64 y.c]]) (by kernel_rfl) (by kernel_rfl) (by kernel_rfl) Try.call31 (compare_any x.p x.v x.c y.p y.v y.c _) ?_
  rintro _ w3 ⟨rfl, hc1, hdrhc1⟩
  replace hS := Step.trans hS hc1
  replace ho1 := ho1.no hc1
  replace ho2 := ho2.no hc1
  refine VL_pure 6 [4] [(4, .int .i64 (cmpK x.p x.v x.c y.p y.v y.c))] (by kernel_rfl) rfl ?_
  refine VL_end (by kernel_rfl) ?_
  refine VQ_next ?_
  refine VC_ret ?_
  refine VQ_ret1 (.int .i64 (cmpK x.p x.v x.c y.p y.v y.c)) (.inr rfl) rfl rfl ?_
  exact ⟨rfl, hS, by omega⟩

end Go.Proofs.Ytfkahhkojlfmdaa
