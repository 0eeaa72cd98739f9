import Derived.Test.YthchmlidobgkoaaProg
import Derived.Test.YthchmlidobgkoaaMl3
section
/- Layer 20: ledgers. -/
set_option linter.unusedVariables false
set_option linter.unusedSimpArgs false
namespace Go.Proofs.Ythchmlidobgkoaa
open Go.Vc Go.RowKit

set_option maxRecDepth 100000 in
set_option maxHeartbeats 4000000 in
theorem lleft_any (lg lm : Nat) (room used : Int) (N : List (Int × Int)) (w : World) (hl : Ld w lg lm room used N) (hu : 0 ≤ used) (hur : used ≤ room) (hr : room ≤ 1152921504606846976)  :
  CV Try.prog 24 #[.pointer (some ⟨lg, 0, none⟩)] w (fun x w1 => x = .int .i64 (room - used) ∧ Step No w w1) := by
 obtain ⟨hd, hm⟩ := hl
 have hne : lg ≠ lm := Ld.ne ⟨hd, hm⟩
 have hS : Step No w w := Step.refl _ _
 refine CV_enter Try.f24 _ 14 [(0, .pointer (some ⟨lg, 0, none⟩))] Try.func24 rfl rfl (by kernel_rfl) rfl ?_
 refine VC_seq ?_
 refine VC_region ?_
 refine VL_pure 1 [0] [(0, .pointer (some ⟨lg, 0, none⟩))] (by kernel_rfl) rfl ?_
 refine VL_end (by kernel_rfl) ?_
 refine VQ_next ?_
 refine VC_seq ?_
 refine VC_seq ?_
 refine VC_region ?_
 refine VL_pure 2 [0, 4] [(0, .pointer (some ⟨lg, 0, none⟩)), (4, .bool false)] (by kernel_rfl) rfl ?_
 refine VL_end (by kernel_rfl) ?_
 refine VQ_next ?_
 refine VC_false (by kernel_rfl) ?_
 refine VC_skip ?_
 refine VQ_next ?_
 refine VC_seq ?_
 refine VC_det [[], [0], [0, 1], [0, 1, 2], [], [4], [4, 5], [4, 5, 6], [0, 1, 2, 3, 4, 5, 6, 7], [0, 1, 2, 3, 4, 5, 6, 7, 8]] 8 [.pointer (some ⟨lg, 0, none⟩), .pointer (some ⟨lg, 0, none⟩), .pointer (some ⟨lg, 0, none⟩), .int .i64 room, .pointer (some ⟨lg, 0, none⟩), .pointer (some ⟨lg, 0, none⟩), .pointer (some ⟨lg, 1, none⟩), .int .i64 used] [0, 1, 2, 4, 5, 6] [3, 7] (by kernel_rfl) (by kernel_rfl) (by kernel_rfl) (by kernel_rfl) ?_ ?_
 ·intro w1 hs1
  replace hS := Step.trans hS hs1
  replace hd := hd.no hs1
  replace hm := MapL.no hm hs1
  exact ⟨Det1_load (d := 8) (t := 3) (a := ⟨lg, 0, none⟩) (by kernel_rfl) (by kernel_rfl) (Loads.own1 hd (by kernel_rfl) (by rfl)), Det1_load (d := 12) (t := 3) (a := ⟨lg, 1, none⟩) (by kernel_rfl) (by kernel_rfl) (Loads.own1 hd (by kernel_rfl) (by rfl)), trivial⟩
 intro w1 hs1
 replace hS := Step.trans hS hs1
 replace hd := hd.no hs1
 replace hm := MapL.no hm hs1
 refine VL_keep [8, 12] [(8, .int .i64 room), (12, .int .i64 used)] (by kernel_rfl) ?_
 refine VL_pure 10 [2] [(2, .int .i64 (IntKind.wrap .i64 (room - used)))] (by kernel_rfl) rfl ?_
 refine VL_end (by kernel_rfl) ?_
 refine VQ_next ?_
 refine VC_ret ?_
 refine VQ_ret1 (.int .i64 (IntKind.wrap .i64 (room - used))) (.inr rfl) rfl rfl ?_
 exact ⟨congrArg (Value.int .i64) (by first | rfl | exact wrap_i64 _ (by omega) (by omega)), hS⟩

set_option maxRecDepth 100000 in
set_option maxHeartbeats 4000000 in
theorem lleft_nil (w : World) :
  CV Try.prog 24 #[.pointer none] w (fun x w1 => x = .int .i64 0 ∧ Step No w w1) := by
 have hS : Step No w w := Step.refl _ _
 refine CV_enter Try.f24 _ 14 [(0, .pointer none)] Try.func24 rfl rfl (by kernel_rfl) rfl ?_
 refine VC_seq ?_
 refine VC_region ?_
 refine VL_pure 1 [0] [(0, .pointer none)] (by kernel_rfl) rfl ?_
 refine VL_end (by kernel_rfl) ?_
 refine VQ_next ?_
 refine VC_seq ?_
 refine VC_seq ?_
 refine VC_region ?_
 refine VL_pure 2 [0, 4] [(0, .pointer none), (4, .bool true)] (by kernel_rfl) rfl ?_
 refine VL_end (by kernel_rfl) ?_
 refine VQ_next ?_
 refine VC_true (by kernel_rfl) ?_
 refine VC_seq ?_
 refine VC_region ?_
 refine VL_pure 1 [2] [(2, .int .i64 0)] (by kernel_rfl) rfl ?_
 refine VL_end (by kernel_rfl) ?_
 refine VQ_next ?_
 refine VC_ret ?_
 refine VQ_then_ret ?_
 refine VQ_ret1 (.int .i64 0) (.inr rfl) rfl rfl ?_
 exact ⟨rfl, hS⟩

set_option maxRecDepth 100000 in
set_option maxHeartbeats 4000000 in
theorem lused_any (lg lm : Nat) (room used : Int) (N : List (Int × Int)) (w : World) (hl : Ld w lg lm room used N) (hu : 0 ≤ used) (hur : used ≤ room) (hr : room ≤ 1152921504606846976)  :
  CV Try.prog 31 #[.pointer (some ⟨lg, 0, none⟩)] w (fun x w1 => x = .int .i64 (used) ∧ Step No w w1) := by
 obtain ⟨hd, hm⟩ := hl
 have hne : lg ≠ lm := Ld.ne ⟨hd, hm⟩
 have hS : Step No w w := Step.refl _ _
 refine CV_enter Try.f31 _ 9 [(0, .pointer (some ⟨lg, 0, none⟩))] Try.func31 rfl rfl (by kernel_rfl) rfl ?_
 refine VC_seq ?_
 refine VC_region ?_
 refine VL_pure 1 [0] [(0, .pointer (some ⟨lg, 0, none⟩))] (by kernel_rfl) rfl ?_
 refine VL_end (by kernel_rfl) ?_
 refine VQ_next ?_
 refine VC_seq ?_
 refine VC_seq ?_
 refine VC_region ?_
 refine VL_pure 2 [0, 4] [(0, .pointer (some ⟨lg, 0, none⟩)), (4, .bool false)] (by kernel_rfl) rfl ?_
 refine VL_end (by kernel_rfl) ?_
 refine VQ_next ?_
 refine VC_false (by kernel_rfl) ?_
 refine VC_skip ?_
 refine VQ_next ?_
 refine VC_seq ?_
 refine VC_region ?_
 refine VL_pure 3 [7] [(7, .pointer (some ⟨lg, 1, none⟩))] (by kernel_rfl) rfl ?_
 refine VL_load (d := 8) (t := 3) (a := ⟨lg, 1, none⟩) (v := .int .i64 used) (by kernel_rfl) (by kernel_rfl) (Loads.own1 hd (by kernel_rfl) (by rfl)) ?_
 refine VL_pure 5 [2] [(2, .int .i64 used)] (by kernel_rfl) rfl ?_
 refine VL_end (by kernel_rfl) ?_
 refine VQ_next ?_
 refine VC_ret ?_
 refine VQ_ret1 (.int .i64 used) (.inr rfl) rfl rfl ?_
 exact ⟨congrArg (Value.int .i64) (by first | rfl | exact wrap_i64 _ (by omega) (by omega)), hS⟩

set_option maxRecDepth 100000 in
set_option maxHeartbeats 4000000 in
theorem lused_nil (w : World) :
  CV Try.prog 31 #[.pointer none] w (fun x w1 => x = .int .i64 0 ∧ Step No w w1) := by
 have hS : Step No w w := Step.refl _ _
 refine CV_enter Try.f31 _ 9 [(0, .pointer none)] Try.func31 rfl rfl (by kernel_rfl) rfl ?_
 refine VC_seq ?_
 refine VC_region ?_
 refine VL_pure 1 [0] [(0, .pointer none)] (by kernel_rfl) rfl ?_
 refine VL_end (by kernel_rfl) ?_
 refine VQ_next ?_
 refine VC_seq ?_
 refine VC_seq ?_
 refine VC_region ?_
 refine VL_pure 2 [0, 4] [(0, .pointer none), (4, .bool true)] (by kernel_rfl) rfl ?_
 refine VL_end (by kernel_rfl) ?_
 refine VQ_next ?_
 refine VC_true (by kernel_rfl) ?_
 refine VC_seq ?_
 refine VC_region ?_
 refine VL_pure 1 [2] [(2, .int .i64 0)] (by kernel_rfl) rfl ?_
 refine VL_end (by kernel_rfl) ?_
 refine VQ_next ?_
 refine VC_ret ?_
 refine VQ_then_ret ?_
 refine VQ_ret1 (.int .i64 0) (.inr rfl) rfl rfl ?_
 exact ⟨rfl, hS⟩

set_option maxRecDepth 100000 in
set_option maxHeartbeats 4000000 in
theorem lbook_any (lg lm : Nat) (room used : Int) (N : List (Int × Int)) (id need : Int) (w : World) (hl : Ld w lg lm room used N) (hu : 0 ≤ used) (hur : used ≤ room) (hr : room ≤ 1152921504606846976) (hn : getM N id = none) (h0 : 0 ≤ need) (hle : need ≤ room - used)  :
  CV Try.prog 33 #[.pointer (some ⟨lg, 0, none⟩), .int .i64 id, .int .i64 need] w (fun x w1 => x = .int .i64 0 ∧ Ld w1 lg lm room (used + need) (putM N id need) ∧ Step (fun k => k = lg ∨ k = lm) w w1) := by
 obtain ⟨hd, hm⟩ := hl
 have hne : lg ≠ lm := Ld.ne ⟨hd, hm⟩
 have hS : Step (fun k => k = lg ∨ k = lm) w w := Step.refl _ _
 refine CV_enter Try.f33 _ 44 [(0, .pointer (some ⟨lg, 0, none⟩)), (1, .int .i64 id), (2, .int .i64 need)] Try.func33 rfl rfl (by kernel_rfl) rfl ?_
 refine VC_seq ?_
 refine VC_region ?_
 refine VL_pure 1 [0, 1, 2] [(0, .pointer (some ⟨lg, 0, none⟩)), (1, .int .i64 id), (2, .int .i64 need)] (by kernel_rfl) rfl ?_
 refine VL_end (by kernel_rfl) ?_
 refine VQ_next ?_
 refine VC_seq ?_
 refine VC_seq ?_
 refine VC_region ?_
 refine VL_pure 2 [0, 1, 2, 10] [(0, .pointer (some ⟨lg, 0, none⟩)), (1, .int .i64 id), (2, .int .i64 need), (10, .bool false)] (by kernel_rfl) rfl ?_
 refine VL_end (by kernel_rfl) ?_
 refine VQ_next ?_
 refine VC_false (by kernel_rfl) ?_
 refine VC_skip ?_
 refine VQ_next ?_
 refine VC_seq ?_
 refine VC_region ?_
 refine VL_pure 3 [0, 1, 2, 14] [(0, .pointer (some ⟨lg, 0, none⟩)), (1, .int .i64 id), (2, .int .i64 need), (14, .pointer (some ⟨lg, 2, none⟩))] (by kernel_rfl) rfl ?_
 refine VL_load (d := 15) (t := 78) (a := ⟨lg, 2, none⟩) (v := .map (some lm)) (by kernel_rfl) (by kernel_rfl) (Loads.own1 hd (by kernel_rfl) (by rfl)) ?_
 refine VL_pure 5 [0, 1, 2, 15, 16] [(0, .pointer (some ⟨lg, 0, none⟩)), (1, .int .i64 id), (2, .int .i64 need), (15, .map (some lm)), (16, .int .i64 id)] (by kernel_rfl) rfl ?_
 refine VL_lookup (ek := ei) (u := ui) (d := 17) (m := lm) (kt := 3) (z := .int .i64 0) (k := id) (ok := true) (by kernel_rfl) (by kernel_rfl) keyTi hm (.int .i64 ((getM N id).getD 0)) (by cases getM N id <;> rfl) ?_
 refine VL_keep [0, 1, 2, 15, 16, 17] [(0, .pointer (some ⟨lg, 0, none⟩)), (1, .int .i64 id), (2, .int .i64 need), (15, .map (some lm)), (16, .int .i64 id), (17, .tuple #[.int .i64 ((getM N id).getD 0), .bool ((getM N id).isSome)])] (by kernel_rfl) ?_
 refine VL_pure 11 [0, 1, 2, 8] [(0, .pointer (some ⟨lg, 0, none⟩)), (1, .int .i64 id), (2, .int .i64 need), (8, .bool ((getM N id).isSome))] (by kernel_rfl) rfl ?_
 refine VL_end (by kernel_rfl) ?_
 refine VQ_next ?_
 refine VC_seq ?_
 refine VC_block ?_
 refine VC_seq ?_
 refine VC_region ?_
 refine VL_pure 3 [0, 1, 2, 8, 20] [(0, .pointer (some ⟨lg, 0, none⟩)), (1, .int .i64 id), (2, .int .i64 need), (8, .bool ((getM N id).isSome)), (20, .bool (decide (need < 0)))] (by kernel_rfl) rfl ?_
 refine VL_end (by kernel_rfl) ?_
 refine VQ_next ?_
 refine VC_is (b := decide (need < 0)) false (by kernel_rfl) (decide_eq_false (by omega)) ?_
 refine VC_ite_false ?_
 refine VC_seq ?_
 refine VC_region ?_
 refine VL_pure 2 [0, 1, 2, 23] [(0, .pointer (some ⟨lg, 0, none⟩)), (1, .int .i64 id), (2, .int .i64 need), (23, .bool ((getM N id).isSome))] (by kernel_rfl) rfl ?_
 refine VL_end (by kernel_rfl) ?_
 refine VQ_next ?_
 refine VC_is (b := (getM N id).isSome) false (by kernel_rfl) (by rw [hn]; rfl) ?_
 refine VC_ite_false ?_
 refine VC_seq ?_
 refine VC_region ?_
 refine VL_pure 2 [0, 1, 2, 26, 27] [(0, .pointer (some ⟨lg, 0, none⟩)), (1, .int .i64 id), (2, .int .i64 need), (26, .int .i64 need), (27, .pointer (some ⟨lg, 0, none⟩))] (by kernel_rfl) rfl ?_
 have hzs1 := hS.size
 have hzl1 := hd.lt
 have hzl2 := MapL.lt hm
 refine VL_call (d := 28) (f := 24) (args := #[.pointer (some ⟨lg, 0, none⟩)]) (by kernel_rfl) (by kernel_rfl) (by kernel_rfl) Try.call24 (lleft_any lg lm room used N _ ⟨hd, hm⟩ hu hur hr) ?_
 rintro _ w1 ⟨rfl, hc1⟩
 replace hS := Step.trans hS (Step.weak hc1)
 replace hd := hd.no hc1
 replace hm := MapL.no hm hc1
 refine VL_pure 5 [0, 1, 2, 25] [(0, .pointer (some ⟨lg, 0, none⟩)), (1, .int .i64 id), (2, .int .i64 need), (25, .bool (decide (need > (room - used))))] (by kernel_rfl) rfl ?_
 refine VL_end (by kernel_rfl) ?_
 refine VQ_next ?_
 refine VC_is (b := decide (need > (room - used))) false (by kernel_rfl) (decide_eq_false (by omega)) ?_
 refine VC_ite_false ?_
 refine VC_skip ?_
 refine VQ_block_normal ?_
 refine VQ_next ?_
 refine VC_seq ?_
 refine VC_region ?_
 refine VL_pure 3 [0, 1, 2, 32] [(0, .pointer (some ⟨lg, 0, none⟩)), (1, .int .i64 id), (2, .int .i64 need), (32, .pointer (some ⟨lg, 2, none⟩))] (by kernel_rfl) rfl ?_
 refine VL_load (d := 33) (t := 78) (a := ⟨lg, 2, none⟩) (v := .map (some lm)) (by kernel_rfl) (by kernel_rfl) (Loads.own1 hd (by kernel_rfl) (by rfl)) ?_
 refine VL_pure 6 [0, 2, 33, 34, 35] [(0, .pointer (some ⟨lg, 0, none⟩)), (2, .int .i64 need), (33, .map (some lm)), (34, .int .i64 id), (35, .int .i64 need)] (by kernel_rfl) rfl ?_
 refine VL_upd (ek := ei) (u := ui) (m := lm) (kt := 3) (k := id) (v := need) (by kernel_rfl) (by kernel_rfl) keyTi hm ?_
 intro w2 hw1
 replace hS := Step.trans hS (Step.mono hw1.step (by intro i hi; first | exact hi | exact ⟨_, by assumption, hi⟩ | (have hi9 : i = lm := hi; (first | show _ ∨ _ | show _ = _); omega)))
 replace hd := hd.step hw1.step (show ¬ lg = lm by omega)
 have hM1 := hw1.map
 have hzhw1 := hw1.same
 refine VL_end (by kernel_rfl) ?_
 refine VQ_next ?_
 refine VC_seq ?_
 refine VC_region ?_
 refine VL_pure 3 [2, 36, 38] [(2, .int .i64 need), (36, .pointer (some ⟨lg, 0, none⟩)), (38, .pointer (some ⟨lg, 1, none⟩))] (by kernel_rfl) rfl ?_
 refine VL_load (d := 39) (t := 3) (a := ⟨lg, 1, none⟩) (v := .int .i64 used) (by kernel_rfl) (by kernel_rfl) (Loads.own1 hd (by kernel_rfl) (by rfl)) ?_
 refine VL_pure 8 [41, 43] [(41, .int .i64 (IntKind.wrap .i64 (used + need))), (43, .pointer (some ⟨lg, 1, none⟩))] (by kernel_rfl) rfl ?_
 refine VL_store (b := lg) (o := 1) (vs := [.int .i64 (IntKind.wrap .i64 (used + need))]) (by kernel_rfl) (by kernel_rfl) hd (Nat.le_of_ble_eq_true (by kernel_rfl)) ?_
 intro w3 hw2
 replace hS := Step.trans hS (Step.mono hw2.step (by intro i hi; first | exact hi | exact ⟨_, by assumption, hi⟩ | (have hi9 : i = lg := hi; (first | show _ ∨ _ | show _ = _); omega)))
 replace hM1 := MapL.step hM1 hw2.step (show ¬ lm = lg by omega)
 have ho1 : Own w3 lg #[.int .i64 room, .int .i64 (IntKind.wrap .i64 (used + need)), .map (some lm)] 80 := Own.cast hw2.own (by kernel_rfl)
 have hzhw2 := hw2.same
 refine VL_end (by kernel_rfl) ?_
 refine VQ_next ?_
 refine VC_seq ?_
 refine VC_region ?_
 refine VL_pure 1 [6] [(6, .int .i64 0)] (by kernel_rfl) rfl ?_
 refine VL_end (by kernel_rfl) ?_
 refine VQ_next ?_
 refine VC_ret ?_
 refine VQ_ret1 (.int .i64 0) (.inr rfl) rfl rfl ?_
 exact ⟨rfl, ⟨Own.cast ho1 (by rw [show IntKind.wrap .i64 (used + need) = used + need from by first | rfl | (rw [wrap_i64 _ (by omega) (by omega)]) | (rw [wrap_i64 (need - was) (by omega) (by omega), wrap_i64 _ (by omega) (by omega)])]), hM1⟩, hS⟩

set_option maxRecDepth 100000 in
set_option maxHeartbeats 4000000 in
theorem lget_any (lg lm : Nat) (room used : Int) (N : List (Int × Int)) (id : Int) (w : World) (hl : Ld w lg lm room used N) :
  CV Try.prog 49 #[.pointer (some ⟨lg, 0, none⟩), .int .i64 id] w (fun x w1 => x = .tuple #[.int .i64 ((getM N id).getD 0), .bool (getM N id).isSome] ∧ Step No w w1) := by
 obtain ⟨hd, hm⟩ := hl
 have hne : lg ≠ lm := Ld.ne ⟨hd, hm⟩
 have hS : Step No w w := Step.refl _ _
 refine CV_enter Try.f49 _ 21 [(0, .pointer (some ⟨lg, 0, none⟩)), (1, .int .i64 id)] Try.func49 rfl rfl (by kernel_rfl) rfl ?_
 refine VC_seq ?_
 refine VC_region ?_
 refine VL_pure 2 [0, 1] [(0, .pointer (some ⟨lg, 0, none⟩)), (1, .int .i64 id)] (by kernel_rfl) rfl ?_
 refine VL_end (by kernel_rfl) ?_
 refine VQ_next ?_
 refine VC_seq ?_
 refine VC_seq ?_
 refine VC_region ?_
 refine VL_pure 2 [0, 1, 9] [(0, .pointer (some ⟨lg, 0, none⟩)), (1, .int .i64 id), (9, .bool false)] (by kernel_rfl) rfl ?_
 refine VL_end (by kernel_rfl) ?_
 refine VQ_next ?_
 refine VC_false (by kernel_rfl) ?_
 refine VC_skip ?_
 refine VQ_next ?_
 refine VC_seq ?_
 refine VC_region ?_
 refine VL_pure 3 [1, 13] [(1, .int .i64 id), (13, .pointer (some ⟨lg, 2, none⟩))] (by kernel_rfl) rfl ?_
 refine VL_load (d := 14) (t := 78) (a := ⟨lg, 2, none⟩) (v := .map (some lm)) (by kernel_rfl) (by kernel_rfl) (Loads.own1 hd (by kernel_rfl) (by rfl)) ?_
 refine VL_pure 5 [14, 15] [(14, .map (some lm)), (15, .int .i64 id)] (by kernel_rfl) rfl ?_
 refine VL_lookup (ek := ei) (u := ui) (d := 16) (m := lm) (kt := 3) (z := .int .i64 0) (k := id) (ok := true) (by kernel_rfl) (by kernel_rfl) keyTi hm (.int .i64 ((getM N id).getD 0)) (by cases getM N id <;> rfl) ?_
 refine VL_keep [14, 15, 16] [(14, .map (some lm)), (15, .int .i64 id), (16, .tuple #[.int .i64 ((getM N id).getD 0), .bool ((getM N id).isSome)])] (by kernel_rfl) ?_
 refine VL_pure 11 [6, 7] [(6, .int .i64 ((getM N id).getD 0)), (7, .bool ((getM N id).isSome))] (by kernel_rfl) rfl ?_
 refine VL_end (by kernel_rfl) ?_
 refine VQ_next ?_
 refine VC_seq ?_
 refine VC_region ?_
 refine VL_pure 4 [4, 5] [(4, .int .i64 ((getM N id).getD 0)), (5, .bool ((getM N id).isSome))] (by kernel_rfl) rfl ?_
 refine VL_end (by kernel_rfl) ?_
 refine VQ_next ?_
 refine VC_ret ?_
 refine VQ_ret2 (.int .i64 ((getM N id).getD 0)) (.bool ((getM N id).isSome)) (.inr rfl) rfl rfl rfl ?_
 exact ⟨rfl, hS⟩

set_option maxRecDepth 100000 in
set_option maxHeartbeats 4000000 in
theorem lfree_any (lg lm : Nat) (room used : Int) (N : List (Int × Int)) (id was : Int) (w : World) (hl : Ld w lg lm room used N) (hu : 0 ≤ used) (hur : used ≤ room) (hr : room ≤ 1152921504606846976) (hn : getM N id = some was) (h0 : 0 ≤ was) (hw : was ≤ used)  :
  CV Try.prog 40 #[.pointer (some ⟨lg, 0, none⟩), .int .i64 id] w (fun x w1 => x = .tuple #[.int .i64 was, .bool true] ∧ Ld w1 lg lm room (used - was) (delM N id) ∧ Step (fun k => k = lg ∨ k = lm) w w1) := by
 obtain ⟨hd, hm⟩ := hl
 have hne : lg ≠ lm := Ld.ne ⟨hd, hm⟩
 have hS : Step (fun k => k = lg ∨ k = lm) w w := Step.refl _ _
 refine CV_enter Try.f40 _ 30 [(0, .pointer (some ⟨lg, 0, none⟩)), (1, .int .i64 id)] Try.func40 rfl rfl (by kernel_rfl) rfl ?_
 refine VC_seq ?_
 refine VC_region ?_
 refine VL_pure 2 [0, 1] [(0, .pointer (some ⟨lg, 0, none⟩)), (1, .int .i64 id)] (by kernel_rfl) rfl ?_
 refine VL_end (by kernel_rfl) ?_
 refine VQ_next ?_
 refine VC_seq ?_
 refine VC_region ?_
 refine VL_pure 2 [0, 1, 9, 10] [(0, .pointer (some ⟨lg, 0, none⟩)), (1, .int .i64 id), (9, .pointer (some ⟨lg, 0, none⟩)), (10, .int .i64 id)] (by kernel_rfl) rfl ?_
 have hzs1 := hS.size
 have hzl1 := hd.lt
 have hzl2 := MapL.lt hm
 refine VL_call (d := 11) (f := 49) (args := #[.pointer (some ⟨lg, 0, none⟩), .int .i64 id]) (by kernel_rfl) (by kernel_rfl) (by kernel_rfl) Try.call49 ((lget_any lg lm room used N id _ ⟨hd, hm⟩).mono (fun x w1 h9 => ⟨h9.1.trans (by rw [hn]; rfl), h9.2⟩ : ∀ x w1, _ → x = .tuple #[.int .i64 was, .bool true] ∧ Step No _ w1)) ?_
 rintro _ w1 ⟨rfl, hc1⟩
 replace hS := Step.trans hS (Step.weak hc1)
 replace hd := hd.no hc1
 replace hm := MapL.no hm hc1
 refine VL_pure 8 [0, 1, 6, 7] [(0, .pointer (some ⟨lg, 0, none⟩)), (1, .int .i64 id), (6, .int .i64 was), (7, .bool true)] (by kernel_rfl) rfl ?_
 refine VL_end (by kernel_rfl) ?_
 refine VQ_next ?_
 refine VC_seq ?_
 refine VC_seq ?_
 refine VC_region ?_
 refine VL_pure 1 [0, 1, 6, 7, 14] [(0, .pointer (some ⟨lg, 0, none⟩)), (1, .int .i64 id), (6, .int .i64 was), (7, .bool true), (14, .bool true)] (by kernel_rfl) rfl ?_
 refine VL_end (by kernel_rfl) ?_
 refine VQ_next ?_
 refine VC_true (by kernel_rfl) ?_
 refine VC_seq ?_
 refine VC_region ?_
 refine VL_pure 3 [0, 1, 6, 7, 17] [(0, .pointer (some ⟨lg, 0, none⟩)), (1, .int .i64 id), (6, .int .i64 was), (7, .bool true), (17, .pointer (some ⟨lg, 2, none⟩))] (by kernel_rfl) rfl ?_
 refine VL_load (d := 18) (t := 78) (a := ⟨lg, 2, none⟩) (v := .map (some lm)) (by kernel_rfl) (by kernel_rfl) (Loads.own1 hd (by kernel_rfl) (by rfl)) ?_
 refine VL_pure 5 [0, 6, 7, 18, 19] [(0, .pointer (some ⟨lg, 0, none⟩)), (6, .int .i64 was), (7, .bool true), (18, .map (some lm)), (19, .int .i64 id)] (by kernel_rfl) rfl ?_
 refine VL_del (ek := ei) (u := ui) (m := lm) (kt := 3) (k := id) (by kernel_rfl) (by kernel_rfl) keyTi hm ?_
 intro w2 hw1
 replace hS := Step.trans hS (Step.mono hw1.step (by intro i hi; first | exact hi | exact ⟨_, by assumption, hi⟩ | (have hi9 : i = lm := hi; (first | show _ ∨ _ | show _ = _); omega)))
 replace hd := hd.step hw1.step (show ¬ lg = lm by omega)
 have hM1 := hw1.map
 have hzhw1 := hw1.same
 refine VL_end (by kernel_rfl) ?_
 refine VQ_next ?_
 refine VC_region ?_
 refine VL_pure 3 [6, 7, 20, 22] [(6, .int .i64 was), (7, .bool true), (20, .pointer (some ⟨lg, 0, none⟩)), (22, .pointer (some ⟨lg, 1, none⟩))] (by kernel_rfl) rfl ?_
 refine VL_load (d := 23) (t := 3) (a := ⟨lg, 1, none⟩) (v := .int .i64 used) (by kernel_rfl) (by kernel_rfl) (Loads.own1 hd (by kernel_rfl) (by rfl)) ?_
 refine VL_pure 8 [6, 7, 25, 27] [(6, .int .i64 was), (7, .bool true), (25, .int .i64 (IntKind.wrap .i64 (used - was))), (27, .pointer (some ⟨lg, 1, none⟩))] (by kernel_rfl) rfl ?_
 refine VL_store (b := lg) (o := 1) (vs := [.int .i64 (IntKind.wrap .i64 (used - was))]) (by kernel_rfl) (by kernel_rfl) hd (Nat.le_of_ble_eq_true (by kernel_rfl)) ?_
 intro w3 hw2
 replace hS := Step.trans hS (Step.mono hw2.step (by intro i hi; first | exact hi | exact ⟨_, by assumption, hi⟩ | (have hi9 : i = lg := hi; (first | show _ ∨ _ | show _ = _); omega)))
 replace hM1 := MapL.step hM1 hw2.step (show ¬ lm = lg by omega)
 have ho1 : Own w3 lg #[.int .i64 room, .int .i64 (IntKind.wrap .i64 (used - was)), .map (some lm)] 80 := Own.cast hw2.own (by kernel_rfl)
 have hzhw2 := hw2.same
 refine VL_end (by kernel_rfl) ?_
 refine VQ_next ?_
 refine VC_seq ?_
 refine VC_region ?_
 refine VL_pure 4 [4, 5] [(4, .int .i64 was), (5, .bool true)] (by kernel_rfl) rfl ?_
 refine VL_end (by kernel_rfl) ?_
 refine VQ_next ?_
 refine VC_ret ?_
 refine VQ_ret2 (.int .i64 was) (.bool true) (.inr rfl) rfl rfl rfl ?_
 exact ⟨rfl, ⟨Own.cast ho1 (by rw [show IntKind.wrap .i64 (used - was) = used - was from by first | rfl | (rw [wrap_i64 _ (by omega) (by omega)]) | (rw [wrap_i64 (need - was) (by omega) (by omega), wrap_i64 _ (by omega) (by omega)])]), hM1⟩, hS⟩

set_option maxRecDepth 100000 in
set_option maxHeartbeats 4000000 in
theorem lchange_any (lg lm : Nat) (room used : Int) (N : List (Int × Int)) (id need was : Int) (w : World) (hl : Ld w lg lm room used N) (hu : 0 ≤ used) (hur : used ≤ room) (hr : room ≤ 1152921504606846976) (hn : getM N id = some was) (h0 : 0 ≤ need) (h1 : need ≤ 1152930000000000000) (hw0 : 0 ≤ was) (hw : was ≤ used)  :
  CV Try.prog 38 #[.pointer (some ⟨lg, 0, none⟩), .int .i64 id, .int .i64 need] w (fun x w1 => x = .int .i64 (if need > room - used + was then 9 else 0) ∧ Ld w1 lg lm room (if need > room - used + was then used else used + (need - was)) (if need > room - used + was then N else putM N id need) ∧ Step (fun k => k = lg ∨ k = lm) w w1) := by
 obtain ⟨hd, hm⟩ := hl
 have hne : lg ≠ lm := Ld.ne ⟨hd, hm⟩
 have hS : Step (fun k => k = lg ∨ k = lm) w w := Step.refl _ _
 refine CV_enter Try.f38 _ 49 [(0, .pointer (some ⟨lg, 0, none⟩)), (1, .int .i64 id), (2, .int .i64 need)] Try.func38 rfl rfl (by kernel_rfl) rfl ?_
 refine VC_seq ?_
 refine VC_region ?_
 refine VL_pure 1 [0, 1, 2] [(0, .pointer (some ⟨lg, 0, none⟩)), (1, .int .i64 id), (2, .int .i64 need)] (by kernel_rfl) rfl ?_
 refine VL_end (by kernel_rfl) ?_
 refine VQ_next ?_
 refine VC_seq ?_
 refine VC_seq ?_
 refine VC_region ?_
 refine VL_pure 2 [0, 1, 2, 10] [(0, .pointer (some ⟨lg, 0, none⟩)), (1, .int .i64 id), (2, .int .i64 need), (10, .bool false)] (by kernel_rfl) rfl ?_
 refine VL_end (by kernel_rfl) ?_
 refine VQ_next ?_
 refine VC_false (by kernel_rfl) ?_
 refine VC_skip ?_
 refine VQ_next ?_
 refine VC_seq ?_
 refine VC_region ?_
 refine VL_pure 3 [0, 1, 2, 14] [(0, .pointer (some ⟨lg, 0, none⟩)), (1, .int .i64 id), (2, .int .i64 need), (14, .pointer (some ⟨lg, 2, none⟩))] (by kernel_rfl) rfl ?_
 refine VL_load (d := 15) (t := 78) (a := ⟨lg, 2, none⟩) (v := .map (some lm)) (by kernel_rfl) (by kernel_rfl) (Loads.own1 hd (by kernel_rfl) (by rfl)) ?_
 refine VL_pure 5 [0, 1, 2, 15, 16] [(0, .pointer (some ⟨lg, 0, none⟩)), (1, .int .i64 id), (2, .int .i64 need), (15, .map (some lm)), (16, .int .i64 id)] (by kernel_rfl) rfl ?_
 refine VL_lookup (ek := ei) (u := ui) (d := 17) (m := lm) (kt := 3) (z := .int .i64 0) (k := id) (ok := true) (by kernel_rfl) (by kernel_rfl) keyTi hm (.int .i64 was) (by rw [hn]; rfl) ?_
 refine VL_keep [0, 1, 2, 15, 16, 17] [(0, .pointer (some ⟨lg, 0, none⟩)), (1, .int .i64 id), (2, .int .i64 need), (15, .map (some lm)), (16, .int .i64 id), (17, .tuple #[.int .i64 was, .bool ((getM N id).isSome)])] (by kernel_rfl) ?_
 refine VL_pure 11 [0, 1, 2, 7, 8] [(0, .pointer (some ⟨lg, 0, none⟩)), (1, .int .i64 id), (2, .int .i64 need), (7, .int .i64 was), (8, .bool ((getM N id).isSome))] (by kernel_rfl) rfl ?_
 refine VL_end (by kernel_rfl) ?_
 refine VQ_next ?_
 refine VC_seq ?_
 refine VC_block ?_
 refine VC_seq ?_
 refine VC_region ?_
 refine VL_pure 3 [0, 1, 2, 7, 8, 20] [(0, .pointer (some ⟨lg, 0, none⟩)), (1, .int .i64 id), (2, .int .i64 need), (7, .int .i64 was), (8, .bool ((getM N id).isSome)), (20, .bool (decide (need < 0)))] (by kernel_rfl) rfl ?_
 refine VL_end (by kernel_rfl) ?_
 refine VQ_next ?_
 refine VC_is (b := decide (need < 0)) false (by kernel_rfl) (decide_eq_false (by omega)) ?_
 refine VC_ite_false ?_
 refine VC_seq ?_
 refine VC_region ?_
 refine VL_pure 3 [0, 1, 2, 7, 23] [(0, .pointer (some ⟨lg, 0, none⟩)), (1, .int .i64 id), (2, .int .i64 need), (7, .int .i64 was), (23, .bool (!((getM N id).isSome)))] (by kernel_rfl) rfl ?_
 refine VL_end (by kernel_rfl) ?_
 refine VQ_next ?_
 refine VC_is (b := !((getM N id).isSome)) false (by kernel_rfl) (by rw [hn]; rfl) ?_
 refine VC_ite_false ?_
 refine VC_seq ?_
 refine VC_region ?_
 refine VL_pure 2 [0, 1, 2, 7, 27, 28] [(0, .pointer (some ⟨lg, 0, none⟩)), (1, .int .i64 id), (2, .int .i64 need), (7, .int .i64 was), (27, .int .i64 need), (28, .pointer (some ⟨lg, 0, none⟩))] (by kernel_rfl) rfl ?_
 have hzs1 := hS.size
 have hzl1 := hd.lt
 have hzl2 := MapL.lt hm
 refine VL_call (d := 29) (f := 24) (args := #[.pointer (some ⟨lg, 0, none⟩)]) (by kernel_rfl) (by kernel_rfl) (by kernel_rfl) Try.call24 (lleft_any lg lm room used N _ ⟨hd, hm⟩ hu hur hr) ?_
 rintro _ w1 ⟨rfl, hc1⟩
 replace hS := Step.trans hS (Step.weak hc1)
 replace hd := hd.no hc1
 replace hm := MapL.no hm hc1
 refine VL_pure 5 [0, 1, 2, 7, 27, 31] [(0, .pointer (some ⟨lg, 0, none⟩)), (1, .int .i64 id), (2, .int .i64 need), (7, .int .i64 was), (27, .int .i64 need), (31, .int .i64 (IntKind.wrap .i64 ((room - used) + was)))] (by kernel_rfl) rfl ?_
 refine VL_eq [(0, .pointer (some ⟨lg, 0, none⟩)), (1, .int .i64 id), (2, .int .i64 need), (7, .int .i64 was), (27, .int .i64 need), (31, .int .i64 (room - used + was))] (by rw [wrap_i64 _ (by omega) (by omega)]) ?_
 refine VL_pure 7 [0, 1, 2, 7, 26] [(0, .pointer (some ⟨lg, 0, none⟩)), (1, .int .i64 id), (2, .int .i64 need), (7, .int .i64 was), (26, .bool (decide (need > (room - used + was))))] (by kernel_rfl) rfl ?_
 refine VL_end (by kernel_rfl) ?_
 refine VQ_next ?_
 refine VC_dec (need > (room - used + was)) (by kernel_rfl) (fun h1 => ?_) (fun h1 => ?_)
 ·refine VC_seq ?_
  refine VC_region ?_
  refine VL_pure 1 [6] [(6, .int .i64 9)] (by kernel_rfl) rfl ?_
  refine VL_end (by kernel_rfl) ?_
  refine VQ_next ?_
  refine VC_ret ?_
  refine VQ_block_ret ?_
  refine VQ_then_ret ?_
  refine VQ_ret1 (.int .i64 9) (.inr rfl) rfl rfl ?_
  have h9 : need > room - used + was := by assumption
  rw [if_pos h9, if_pos h9, if_pos h9]
  exact ⟨rfl, ⟨hd, hm⟩, hS⟩
 ·refine VC_skip ?_
  refine VQ_block_normal ?_
  refine VQ_next ?_
  refine VC_seq ?_
  refine VC_region ?_
  refine VL_pure 3 [0, 1, 2, 7, 35] [(0, .pointer (some ⟨lg, 0, none⟩)), (1, .int .i64 id), (2, .int .i64 need), (7, .int .i64 was), (35, .pointer (some ⟨lg, 2, none⟩))] (by kernel_rfl) rfl ?_
  refine VL_load (d := 36) (t := 78) (a := ⟨lg, 2, none⟩) (v := .map (some lm)) (by kernel_rfl) (by kernel_rfl) (Loads.own1 hd (by kernel_rfl) (by rfl)) ?_
  refine VL_pure 6 [0, 2, 7, 36, 37, 38] [(0, .pointer (some ⟨lg, 0, none⟩)), (2, .int .i64 need), (7, .int .i64 was), (36, .map (some lm)), (37, .int .i64 id), (38, .int .i64 need)] (by kernel_rfl) rfl ?_
  refine VL_upd (ek := ei) (u := ui) (m := lm) (kt := 3) (k := id) (v := need) (by kernel_rfl) (by kernel_rfl) keyTi hm ?_
  intro w2 hw1
  replace hS := Step.trans hS (Step.mono hw1.step (by intro i hi; first | exact hi | exact ⟨_, by assumption, hi⟩ | (have hi9 : i = lm := hi; (first | show _ ∨ _ | show _ = _); omega)))
  replace hd := hd.step hw1.step (show ¬ lg = lm by omega)
  have hM1 := hw1.map
  have hzhw1 := hw1.same
  refine VL_end (by kernel_rfl) ?_
  refine VQ_next ?_
  refine VC_seq ?_
  refine VC_region ?_
  refine VL_pure 3 [2, 7, 39, 41] [(2, .int .i64 need), (7, .int .i64 was), (39, .pointer (some ⟨lg, 0, none⟩)), (41, .pointer (some ⟨lg, 1, none⟩))] (by kernel_rfl) rfl ?_
  refine VL_load (d := 42) (t := 3) (a := ⟨lg, 1, none⟩) (v := .int .i64 used) (by kernel_rfl) (by kernel_rfl) (Loads.own1 hd (by kernel_rfl) (by rfl)) ?_
  refine VL_pure 10 [46, 48] [(46, .int .i64 (IntKind.wrap .i64 (used + (IntKind.wrap .i64 (need - was))))), (48, .pointer (some ⟨lg, 1, none⟩))] (by kernel_rfl) rfl ?_
  refine VL_store (b := lg) (o := 1) (vs := [.int .i64 (IntKind.wrap .i64 (used + (IntKind.wrap .i64 (need - was))))]) (by kernel_rfl) (by kernel_rfl) hd (Nat.le_of_ble_eq_true (by kernel_rfl)) ?_
  intro w3 hw2
  replace hS := Step.trans hS (Step.mono hw2.step (by intro i hi; first | exact hi | exact ⟨_, by assumption, hi⟩ | (have hi9 : i = lg := hi; (first | show _ ∨ _ | show _ = _); omega)))
  replace hM1 := MapL.step hM1 hw2.step (show ¬ lm = lg by omega)
  have ho1 : Own w3 lg #[.int .i64 room, .int .i64 (IntKind.wrap .i64 (used + (IntKind.wrap .i64 (need - was)))), .map (some lm)] 80 := Own.cast hw2.own (by kernel_rfl)
  have hzhw2 := hw2.same
  refine VL_end (by kernel_rfl) ?_
  refine VQ_next ?_
  refine VC_seq ?_
  refine VC_region ?_
  refine VL_pure 1 [6] [(6, .int .i64 0)] (by kernel_rfl) rfl ?_
  refine VL_end (by kernel_rfl) ?_
  refine VQ_next ?_
  refine VC_ret ?_
  refine VQ_ret1 (.int .i64 0) (.inr rfl) rfl rfl ?_
  have h9 : ¬ need > room - used + was := by assumption
  rw [if_neg h9, if_neg h9, if_neg h9]
  exact ⟨rfl, ⟨Own.cast ho1 (by rw [show IntKind.wrap .i64 (used + (IntKind.wrap .i64 (need - was))) = used + (need - was) from by first | rfl | (rw [wrap_i64 _ (by omega) (by omega)]) | (rw [wrap_i64 (need - was) (by omega) (by omega), wrap_i64 _ (by omega) (by omega)])]), hM1⟩, hS⟩

set_option maxRecDepth 100000 in
set_option maxHeartbeats 4000000 in
theorem lchange_no (lg lm : Nat) (room used : Int) (N : List (Int × Int)) (id need was : Int) (w : World) (hl : Ld w lg lm room used N) (hu : 0 ≤ used) (hur : used ≤ room) (hr : room ≤ 1152921504606846976) (hn : getM N id = some was) (h0 : 0 ≤ need) (h1 : need ≤ 1152930000000000000) (hw0 : 0 ≤ was) (hw : was ≤ used) (hb : need > room - used + was)  :
  CV Try.prog 38 #[.pointer (some ⟨lg, 0, none⟩), .int .i64 id, .int .i64 need] w (fun x w1 => x = .int .i64 9 ∧ Step No w w1) := by
 obtain ⟨hd, hm⟩ := hl
 have hne : lg ≠ lm := Ld.ne ⟨hd, hm⟩
 have hS : Step No w w := Step.refl _ _
 refine CV_enter Try.f38 _ 49 [(0, .pointer (some ⟨lg, 0, none⟩)), (1, .int .i64 id), (2, .int .i64 need)] Try.func38 rfl rfl (by kernel_rfl) rfl ?_
 refine VC_seq ?_
 refine VC_region ?_
 refine VL_pure 1 [0, 1, 2] [(0, .pointer (some ⟨lg, 0, none⟩)), (1, .int .i64 id), (2, .int .i64 need)] (by kernel_rfl) rfl ?_
 refine VL_end (by kernel_rfl) ?_
 refine VQ_next ?_
 refine VC_seq ?_
 refine VC_seq ?_
 refine VC_region ?_
 refine VL_pure 2 [0, 1, 2, 10] [(0, .pointer (some ⟨lg, 0, none⟩)), (1, .int .i64 id), (2, .int .i64 need), (10, .bool false)] (by kernel_rfl) rfl ?_
 refine VL_end (by kernel_rfl) ?_
 refine VQ_next ?_
 refine VC_false (by kernel_rfl) ?_
 refine VC_skip ?_
 refine VQ_next ?_
 refine VC_seq ?_
 refine VC_region ?_
 refine VL_pure 3 [0, 1, 2, 14] [(0, .pointer (some ⟨lg, 0, none⟩)), (1, .int .i64 id), (2, .int .i64 need), (14, .pointer (some ⟨lg, 2, none⟩))] (by kernel_rfl) rfl ?_
 refine VL_load (d := 15) (t := 78) (a := ⟨lg, 2, none⟩) (v := .map (some lm)) (by kernel_rfl) (by kernel_rfl) (Loads.own1 hd (by kernel_rfl) (by rfl)) ?_
 refine VL_pure 5 [0, 1, 2, 15, 16] [(0, .pointer (some ⟨lg, 0, none⟩)), (1, .int .i64 id), (2, .int .i64 need), (15, .map (some lm)), (16, .int .i64 id)] (by kernel_rfl) rfl ?_
 refine VL_lookup (ek := ei) (u := ui) (d := 17) (m := lm) (kt := 3) (z := .int .i64 0) (k := id) (ok := true) (by kernel_rfl) (by kernel_rfl) keyTi hm (.int .i64 was) (by rw [hn]; rfl) ?_
 refine VL_keep [0, 1, 2, 15, 16, 17] [(0, .pointer (some ⟨lg, 0, none⟩)), (1, .int .i64 id), (2, .int .i64 need), (15, .map (some lm)), (16, .int .i64 id), (17, .tuple #[.int .i64 was, .bool ((getM N id).isSome)])] (by kernel_rfl) ?_
 refine VL_pure 11 [0, 1, 2, 7, 8] [(0, .pointer (some ⟨lg, 0, none⟩)), (1, .int .i64 id), (2, .int .i64 need), (7, .int .i64 was), (8, .bool ((getM N id).isSome))] (by kernel_rfl) rfl ?_
 refine VL_end (by kernel_rfl) ?_
 refine VQ_next ?_
 refine VC_seq ?_
 refine VC_block ?_
 refine VC_seq ?_
 refine VC_region ?_
 refine VL_pure 3 [0, 1, 2, 7, 8, 20] [(0, .pointer (some ⟨lg, 0, none⟩)), (1, .int .i64 id), (2, .int .i64 need), (7, .int .i64 was), (8, .bool ((getM N id).isSome)), (20, .bool (decide (need < 0)))] (by kernel_rfl) rfl ?_
 refine VL_end (by kernel_rfl) ?_
 refine VQ_next ?_
 refine VC_is (b := decide (need < 0)) false (by kernel_rfl) (decide_eq_false (by omega)) ?_
 refine VC_ite_false ?_
 refine VC_seq ?_
 refine VC_region ?_
 refine VL_pure 3 [0, 1, 2, 7, 23] [(0, .pointer (some ⟨lg, 0, none⟩)), (1, .int .i64 id), (2, .int .i64 need), (7, .int .i64 was), (23, .bool (!((getM N id).isSome)))] (by kernel_rfl) rfl ?_
 refine VL_end (by kernel_rfl) ?_
 refine VQ_next ?_
 refine VC_is (b := !((getM N id).isSome)) false (by kernel_rfl) (by rw [hn]; rfl) ?_
 refine VC_ite_false ?_
 refine VC_seq ?_
 refine VC_region ?_
 refine VL_pure 2 [0, 1, 2, 7, 27, 28] [(0, .pointer (some ⟨lg, 0, none⟩)), (1, .int .i64 id), (2, .int .i64 need), (7, .int .i64 was), (27, .int .i64 need), (28, .pointer (some ⟨lg, 0, none⟩))] (by kernel_rfl) rfl ?_
 have hzs1 := hS.size
 have hzl1 := hd.lt
 have hzl2 := MapL.lt hm
 refine VL_call (d := 29) (f := 24) (args := #[.pointer (some ⟨lg, 0, none⟩)]) (by kernel_rfl) (by kernel_rfl) (by kernel_rfl) Try.call24 (lleft_any lg lm room used N _ ⟨hd, hm⟩ hu hur hr) ?_
 rintro _ w1 ⟨rfl, hc1⟩
 replace hS := Step.trans hS hc1
 replace hd := hd.no hc1
 replace hm := MapL.no hm hc1
 refine VL_pure 5 [0, 1, 2, 7, 27, 31] [(0, .pointer (some ⟨lg, 0, none⟩)), (1, .int .i64 id), (2, .int .i64 need), (7, .int .i64 was), (27, .int .i64 need), (31, .int .i64 (IntKind.wrap .i64 ((room - used) + was)))] (by kernel_rfl) rfl ?_
 refine VL_eq [(0, .pointer (some ⟨lg, 0, none⟩)), (1, .int .i64 id), (2, .int .i64 need), (7, .int .i64 was), (27, .int .i64 need), (31, .int .i64 (room - used + was))] (by rw [wrap_i64 _ (by omega) (by omega)]) ?_
 refine VL_pure 7 [0, 1, 2, 7, 26] [(0, .pointer (some ⟨lg, 0, none⟩)), (1, .int .i64 id), (2, .int .i64 need), (7, .int .i64 was), (26, .bool (decide (need > (room - used + was))))] (by kernel_rfl) rfl ?_
 refine VL_end (by kernel_rfl) ?_
 refine VQ_next ?_
 refine VC_is (b := decide (need > (room - used + was))) true (by kernel_rfl) (decide_eq_true (by omega)) ?_
 refine VC_ite_true ?_
 refine VC_seq ?_
 refine VC_region ?_
 refine VL_pure 1 [6] [(6, .int .i64 9)] (by kernel_rfl) rfl ?_
 refine VL_end (by kernel_rfl) ?_
 refine VQ_next ?_
 refine VC_ret ?_
 refine VQ_block_ret ?_
 refine VQ_then_ret ?_
 refine VQ_ret1 (.int .i64 9) (.inr rfl) rfl rfl ?_
 exact ⟨rfl, hS⟩

theorem lchange_yes {lg lm : Nat} {room used : Int} {N : List (Int × Int)} {w : World} (id need was : Int) (hl : Ld w lg lm room used N) (hu : 0 ≤ used) (hur : used ≤ room) (hr : room ≤ 1152921504606846976) (hn : getM N id = some was) (h0 : 0 ≤ need) (h1 : need ≤ 1152930000000000000) (hw0 : 0 ≤ was) (hw : was ≤ used) (hb : need ≤ room - used + was) : CV Try.prog 38 #[.pointer (some ⟨lg, 0, none⟩), .int .i64 id, .int .i64 need] w fun x w1 => x = .int .i64 0 ∧ Ld w1 lg lm room (used + (need - was)) (putM N id need) ∧ Step (fun k => k = lg ∨ k = lm) w w1 := by
  have h9 : ¬ need > room - used + was := by omega
  have h8 := lchange_any lg lm room used N id need was w hl hu hur hr hn h0 h1 hw0 hw
  rw [if_neg h9, if_neg h9, if_neg h9] at h8
  exact h8
set_option maxRecDepth 100000 in
set_option maxHeartbeats 4000000 in
theorem lnew_any (r : Int) (w : World) :
  CV Try.prog 19 #[.int .i64 r] w (fun x w1 => ∃ lg lm, x = .pointer (some ⟨lg, 0, none⟩) ∧ w.heap.size ≤ lg ∧ w.heap.size ≤ lm ∧ Ld w1 lg lm (imax 0 (imin r 1152921504606846976)) 0 [] ∧ Step No w w1) := by
 have hS : Step No w w := Step.refl _ _
 refine CV_enter Try.f19 _ 9 [(0, .int .i64 r)] Try.func19 rfl rfl (by kernel_rfl) rfl ?_
 refine VC_seq ?_
 refine VC_region ?_
 refine VL_pure 1 [0] [(0, .int .i64 r)] (by kernel_rfl) rfl ?_
 refine VL_end (by kernel_rfl) ?_
 refine VQ_next ?_
 refine VC_seq ?_
 refine VC_region ?_
 refine VL_pure 3 [5] [(5, .int .i64 (imax 0 (imin r 1152921504606846976)))] (by kernel_rfl) rfl ?_
 refine VL_mkMap (d := 6) (by kernel_rfl) (by kernel_rfl) ?_
 intro mp1 w1 hn1
 replace hS := Step.trans hS (hn1.step No)
 have hM1 := New.map hn1 ei ui
 have hzhn1 := hn1.size
 have hqhn1 := hn1.eqb
 refine VL_pure 5 [7] [(7, .agg #[.int .i64 (imax 0 (imin r 1152921504606846976)), .int .i64 0, .map (some mp1)])] (by kernel_rfl) rfl ?_
 have hzs1 := hS.size
 have hzl1 := MapL.lt hM1
 refine VL_box (d := 8) (t := 80) (c := #[.int .i64 (imax 0 (imin r 1152921504606846976)), .int .i64 0, .map (some mp1)]) (by kernel_rfl) (by kernel_rfl) ?_
 intro b1 w2 hn2
 replace hS := Step.trans hS (hn2.step No)
 replace hM1 := MapL.no hM1 (hn2.step No)
 have ho1 := hn2.own
 have hzhn2 := hn2.size
 have hqhn2 := hn2.eqb
 refine VL_pure 7 [2] [(2, .pointer (some ⟨b1, 0, none⟩))] (by kernel_rfl) rfl ?_
 refine VL_end (by kernel_rfl) ?_
 refine VQ_next ?_
 refine VC_ret ?_
 refine VQ_ret1 (.pointer (some ⟨b1, 0, none⟩)) (.inr rfl) rfl rfl ?_
 exact ⟨b1, mp1, rfl, by omega, by omega, ⟨ho1, hM1⟩, hS⟩

end Go.Proofs.Ythchmlidobgkoaa
end

section
/- The calculus' twentieth part: loops in which marks are laid: each round may leave one more. -/
set_option linter.unusedVariables false
set_option linter.unusedSimpArgs false
namespace Go.Vc
open Go.RowKit
section
variable {r : Option Nat} {n : Nat} {ds : List Deferred} {P : Program} {Q : Exit → Act → World → Prop} {l : List (Nat × Value)} {w : World} {c : Code}
end
/-- Marks that lie between two bounds. -/
def MarksI (w : World) (lo hi : Nat) (Ds : List Nat) : Prop := Marks Ds w ∧ ∀ D ∈ Ds, lo ≤ D ∧ D < hi
theorem Marks.dfr {w : World} : ∀ {Ds : List Nat}, Marks Ds w → ∀ D ∈ Ds, Dfr w D
  | [], _, D, h => by simp at h
  | D0 :: Ds, h, D, hD => by
    rcases List.mem_cons.1 hD with rfl | hD
    · exact h.1
    · exact Marks.dfr h.2.2 D hD
section
variable {F : Nat → Prop} {w w' : World} {lo hi hi' D : Nat} {Ds : List Nat}
theorem MarksI.nil (w : World) (lo hi : Nat) : MarksI w lo hi [] := ⟨trivial, fun D h => by simp at h⟩
theorem MarksI.keep (h : MarksI w lo hi Ds) (hs : Step F w w') (hF : ∀ D, Dfr w D → lo ≤ D → D < hi → ¬ F D) : MarksI w' lo hi Ds :=
  ⟨h.1.step hs fun D hD => hF D (h.1.dfr D hD) (h.2 D hD).1 (h.2 D hD).2, h.2⟩
theorem MarksI.no (h : MarksI w lo hi Ds) (hs : Step No w w') : MarksI w' lo hi Ds := h.keep hs fun _ _ _ _ => id
theorem MarksI.ne {b : Nat} {cs : Array Value} {e : TypeId} (hD : Dfr w D) (ho : Own w b cs e) : D ≠ b := by
  rintro rfl
  unfold Dfr at hD
  unfold Own at ho
  rw [hD] at ho
  cases ho
theorem MarksI.own {b : Nat} {cs : Array Value} {e : TypeId} (h : MarksI w lo hi Ds) (ho : Own w b cs e) (hs : Step (Just b) w w') : MarksI w' lo hi Ds := h.keep hs fun D hD _ _ (e : D = b) => MarksI.ne hD ho e
theorem MarksI.mark {L : Nat} (h : MarksI w lo hi Ds) (hL : hi ≤ L) (hs : Step (Just L) w w') : MarksI w' lo hi Ds := h.keep hs fun D _ _ h2 (e : D = L) => by omega
theorem MarksI.mono (h : MarksI w lo hi Ds) (hh : hi ≤ hi') : MarksI w lo hi' Ds := ⟨h.1, fun D hD => ⟨(h.2 D hD).1, by have := (h.2 D hD).2; omega⟩⟩
theorem MarksI.cons (h : MarksI w lo hi Ds) (hD : Dfr w D) (hlo : lo ≤ D) (hhi : hi ≤ D) : MarksI w lo (D + 1) (D :: Ds) :=
  ⟨⟨hD, fun hm => by have := (h.2 D hm).2; omega, h.1⟩, fun E hE => by
    rcases List.mem_cons.1 hE with rfl | hE
    · exact ⟨hlo, by omega⟩
    · have := h.2 E hE; exact ⟨this.1, by omega⟩⟩
end
end Go.Vc
end

section
/- Layer 20: what a policer asks. -/
set_option linter.unusedVariables false
set_option linter.unusedSimpArgs false
namespace Go.Proofs.Ythchmlidobgkoaa
open Go.Vc Go.RowKit

set_option maxRecDepth 100000 in
set_option maxHeartbeats 4000000 in
theorem asked_any (pp : Nat) (clp : Int) (w : World) :
  CV Try.prog 51 #[.pointer (some ⟨pp, 0, none⟩), .int .i64 clp] w (fun x w1 => ∃ B1 B2, x = .func (.func 60) #[] #[.pointer (some ⟨B1, 0, none⟩), .pointer (some ⟨B2, 0, none⟩)] ∧ w.heap.size ≤ B1 ∧ w.heap.size ≤ B2 ∧ Own w1 B1 #[.pointer (some ⟨pp, 0, none⟩)] 65 ∧ Own w1 B2 #[.int .i64 clp] 3 ∧ Step No w w1) := by
 have hS : Step No w w := Step.refl _ _
 refine CV_enter Try.f51 _ 6 [(0, .pointer (some ⟨pp, 0, none⟩)), (1, .int .i64 clp)] Try.func51 rfl rfl (by kernel_rfl) rfl ?_
 refine VC_seq ?_
 refine VC_region ?_
 have hzs1 := hS.size
 refine VL_box (d := 2) (t := 65) (c := #[.pointer (some ⟨pp, 0, none⟩)]) (by kernel_rfl) (by kernel_rfl) ?_
 intro b1 w1 hn1
 replace hS := Step.trans hS (hn1.step No)
 have ho1 := hn1.own
 have hzhn1 := hn1.size
 have hqhn1 := hn1.eqb
 have hzs2 := hS.size
 have hzl1 := ho1.lt
 refine VL_box (d := 3) (t := 3) (c := #[.int .i64 clp]) (by kernel_rfl) (by kernel_rfl) ?_
 intro b2 w2 hn2
 replace hS := Step.trans hS (hn2.step No)
 replace ho1 := ho1.no (hn2.step No)
 have ho2 := hn2.own
 have hzhn2 := hn2.size
 have hqhn2 := hn2.eqb
 refine VL_pure 3 [2, 3] [(2, .pointer (some ⟨b1, 0, none⟩)), (3, .pointer (some ⟨b2, 0, none⟩))] (by kernel_rfl) rfl ?_
 refine VL_end (by kernel_rfl) ?_
 refine VQ_next ?_
 refine VC_seq ?_
 refine VC_region ?_
 refine VL_pure 2 [4] [(4, .func (.func 60) #[] #[.pointer (some ⟨b1, 0, none⟩), .pointer (some ⟨b2, 0, none⟩)])] (by kernel_rfl) rfl ?_
 refine VL_end (by kernel_rfl) ?_
 refine VQ_next ?_
 refine VC_ret ?_
 refine VQ_ret1 (.func (.func 60) #[] #[.pointer (some ⟨b1, 0, none⟩), .pointer (some ⟨b2, 0, none⟩)]) (.inr rfl) rfl rfl ?_
 exact ⟨b1, b2, rfl, by omega, by omega, ho1, ho2, hS⟩

set_option maxRecDepth 100000 in
set_option maxHeartbeats 4000000 in
theorem asked1_any (L : Nat) (B1 B2 pp rb c : Nat) (a : Bool) (clp c0 c1 c2 c3 : Int) (l : List Rb) (hlen : l.length < 1152921504606846976) (w : World) (J Jx : Nat → Nat → World → Prop) (M : Nat) (hJn : ∀ M k W W', J M k W → Step No W W' → J M k W') (hrd : ∀ M k W, J M k W → Own W B1 #[.pointer (some ⟨pp, 0, none⟩)] 65 ∧ Own W B2 #[.int .i64 clp] 3 ∧ Own W pp (polArr a rb l.length c c0 c1 c2 c3) 103 ∧ Sl2 W rb (rb + 1) (some ⟨rb, 0, none⟩) (flat rlc l)) (hJ : J M 0 w) (hrl : rb < w.heap.size) (hy : ∀ k W args, M ≤ W.heap.size → (askV clp l)[k]? = some args → J M k W → YV Try.prog L args W fun v W' => Step (fun i => i < w.heap.size ∨ M ≤ i) W W' ∧ (v = .bool true ∧ J M (k + 1) W' ∨ v = .bool false ∧ Jx M (k + 1) W')) (hM : M ≤ w.heap.size) :
  CV Try.prog 60 #[.func (.yield L) #[] #[], .pointer (some ⟨B1, 0, none⟩), .pointer (some ⟨B2, 0, none⟩)] w (fun _ w1 => J M (askV clp l).length w1 ∨ ∃ k, k ≤ (askV clp l).length ∧ Jx M k w1) := by
 obtain ⟨hB1, hB2, hpp, hrow⟩ := hrd _ _ _ hJ
 have hMz := hM
 have hSJ : Step No w w := Step.refl _ _
 refine CV_enter Try.f60 _ 30 [(0, .func (.yield L) #[] #[]), (1, .pointer (some ⟨B1, 0, none⟩)), (2, .pointer (some ⟨B2, 0, none⟩))] Try.func60 rfl rfl (by kernel_rfl) rfl ?_
 refine VC_seq ?_
 refine VC_region ?_
 refine VL_load (d := 6) (t := 65) (a := ⟨B1, 0, none⟩) (v := .pointer (some ⟨pp, 0, none⟩)) (by kernel_rfl) (by kernel_rfl) (Loads.own1 hB1 (by kernel_rfl) (by rfl)) ?_
 refine VL_pure 3 [0, 2, 8] [(0, .func (.yield L) #[] #[]), (2, .pointer (some ⟨B2, 0, none⟩)), (8, .pointer (some ⟨pp, 1, none⟩))] (by kernel_rfl) rfl ?_
 refine VL_load (d := 9) (t := 100) (a := ⟨pp, 1, none⟩) (v := .slice (some ⟨rb, 0, none⟩) l.length c) (by kernel_rfl) (by kernel_rfl) (Loads.own1 hpp (by kernel_rfl) (by rfl)) ?_
 refine VL_pure 6 [0, 2, 9, 10, 11] [(0, .func (.yield L) #[] #[]), (2, .pointer (some ⟨B2, 0, none⟩)), (9, .slice (some ⟨rb, 0, none⟩) l.length c), (10, .int .i64 ((l.length : Nat) : Int)), (11, .int .i64 0)] (by kernel_rfl) rfl ?_
 refine VL_end (by kernel_rfl) ?_
 refine VQ_next ?_
 refine VC_block ?_
 refine VC_loop (σ := Nat) (fun σs => [(0, .func (.yield L) #[] #[]), (2, .pointer (some ⟨B2, 0, none⟩)), (9, .slice (some ⟨rb, 0, none⟩) l.length c), (10, .int .i64 ((l.length : Nat) : Int)), (11, .int .i64 ((σs : Nat) : Int))]) (fun σs wr => σs ≤ l.length ∧ J M (cntA clp l σs) wr ∧ M ≤ wr.heap.size ∧ rb < wr.heap.size ∧ Own wr B1 #[.pointer (some ⟨pp, 0, none⟩)] 65 ∧ Own wr B2 #[.int .i64 clp] 3 ∧ Own wr pp (polArr a rb l.length c c0 c1 c2 c3) 103 ∧ Sl2 wr rb (rb + 1) (some ⟨rb, 0, none⟩) (flat rlc l)) (fun σs wr => l.length - σs) 0 ⟨rfl, rfl, rfl, rfl, rfl, trivial⟩ ?_ ?_
 ·exact ⟨Nat.zero_le _, hJn _ _ _ _ hJ hSJ, hMz, hrl, hB1, hB2, hpp, hrow⟩
 rintro j wr ⟨hj0, hJ, hMz, hrl, hB1, hB2, hpp, hrow⟩
 try dsimp only at hj0 hJ hMz hrl hB1 hB2 hpp hrow ⊢
 have hSJ : Step No wr wr := Step.refl _ _
 refine VC_seq ?_
 refine VC_region ?_
 refine VL_pure 1 [0, 2, 9, 10, 11, 12] [(0, .func (.yield L) #[] #[]), (2, .pointer (some ⟨B2, 0, none⟩)), (9, .slice (some ⟨rb, 0, none⟩) l.length c), (10, .int .i64 ((l.length : Nat) : Int)), (11, .int .i64 ((j : Nat) : Int)), (12, .bool (decide (((j : Nat) : Int) < ((l.length : Nat) : Int))))] (by kernel_rfl) rfl ?_
 refine VL_end (by kernel_rfl) ?_
 refine VQ_next ?_
 refine VC_seq ?_
 refine VC_dec (((j : Nat) : Int) < ((l.length : Nat) : Int)) (by kernel_rfl) (fun h1 => ?_) (fun h1 => ?_)
 ·refine VC_skip ?_
  refine VQ_next ?_
  refine VC_seq ?_
  refine VC_block ?_
  refine VC_seq ?_
  refine VC_region ?_
  refine VL_index (d := 13) (b := rb) (o := 0) (len := l.length) (sz := 5) (m := ((j : Nat) : Int)) (by kernel_rfl) (by kernel_rfl) j (by rfl) (by omega) (j * 5) (by omega) ?_
  obtain ⟨rq1, hrq1⟩ : ∃ x, l[j]? = some x := ⟨_, List.getElem?_eq_getElem (by have hq9 : l.length = l.length := rfl; omega)⟩
  refine VL_load (d := 14) (t := 98) (a := ⟨rb, j * 5, none⟩) (v := .agg #[.int .i64 rq1.1.step, .int .i64 rq1.1.early, .bool rq1.1.zero, .bool rq1.1.tag, .iface 111 (.pointer (some ⟨rq1.2, 0, none⟩))]) (by kernel_rfl) (by kernel_rfl) (Sl.flatAgg (sz := 5) (Sl2.sl hrow) rlc_len hrq1 0 5 (by kernel_rfl) (by decide) _ (by first | rfl | omega)) ?_
  have hzs1 := hSJ.size
  have hzk1 := hMz
  have hzl1 := hB1.lt
  have hzl2 := hB2.lt
  have hzl3 := hpp.lt
  have hzk2 := hrl
  refine VL_box (d := 5) (t := 98) (c := #[.int .i64 0, .int .i64 0, .bool false, .bool false, .nilIface]) (by kernel_rfl) (by kernel_rfl) ?_
  intro b1 w1 hn1
  replace hSJ := Step.trans hSJ (hn1.step No)
  replace hMz := Nat.le_trans hMz (hn1.step No).size
  replace hB1 := hB1.no (hn1.step No)
  replace hB2 := hB2.no (hn1.step No)
  replace hpp := hpp.no (hn1.step No)
  replace hrow := hrow.step (hn1.step No) (fun k hk1 hk2 hF => hF)
  replace hrl := Nat.lt_of_lt_of_le hrl (hn1.step No).size
  have ho1 := hn1.own
  have hzhn1 := hn1.size
  have hqhn1 := hn1.eqb
  refine VL_store (b := b1) (o := 0) (vs := [.int .i64 rq1.1.step, .int .i64 rq1.1.early, .bool rq1.1.zero, .bool rq1.1.tag, .iface 111 (.pointer (some ⟨rq1.2, 0, none⟩))]) (by kernel_rfl) (by kernel_rfl) ho1 (Nat.le_of_ble_eq_true (by kernel_rfl)) ?_
  intro w2 hw1
  replace hSJ := Step.transNew hSJ hw1.step (fun _ _ _ => by omega)
  replace hMz := Nat.le_trans hMz (hw1.step).size
  replace hB1 := hB1.step hw1.step (show ¬ B1 = b1 by omega)
  replace hB2 := hB2.step hw1.step (show ¬ B2 = b1 by omega)
  replace hpp := hpp.step hw1.step (show ¬ pp = b1 by omega)
  replace hrow := hrow.step hw1.step (fun k hk1 hk2 (hF : k = b1) => by omega)
  replace hrl := Nat.lt_of_lt_of_le hrl (hw1.step).size
  have ho2 : Own w2 b1 #[.int .i64 rq1.1.step, .int .i64 rq1.1.early, .bool rq1.1.zero, .bool rq1.1.tag, .iface 111 (.pointer (some ⟨rq1.2, 0, none⟩))] 98 := Own.cast hw1.own (by kernel_rfl)
  have hzhw1 := hw1.same
  refine VL_end (by kernel_rfl) ?_
  refine VQ_next ?_
  refine VC_seq ?_
  refine VC_region ?_
  refine VL_pure 2 [0, 2, 9, 10, 11, 5, 16] [(0, .func (.yield L) #[] #[]), (2, .pointer (some ⟨B2, 0, none⟩)), (9, .slice (some ⟨rb, 0, none⟩) l.length c), (10, .int .i64 ((l.length : Nat) : Int)), (11, .int .i64 ((j : Nat) : Int)), (5, .pointer (some ⟨b1, 0, none⟩)), (16, .pointer (some ⟨b1, 2, none⟩))] (by kernel_rfl) rfl ?_
  refine VL_load (d := 17) (t := 4) (a := ⟨b1, 2, none⟩) (v := .bool rq1.1.zero) (by kernel_rfl) (by kernel_rfl) (Loads.own1 ho2 (by kernel_rfl) (by rfl)) ?_
  refine VL_pure 5 [0, 2, 9, 10, 11, 5, 19] [(0, .func (.yield L) #[] #[]), (2, .pointer (some ⟨B2, 0, none⟩)), (9, .slice (some ⟨rb, 0, none⟩) l.length c), (10, .int .i64 ((l.length : Nat) : Int)), (11, .int .i64 ((j : Nat) : Int)), (5, .pointer (some ⟨b1, 0, none⟩)), (19, .bool (!rq1.1.zero))] (by kernel_rfl) rfl ?_
  refine VL_bool rq1.1.zero (fun bV => [(0, .func (.yield L) #[] #[]), (2, .pointer (some ⟨B2, 0, none⟩)), (9, .slice (some ⟨rb, 0, none⟩) l.length c), (10, .int .i64 ((l.length : Nat) : Int)), (11, .int .i64 ((j : Nat) : Int)), (5, .pointer (some ⟨b1, 0, none⟩)), (19, .bool (!bV))]) rfl (fun hg1 => ?_) (fun hg1 => ?_)
  ·refine VL_load (d := 20) (t := 3) (a := ⟨B2, 0, none⟩) (v := .int .i64 clp) (by kernel_rfl) (by kernel_rfl) (Loads.own1 hB2 (by kernel_rfl) (by rfl)) ?_
   refine VL_pure 9 [0, 2, 9, 10, 11, 5, 23] [(0, .func (.yield L) #[] #[]), (2, .pointer (some ⟨B2, 0, none⟩)), (9, .slice (some ⟨rb, 0, none⟩) l.length c), (10, .int .i64 ((l.length : Nat) : Int)), (11, .int .i64 ((j : Nat) : Int)), (5, .pointer (some ⟨b1, 0, none⟩)), (23, .bool (clp == 0))] (by kernel_rfl) rfl ?_
   refine VL_beq clp 0 (fun bV => [(0, .func (.yield L) #[] #[]), (2, .pointer (some ⟨B2, 0, none⟩)), (9, .slice (some ⟨rb, 0, none⟩) l.length c), (10, .int .i64 ((l.length : Nat) : Int)), (11, .int .i64 ((j : Nat) : Int)), (5, .pointer (some ⟨b1, 0, none⟩)), (23, .bool bV)]) rfl (fun hg2 => ?_) (fun hg2 => ?_)
   ·refine VL_pure 10 [0, 2, 9, 10, 11, 5, 23, 24] [(0, .func (.yield L) #[] #[]), (2, .pointer (some ⟨B2, 0, none⟩)), (9, .slice (some ⟨rb, 0, none⟩) l.length c), (10, .int .i64 ((l.length : Nat) : Int)), (11, .int .i64 ((j : Nat) : Int)), (5, .pointer (some ⟨b1, 0, none⟩)), (23, .bool true), (24, .func (.yield L) #[] #[])] (by kernel_rfl) rfl ?_
    refine VL_load (d := 25) (t := 98) (a := ⟨b1, 0, none⟩) (v := .agg #[.int .i64 rq1.1.step, .int .i64 rq1.1.early, .bool rq1.1.zero, .bool rq1.1.tag, .iface 111 (.pointer (some ⟨rq1.2, 0, none⟩))]) (by kernel_rfl) (by kernel_rfl) (Loads.ownL ho2 (n := 5) (by kernel_rfl) (by kernel_rfl) (by kernel_rfl)) ?_
    have hzs2 := hSJ.size
    have hzk3 := hMz
    have hzl4 := hB1.lt
    have hzl5 := hB2.lt
    have hzl6 := hpp.lt
    have hzk4 := hrl
    have hzl7 := ho2.lt
    refine VL_yield (d := 26) (L := L) (args := #[.agg #[.int .i64 rq1.1.step, .int .i64 rq1.1.early, .bool rq1.1.zero, .bool rq1.1.tag, .iface 111 (.pointer (some ⟨rq1.2, 0, none⟩))]]) (by kernel_rfl) (by kernel_rfl) (by kernel_rfl) (hy (cntA clp l j) _ _ hMz (askV_get hrq1 (by unfold askB; simp_all)) (hJn _ _ _ _ hJ hSJ)) ?_
    rintro _ w3 ⟨hshy1, (⟨rfl, hy1⟩ | ⟨rfl, hy1⟩)⟩
    ·replace hMz := Nat.le_trans hMz hshy1.size
     replace hrl := Nat.lt_of_lt_of_le hrl hshy1.size
     have hJ := hy1
     have hSJ : Step No w3 w3 := Step.refl _ _
     obtain ⟨hB1, hB2, hpp, hrow⟩ := hrd _ _ _ hJ
     refine VL_pure 14 [0, 2, 9, 10, 11, 28] [(0, .func (.yield L) #[] #[]), (2, .pointer (some ⟨B2, 0, none⟩)), (9, .slice (some ⟨rb, 0, none⟩) l.length c), (10, .int .i64 ((l.length : Nat) : Int)), (11, .int .i64 ((j : Nat) : Int)), (28, .bool false)] (by kernel_rfl) rfl ?_
     refine VL_end (by kernel_rfl) ?_
     refine VQ_next ?_
     refine VC_false (by kernel_rfl) ?_
     refine VC_skip ?_
     refine VQ_block_normal ?_
     refine VQ_next ?_
     refine VC_region ?_
     refine VL_pure 1 [0, 2, 9, 10, 29] [(0, .func (.yield L) #[] #[]), (2, .pointer (some ⟨B2, 0, none⟩)), (9, .slice (some ⟨rb, 0, none⟩) l.length c), (10, .int .i64 ((l.length : Nat) : Int)), (29, .int .i64 (IntKind.wrap .i64 (((j : Nat) : Int) + 1)))] (by kernel_rfl) rfl ?_
     have he1 : IntKind.wrap .i64 (((j : Nat) : Int) + 1) = ((j + 1 : Nat) : Int) := (by rw [wrap_i64 _ (by omega) (by omega)]; omega)
     refine VL_eq [(0, .func (.yield L) #[] #[]), (2, .pointer (some ⟨B2, 0, none⟩)), (9, .slice (some ⟨rb, 0, none⟩) l.length c), (10, .int .i64 ((l.length : Nat) : Int)), (29, .int .i64 ((j + 1 : Nat) : Int))] (by rw [he1]) ?_
     refine VL_pure 2 [0, 2, 9, 10, 11] [(0, .func (.yield L) #[] #[]), (2, .pointer (some ⟨B2, 0, none⟩)), (9, .slice (some ⟨rb, 0, none⟩) l.length c), (10, .int .i64 ((l.length : Nat) : Int)), (11, .int .i64 ((j + 1 : Nat) : Int))] (by kernel_rfl) rfl ?_
     refine VL_end (by kernel_rfl) ?_
     refine VQ_again (j + 1) ⟨rfl, rfl, rfl, rfl, rfl, trivial⟩ ?_ ?_
     ·exact ⟨by omega, (by rw [cntA_yes hrq1 (by unfold askB; simp_all)]; exact hJn _ _ _ _ hJ hSJ), hMz, hrl, hB1, hB2, hpp, hrow⟩
     ·(try dsimp only); omega
    ·refine VL_pure 14 [0, 2, 9, 10, 11, 28] [(0, .func (.yield L) #[] #[]), (2, .pointer (some ⟨B2, 0, none⟩)), (9, .slice (some ⟨rb, 0, none⟩) l.length c), (10, .int .i64 ((l.length : Nat) : Int)), (11, .int .i64 ((j : Nat) : Int)), (28, .bool true)] (by kernel_rfl) rfl ?_
     refine VL_end (by kernel_rfl) ?_
     refine VQ_next ?_
     refine VC_true (by kernel_rfl) ?_
     refine VC_ret ?_
     refine VQ_block_ret ?_
     refine VQ_then_ret ?_
     refine VQ_then_ret ?_
     refine VQ_block_ret ?_
     refine VQ_ret0 (.inr rfl) rfl ?_
     exact .inr ⟨_, (by have h9 := cntA_le clp l (j + 1); rw [cntA_yes hrq1 (by unfold askB; simp_all)] at h9; exact h9), hy1⟩
   ·refine VL_pure 14 [0, 2, 9, 10, 11, 28] [(0, .func (.yield L) #[] #[]), (2, .pointer (some ⟨B2, 0, none⟩)), (9, .slice (some ⟨rb, 0, none⟩) l.length c), (10, .int .i64 ((l.length : Nat) : Int)), (11, .int .i64 ((j : Nat) : Int)), (28, .bool false)] (by kernel_rfl) rfl ?_
    refine VL_end (by kernel_rfl) ?_
    refine VQ_next ?_
    refine VC_false (by kernel_rfl) ?_
    refine VC_skip ?_
    refine VQ_block_normal ?_
    refine VQ_next ?_
    refine VC_region ?_
    refine VL_pure 1 [0, 2, 9, 10, 29] [(0, .func (.yield L) #[] #[]), (2, .pointer (some ⟨B2, 0, none⟩)), (9, .slice (some ⟨rb, 0, none⟩) l.length c), (10, .int .i64 ((l.length : Nat) : Int)), (29, .int .i64 (IntKind.wrap .i64 (((j : Nat) : Int) + 1)))] (by kernel_rfl) rfl ?_
    have he2 : IntKind.wrap .i64 (((j : Nat) : Int) + 1) = ((j + 1 : Nat) : Int) := (by rw [wrap_i64 _ (by omega) (by omega)]; omega)
    refine VL_eq [(0, .func (.yield L) #[] #[]), (2, .pointer (some ⟨B2, 0, none⟩)), (9, .slice (some ⟨rb, 0, none⟩) l.length c), (10, .int .i64 ((l.length : Nat) : Int)), (29, .int .i64 ((j + 1 : Nat) : Int))] (by rw [he2]) ?_
    refine VL_pure 2 [0, 2, 9, 10, 11] [(0, .func (.yield L) #[] #[]), (2, .pointer (some ⟨B2, 0, none⟩)), (9, .slice (some ⟨rb, 0, none⟩) l.length c), (10, .int .i64 ((l.length : Nat) : Int)), (11, .int .i64 ((j + 1 : Nat) : Int))] (by kernel_rfl) rfl ?_
    refine VL_end (by kernel_rfl) ?_
    refine VQ_again (j + 1) ⟨rfl, rfl, rfl, rfl, rfl, trivial⟩ ?_ ?_
    ·exact ⟨by omega, (by rw [cntA_no hrq1 (by unfold askB; simp_all)]; exact hJn _ _ _ _ hJ hSJ), hMz, hrl, hB1, hB2, hpp, hrow⟩
    ·(try dsimp only); omega
  ·refine VL_pure 10 [0, 2, 9, 10, 11, 5, 23, 24] [(0, .func (.yield L) #[] #[]), (2, .pointer (some ⟨B2, 0, none⟩)), (9, .slice (some ⟨rb, 0, none⟩) l.length c), (10, .int .i64 ((l.length : Nat) : Int)), (11, .int .i64 ((j : Nat) : Int)), (5, .pointer (some ⟨b1, 0, none⟩)), (23, .bool true), (24, .func (.yield L) #[] #[])] (by kernel_rfl) rfl ?_
   refine VL_load (d := 25) (t := 98) (a := ⟨b1, 0, none⟩) (v := .agg #[.int .i64 rq1.1.step, .int .i64 rq1.1.early, .bool rq1.1.zero, .bool rq1.1.tag, .iface 111 (.pointer (some ⟨rq1.2, 0, none⟩))]) (by kernel_rfl) (by kernel_rfl) (Loads.ownL ho2 (n := 5) (by kernel_rfl) (by kernel_rfl) (by kernel_rfl)) ?_
   have hzs3 := hSJ.size
   have hzk5 := hMz
   have hzl8 := hB1.lt
   have hzl9 := hB2.lt
   have hzl10 := hpp.lt
   have hzk6 := hrl
   have hzl11 := ho2.lt
   refine VL_yield (d := 26) (L := L) (args := #[.agg #[.int .i64 rq1.1.step, .int .i64 rq1.1.early, .bool rq1.1.zero, .bool rq1.1.tag, .iface 111 (.pointer (some ⟨rq1.2, 0, none⟩))]]) (by kernel_rfl) (by kernel_rfl) (by kernel_rfl) (hy (cntA clp l j) _ _ hMz (askV_get hrq1 (by unfold askB; simp_all)) (hJn _ _ _ _ hJ hSJ)) ?_
   rintro _ w4 ⟨hshy2, (⟨rfl, hy2⟩ | ⟨rfl, hy2⟩)⟩
   ·replace hMz := Nat.le_trans hMz hshy2.size
    replace hrl := Nat.lt_of_lt_of_le hrl hshy2.size
    have hJ := hy2
    have hSJ : Step No w4 w4 := Step.refl _ _
    obtain ⟨hB1, hB2, hpp, hrow⟩ := hrd _ _ _ hJ
    refine VL_pure 14 [0, 2, 9, 10, 11, 28] [(0, .func (.yield L) #[] #[]), (2, .pointer (some ⟨B2, 0, none⟩)), (9, .slice (some ⟨rb, 0, none⟩) l.length c), (10, .int .i64 ((l.length : Nat) : Int)), (11, .int .i64 ((j : Nat) : Int)), (28, .bool false)] (by kernel_rfl) rfl ?_
    refine VL_end (by kernel_rfl) ?_
    refine VQ_next ?_
    refine VC_false (by kernel_rfl) ?_
    refine VC_skip ?_
    refine VQ_block_normal ?_
    refine VQ_next ?_
    refine VC_region ?_
    refine VL_pure 1 [0, 2, 9, 10, 29] [(0, .func (.yield L) #[] #[]), (2, .pointer (some ⟨B2, 0, none⟩)), (9, .slice (some ⟨rb, 0, none⟩) l.length c), (10, .int .i64 ((l.length : Nat) : Int)), (29, .int .i64 (IntKind.wrap .i64 (((j : Nat) : Int) + 1)))] (by kernel_rfl) rfl ?_
    have he3 : IntKind.wrap .i64 (((j : Nat) : Int) + 1) = ((j + 1 : Nat) : Int) := (by rw [wrap_i64 _ (by omega) (by omega)]; omega)
    refine VL_eq [(0, .func (.yield L) #[] #[]), (2, .pointer (some ⟨B2, 0, none⟩)), (9, .slice (some ⟨rb, 0, none⟩) l.length c), (10, .int .i64 ((l.length : Nat) : Int)), (29, .int .i64 ((j + 1 : Nat) : Int))] (by rw [he3]) ?_
    refine VL_pure 2 [0, 2, 9, 10, 11] [(0, .func (.yield L) #[] #[]), (2, .pointer (some ⟨B2, 0, none⟩)), (9, .slice (some ⟨rb, 0, none⟩) l.length c), (10, .int .i64 ((l.length : Nat) : Int)), (11, .int .i64 ((j + 1 : Nat) : Int))] (by kernel_rfl) rfl ?_
    refine VL_end (by kernel_rfl) ?_
    refine VQ_again (j + 1) ⟨rfl, rfl, rfl, rfl, rfl, trivial⟩ ?_ ?_
    ·exact ⟨by omega, (by rw [cntA_yes hrq1 (by unfold askB; simp_all)]; exact hJn _ _ _ _ hJ hSJ), hMz, hrl, hB1, hB2, hpp, hrow⟩
    ·(try dsimp only); omega
   ·refine VL_pure 14 [0, 2, 9, 10, 11, 28] [(0, .func (.yield L) #[] #[]), (2, .pointer (some ⟨B2, 0, none⟩)), (9, .slice (some ⟨rb, 0, none⟩) l.length c), (10, .int .i64 ((l.length : Nat) : Int)), (11, .int .i64 ((j : Nat) : Int)), (28, .bool true)] (by kernel_rfl) rfl ?_
    refine VL_end (by kernel_rfl) ?_
    refine VQ_next ?_
    refine VC_true (by kernel_rfl) ?_
    refine VC_ret ?_
    refine VQ_block_ret ?_
    refine VQ_then_ret ?_
    refine VQ_then_ret ?_
    refine VQ_block_ret ?_
    refine VQ_ret0 (.inr rfl) rfl ?_
    exact .inr ⟨_, (by have h9 := cntA_le clp l (j + 1); rw [cntA_yes hrq1 (by unfold askB; simp_all)] at h9; exact h9), hy2⟩
 ·refine VC_exit ?_
  refine VQ_then_exit ?_
  refine VQ_then_exit ?_
  refine VQ_block_hit ?_
  refine VQ_ret0 (.inl rfl) rfl ?_
  obtain rfl : j = l.length := by omega
  exact .inl (by rw [← cntA_len]; exact hJn _ _ _ _ hJ hSJ)

theorem asked_iter (B1 B2 pp rb c : Nat) (a : Bool) (clp c0 c1 c2 c3 : Int) (l : List Rb) (hlen : l.length < 1152921504606846976) :
    IterC Try.prog 60 #[.pointer (some ⟨B1, 0, none⟩), .pointer (some ⟨B2, 0, none⟩)] (askV clp l) (fun _ W => (Own W B1 #[.pointer (some ⟨pp, 0, none⟩)] 65 ∧ Own W B2 #[.int .i64 clp] 3 ∧ Own W pp (polArr a rb l.length c c0 c1 c2 c3) 103 ∧ Sl2 W rb (rb + 1) (some ⟨rb, 0, none⟩) (flat rlc l)) ∧ rb < W.heap.size) := by
  intro L W0 J Jx hJn hJxn hrd hrd0 h0 hy
  refine CV.mono (asked1_any L B1 B2 pp rb c a clp c0 c1 c2 c3 l hlen W0 J Jx W0.heap.size hJn (fun M k W h => (hrd M k W h).1) (h0 _ _ (Nat.le_refl _) (Nat.le_refl _) (Step.refl _ _)) hrd0.2 (fun k W args hM hx hj => hy _ k W args (Nat.le_refl _) hM hx hj) (Nat.le_refl _)) fun v W' hh => ⟨_, Nat.le_refl _, hh⟩
end Go.Proofs.Ythchmlidobgkoaa
end

section
/- Layer 20: a verdict. -/
set_option linter.unusedVariables false
set_option linter.unusedSimpArgs false
namespace Go.Proofs.Ythchmlidobgkoaa
open Go.Vc Go.RowKit

theorem verdK_fit {t clp : Int} {l : List Rb} {k : Nat} {y : Rb} (hy : (askL clp l)[k]? = some y) (hv : verdK t clp l k ≠ 3) (hf : fitsB y.1.b t = true) : verdK t clp l (k + 1) = verdK t clp l k := by
  rw [verdK_succ hy]; unfold vS; rw [if_neg hv, if_pos hf]
theorem verdK_tag {t clp : Int} {l : List Rb} {k : Nat} {y : Rb} (hy : (askL clp l)[k]? = some y) (hv : verdK t clp l k ≠ 3) (hf : fitsB y.1.b t = false) (ht : y.1.tag = true) : verdK t clp l (k + 1) = 2 := by
  rw [verdK_succ hy]; unfold vS; rw [if_neg hv, if_neg (by rw [hf]; decide), if_pos ht]
theorem verdK_drop {t clp : Int} {l : List Rb} {k : Nat} {y : Rb} (hy : (askL clp l)[k]? = some y) (hv : verdK t clp l k ≠ 3) (hf : fitsB y.1.b t = false) (ht : y.1.tag = false) : verdR t clp (l.map (·.1)) = 3 := by
  refine verdK_three (k := k + 1) ?_
  rw [verdK_succ hy]; unfold vS; rw [if_neg hv, if_neg (by rw [hf]; decide), if_neg (by rw [ht]; decide)]
set_option maxRecDepth 100000 in
set_option maxHeartbeats 4000000 in
theorem verdict_any (pp rb c : Nat) (Y : Nat → Prop) (a : Bool) (c0 c1 c2 c3 t clp : Int) (l : List Rb) (w : World) (hX : PlX w pp Y a l rb c c0 c1 c2 c3) (hI : RlsI (l.map (·.1))) :
  CV Try.prog 50 #[.pointer (some ⟨pp, 0, none⟩), .int .i64 t, .int .i64 clp] w (fun x w1 => x = .int .i64 (verdR t clp (l.map (·.1))) ∧ Step No w w1) := by
 have hS : Step No w w := Step.refl _ _
 have hpp : Own w pp (polArr a rb l.length c c0 c1 c2 c3) 103 := hX.own
 have hrow := hX.row.sl
 have hbk := hX.bks
 have hrl := hX.row.lt
 have hbl := hbk.lt
 have hpl := hpp.lt
 have hlen : l.length < 1152921504606846976 := by have h9 := hI.1; rw [List.length_map] at h9; omega
 have hbi : ∀ y ∈ l, BkI y.1.b := fun y hy => hI.2 _ (List.mem_map_of_mem hy)
 refine CV_enterM Try.f50 _ 23 [(0, .pointer (some ⟨pp, 0, none⟩)), (1, .int .i64 t), (2, .int .i64 clp)] Try.func50 rfl rfl (by kernel_rfl) rfl ?_
 refine VC_seq ?_
 refine VC_region ?_
 have hzs1 := hS.size
 have hzl1 := hpp.lt
 have hzk1 := hrl
 refine VL_box (d := 4) (t := 3) (c := #[.int .i64 t]) (by kernel_rfl) (by kernel_rfl) ?_
 intro b1 w1 hn1
 replace hS := Step.trans hS (hn1.step No)
 replace hpp := hpp.no (hn1.step No)
 replace hrow := hrow.step (hn1.step No) (fun k hk1 hk2 hF => hF)
 replace hbk := BksW.no hbk (hn1.step No)
 replace hrl := Nat.lt_of_lt_of_le hrl (hn1.step No).size
 have ho1 := hn1.own
 have hzhn1 := hn1.size
 have hqhn1 := hn1.eqb
 refine VL_pure 2 [0, 2, 4, 6] [(0, .pointer (some ⟨pp, 0, none⟩)), (2, .int .i64 clp), (4, .pointer (some ⟨b1, 0, none⟩)), (6, .int .i64 0)] (by kernel_rfl) rfl ?_
 refine VL_end (by kernel_rfl) ?_
 refine VQ_next ?_
 refine VC_scope ?_
 refine VC_seq ?_
 refine VC_region ?_
 have hzs2 := hS.size
 have hzl2 := hpp.lt
 have hzk2 := hrl
 have hzl3 := ho1.lt
 refine VL_box (d := 7) (t := 3) (c := #[.int .i64 0]) (by kernel_rfl) (by kernel_rfl) ?_
 intro b2 w2 hn2
 replace hS := Step.trans hS (hn2.step No)
 replace hpp := hpp.no (hn2.step No)
 replace hrow := hrow.step (hn2.step No) (fun k hk1 hk2 hF => hF)
 replace hbk := BksW.no hbk (hn2.step No)
 replace hrl := Nat.lt_of_lt_of_le hrl (hn2.step No).size
 replace ho1 := ho1.no (hn2.step No)
 have ho2 := hn2.own
 have hzhn2 := hn2.size
 have hqhn2 := hn2.eqb
 refine VL_store (b := b2) (o := 0) (vs := [.int .i64 1]) (by kernel_rfl) (by kernel_rfl) ho2 (Nat.le_of_ble_eq_true (by kernel_rfl)) ?_
 intro w3 hw1
 replace hS := Step.transNew hS hw1.step (fun _ _ _ => by omega)
 replace hpp := hpp.step hw1.step (show ¬ pp = b2 by omega)
 replace hrow := hrow.step hw1.step (fun k hk1 hk2 (hF : k = b2) => by omega)
 replace hbk := BksW.step hbk hw1.step (fun p hp hF => by have h9 := hbl p hp; have hF : p.2 = b2 := hF; omega)
 replace hrl := Nat.lt_of_lt_of_le hrl (hw1.step).size
 replace ho1 := ho1.step hw1.step (show ¬ b1 = b2 by omega)
 have ho3 : Own w3 b2 #[.int .i64 1] 3 := Own.cast hw1.own (by kernel_rfl)
 have hzhw1 := hw1.same
 refine VL_end (by kernel_rfl) ?_
 refine VQ_next ?_
 refine VC_seq ?_
 refine VC_label ?_
 refine VQ_next ?_
 refine VC_seq ?_
 refine VC_seq ?_
 refine VC_region ?_
 refine VL_pure 2 [4, 6, 7, 9, 10] [(4, .pointer (some ⟨b1, 0, none⟩)), (6, .int .i64 0), (7, .pointer (some ⟨b2, 0, none⟩)), (9, .pointer (some ⟨pp, 0, none⟩)), (10, .int .i64 clp)] (by kernel_rfl) rfl ?_
 have hzs3 := hS.size
 have hzl4 := hpp.lt
 have hzl5 := ho1.lt
 have hzl6 := ho3.lt
 refine VL_call (d := 11) (f := 51) (args := #[.pointer (some ⟨pp, 0, none⟩), .int .i64 clp]) (by kernel_rfl) (by kernel_rfl) (by kernel_rfl) Try.call51 (asked_any pp clp _) ?_
 rintro _ w4 ⟨bb1, bb2, rfl, hgbb1, hgbb2, hbb1, hbb2, hc1⟩
 replace hS := Step.trans hS hc1
 replace hpp := hpp.no hc1
 replace hrow := hrow.step hc1 (fun k hk1 hk2 hF => hF)
 replace hbk := BksW.no hbk hc1
 replace hrl := Nat.lt_of_lt_of_le hrl (hc1).size
 replace ho1 := ho1.no hc1
 replace ho3 := ho3.no hc1
 have hzhbb1 := hbb1.lt
 have hzhbb2 := hbb2.lt
 refine VL_end (by kernel_rfl) ?_
 refine VQ_next ?_
 refine VC_block ?_
 have hzs4 := hS.size
 have hzl7 := hpp.lt
 have hzk3 := hrl
 have hzl8 := ho1.lt
 have hzl9 := ho3.lt
 have hzl10 := hbb1.lt
 have hzl11 := hbb2.lt
 have hzs5 := hS.size
 have hzl12 := hpp.lt
 have hzk4 := hrl
 have hzl13 := ho1.lt
 have hzl14 := ho3.lt
 have hzl15 := hbb1.lt
 have hzl16 := hbb2.lt
 refine VC_range (gf := 60) (lb := #[.pointer (some ⟨bb1, 0, none⟩), .pointer (some ⟨bb2, 0, none⟩)]) (xs := (askV clp l)) (by kernel_rfl) Try.call60 (asked_iter bb1 bb2 pp rb c a clp c0 c1 c2 c3 l hlen) (fun a ha => askV_sz _ _ a ha) (by kernel_rfl) (fun M i => i = b2) (fun M i hi => by (try simp only at hi); omega) (fun M k W => (verdK t clp l (k) ≠ 3) ∧ (Step No w W) ∧ (Own W pp #[.bool a, .slice (some ⟨rb, 0, none⟩) l.length c, .int .i64 c0, .int .i64 c1, .int .i64 c2, .int .i64 c3] 103) ∧ (Sl2 W rb (rb + 1) (some ⟨rb, 0, none⟩) (flat rlc l)) ∧ (BksW W l) ∧ (rb < W.heap.size) ∧ (Own W b1 #[.int .i64 t] 3) ∧ (Own W b2 #[.int .i64 (verdK t clp l (k))] 3) ∧ (Own W bb1 #[.pointer (some ⟨pp, 0, none⟩)] 65) ∧ (Own W bb2 #[.int .i64 clp] 3)) (fun e W => (e = Exit.exit 0) ∧ (verdR t clp (l.map (·.1)) = 3) ∧ (Step No w W) ∧ (Own W pp #[.bool a, .slice (some ⟨rb, 0, none⟩) l.length c, .int .i64 c0, .int .i64 c1, .int .i64 c2, .int .i64 c3] 103) ∧ (Sl2 W rb (rb + 1) (some ⟨rb, 0, none⟩) (flat rlc l)) ∧ (BksW W l) ∧ (rb < W.heap.size) ∧ (Own W b1 #[.int .i64 t] 3) ∧ (Own W b2 #[.int .i64 3] 3) ∧ (Own W bb1 #[.pointer (some ⟨pp, 0, none⟩)] 65) ∧ (Own W bb2 #[.int .i64 clp] 3)) (by rintro M k W W' ⟨hv3, hS, hpp, hrow, hbk, hrl, ho1, ho3, hbb1, hbb2⟩ hs; exact ⟨hv3, Step.transNew hS hs (fun i hi hG => by have : i = (w4.heap.size + 1) := hG; omega), hpp.step hs (show ¬ pp = (w4.heap.size + 1) by omega), hrow.step hs (fun k hk1 hk2 (hF : k = (w4.heap.size + 1)) => by omega), BksW.step hbk hs (fun p hp hF => by have h9 := hbl p hp; have hF : p.2 = (w4.heap.size + 1) := hF; omega), Nat.lt_of_lt_of_le hrl hs.size, ho1.step hs (show ¬ b1 = (w4.heap.size + 1) by omega), ho3.step hs (show ¬ b2 = (w4.heap.size + 1) by omega), hbb1.step hs (show ¬ bb1 = (w4.heap.size + 1) by omega), hbb2.step hs (show ¬ bb2 = (w4.heap.size + 1) by omega)⟩) (by rintro e W W' ⟨hee, hv3, hS, hpp, hrow, hbk, hrl, ho1, ho3, hbb1, hbb2⟩ hs; exact ⟨hee, hv3, Step.transNew hS hs (fun i hi hG => by have : i = (w4.heap.size + 1) := hG; omega), hpp.step hs (show ¬ pp = (w4.heap.size + 1) by omega), hrow.step hs (fun k hk1 hk2 (hF : k = (w4.heap.size + 1)) => by omega), BksW.step hbk hs (fun p hp hF => by have h9 := hbl p hp; have hF : p.2 = (w4.heap.size + 1) := hF; omega), Nat.lt_of_lt_of_le hrl hs.size, ho1.step hs (show ¬ b1 = (w4.heap.size + 1) by omega), ho3.step hs (show ¬ b2 = (w4.heap.size + 1) by omega), hbb1.step hs (show ¬ bb1 = (w4.heap.size + 1) by omega), hbb2.step hs (show ¬ bb2 = (w4.heap.size + 1) by omega)⟩) (by rintro M k W W' ⟨hv3, hS, hpp, hrow, hbk, hrl, ho1, ho3, hbb1, hbb2⟩ hs; exact ⟨hv3, Step.trans hS hs, hpp.no hs, hrow.step hs (fun _ _ _ h9 => h9), (BksW.no hbk hs), Nat.lt_of_lt_of_le hrl hs.size, ho1.no hs, ho3.no hs, hbb1.no hs, hbb2.no hs⟩) (by rintro e W W' ⟨hee, hv3, hS, hpp, hrow, hbk, hrl, ho1, ho3, hbb1, hbb2⟩ hs; exact ⟨hee, hv3, Step.trans hS hs, hpp.no hs, hrow.step hs (fun _ _ _ h9 => h9), (BksW.no hbk hs), Nat.lt_of_lt_of_le hrl hs.size, ho1.no hs, ho3.no hs, hbb1.no hs, hbb2.no hs⟩) (by rintro M k W ⟨hv3, hS, hpp, hrow, hbk, hrl, ho1, ho3, hbb1, hbb2⟩; exact ⟨⟨hbb1, hbb2, hpp, hrow⟩, hrl⟩) (fun W hs => ⟨⟨hbb1.no hs, hbb2.no hs, hpp.no hs, hrow.step hs (fun _ _ _ h9 => h9)⟩, Nat.lt_of_lt_of_le hrl hs.size⟩) (fun M W hMm hM2 hs _ => ⟨by rw [verdK_zero]; decide, Step.trans hS hs, hpp.no hs, hrow.step hs (fun _ _ _ h9 => h9), (BksW.no hbk hs), Nat.lt_of_lt_of_le hrl hs.size, ho1.no hs, Own.cast (ho3.no hs) (by rw [verdK_zero]), hbb1.no hs, hbb2.no hs⟩) ?_ ?_ ?_
 ·intro M k w5 args hM hM2 hx hJ0 hsz
  obtain ⟨hv3, hS, hpp, hrow, hbk, hrl, ho1, ho3, hbb1, hbb2⟩ := hJ0
  obtain ⟨y, hy, hym, rfl⟩ := askV_mem hx
  have hAs : Step No w5 w5 := Step.refl _ _
  have hML : M ≤ w5.heap.size := hM2
  refine VC_keep [4, 7, 12] [(4, .pointer (some ⟨b1, 0, none⟩)), (7, .pointer (some ⟨b2, 0, none⟩)), (12, .agg #[.int .i64 y.1.step, .int .i64 y.1.early, .bool y.1.zero, .bool y.1.tag, .iface 111 (.pointer (some ⟨y.2, 0, none⟩))])] (by kernel_rfl) ?_
  refine VC_region ?_
  have hzs6 := hS.size
  have hzl17 := hpp.lt
  have hzk5 := hrl
  have hzl18 := ho1.lt
  have hzl19 := ho3.lt
  have hzl20 := hbb1.lt
  have hzl21 := hbb2.lt
  have hzk6 := hML
  have hzs7 := hAs.size
  refine VL_box (d := 8) (t := 98) (c := #[.int .i64 0, .int .i64 0, .bool false, .bool false, .nilIface]) (by kernel_rfl) (by kernel_rfl) ?_
  intro b3 w6 hn3
  replace hS := Step.trans hS (hn3.step No)
  replace hpp := hpp.no (hn3.step No)
  replace hrow := hrow.step (hn3.step No) (fun k hk1 hk2 hF => hF)
  replace hbk := BksW.no hbk (hn3.step No)
  replace hrl := Nat.lt_of_lt_of_le hrl (hn3.step No).size
  replace ho1 := ho1.no (hn3.step No)
  replace ho3 := ho3.no (hn3.step No)
  replace hbb1 := hbb1.no (hn3.step No)
  replace hbb2 := hbb2.no (hn3.step No)
  replace hML := Nat.le_trans hML (hn3.step No).size
  replace hAs := Step.trans hAs (hn3.step No)
  have ho4 := hn3.own
  have hzhn3 := hn3.size
  have hqhn3 := hn3.eqb
  refine VL_store (b := b3) (o := 0) (vs := [.int .i64 y.1.step, .int .i64 y.1.early, .bool y.1.zero, .bool y.1.tag, .iface 111 (.pointer (some ⟨y.2, 0, none⟩))]) (by kernel_rfl) (by kernel_rfl) ho4 (Nat.le_of_ble_eq_true (by kernel_rfl)) ?_
  intro w7 hw2
  replace hS := Step.transNew hS hw2.step (fun _ _ _ => by omega)
  replace hpp := hpp.step hw2.step (show ¬ pp = b3 by omega)
  replace hrow := hrow.step hw2.step (fun k hk1 hk2 (hF : k = b3) => by omega)
  replace hbk := BksW.step hbk hw2.step (fun p hp hF => by have h9 := hbl p hp; have hF : p.2 = b3 := hF; omega)
  replace hrl := Nat.lt_of_lt_of_le hrl (hw2.step).size
  replace ho1 := ho1.step hw2.step (show ¬ b1 = b3 by omega)
  replace ho3 := ho3.step hw2.step (show ¬ b2 = b3 by omega)
  replace hbb1 := hbb1.step hw2.step (show ¬ bb1 = b3 by omega)
  replace hbb2 := hbb2.step hw2.step (show ¬ bb2 = b3 by omega)
  replace hML := Nat.le_trans hML (hw2.step).size
  replace hAs := Step.transNew hAs hw2.step (fun _ _ _ => by omega)
  have ho5 : Own w7 b3 #[.int .i64 y.1.step, .int .i64 y.1.early, .bool y.1.zero, .bool y.1.tag, .iface 111 (.pointer (some ⟨y.2, 0, none⟩))] 98 := Own.cast hw2.own (by kernel_rfl)
  have hzhw2 := hw2.same
  refine VL_end (by kernel_rfl) ?_
  refine VQ_begin hAs ?_
  intro w8 hb1 hzhb1
  have hzs8 := hS.size
  have hzl22 := hpp.lt
  have hzk7 := hrl
  have hzl23 := ho1.lt
  have hzl24 := ho3.lt
  have hzl25 := hbb1.lt
  have hzl26 := hbb2.lt
  have hzk8 := hML
  have hzl27 := ho5.lt
  replace hS := Step.transNew hS hb1 (fun _ _ _ => by omega)
  replace hpp := hpp.step hb1 (show ¬ pp = (w4.heap.size + 1) by omega)
  replace hrow := hrow.step hb1 (fun k hk1 hk2 (hF : k = (w4.heap.size + 1)) => by omega)
  replace hbk := BksW.step hbk hb1 (fun p hp hF => by have h9 := hbl p hp; have hF : p.2 = (w4.heap.size + 1) := hF; omega)
  replace hrl := Nat.lt_of_lt_of_le hrl (hb1).size
  replace ho1 := ho1.step hb1 (show ¬ b1 = (w4.heap.size + 1) by omega)
  replace ho3 := ho3.step hb1 (show ¬ b2 = (w4.heap.size + 1) by omega)
  replace hbb1 := hbb1.step hb1 (show ¬ bb1 = (w4.heap.size + 1) by omega)
  replace hbb2 := hbb2.step hb1 (show ¬ bb2 = (w4.heap.size + 1) by omega)
  replace hML := Nat.le_trans hML (hb1).size
  replace ho5 := ho5.step hb1 (show ¬ b3 = (w4.heap.size + 1) by omega)
  have hR1 : Step ((fun M i => i = b2) M) w8 w8 := Step.refl _ _
  refine VC_block ?_
  refine VC_block ?_
  refine VC_seq ?_
  refine VC_region ?_
  refine VL_pure 1 [4, 7, 8, 14] [(4, .pointer (some ⟨b1, 0, none⟩)), (7, .pointer (some ⟨b2, 0, none⟩)), (8, .pointer (some ⟨b3, 0, none⟩)), (14, .pointer (some ⟨b3, 4, none⟩))] (by kernel_rfl) rfl ?_
  refine VL_load (d := 15) (t := 96) (a := ⟨b3, 4, none⟩) (v := .iface 111 (.pointer (some ⟨y.2, 0, none⟩))) (by kernel_rfl) (by kernel_rfl) (Loads.own1 ho5 (by kernel_rfl) (by rfl)) ?_
  refine VL_load (d := 16) (t := 3) (a := ⟨b1, 0, none⟩) (v := .int .i64 t) (by kernel_rfl) (by kernel_rfl) (Loads.own1 ho1 (by kernel_rfl) (by rfl)) ?_
  have hzs9 := hS.size
  have hzl28 := hpp.lt
  have hzl29 := ho1.lt
  have hzl30 := ho3.lt
  have hzl31 := hbb1.lt
  have hzl32 := hbb2.lt
  have hzl33 := ho5.lt
  have hzs10 := hR1.size
  refine VL_invoke (d := 17) (f := 96) (args := #[.pointer (some ⟨y.2, 0, none⟩), .int .i64 t]) (by kernel_rfl) (by kernel_rfl) Try.call96 (bfits_any y.2 y.1.b t _ (hbi _ hym) (hbk _ hym)) ?_
  rintro _ w9 ⟨rfl, hc2⟩
  replace hS := Step.trans hS hc2
  replace hpp := hpp.no hc2
  replace hrow := hrow.step hc2 (fun k hk1 hk2 hF => hF)
  replace hbk := BksW.no hbk hc2
  replace hrl := Nat.lt_of_lt_of_le hrl (hc2).size
  replace ho1 := ho1.no hc2
  replace ho3 := ho3.no hc2
  replace hbb1 := hbb1.no hc2
  replace hbb2 := hbb2.no hc2
  replace hML := Nat.le_trans hML (hc2).size
  replace ho5 := ho5.no hc2
  replace hR1 := Step.trans hR1 (Step.weak hc2)
  refine VL_pure 5 [7, 8, 13] [(7, .pointer (some ⟨b2, 0, none⟩)), (8, .pointer (some ⟨b3, 0, none⟩)), (13, .bool (fitsB y.1.b t))] (by kernel_rfl) rfl ?_
  refine VL_end (by kernel_rfl) ?_
  refine VQ_next ?_
  refine VC_cond (fitsB y.1.b t) (by kernel_rfl) (fun h1 => ?_) (fun h1 => ?_)
  ·try simp only [Bool.and_eq_true, Bool.or_eq_true, decide_eq_true_eq, Bool.not_eq_true', decide_eq_false_iff_not, Bool.and_eq_false_iff, Bool.or_eq_false_iff, beq_iff_eq, bne_iff_ne, beq_eq_false_iff_ne, bne_eq_false_iff_eq, Bool.not_eq_eq_eq_not, Bool.not_true, Bool.not_false] at h1
   refine VC_skip ?_
   refine VQ_block_normal ?_
   refine VQ_block_normal ?_
   exact VQ_round_end hR1 ⟨(by rw [verdK_fit hy hv3 (by assumption)]; exact hv3), hS, hpp, hrow, hbk, hrl, ho1, (Own.cast ho3 (by rw [verdK_fit hy hv3 (by assumption)])), hbb1, hbb2⟩
  ·try simp only [Bool.and_eq_true, Bool.or_eq_true, decide_eq_true_eq, Bool.not_eq_true', decide_eq_false_iff_not, Bool.and_eq_false_iff, Bool.or_eq_false_iff, beq_iff_eq, bne_iff_ne, beq_eq_false_iff_ne, bne_eq_false_iff_eq, Bool.not_eq_eq_eq_not, Bool.not_true, Bool.not_false] at h1
   refine VC_seq ?_
   refine VC_region ?_
   refine VL_pure 2 [7, 20] [(7, .pointer (some ⟨b2, 0, none⟩)), (20, .pointer (some ⟨b3, 3, none⟩))] (by kernel_rfl) rfl ?_
   refine VL_load (d := 21) (t := 4) (a := ⟨b3, 3, none⟩) (v := .bool y.1.tag) (by kernel_rfl) (by kernel_rfl) (Loads.own1 ho5 (by kernel_rfl) (by rfl)) ?_
   refine VL_pure 4 [7, 18] [(7, .pointer (some ⟨b2, 0, none⟩)), (18, .bool y.1.tag)] (by kernel_rfl) rfl ?_
   refine VL_end (by kernel_rfl) ?_
   refine VQ_next ?_
   refine VC_cond y.1.tag (by kernel_rfl) (fun h2 => ?_) (fun h2 => ?_)
   ·try simp only [Bool.and_eq_true, Bool.or_eq_true, decide_eq_true_eq, Bool.not_eq_true', decide_eq_false_iff_not, Bool.and_eq_false_iff, Bool.or_eq_false_iff, beq_iff_eq, bne_iff_ne, beq_eq_false_iff_ne, bne_eq_false_iff_eq, Bool.not_eq_eq_eq_not, Bool.not_true, Bool.not_false] at h2
    refine VC_region ?_
    refine VL_store (b := b2) (o := 0) (vs := [.int .i64 2]) (by kernel_rfl) (by kernel_rfl) ho3 (Nat.le_of_ble_eq_true (by kernel_rfl)) ?_
    intro w10 hw3
    replace hS := Step.transNew hS hw3.step (fun _ _ _ => by omega)
    replace hpp := hpp.step hw3.step (show ¬ pp = b2 by omega)
    replace hrow := hrow.step hw3.step (fun k hk1 hk2 (hF : k = b2) => by omega)
    replace hbk := BksW.step hbk hw3.step (fun p hp hF => by have h9 := hbl p hp; have hF : p.2 = b2 := hF; omega)
    replace hrl := Nat.lt_of_lt_of_le hrl (hw3.step).size
    replace ho1 := ho1.step hw3.step (show ¬ b1 = b2 by omega)
    replace hbb1 := hbb1.step hw3.step (show ¬ bb1 = b2 by omega)
    replace hbb2 := hbb2.step hw3.step (show ¬ bb2 = b2 by omega)
    replace hML := Nat.le_trans hML (hw3.step).size
    replace ho5 := ho5.step hw3.step (show ¬ b3 = b2 by omega)
    replace hR1 := Step.trans hR1 (Step.mono hw3.step (by intro i hi; first | exact hi | exact ⟨_, by assumption, hi⟩ | (have hi9 : i = b2 := hi; (first | show _ ∨ _ | show _ = _); omega)))
    have ho6 : Own w10 b2 #[.int .i64 2] 3 := Own.cast hw3.own (by kernel_rfl)
    have hzhw3 := hw3.same
    refine VL_end (by kernel_rfl) ?_
    refine VQ_block_normal ?_
    refine VQ_block_normal ?_
    exact VQ_round_end hR1 ⟨(by rw [verdK_tag hy hv3 (by assumption) (by assumption)]; decide), hS, hpp, hrow, hbk, hrl, ho1, (Own.cast ho6 (by rw [verdK_tag hy hv3 (by assumption) (by assumption)])), hbb1, hbb2⟩
   ·try simp only [Bool.and_eq_true, Bool.or_eq_true, decide_eq_true_eq, Bool.not_eq_true', decide_eq_false_iff_not, Bool.and_eq_false_iff, Bool.or_eq_false_iff, beq_iff_eq, bne_iff_ne, beq_eq_false_iff_ne, bne_eq_false_iff_eq, Bool.not_eq_eq_eq_not, Bool.not_true, Bool.not_false] at h2
    refine VC_seq ?_
    refine VC_region ?_
    refine VL_store (b := b2) (o := 0) (vs := [.int .i64 3]) (by kernel_rfl) (by kernel_rfl) ho3 (Nat.le_of_ble_eq_true (by kernel_rfl)) ?_
    intro w11 hw4
    replace hS := Step.transNew hS hw4.step (fun _ _ _ => by omega)
    replace hpp := hpp.step hw4.step (show ¬ pp = b2 by omega)
    replace hrow := hrow.step hw4.step (fun k hk1 hk2 (hF : k = b2) => by omega)
    replace hbk := BksW.step hbk hw4.step (fun p hp hF => by have h9 := hbl p hp; have hF : p.2 = b2 := hF; omega)
    replace hrl := Nat.lt_of_lt_of_le hrl (hw4.step).size
    replace ho1 := ho1.step hw4.step (show ¬ b1 = b2 by omega)
    replace hbb1 := hbb1.step hw4.step (show ¬ bb1 = b2 by omega)
    replace hbb2 := hbb2.step hw4.step (show ¬ bb2 = b2 by omega)
    replace hML := Nat.le_trans hML (hw4.step).size
    replace ho5 := ho5.step hw4.step (show ¬ b3 = b2 by omega)
    replace hR1 := Step.trans hR1 (Step.mono hw4.step (by intro i hi; first | exact hi | exact ⟨_, by assumption, hi⟩ | (have hi9 : i = b2 := hi; (first | show _ ∨ _ | show _ = _); omega)))
    have ho7 : Own w11 b2 #[.int .i64 3] 3 := Own.cast hw4.own (by kernel_rfl)
    have hzhw4 := hw4.same
    refine VL_end (by kernel_rfl) ?_
    refine VQ_next ?_
    refine VC_exit ?_
    refine VQ_block_miss (by kernel_rfl) ?_
    refine VQ_block_miss (by kernel_rfl) ?_
    exact VQ_round_exit hR1 ⟨rfl, (verdK_drop hy hv3 (by assumption) (by assumption)), hS, hpp, hrow, hbk, hrl, ho1, ho7, hbb1, hbb2⟩
 ·intro M w12 hM hzM hJ0 hD
  rw [verdK_all] at hJ0
  obtain ⟨hv3, hS, hpp, hrow, hbk, hrl, ho1, ho3, hbb1, hbb2⟩ := hJ0
  have hmk1 := hD
  refine VQ_block_normal ?_
  refine VQ_next ?_
  refine VC_seq ?_
  refine VC_region ?_
  refine VL_load (d := 22) (t := 3) (a := ⟨b2, 0, none⟩) (v := .int .i64 (verdR t clp (l.map (·.1)))) (by kernel_rfl) (by kernel_rfl) (Loads.own1 ho3 (by kernel_rfl) (by rfl)) ?_
  refine VL_pure 2 [6] [(6, .int .i64 (verdR t clp (l.map (·.1))))] (by kernel_rfl) rfl ?_
  refine VL_end (by kernel_rfl) ?_
  refine VQ_next ?_
  refine VC_ret ?_
  refine VQ_scope_ret ?_
  have hzs11 := hS.size
  have hzl34 := hpp.lt
  have hzk9 := hrl
  have hzl35 := ho1.lt
  have hzl36 := ho3.lt
  have hzl37 := hbb1.lt
  have hzl38 := hbb2.lt
  have hzl39 := hmk1.lt
  refine VQ_retM1 (.int .i64 (verdR t clp (l.map (·.1)))) [w4.heap.size] (.inr rfl) rfl rfl ⟨hmk1, (by simp), trivial⟩ ?_
  intro w13 hq1
  replace hq1 : Step (Just w4.heap.size) w12 w13 := Step.mono hq1 (fun i hi => by simpa using hi)
  replace hS := Step.transNew hS hq1 (fun _ _ _ => by omega)
  replace hpp := hpp.step hq1 (show ¬ pp = w4.heap.size by omega)
  replace hrow := hrow.step hq1 (fun k hk1 hk2 (hF : k = w4.heap.size) => by omega)
  replace hrl := Nat.lt_of_lt_of_le hrl (hq1).size
  replace ho1 := ho1.step hq1 (show ¬ b1 = w4.heap.size by omega)
  replace ho3 := ho3.step hq1 (show ¬ b2 = w4.heap.size by omega)
  replace hbb1 := hbb1.step hq1 (show ¬ bb1 = w4.heap.size by omega)
  replace hbb2 := hbb2.step hq1 (show ¬ bb2 = w4.heap.size by omega)
  exact ⟨rfl, hS⟩
 ·intro e w14 hzM hJ0 hD
  obtain ⟨hee, hv3, hS, hpp, hrow, hbk, hrl, ho1, ho3, hbb1, hbb2⟩ := hJ0
  subst hee
  have hmk2 := hD
  refine VQ_block_hit ?_
  refine VQ_next ?_
  refine VC_seq ?_
  refine VC_region ?_
  refine VL_load (d := 22) (t := 3) (a := ⟨b2, 0, none⟩) (v := .int .i64 3) (by kernel_rfl) (by kernel_rfl) (Loads.own1 ho3 (by kernel_rfl) (by rfl)) ?_
  refine VL_pure 2 [6] [(6, .int .i64 3)] (by kernel_rfl) rfl ?_
  refine VL_end (by kernel_rfl) ?_
  refine VQ_next ?_
  refine VC_ret ?_
  refine VQ_scope_ret ?_
  have hzs12 := hS.size
  have hzl40 := hpp.lt
  have hzk10 := hrl
  have hzl41 := ho1.lt
  have hzl42 := ho3.lt
  have hzl43 := hbb1.lt
  have hzl44 := hbb2.lt
  have hzl45 := hmk2.lt
  refine VQ_retM1 (.int .i64 3) [w4.heap.size] (.inr rfl) rfl rfl ⟨hmk2, (by simp), trivial⟩ ?_
  intro w15 hq2
  replace hq2 : Step (Just w4.heap.size) w14 w15 := Step.mono hq2 (fun i hi => by simpa using hi)
  replace hS := Step.transNew hS hq2 (fun _ _ _ => by omega)
  replace hpp := hpp.step hq2 (show ¬ pp = w4.heap.size by omega)
  replace hrow := hrow.step hq2 (fun k hk1 hk2 (hF : k = w4.heap.size) => by omega)
  replace hrl := Nat.lt_of_lt_of_le hrl (hq2).size
  replace ho1 := ho1.step hq2 (show ¬ b1 = w4.heap.size by omega)
  replace ho3 := ho3.step hq2 (show ¬ b2 = w4.heap.size by omega)
  replace hbb1 := hbb1.step hq2 (show ¬ bb1 = w4.heap.size by omega)
  replace hbb2 := hbb2.step hq2 (show ¬ bb2 = w4.heap.size by omega)
  exact ⟨congrArg (Value.int .i64) hv3.symm, hS⟩

end Go.Proofs.Ythchmlidobgkoaa
end

section
/- Layer 20: a cell is policed. -/
set_option linter.unusedVariables false
set_option linter.unusedSimpArgs false
namespace Go.Proofs.Ythchmlidobgkoaa
open Go.Vc Go.RowKit

/-- The first k of those that are asked have taken. -/
def takeK (t clp : Int) : Nat → List Rb → List Rb
  | _, [] => []
  | k, p :: l => if askB clp p.1 = true then (match k with | 0 => p :: l | k + 1 => (takeR t p.1, p.2) :: takeK t clp k l) else p :: takeK t clp k l
theorem takeK_zero (t clp : Int) : ∀ l, takeK t clp 0 l = l
  | [] => rfl
  | p :: l => by simp only [takeK, takeK_zero t clp l]; split <;> rfl
theorem takeK_snd (t clp : Int) : ∀ (l : List Rb) (k : Nat), (takeK t clp k l).map (·.2) = l.map (·.2)
  | [], _ => rfl
  | p :: l, k => by
    simp only [takeK]
    split
    · cases k with
      | zero => rfl
      | succ k => simp only [List.map_cons, takeK_snd t clp l k]
    · simp only [List.map_cons, takeK_snd t clp l k]
theorem takeK_flat (t clp : Int) : ∀ (l : List Rb) (k : Nat), flat rlc (takeK t clp k l) = flat rlc l
  | [], _ => rfl
  | p :: l, k => by
    simp only [takeK]
    split
    · cases k with
      | zero => rfl
      | succ k => rw [flat_cons, flat_cons, takeK_flat t clp l k]; rfl
    · rw [flat_cons, flat_cons, takeK_flat t clp l k]
theorem takeK_len (t clp : Int) (l : List Rb) (k : Nat) : (takeK t clp k l).length = l.length := by
  have := congrArg List.length (takeK_snd t clp l k)
  simpa using this
theorem takeK_mem (t clp : Int) : ∀ (l : List Rb) (k : Nat) (y : Rb), (askL clp l)[k]? = some y → y ∈ takeK t clp k l
  | [], k, y, h => by simp [askL] at h
  | p :: l, k, y, h => by
    simp only [takeK]
    by_cases ha : askB clp p.1 = true
    · rw [if_pos ha]
      unfold askL at h
      rw [List.filter_cons_of_pos (p := fun p : Rb => askB clp p.1) ha] at h
      cases k with
      | zero => simp only [List.getElem?_cons_zero, Option.some.injEq] at h; subst h; exact List.mem_cons_self ..
      | succ k => exact List.mem_cons_of_mem _ (takeK_mem t clp l k y (by simpa [askL] using h))
    · rw [if_neg ha]
      unfold askL at h
      rw [List.filter_cons_of_neg (p := fun p : Rb => askB clp p.1) ha] at h
      exact List.mem_cons_of_mem _ (takeK_mem t clp l k y h)
theorem takeK_succ (t clp : Int) : ∀ (l : List Rb) (k : Nat) (y : Rb), (l.map (·.2)).Nodup → (askL clp l)[k]? = some y → ∀ p ∈ takeK t clp (k + 1) l, p = (takeR t y.1, y.2) ∨ (p ∈ takeK t clp k l ∧ p.2 ≠ y.2)
  | [], k, y, _, h => by simp [askL] at h
  | q :: l, k, y, hnd, h => by
    intro p hp
    obtain ⟨hq, hnd'⟩ := List.nodup_cons.1 hnd
    have hsnd : ∀ k z, z ∈ takeK t clp k l → z.2 ∈ l.map (·.2) := fun k z hz => by rw [← takeK_snd t clp l k]; exact List.mem_map_of_mem hz
    have hym : ∀ k, (askL clp l)[k]? = some y → y.2 ∈ l.map (·.2) := fun k hk => List.mem_map_of_mem (List.mem_filter.1 (List.mem_of_getElem? hk)).1
    simp only [takeK] at hp ⊢
    by_cases ha : askB clp q.1 = true
    · rw [if_pos ha] at hp ⊢
      unfold askL at h
      rw [List.filter_cons_of_pos (p := fun p : Rb => askB clp p.1) ha] at h
      cases k with
      | zero =>
        simp only [List.getElem?_cons_zero, Option.some.injEq] at h
        subst h
        rcases List.mem_cons.1 hp with rfl | hp
        · exact .inl rfl
        · rw [takeK_zero] at hp
          exact .inr ⟨List.mem_cons_of_mem _ hp, fun e => hq (by have h9 : p.2 ∈ l.map (·.2) := List.mem_map_of_mem hp; rw [e] at h9; exact h9)⟩
      | succ k =>
        have h : (askL clp l)[k]? = some y := by simpa [askL] using h
        rcases List.mem_cons.1 hp with rfl | hp
        · exact .inr ⟨List.mem_cons_self .., fun e => hq (by have h9 := hym k h; have e : q.2 = y.2 := e; rw [← e] at h9; exact h9)⟩
        · rcases takeK_succ t clp l k y hnd' h p hp with h1 | ⟨h1, h2⟩
          · exact .inl h1
          · exact .inr ⟨List.mem_cons_of_mem _ h1, h2⟩
    · rw [if_neg ha] at hp ⊢
      unfold askL at h
      rw [List.filter_cons_of_neg (p := fun p : Rb => askB clp p.1) ha] at h
      rcases List.mem_cons.1 hp with rfl | hp
      · exact .inr ⟨List.mem_cons_self .., fun e => hq (by have h9 := hym k h; rw [← e] at h9; exact h9)⟩
      · rcases takeK_succ t clp l k y hnd' h p hp with h1 | ⟨h1, h2⟩
        · exact .inl h1
        · exact .inr ⟨List.mem_cons_of_mem _ h1, h2⟩
theorem takeK_all (t clp : Int) : ∀ (l : List Rb), (takeK t clp (askL clp l).length l).map (·.1) = (l.map (·.1)).map fun r => if askB clp r = true then takeR t r else r
  | [] => rfl
  | p :: l => by
    unfold askL
    simp only [takeK, List.map_cons, List.filter_cons]
    by_cases ha : askB clp p.1 = true
    · have := takeK_all t clp l
      unfold askL at this
      simp only [ha, if_true, List.length_cons, List.map_cons, this]
    · have := takeK_all t clp l
      unfold askL at this
      simp only [ha, Bool.false_eq_true, if_false, List.map_cons, this]
theorem BksW.take {w w1 : World} {t clp : Int} {l : List Rb} {k : Nat} {y : Rb} (h : BksW w (takeK t clp k l)) (hnd : (l.map (·.2)).Nodup) (hy : (askL clp l)[k]? = some y) (ho : Own w1 y.2 #[.int .i64 (takeB y.1.b t).step, .int .i64 (takeB y.1.b t).early, .int .i64 (takeB y.1.b t).next, .bool (takeB y.1.b t).any] 127) (hs : Step (Just y.2) w w1) : BksW w1 (takeK t clp (k + 1) l) := by
  intro p hp
  rcases takeK_succ t clp l k y hnd hy p hp with rfl | ⟨h1, h2⟩
  · exact ho
  · exact (h p h1).step hs h2
def polF (pp : Nat) (l : List Rb) (k : Nat) : Prop := k = pp ∨ ∃ p ∈ l, k = p.2
theorem stepP_no {pp : Nat} {l : List Rb} {w w1 w2 : World} (h : Step (polF pp l) w w1) (k : Step No w1 w2) : Step (polF pp l) w w2 := Step.trans h k.weak
theorem polV_of {a : Bool} {t clp v : Int} {l : List Rl} (hv : verdR t clp l = v) : polV a t clp l = if v = 1 ∧ a = true ∧ clp = 0 then 2 else v := by unfold polV; rw [hv]
theorem ptake_done {w w1 : World} {pp rb c k : Nat} {Y : Nat → Prop} {a : Bool} {c0 c1 c2 c3 d0 d1 d2 d3 t clp v : Int} {l : List Rb} (av : Int) (hX : PlX w pp Y a l rb c c0 c1 c2 c3) (hI : RlsI (l.map (·.1))) (hv : verdR t clp (l.map (·.1)) = v) (ho : Own w1 pp (polArr a rb l.length c d0 d1 d2 d3) 103)
    (hrow : Sl2 w1 rb (rb + 1) (some ⟨rb, 0, none⟩) (flat rlc l)) (hb : BksW w1 (takeK t av k l)) (hS : Step (polF pp l) w w1) (hk : (v = 3 ∧ k = 0) ∨ (v ≠ 3 ∧ av = asV v clp ∧ k = (askL av l).length)) : Pl w1 pp Y a (rulesT t clp (l.map (·.1))) ∧ Step Y w w1 := by
  have hFr : ¬ polF pp l rb := by
    rintro (h | ⟨p, hp, h⟩)
    · exact hX.ne_row h
    · exact (hX.ne_b p hp).2 h.symm
  have hsnd : ∀ p ∈ takeK t av k l, ∃ q ∈ l, q.2 = p.2 := fun p hp => by
    have h9 : p.2 ∈ l.map (·.2) := by rw [← takeK_snd t av l k]; exact List.mem_map_of_mem hp
    exact List.mem_map.1 h9
  have hty : ∀ q, Y q → PT w1 q := by
    intro q hq
    by_cases h1 : q = pp
    · subst h1; exact .inl ho.tyB
    · by_cases h2 : ∃ p ∈ l, q = p.2
      · obtain ⟨p, hp, rfl⟩ := h2
        have h9 : p.2 ∈ (takeK t av k l).map (·.2) := by rw [takeK_snd]; exact List.mem_map_of_mem hp
        obtain ⟨z, hz, he⟩ := List.mem_map.1 h9
        rw [← he]; exact .inr (.inr (hb z hz).tyB)
      · exact (hX.ty q hq).step hS (by rintro (h | h); exact h1 h; exact h2 h)
  refine ⟨⟨hI.take t clp, takeK t av k l, rb, c, d0, d1, d2, d3, ?_, ⟨?_, ⟨by rw [takeK_flat]; exact hrow, hX.row.ty.step hS hFr⟩, hb, by rw [takeK_snd]; exact hX.nodup, hX.inP, hX.inR, ?_, hty, by rw [takeK_len]; exact hX.pos⟩⟩, hS.mono ?_⟩
  · unfold rulesT
    rw [hv]
    rcases hk with ⟨rfl, rfl⟩ | ⟨h1, rfl, rfl⟩
    · rw [if_pos rfl, takeK_zero]
    · rw [if_neg h1, takeK_all]
  · rw [takeK_len]; exact ho
  · intro p hp
    obtain ⟨q, hq, h8⟩ := hsnd p hp
    rw [← h8]; exact hX.inB q hq
  · rintro i (rfl | ⟨p, hp, rfl⟩)
    · exact hX.inP
    · exact hX.inB p hp
set_option maxRecDepth 100000 in
set_option maxHeartbeats 4000000 in
theorem ptake_1 (pp rb c : Nat) (Y : Nat → Prop) (a : Bool) (c0 c1 c2 c3 t clp : Int) (l : List Rb) (w : World) (hX : PlX w pp Y a l rb c c0 c1 c2 c3) (hI : RlsI (l.map (·.1))) (hv : verdR t clp (l.map (·.1)) = 1) :
  CV Try.prog 41 #[.pointer (some ⟨pp, 0, none⟩), .int .i64 t, .int .i64 clp] w (fun x w1 => x = .int .i64 (polV a t clp (l.map (·.1))) ∧ Pl w1 pp Y a (rulesT t clp (l.map (·.1))) ∧ Step Y w w1) := by
 have hpp : Own w pp (polArr a rb l.length c c0 c1 c2 c3) 103 := hX.own
 have hrow := hX.row.sl
 have hbk : BksW w (takeK t clp (0) l) := by rw [takeK_zero]; exact hX.bks
 have hrl := hX.row.lt
 have hbl0 := hX.bks.lt
 have hin : ∀ k (p : Rb), p ∈ takeK t clp k l → ∃ q ∈ l, q.2 = p.2 := fun k p hp => List.mem_map.1 (by rw [← takeK_snd t clp l k]; exact List.mem_map_of_mem hp)
 have hbl : ∀ k (p : Rb), p ∈ takeK t clp k l → p.2 < w.heap.size := fun k p hp => by obtain ⟨q, hq, h8⟩ := hin k p hp; have h7 := hbl0 q hq; omega
 have hbp : ∀ k (p : Rb), p ∈ takeK t clp k l → p.2 ≠ pp := fun k p hp => by obtain ⟨q, hq, h8⟩ := hin k p hp; have h7 := (hX.ne_b q hq).1; omega
 have hpl := hpp.lt
 have hnrp := hX.ne_row
 have hlen : l.length < 1152921504606846976 := by have h9 := hI.1; rw [List.length_map] at h9; omega
 have hbi : ∀ y ∈ l, BkI y.1.b := fun y hy => hI.2 _ (List.mem_map_of_mem hy)
 have hS : Step (polF pp l) w w := Step.refl _ _
 have hSn : Step No w w := Step.refl _ _
 refine CV_enterM Try.f41 _ 61 [(0, .pointer (some ⟨pp, 0, none⟩)), (1, .int .i64 t), (2, .int .i64 clp)] Try.func41 rfl rfl (by kernel_rfl) rfl ?_
 refine VC_seq ?_
 refine VC_region ?_
 have hzs1 := hSn.size
 have hzl1 := hpp.lt
 have hzk1 := hrl
 refine VL_box (d := 4) (t := 3) (c := #[.int .i64 t]) (by kernel_rfl) (by kernel_rfl) ?_
 intro b1 w1 hn1
 replace hSn := Step.trans hSn (hn1.step No)
 replace hS := stepP_no hS (hn1.step No)
 replace hpp := hpp.no (hn1.step No)
 replace hrow := hrow.step (hn1.step No) (fun k hk1 hk2 hF => hF)
 replace hbk := BksW.no hbk (hn1.step No)
 replace hrl := Nat.lt_of_lt_of_le hrl (hn1.step No).size
 have ho1 := hn1.own
 have hzhn1 := hn1.size
 have hqhn1 := hn1.eqb
 refine VL_pure 2 [0, 2, 4, 6] [(0, .pointer (some ⟨pp, 0, none⟩)), (2, .int .i64 clp), (4, .pointer (some ⟨b1, 0, none⟩)), (6, .int .i64 0)] (by kernel_rfl) rfl ?_
 refine VL_end (by kernel_rfl) ?_
 refine VQ_next ?_
 refine VC_seq ?_
 refine VC_seq ?_
 refine VC_region ?_
 refine VL_pure 2 [0, 2, 4, 6, 11] [(0, .pointer (some ⟨pp, 0, none⟩)), (2, .int .i64 clp), (4, .pointer (some ⟨b1, 0, none⟩)), (6, .int .i64 0), (11, .bool false)] (by kernel_rfl) rfl ?_
 refine VL_end (by kernel_rfl) ?_
 refine VQ_next ?_
 refine VC_false (by kernel_rfl) ?_
 refine VC_skip ?_
 refine VQ_next ?_
 refine VC_seq ?_
 refine VC_region ?_
 refine VL_pure 1 [0, 2, 4, 6, 12] [(0, .pointer (some ⟨pp, 0, none⟩)), (2, .int .i64 clp), (4, .pointer (some ⟨b1, 0, none⟩)), (6, .int .i64 0), (12, .pointer (some ⟨pp, 0, none⟩))] (by kernel_rfl) rfl ?_
 refine VL_load (d := 13) (t := 3) (a := ⟨b1, 0, none⟩) (v := .int .i64 t) (by kernel_rfl) (by kernel_rfl) (Loads.own1 ho1 (by kernel_rfl) (by rfl)) ?_
 refine VL_pure 3 [0, 2, 4, 6, 12, 13, 14] [(0, .pointer (some ⟨pp, 0, none⟩)), (2, .int .i64 clp), (4, .pointer (some ⟨b1, 0, none⟩)), (6, .int .i64 0), (12, .pointer (some ⟨pp, 0, none⟩)), (13, .int .i64 t), (14, .int .i64 clp)] (by kernel_rfl) rfl ?_
 have hzs2 := hSn.size
 have hzl2 := hpp.lt
 have hzl3 := ho1.lt
 refine VL_call (d := 15) (f := 50) (args := #[.pointer (some ⟨pp, 0, none⟩), .int .i64 t, .int .i64 clp]) (by kernel_rfl) (by kernel_rfl) (by kernel_rfl) Try.call50 ((verdict_any pp rb c Y a c0 c1 c2 c3 t clp l _ (hX.step hSn (fun _ _ h9 => h9)) hI).mono (fun x w1 h9 => ⟨h9.1.trans (by rw [hv]), h9.2⟩ : ∀ x w1, _ → x = .int .i64 1 ∧ Step No _ w1)) ?_
 rintro _ w2 ⟨rfl, hc1⟩
 replace hS := stepP_no hS hc1
 replace hpp := hpp.no hc1
 replace hrow := hrow.step hc1 (fun k hk1 hk2 hF => hF)
 replace hbk := BksW.no hbk hc1
 replace hrl := Nat.lt_of_lt_of_le hrl (hc1).size
 replace ho1 := ho1.no hc1
 refine VL_pure 5 [0, 2, 4, 6, 7] [(0, .pointer (some ⟨pp, 0, none⟩)), (2, .int .i64 clp), (4, .pointer (some ⟨b1, 0, none⟩)), (6, .int .i64 0), (7, .int .i64 1)] (by kernel_rfl) rfl ?_
 refine VL_end (by kernel_rfl) ?_
 refine VQ_next ?_
 refine VC_seq ?_
 refine VC_region ?_
 refine VL_pure 2 [0, 2, 4, 6, 7, 8] [(0, .pointer (some ⟨pp, 0, none⟩)), (2, .int .i64 clp), (4, .pointer (some ⟨b1, 0, none⟩)), (6, .int .i64 0), (7, .int .i64 1), (8, .int .i64 clp)] (by kernel_rfl) rfl ?_
 refine VL_end (by kernel_rfl) ?_
 refine VQ_next ?_
 refine VC_seq ?_
 refine VC_seq ?_
 refine VC_region ?_
 refine VL_pure 2 [0, 2, 4, 6, 7, 8, 18] [(0, .pointer (some ⟨pp, 0, none⟩)), (2, .int .i64 clp), (4, .pointer (some ⟨b1, 0, none⟩)), (6, .int .i64 0), (7, .int .i64 1), (8, .int .i64 clp), (18, .bool false)] (by kernel_rfl) rfl ?_
 refine VL_end (by kernel_rfl) ?_
 refine VQ_next ?_
 refine VC_false (by kernel_rfl) ?_
 refine VC_skip ?_
 refine VQ_next ?_
 refine VC_seq ?_
 refine VC_seq ?_
 refine VC_region ?_
 refine VL_pure 2 [0, 2, 4, 6, 7, 8, 20] [(0, .pointer (some ⟨pp, 0, none⟩)), (2, .int .i64 clp), (4, .pointer (some ⟨b1, 0, none⟩)), (6, .int .i64 0), (7, .int .i64 1), (8, .int .i64 clp), (20, .bool true)] (by kernel_rfl) rfl ?_
 refine VL_end (by kernel_rfl) ?_
 refine VQ_next ?_
 refine VC_true (by kernel_rfl) ?_
 refine VC_seq ?_
 refine VC_region ?_
 refine VL_pure 2 [0, 2, 4, 6, 7, 21, 22] [(0, .pointer (some ⟨pp, 0, none⟩)), (2, .int .i64 clp), (4, .pointer (some ⟨b1, 0, none⟩)), (6, .int .i64 0), (7, .int .i64 1), (21, .pointer (some ⟨pp, 0, none⟩)), (22, .int .i64 clp)] (by kernel_rfl) rfl ?_
 have hzl4 := hpp.lt
 have hzl5 := ho1.lt
 refine VL_call (d := 23) (f := 51) (args := #[.pointer (some ⟨pp, 0, none⟩), .int .i64 clp]) (by kernel_rfl) (by kernel_rfl) (by kernel_rfl) Try.call51 (asked_any pp clp _) ?_
 rintro _ w3 ⟨bb1, bb2, rfl, hgbb1, hgbb2, hbb1, hbb2, hc2⟩
 replace hS := stepP_no hS hc2
 replace hpp := hpp.no hc2
 replace hrow := hrow.step hc2 (fun k hk1 hk2 hF => hF)
 replace hbk := BksW.no hbk hc2
 replace hrl := Nat.lt_of_lt_of_le hrl (hc2).size
 replace ho1 := ho1.no hc2
 have hzhbb1 := hbb1.lt
 have hzhbb2 := hbb2.lt
 refine VL_end (by kernel_rfl) ?_
 refine VQ_next ?_
 refine VC_block ?_
 have hzl6 := hpp.lt
 have hzk2 := hrl
 have hzl7 := ho1.lt
 have hzl8 := hbb1.lt
 have hzl9 := hbb2.lt
 have hzl10 := hpp.lt
 have hzk3 := hrl
 have hzl11 := ho1.lt
 have hzl12 := hbb1.lt
 have hzl13 := hbb2.lt
 refine VC_range (gf := 60) (lb := #[.pointer (some ⟨bb1, 0, none⟩), .pointer (some ⟨bb2, 0, none⟩)]) (xs := (askV clp l)) (by kernel_rfl) Try.call60 (asked_iter bb1 bb2 pp rb c a clp c0 c1 c2 c3 l hlen) (fun a ha => askV_sz _ _ a ha) (by kernel_rfl) (fun M i => ∃ p ∈ l, i = p.2) (fun M i ⟨p, hp, hi⟩ => by have h9 := hbl0 p hp; omega) (fun M k W => (Step (polF pp l) w W) ∧ (Own W pp #[.bool a, .slice (some ⟨rb, 0, none⟩) l.length c, .int .i64 c0, .int .i64 c1, .int .i64 c2, .int .i64 c3] 103) ∧ (Sl2 W rb (rb + 1) (some ⟨rb, 0, none⟩) (flat rlc l)) ∧ (BksW W (takeK t clp (k) l)) ∧ (rb < W.heap.size) ∧ (Own W b1 #[.int .i64 t] 3) ∧ (Own W bb1 #[.pointer (some ⟨pp, 0, none⟩)] 65) ∧ (Own W bb2 #[.int .i64 clp] 3)) (fun e W => False) (by rintro M k W W' ⟨hS, hpp, hrow, hbk, hrl, ho1, hbb1, hbb2⟩ hs; exact ⟨Step.transNew hS hs (fun i hi hF => by have hF9 : i = (w3.heap.size + 1) := hF; omega), hpp.step hs (show ¬ pp = (w3.heap.size + 1) by omega), hrow.step hs (fun k hk1 hk2 (hF : k = (w3.heap.size + 1)) => by omega), BksW.step hbk hs (fun p hp hF => by have h9 := hbl _ p hp; have h8 := hbp _ p hp; have hF : p.2 = (w3.heap.size + 1) := hF; omega), Nat.lt_of_lt_of_le hrl hs.size, ho1.step hs (show ¬ b1 = (w3.heap.size + 1) by omega), hbb1.step hs (show ¬ bb1 = (w3.heap.size + 1) by omega), hbb2.step hs (show ¬ bb2 = (w3.heap.size + 1) by omega)⟩) (by rintro e W W' h; exact h.elim) (by rintro M k W W' ⟨hS, hpp, hrow, hbk, hrl, ho1, hbb1, hbb2⟩ hs; exact ⟨(stepP_no hS hs), hpp.no hs, hrow.step hs (fun _ _ _ h9 => h9), (BksW.no hbk hs), Nat.lt_of_lt_of_le hrl hs.size, ho1.no hs, hbb1.no hs, hbb2.no hs⟩) (by rintro e W W' h; exact h.elim) (by rintro M k W ⟨hS, hpp, hrow, hbk, hrl, ho1, hbb1, hbb2⟩; exact ⟨⟨hbb1, hbb2, hpp, hrow⟩, hrl⟩) (fun W hs => ⟨⟨hbb1.no hs, hbb2.no hs, hpp.no hs, hrow.step hs (fun _ _ _ h9 => h9)⟩, Nat.lt_of_lt_of_le hrl hs.size⟩) (fun M W hMm hM2 hs _ => ⟨(stepP_no hS hs), hpp.no hs, hrow.step hs (fun _ _ _ h9 => h9), (BksW.no hbk hs), Nat.lt_of_lt_of_le hrl hs.size, ho1.no hs, hbb1.no hs, hbb2.no hs⟩) ?_ ?_ ?_
 ·intro M k w4 args hM hM2 hx hJ0 hsz
  obtain ⟨hS, hpp, hrow, hbk, hrl, ho1, hbb1, hbb2⟩ := hJ0
  obtain ⟨y, hy, hym, rfl⟩ := askV_mem hx
  have hyl := hbl0 y hym
  have hyn := hX.ne_b y hym
  have hAs : Step No w4 w4 := Step.refl _ _
  have hML : M ≤ w4.heap.size := hM2
  refine VC_keep [4, 24] [(4, .pointer (some ⟨b1, 0, none⟩)), (24, .agg #[.int .i64 y.1.step, .int .i64 y.1.early, .bool y.1.zero, .bool y.1.tag, .iface 111 (.pointer (some ⟨y.2, 0, none⟩))])] (by kernel_rfl) ?_
  refine VC_region ?_
  have hzl14 := hpp.lt
  have hzk4 := hrl
  have hzl15 := ho1.lt
  have hzl16 := hbb1.lt
  have hzl17 := hbb2.lt
  have hzk5 := hML
  have hzs3 := hAs.size
  refine VL_box (d := 9) (t := 98) (c := #[.int .i64 0, .int .i64 0, .bool false, .bool false, .nilIface]) (by kernel_rfl) (by kernel_rfl) ?_
  intro b2 w5 hn2
  replace hS := stepP_no hS (hn2.step No)
  replace hpp := hpp.no (hn2.step No)
  replace hrow := hrow.step (hn2.step No) (fun k hk1 hk2 hF => hF)
  replace hbk := BksW.no hbk (hn2.step No)
  replace hrl := Nat.lt_of_lt_of_le hrl (hn2.step No).size
  replace ho1 := ho1.no (hn2.step No)
  replace hbb1 := hbb1.no (hn2.step No)
  replace hbb2 := hbb2.no (hn2.step No)
  replace hML := Nat.le_trans hML (hn2.step No).size
  replace hAs := Step.trans hAs (hn2.step No)
  have ho2 := hn2.own
  have hzhn2 := hn2.size
  have hqhn2 := hn2.eqb
  refine VL_store (b := b2) (o := 0) (vs := [.int .i64 y.1.step, .int .i64 y.1.early, .bool y.1.zero, .bool y.1.tag, .iface 111 (.pointer (some ⟨y.2, 0, none⟩))]) (by kernel_rfl) (by kernel_rfl) ho2 (Nat.le_of_ble_eq_true (by kernel_rfl)) ?_
  intro w6 hw1
  replace hS := Step.transNew hS hw1.step (fun i hi hF => by have hF9 : i = b2 := hF; omega)
  replace hpp := hpp.step hw1.step (show ¬ pp = b2 by omega)
  replace hrow := hrow.step hw1.step (fun k hk1 hk2 (hF : k = b2) => by omega)
  replace hbk := BksW.step hbk hw1.step (fun p hp hF => by have h9 := hbl _ p hp; have h8 := hbp _ p hp; have hF : p.2 = b2 := hF; omega)
  replace hrl := Nat.lt_of_lt_of_le hrl (hw1.step).size
  replace ho1 := ho1.step hw1.step (show ¬ b1 = b2 by omega)
  replace hbb1 := hbb1.step hw1.step (show ¬ bb1 = b2 by omega)
  replace hbb2 := hbb2.step hw1.step (show ¬ bb2 = b2 by omega)
  replace hML := Nat.le_trans hML (hw1.step).size
  replace hAs := Step.transNew hAs hw1.step (fun _ _ _ => by omega)
  have ho3 : Own w6 b2 #[.int .i64 y.1.step, .int .i64 y.1.early, .bool y.1.zero, .bool y.1.tag, .iface 111 (.pointer (some ⟨y.2, 0, none⟩))] 98 := Own.cast hw1.own (by kernel_rfl)
  have hzhw1 := hw1.same
  refine VL_end (by kernel_rfl) ?_
  refine VQ_begin hAs ?_
  intro w7 hb1 hzhb1
  have hzl18 := hpp.lt
  have hzk6 := hrl
  have hzl19 := ho1.lt
  have hzl20 := hbb1.lt
  have hzl21 := hbb2.lt
  have hzk7 := hML
  have hzl22 := ho3.lt
  replace hS := Step.transNew hS hb1 (fun i hi hF => by have hF9 : i = (w3.heap.size + 1) := hF; omega)
  replace hpp := hpp.step hb1 (show ¬ pp = (w3.heap.size + 1) by omega)
  replace hrow := hrow.step hb1 (fun k hk1 hk2 (hF : k = (w3.heap.size + 1)) => by omega)
  replace hbk := BksW.step hbk hb1 (fun p hp hF => by have h9 := hbl _ p hp; have h8 := hbp _ p hp; have hF : p.2 = (w3.heap.size + 1) := hF; omega)
  replace hrl := Nat.lt_of_lt_of_le hrl (hb1).size
  replace ho1 := ho1.step hb1 (show ¬ b1 = (w3.heap.size + 1) by omega)
  replace hbb1 := hbb1.step hb1 (show ¬ bb1 = (w3.heap.size + 1) by omega)
  replace hbb2 := hbb2.step hb1 (show ¬ bb2 = (w3.heap.size + 1) by omega)
  replace hML := Nat.le_trans hML (hb1).size
  replace ho3 := ho3.step hb1 (show ¬ b2 = (w3.heap.size + 1) by omega)
  have hR1 : Step ((fun M i => ∃ p ∈ l, i = p.2) M) w7 w7 := Step.refl _ _
  refine VC_block ?_
  refine VC_region ?_
  refine VL_pure 1 [4, 25] [(4, .pointer (some ⟨b1, 0, none⟩)), (25, .pointer (some ⟨b2, 4, none⟩))] (by kernel_rfl) rfl ?_
  refine VL_load (d := 26) (t := 96) (a := ⟨b2, 4, none⟩) (v := .iface 111 (.pointer (some ⟨y.2, 0, none⟩))) (by kernel_rfl) (by kernel_rfl) (Loads.own1 ho3 (by kernel_rfl) (by rfl)) ?_
  refine VL_load (d := 27) (t := 3) (a := ⟨b1, 0, none⟩) (v := .int .i64 t) (by kernel_rfl) (by kernel_rfl) (Loads.own1 ho1 (by kernel_rfl) (by rfl)) ?_
  have hzl23 := hpp.lt
  have hzl24 := ho1.lt
  have hzl25 := hbb1.lt
  have hzl26 := hbb2.lt
  have hzl27 := ho3.lt
  have hzs4 := hR1.size
  refine VL_invoke (d := 28) (f := 97) (args := #[.pointer (some ⟨y.2, 0, none⟩), .int .i64 t]) (by kernel_rfl) (by kernel_rfl) Try.call97 (btake_any y.2 y.1.b t _ (hbi _ hym) (hbk _ (takeK_mem t clp l k y hy))) ?_
  rintro _ w8 ⟨rfl, hbo, hc3⟩
  replace hS := Step.trans hS (Step.mono hc3 (fun i hi => .inr ⟨y, hym, hi⟩))
  replace hpp := hpp.step hc3 (show ¬ pp = y.2 by omega)
  replace hrow := hrow.step hc3 (fun k hk1 hk2 (hF : k = y.2) => by omega)
  replace hrl := Nat.lt_of_lt_of_le hrl (hc3).size
  replace ho1 := ho1.step hc3 (show ¬ b1 = y.2 by omega)
  replace hbb1 := hbb1.step hc3 (show ¬ bb1 = y.2 by omega)
  replace hbb2 := hbb2.step hc3 (show ¬ bb2 = y.2 by omega)
  replace hML := Nat.le_trans hML (hc3).size
  replace ho3 := ho3.step hc3 (show ¬ b2 = y.2 by omega)
  replace hR1 := Step.trans hR1 (Step.mono hc3 (by intro i hi; first | exact hi | exact ⟨_, by assumption, hi⟩ | (have hi9 : i = y.2 := hi; (first | show _ ∨ _ | show _ = _); omega)))
  have hbk2 := BksW.take hbk hX.nodup hy hbo hc3
  refine VL_end (by kernel_rfl) ?_
  refine VQ_block_normal ?_
  exact VQ_round_end hR1 ⟨hS, hpp, hrow, hbk2, hrl, ho1, hbb1, hbb2⟩
 ·intro M w9 hM hzM hJ0 hD
  rw [askV_lenL] at hJ0
  obtain ⟨hS, hpp, hrow, hbk, hrl, ho1, hbb1, hbb2⟩ := hJ0
  have hmk1 := hD
  refine VQ_block_normal ?_
  refine VQ_next ?_
  refine VC_seq ?_
  refine VC_seq ?_
  refine VC_region ?_
  refine VL_pure 6 [0, 2, 7, 31, 34] [(0, .pointer (some ⟨pp, 0, none⟩)), (2, .int .i64 clp), (7, .int .i64 1), (31, .bool true), (34, .pointer (some ⟨pp, 0, none⟩))] (by kernel_rfl) rfl ?_
  refine VL_load (d := 35) (t := 4) (a := ⟨pp, 0, none⟩) (v := .bool a) (by kernel_rfl) (by kernel_rfl) (Loads.own1 hpp (by kernel_rfl) (by rfl)) ?_
  refine VL_pure 9 [0, 2, 7, 37] [(0, .pointer (some ⟨pp, 0, none⟩)), (2, .int .i64 clp), (7, .int .i64 1), (37, .bool a)] (by kernel_rfl) rfl ?_
  refine VL_bool a (fun bV => [(0, .pointer (some ⟨pp, 0, none⟩)), (2, .int .i64 clp), (7, .int .i64 1), (37, .bool bV)]) rfl (fun hg1 => ?_) (fun hg1 => ?_)
  ·refine VL_pure 12 [0, 7, 40] [(0, .pointer (some ⟨pp, 0, none⟩)), (7, .int .i64 1), (40, .bool (clp == 0))] (by kernel_rfl) rfl ?_
   refine VL_end (by kernel_rfl) ?_
   refine VQ_next ?_
   refine VC_eq clp 0 (by kernel_rfl) (fun h1 => ?_) (fun h1 => ?_)
   ·refine VC_region ?_
    refine VL_pure 1 [0, 7] [(0, .pointer (some ⟨pp, 0, none⟩)), (7, .int .i64 2)] (by kernel_rfl) rfl ?_
    refine VL_end (by kernel_rfl) ?_
    refine VQ_next ?_
    refine VC_seq ?_
    refine VC_det [[], [0], [0, 1], [0, 1, 2], [0, 1, 2, 3], [0, 1, 2, 3, 4], [0], [0, 6], [0, 1, 2, 3, 4, 5, 6, 7], [0, 1, 2, 3, 4, 5, 6, 7, 8]] 8 [.pointer (some ⟨pp, 0, none⟩), .pointer (some ⟨pp, 0, none⟩), .pointer (some ⟨pp, 2, none⟩), .pointer (some ⟨pp, 2, none⟩), .int .i64 c0, .int .i64 (IntKind.wrap .i64 (c0 + 1)), .pointer (some ⟨pp, 0, none⟩), .pointer (some ⟨pp, 2, none⟩)] [0, 1, 2, 5, 6, 7] [3, 4] (by kernel_rfl) (by kernel_rfl) (by kernel_rfl) (by kernel_rfl) ?_ ?_
    ·intro w10 hs1
     replace hS := stepP_no hS hs1
     replace hpp := hpp.no hs1
     replace hrow := hrow.step hs1 (fun k hk1 hk2 hF => hF)
     replace hbk := BksW.no hbk hs1
     replace hrl := Nat.lt_of_lt_of_le hrl (hs1).size
     replace ho1 := ho1.no hs1
     replace hbb1 := hbb1.no hs1
     replace hbb2 := hbb2.no hs1
     replace hmk1 := hmk1.no hs1
     exact ⟨Det1_index (d := 44) (b := pp) (o := 2) (len := 4) (sz := 1) (m := 0) (by kernel_rfl) (by kernel_rfl) 0 (by rfl) (by omega) 2 (by omega), Det1_load (d := 45) (t := 3) (a := ⟨pp, 2, none⟩) (by kernel_rfl) (by kernel_rfl) (Loads.own1 hpp (by kernel_rfl) (by rfl)), trivial⟩
    intro w10 hs1
    replace hS := stepP_no hS hs1
    replace hpp := hpp.no hs1
    replace hrow := hrow.step hs1 (fun k hk1 hk2 hF => hF)
    replace hbk := BksW.no hbk hs1
    replace hrl := Nat.lt_of_lt_of_le hrl (hs1).size
    replace ho1 := ho1.no hs1
    replace hbb1 := hbb1.no hs1
    replace hbb2 := hbb2.no hs1
    replace hmk1 := hmk1.no hs1
    refine VL_keep [0, 7, 46, 48] [(0, .pointer (some ⟨pp, 0, none⟩)), (7, .int .i64 2), (46, .int .i64 (IntKind.wrap .i64 (c0 + 1))), (48, .pointer (some ⟨pp, 2, none⟩))] (by kernel_rfl) ?_
    refine VL_index (d := 49) (b := pp) (o := 2) (len := 4) (sz := 1) (m := 0) (by kernel_rfl) (by kernel_rfl) 0 (by rfl) (by omega) 2 (by omega) ?_
    refine VL_store (b := pp) (o := 2) (vs := [.int .i64 (IntKind.wrap .i64 (c0 + 1))]) (by kernel_rfl) (by kernel_rfl) hpp (Nat.le_of_ble_eq_true (by kernel_rfl)) ?_
    intro w11 hw2
    replace hS := Step.trans hS (Step.mono hw2.step (fun i hi => .inl hi))
    replace hrow := hrow.step hw2.step (fun k hk1 hk2 (hF : k = pp) => by omega)
    replace hbk := BksW.step hbk hw2.step (fun p hp hF => by have h9 := hbl _ p hp; have h8 := hbp _ p hp; have hF : p.2 = pp := hF; omega)
    replace hrl := Nat.lt_of_lt_of_le hrl (hw2.step).size
    replace ho1 := ho1.step hw2.step (show ¬ b1 = pp by omega)
    replace hbb1 := hbb1.step hw2.step (show ¬ bb1 = pp by omega)
    replace hbb2 := hbb2.step hw2.step (show ¬ bb2 = pp by omega)
    replace hmk1 := hmk1.step hw2.step (show ¬ w3.heap.size = pp by omega)
    have ho4 : Own w11 pp #[.bool a, .slice (some ⟨rb, 0, none⟩) l.length c, .int .i64 (IntKind.wrap .i64 (c0 + 1)), .int .i64 c1, .int .i64 c2, .int .i64 c3] 103 := Own.cast hw2.own (by kernel_rfl)
    have hzhw2 := hw2.same
    refine VL_end (by kernel_rfl) ?_
    refine VQ_next ?_
    refine VC_seq ?_
    refine VC_det [[], [], [0], [0, 2], [0, 1, 2, 3], [0, 1, 2, 3, 4], [0, 1, 2, 3, 4, 5], [0], [0, 7], [0, 1, 2, 3, 4, 5, 6, 7, 8], [0, 1, 2, 3, 4, 5, 6, 7, 8, 9]] 9 [.pointer (some ⟨pp, 0, none⟩), .int .i64 2, .pointer (some ⟨pp, 0, none⟩), .pointer (some ⟨pp, 2, none⟩), .pointer (some ⟨pp, 4, none⟩), .int .i64 c2, .int .i64 (IntKind.wrap .i64 (c2 + 1)), .pointer (some ⟨pp, 0, none⟩), .pointer (some ⟨pp, 2, none⟩)] [0, 1, 2, 3, 6, 7, 8] [4, 5] (by kernel_rfl) (by kernel_rfl) (by kernel_rfl) (by kernel_rfl) ?_ ?_
    ·intro w12 hs2
     replace hS := stepP_no hS hs2
     replace hrow := hrow.step hs2 (fun k hk1 hk2 hF => hF)
     replace hbk := BksW.no hbk hs2
     replace hrl := Nat.lt_of_lt_of_le hrl (hs2).size
     replace ho1 := ho1.no hs2
     replace hbb1 := hbb1.no hs2
     replace hbb2 := hbb2.no hs2
     replace hmk1 := hmk1.no hs2
     replace ho4 := ho4.no hs2
     exact ⟨Det1_index (d := 54) (b := pp) (o := 2) (len := 4) (sz := 1) (m := 2) (by kernel_rfl) (by kernel_rfl) 2 (by rfl) (by omega) 4 (by omega), Det1_load (d := 55) (t := 3) (a := ⟨pp, 4, none⟩) (by kernel_rfl) (by kernel_rfl) (Loads.own1 ho4 (by kernel_rfl) (by rfl)), trivial⟩
    intro w12 hs2
    replace hS := stepP_no hS hs2
    replace hrow := hrow.step hs2 (fun k hk1 hk2 hF => hF)
    replace hbk := BksW.no hbk hs2
    replace hrl := Nat.lt_of_lt_of_le hrl (hs2).size
    replace ho1 := ho1.no hs2
    replace hbb1 := hbb1.no hs2
    replace hbb2 := hbb2.no hs2
    replace hmk1 := hmk1.no hs2
    replace ho4 := ho4.no hs2
    refine VL_keep [7, 51, 56, 58] [(7, .int .i64 2), (51, .int .i64 2), (56, .int .i64 (IntKind.wrap .i64 (c2 + 1))), (58, .pointer (some ⟨pp, 2, none⟩))] (by kernel_rfl) ?_
    refine VL_index (d := 59) (b := pp) (o := 2) (len := 4) (sz := 1) (m := 2) (by kernel_rfl) (by kernel_rfl) 2 (by rfl) (by omega) 4 (by omega) ?_
    refine VL_store (b := pp) (o := 4) (vs := [.int .i64 (IntKind.wrap .i64 (c2 + 1))]) (by kernel_rfl) (by kernel_rfl) ho4 (Nat.le_of_ble_eq_true (by kernel_rfl)) ?_
    intro w13 hw3
    replace hS := Step.trans hS (Step.mono hw3.step (fun i hi => .inl hi))
    replace hrow := hrow.step hw3.step (fun k hk1 hk2 (hF : k = pp) => by omega)
    replace hbk := BksW.step hbk hw3.step (fun p hp hF => by have h9 := hbl _ p hp; have h8 := hbp _ p hp; have hF : p.2 = pp := hF; omega)
    replace hrl := Nat.lt_of_lt_of_le hrl (hw3.step).size
    replace ho1 := ho1.step hw3.step (show ¬ b1 = pp by omega)
    replace hbb1 := hbb1.step hw3.step (show ¬ bb1 = pp by omega)
    replace hbb2 := hbb2.step hw3.step (show ¬ bb2 = pp by omega)
    replace hmk1 := hmk1.step hw3.step (show ¬ w3.heap.size = pp by omega)
    have ho5 : Own w13 pp #[.bool a, .slice (some ⟨rb, 0, none⟩) l.length c, .int .i64 (IntKind.wrap .i64 (c0 + 1)), .int .i64 c1, .int .i64 (IntKind.wrap .i64 (c2 + 1)), .int .i64 c3] 103 := Own.cast hw3.own (by kernel_rfl)
    have hzhw3 := hw3.same
    refine VL_end (by kernel_rfl) ?_
    refine VQ_next ?_
    refine VC_seq ?_
    refine VC_region ?_
    refine VL_pure 2 [6] [(6, .int .i64 2)] (by kernel_rfl) rfl ?_
    refine VL_end (by kernel_rfl) ?_
    refine VQ_next ?_
    refine VC_ret ?_
    have hzk8 := hrl
    have hzl28 := ho1.lt
    have hzl29 := hbb1.lt
    have hzl30 := hbb2.lt
    have hzl31 := hmk1.lt
    have hzl32 := ho5.lt
    refine VQ_retM1 (.int .i64 2) [w3.heap.size] (.inr rfl) rfl rfl ⟨hmk1, (by simp), trivial⟩ ?_
    intro w14 hq1
    replace hq1 : Step (Just w3.heap.size) w13 w14 := Step.mono hq1 (fun i hi => by simpa using hi)
    replace hS := Step.transNew hS hq1 (fun i hi hF => by have hF9 : i = w3.heap.size := hF; omega)
    replace hrow := hrow.step hq1 (fun k hk1 hk2 (hF : k = w3.heap.size) => by omega)
    replace hbk := BksW.step hbk hq1 (fun p hp hF => by have h9 := hbl _ p hp; have h8 := hbp _ p hp; have hF : p.2 = w3.heap.size := hF; omega)
    replace hrl := Nat.lt_of_lt_of_le hrl (hq1).size
    replace ho1 := ho1.step hq1 (show ¬ b1 = w3.heap.size by omega)
    replace hbb1 := hbb1.step hq1 (show ¬ bb1 = w3.heap.size by omega)
    replace hbb2 := hbb2.step hq1 (show ¬ bb2 = w3.heap.size by omega)
    replace ho5 := ho5.step hq1 (show ¬ pp = w3.heap.size by omega)
    exact ⟨congrArg (Value.int .i64) (by rw [polV_of hv]; first | rfl | simp_all), ptake_done clp hX hI hv ho5 hrow hbk hS (.inr ⟨by decide, rfl, rfl⟩)⟩
   ·refine VC_skip ?_
    refine VQ_next ?_
    refine VC_seq ?_
    refine VC_det [[], [0], [0, 1], [0, 1, 2], [0, 1, 2, 3], [0, 1, 2, 3, 4], [0], [0, 6], [0, 1, 2, 3, 4, 5, 6, 7], [0, 1, 2, 3, 4, 5, 6, 7, 8]] 8 [.pointer (some ⟨pp, 0, none⟩), .pointer (some ⟨pp, 0, none⟩), .pointer (some ⟨pp, 2, none⟩), .pointer (some ⟨pp, 2, none⟩), .int .i64 c0, .int .i64 (IntKind.wrap .i64 (c0 + 1)), .pointer (some ⟨pp, 0, none⟩), .pointer (some ⟨pp, 2, none⟩)] [0, 1, 2, 5, 6, 7] [3, 4] (by kernel_rfl) (by kernel_rfl) (by kernel_rfl) (by kernel_rfl) ?_ ?_
    ·intro w15 hs3
     replace hS := stepP_no hS hs3
     replace hpp := hpp.no hs3
     replace hrow := hrow.step hs3 (fun k hk1 hk2 hF => hF)
     replace hbk := BksW.no hbk hs3
     replace hrl := Nat.lt_of_lt_of_le hrl (hs3).size
     replace ho1 := ho1.no hs3
     replace hbb1 := hbb1.no hs3
     replace hbb2 := hbb2.no hs3
     replace hmk1 := hmk1.no hs3
     exact ⟨Det1_index (d := 44) (b := pp) (o := 2) (len := 4) (sz := 1) (m := 0) (by kernel_rfl) (by kernel_rfl) 0 (by rfl) (by omega) 2 (by omega), Det1_load (d := 45) (t := 3) (a := ⟨pp, 2, none⟩) (by kernel_rfl) (by kernel_rfl) (Loads.own1 hpp (by kernel_rfl) (by rfl)), trivial⟩
    intro w15 hs3
    replace hS := stepP_no hS hs3
    replace hpp := hpp.no hs3
    replace hrow := hrow.step hs3 (fun k hk1 hk2 hF => hF)
    replace hbk := BksW.no hbk hs3
    replace hrl := Nat.lt_of_lt_of_le hrl (hs3).size
    replace ho1 := ho1.no hs3
    replace hbb1 := hbb1.no hs3
    replace hbb2 := hbb2.no hs3
    replace hmk1 := hmk1.no hs3
    refine VL_keep [0, 7, 46, 48] [(0, .pointer (some ⟨pp, 0, none⟩)), (7, .int .i64 1), (46, .int .i64 (IntKind.wrap .i64 (c0 + 1))), (48, .pointer (some ⟨pp, 2, none⟩))] (by kernel_rfl) ?_
    refine VL_index (d := 49) (b := pp) (o := 2) (len := 4) (sz := 1) (m := 0) (by kernel_rfl) (by kernel_rfl) 0 (by rfl) (by omega) 2 (by omega) ?_
    refine VL_store (b := pp) (o := 2) (vs := [.int .i64 (IntKind.wrap .i64 (c0 + 1))]) (by kernel_rfl) (by kernel_rfl) hpp (Nat.le_of_ble_eq_true (by kernel_rfl)) ?_
    intro w16 hw4
    replace hS := Step.trans hS (Step.mono hw4.step (fun i hi => .inl hi))
    replace hrow := hrow.step hw4.step (fun k hk1 hk2 (hF : k = pp) => by omega)
    replace hbk := BksW.step hbk hw4.step (fun p hp hF => by have h9 := hbl _ p hp; have h8 := hbp _ p hp; have hF : p.2 = pp := hF; omega)
    replace hrl := Nat.lt_of_lt_of_le hrl (hw4.step).size
    replace ho1 := ho1.step hw4.step (show ¬ b1 = pp by omega)
    replace hbb1 := hbb1.step hw4.step (show ¬ bb1 = pp by omega)
    replace hbb2 := hbb2.step hw4.step (show ¬ bb2 = pp by omega)
    replace hmk1 := hmk1.step hw4.step (show ¬ w3.heap.size = pp by omega)
    have ho6 : Own w16 pp #[.bool a, .slice (some ⟨rb, 0, none⟩) l.length c, .int .i64 (IntKind.wrap .i64 (c0 + 1)), .int .i64 c1, .int .i64 c2, .int .i64 c3] 103 := Own.cast hw4.own (by kernel_rfl)
    have hzhw4 := hw4.same
    refine VL_end (by kernel_rfl) ?_
    refine VQ_next ?_
    refine VC_seq ?_
    refine VC_det [[], [], [0], [0, 2], [0, 1, 2, 3], [0, 1, 2, 3, 4], [0, 1, 2, 3, 4, 5], [0], [0, 7], [0, 1, 2, 3, 4, 5, 6, 7, 8], [0, 1, 2, 3, 4, 5, 6, 7, 8, 9]] 9 [.pointer (some ⟨pp, 0, none⟩), .int .i64 1, .pointer (some ⟨pp, 0, none⟩), .pointer (some ⟨pp, 2, none⟩), .pointer (some ⟨pp, 3, none⟩), .int .i64 c1, .int .i64 (IntKind.wrap .i64 (c1 + 1)), .pointer (some ⟨pp, 0, none⟩), .pointer (some ⟨pp, 2, none⟩)] [0, 1, 2, 3, 6, 7, 8] [4, 5] (by kernel_rfl) (by kernel_rfl) (by kernel_rfl) (by kernel_rfl) ?_ ?_
    ·intro w17 hs4
     replace hS := stepP_no hS hs4
     replace hrow := hrow.step hs4 (fun k hk1 hk2 hF => hF)
     replace hbk := BksW.no hbk hs4
     replace hrl := Nat.lt_of_lt_of_le hrl (hs4).size
     replace ho1 := ho1.no hs4
     replace hbb1 := hbb1.no hs4
     replace hbb2 := hbb2.no hs4
     replace hmk1 := hmk1.no hs4
     replace ho6 := ho6.no hs4
     exact ⟨Det1_index (d := 54) (b := pp) (o := 2) (len := 4) (sz := 1) (m := 1) (by kernel_rfl) (by kernel_rfl) 1 (by rfl) (by omega) 3 (by omega), Det1_load (d := 55) (t := 3) (a := ⟨pp, 3, none⟩) (by kernel_rfl) (by kernel_rfl) (Loads.own1 ho6 (by kernel_rfl) (by rfl)), trivial⟩
    intro w17 hs4
    replace hS := stepP_no hS hs4
    replace hrow := hrow.step hs4 (fun k hk1 hk2 hF => hF)
    replace hbk := BksW.no hbk hs4
    replace hrl := Nat.lt_of_lt_of_le hrl (hs4).size
    replace ho1 := ho1.no hs4
    replace hbb1 := hbb1.no hs4
    replace hbb2 := hbb2.no hs4
    replace hmk1 := hmk1.no hs4
    replace ho6 := ho6.no hs4
    refine VL_keep [7, 51, 56, 58] [(7, .int .i64 1), (51, .int .i64 1), (56, .int .i64 (IntKind.wrap .i64 (c1 + 1))), (58, .pointer (some ⟨pp, 2, none⟩))] (by kernel_rfl) ?_
    refine VL_index (d := 59) (b := pp) (o := 2) (len := 4) (sz := 1) (m := 1) (by kernel_rfl) (by kernel_rfl) 1 (by rfl) (by omega) 3 (by omega) ?_
    refine VL_store (b := pp) (o := 3) (vs := [.int .i64 (IntKind.wrap .i64 (c1 + 1))]) (by kernel_rfl) (by kernel_rfl) ho6 (Nat.le_of_ble_eq_true (by kernel_rfl)) ?_
    intro w18 hw5
    replace hS := Step.trans hS (Step.mono hw5.step (fun i hi => .inl hi))
    replace hrow := hrow.step hw5.step (fun k hk1 hk2 (hF : k = pp) => by omega)
    replace hbk := BksW.step hbk hw5.step (fun p hp hF => by have h9 := hbl _ p hp; have h8 := hbp _ p hp; have hF : p.2 = pp := hF; omega)
    replace hrl := Nat.lt_of_lt_of_le hrl (hw5.step).size
    replace ho1 := ho1.step hw5.step (show ¬ b1 = pp by omega)
    replace hbb1 := hbb1.step hw5.step (show ¬ bb1 = pp by omega)
    replace hbb2 := hbb2.step hw5.step (show ¬ bb2 = pp by omega)
    replace hmk1 := hmk1.step hw5.step (show ¬ w3.heap.size = pp by omega)
    have ho7 : Own w18 pp #[.bool a, .slice (some ⟨rb, 0, none⟩) l.length c, .int .i64 (IntKind.wrap .i64 (c0 + 1)), .int .i64 (IntKind.wrap .i64 (c1 + 1)), .int .i64 c2, .int .i64 c3] 103 := Own.cast hw5.own (by kernel_rfl)
    have hzhw5 := hw5.same
    refine VL_end (by kernel_rfl) ?_
    refine VQ_next ?_
    refine VC_seq ?_
    refine VC_region ?_
    refine VL_pure 2 [6] [(6, .int .i64 1)] (by kernel_rfl) rfl ?_
    refine VL_end (by kernel_rfl) ?_
    refine VQ_next ?_
    refine VC_ret ?_
    have hzk9 := hrl
    have hzl33 := ho1.lt
    have hzl34 := hbb1.lt
    have hzl35 := hbb2.lt
    have hzl36 := hmk1.lt
    have hzl37 := ho7.lt
    refine VQ_retM1 (.int .i64 1) [w3.heap.size] (.inr rfl) rfl rfl ⟨hmk1, (by simp), trivial⟩ ?_
    intro w19 hq2
    replace hq2 : Step (Just w3.heap.size) w18 w19 := Step.mono hq2 (fun i hi => by simpa using hi)
    replace hS := Step.transNew hS hq2 (fun i hi hF => by have hF9 : i = w3.heap.size := hF; omega)
    replace hrow := hrow.step hq2 (fun k hk1 hk2 (hF : k = w3.heap.size) => by omega)
    replace hbk := BksW.step hbk hq2 (fun p hp hF => by have h9 := hbl _ p hp; have h8 := hbp _ p hp; have hF : p.2 = w3.heap.size := hF; omega)
    replace hrl := Nat.lt_of_lt_of_le hrl (hq2).size
    replace ho1 := ho1.step hq2 (show ¬ b1 = w3.heap.size by omega)
    replace hbb1 := hbb1.step hq2 (show ¬ bb1 = w3.heap.size by omega)
    replace hbb2 := hbb2.step hq2 (show ¬ bb2 = w3.heap.size by omega)
    replace ho7 := ho7.step hq2 (show ¬ pp = w3.heap.size by omega)
    exact ⟨congrArg (Value.int .i64) (by rw [polV_of hv]; first | rfl | simp_all), ptake_done clp hX hI hv ho7 hrow hbk hS (.inr ⟨by decide, rfl, rfl⟩)⟩
  ·refine VL_pure 12 [0, 7, 40] [(0, .pointer (some ⟨pp, 0, none⟩)), (7, .int .i64 1), (40, .bool false)] (by kernel_rfl) rfl ?_
   refine VL_end (by kernel_rfl) ?_
   refine VQ_next ?_
   refine VC_false (by kernel_rfl) ?_
   refine VC_skip ?_
   refine VQ_next ?_
   refine VC_seq ?_
   refine VC_det [[], [0], [0, 1], [0, 1, 2], [0, 1, 2, 3], [0, 1, 2, 3, 4], [0], [0, 6], [0, 1, 2, 3, 4, 5, 6, 7], [0, 1, 2, 3, 4, 5, 6, 7, 8]] 8 [.pointer (some ⟨pp, 0, none⟩), .pointer (some ⟨pp, 0, none⟩), .pointer (some ⟨pp, 2, none⟩), .pointer (some ⟨pp, 2, none⟩), .int .i64 c0, .int .i64 (IntKind.wrap .i64 (c0 + 1)), .pointer (some ⟨pp, 0, none⟩), .pointer (some ⟨pp, 2, none⟩)] [0, 1, 2, 5, 6, 7] [3, 4] (by kernel_rfl) (by kernel_rfl) (by kernel_rfl) (by kernel_rfl) ?_ ?_
   ·intro w20 hs5
    replace hS := stepP_no hS hs5
    replace hpp := hpp.no hs5
    replace hrow := hrow.step hs5 (fun k hk1 hk2 hF => hF)
    replace hbk := BksW.no hbk hs5
    replace hrl := Nat.lt_of_lt_of_le hrl (hs5).size
    replace ho1 := ho1.no hs5
    replace hbb1 := hbb1.no hs5
    replace hbb2 := hbb2.no hs5
    replace hmk1 := hmk1.no hs5
    exact ⟨Det1_index (d := 44) (b := pp) (o := 2) (len := 4) (sz := 1) (m := 0) (by kernel_rfl) (by kernel_rfl) 0 (by rfl) (by omega) 2 (by omega), Det1_load (d := 45) (t := 3) (a := ⟨pp, 2, none⟩) (by kernel_rfl) (by kernel_rfl) (Loads.own1 hpp (by kernel_rfl) (by rfl)), trivial⟩
   intro w20 hs5
   replace hS := stepP_no hS hs5
   replace hpp := hpp.no hs5
   replace hrow := hrow.step hs5 (fun k hk1 hk2 hF => hF)
   replace hbk := BksW.no hbk hs5
   replace hrl := Nat.lt_of_lt_of_le hrl (hs5).size
   replace ho1 := ho1.no hs5
   replace hbb1 := hbb1.no hs5
   replace hbb2 := hbb2.no hs5
   replace hmk1 := hmk1.no hs5
   refine VL_keep [0, 7, 46, 48] [(0, .pointer (some ⟨pp, 0, none⟩)), (7, .int .i64 1), (46, .int .i64 (IntKind.wrap .i64 (c0 + 1))), (48, .pointer (some ⟨pp, 2, none⟩))] (by kernel_rfl) ?_
   refine VL_index (d := 49) (b := pp) (o := 2) (len := 4) (sz := 1) (m := 0) (by kernel_rfl) (by kernel_rfl) 0 (by rfl) (by omega) 2 (by omega) ?_
   refine VL_store (b := pp) (o := 2) (vs := [.int .i64 (IntKind.wrap .i64 (c0 + 1))]) (by kernel_rfl) (by kernel_rfl) hpp (Nat.le_of_ble_eq_true (by kernel_rfl)) ?_
   intro w21 hw6
   replace hS := Step.trans hS (Step.mono hw6.step (fun i hi => .inl hi))
   replace hrow := hrow.step hw6.step (fun k hk1 hk2 (hF : k = pp) => by omega)
   replace hbk := BksW.step hbk hw6.step (fun p hp hF => by have h9 := hbl _ p hp; have h8 := hbp _ p hp; have hF : p.2 = pp := hF; omega)
   replace hrl := Nat.lt_of_lt_of_le hrl (hw6.step).size
   replace ho1 := ho1.step hw6.step (show ¬ b1 = pp by omega)
   replace hbb1 := hbb1.step hw6.step (show ¬ bb1 = pp by omega)
   replace hbb2 := hbb2.step hw6.step (show ¬ bb2 = pp by omega)
   replace hmk1 := hmk1.step hw6.step (show ¬ w3.heap.size = pp by omega)
   have ho8 : Own w21 pp #[.bool a, .slice (some ⟨rb, 0, none⟩) l.length c, .int .i64 (IntKind.wrap .i64 (c0 + 1)), .int .i64 c1, .int .i64 c2, .int .i64 c3] 103 := Own.cast hw6.own (by kernel_rfl)
   have hzhw6 := hw6.same
   refine VL_end (by kernel_rfl) ?_
   refine VQ_next ?_
   refine VC_seq ?_
   refine VC_det [[], [], [0], [0, 2], [0, 1, 2, 3], [0, 1, 2, 3, 4], [0, 1, 2, 3, 4, 5], [0], [0, 7], [0, 1, 2, 3, 4, 5, 6, 7, 8], [0, 1, 2, 3, 4, 5, 6, 7, 8, 9]] 9 [.pointer (some ⟨pp, 0, none⟩), .int .i64 1, .pointer (some ⟨pp, 0, none⟩), .pointer (some ⟨pp, 2, none⟩), .pointer (some ⟨pp, 3, none⟩), .int .i64 c1, .int .i64 (IntKind.wrap .i64 (c1 + 1)), .pointer (some ⟨pp, 0, none⟩), .pointer (some ⟨pp, 2, none⟩)] [0, 1, 2, 3, 6, 7, 8] [4, 5] (by kernel_rfl) (by kernel_rfl) (by kernel_rfl) (by kernel_rfl) ?_ ?_
   ·intro w22 hs6
    replace hS := stepP_no hS hs6
    replace hrow := hrow.step hs6 (fun k hk1 hk2 hF => hF)
    replace hbk := BksW.no hbk hs6
    replace hrl := Nat.lt_of_lt_of_le hrl (hs6).size
    replace ho1 := ho1.no hs6
    replace hbb1 := hbb1.no hs6
    replace hbb2 := hbb2.no hs6
    replace hmk1 := hmk1.no hs6
    replace ho8 := ho8.no hs6
    exact ⟨Det1_index (d := 54) (b := pp) (o := 2) (len := 4) (sz := 1) (m := 1) (by kernel_rfl) (by kernel_rfl) 1 (by rfl) (by omega) 3 (by omega), Det1_load (d := 55) (t := 3) (a := ⟨pp, 3, none⟩) (by kernel_rfl) (by kernel_rfl) (Loads.own1 ho8 (by kernel_rfl) (by rfl)), trivial⟩
   intro w22 hs6
   replace hS := stepP_no hS hs6
   replace hrow := hrow.step hs6 (fun k hk1 hk2 hF => hF)
   replace hbk := BksW.no hbk hs6
   replace hrl := Nat.lt_of_lt_of_le hrl (hs6).size
   replace ho1 := ho1.no hs6
   replace hbb1 := hbb1.no hs6
   replace hbb2 := hbb2.no hs6
   replace hmk1 := hmk1.no hs6
   replace ho8 := ho8.no hs6
   refine VL_keep [7, 51, 56, 58] [(7, .int .i64 1), (51, .int .i64 1), (56, .int .i64 (IntKind.wrap .i64 (c1 + 1))), (58, .pointer (some ⟨pp, 2, none⟩))] (by kernel_rfl) ?_
   refine VL_index (d := 59) (b := pp) (o := 2) (len := 4) (sz := 1) (m := 1) (by kernel_rfl) (by kernel_rfl) 1 (by rfl) (by omega) 3 (by omega) ?_
   refine VL_store (b := pp) (o := 3) (vs := [.int .i64 (IntKind.wrap .i64 (c1 + 1))]) (by kernel_rfl) (by kernel_rfl) ho8 (Nat.le_of_ble_eq_true (by kernel_rfl)) ?_
   intro w23 hw7
   replace hS := Step.trans hS (Step.mono hw7.step (fun i hi => .inl hi))
   replace hrow := hrow.step hw7.step (fun k hk1 hk2 (hF : k = pp) => by omega)
   replace hbk := BksW.step hbk hw7.step (fun p hp hF => by have h9 := hbl _ p hp; have h8 := hbp _ p hp; have hF : p.2 = pp := hF; omega)
   replace hrl := Nat.lt_of_lt_of_le hrl (hw7.step).size
   replace ho1 := ho1.step hw7.step (show ¬ b1 = pp by omega)
   replace hbb1 := hbb1.step hw7.step (show ¬ bb1 = pp by omega)
   replace hbb2 := hbb2.step hw7.step (show ¬ bb2 = pp by omega)
   replace hmk1 := hmk1.step hw7.step (show ¬ w3.heap.size = pp by omega)
   have ho9 : Own w23 pp #[.bool a, .slice (some ⟨rb, 0, none⟩) l.length c, .int .i64 (IntKind.wrap .i64 (c0 + 1)), .int .i64 (IntKind.wrap .i64 (c1 + 1)), .int .i64 c2, .int .i64 c3] 103 := Own.cast hw7.own (by kernel_rfl)
   have hzhw7 := hw7.same
   refine VL_end (by kernel_rfl) ?_
   refine VQ_next ?_
   refine VC_seq ?_
   refine VC_region ?_
   refine VL_pure 2 [6] [(6, .int .i64 1)] (by kernel_rfl) rfl ?_
   refine VL_end (by kernel_rfl) ?_
   refine VQ_next ?_
   refine VC_ret ?_
   have hzk10 := hrl
   have hzl38 := ho1.lt
   have hzl39 := hbb1.lt
   have hzl40 := hbb2.lt
   have hzl41 := hmk1.lt
   have hzl42 := ho9.lt
   refine VQ_retM1 (.int .i64 1) [w3.heap.size] (.inr rfl) rfl rfl ⟨hmk1, (by simp), trivial⟩ ?_
   intro w24 hq3
   replace hq3 : Step (Just w3.heap.size) w23 w24 := Step.mono hq3 (fun i hi => by simpa using hi)
   replace hS := Step.transNew hS hq3 (fun i hi hF => by have hF9 : i = w3.heap.size := hF; omega)
   replace hrow := hrow.step hq3 (fun k hk1 hk2 (hF : k = w3.heap.size) => by omega)
   replace hbk := BksW.step hbk hq3 (fun p hp hF => by have h9 := hbl _ p hp; have h8 := hbp _ p hp; have hF : p.2 = w3.heap.size := hF; omega)
   replace hrl := Nat.lt_of_lt_of_le hrl (hq3).size
   replace ho1 := ho1.step hq3 (show ¬ b1 = w3.heap.size by omega)
   replace hbb1 := hbb1.step hq3 (show ¬ bb1 = w3.heap.size by omega)
   replace hbb2 := hbb2.step hq3 (show ¬ bb2 = w3.heap.size by omega)
   replace ho9 := ho9.step hq3 (show ¬ pp = w3.heap.size by omega)
   exact ⟨congrArg (Value.int .i64) (by rw [polV_of hv]; first | rfl | simp_all), ptake_done clp hX hI hv ho9 hrow hbk hS (.inr ⟨by decide, rfl, rfl⟩)⟩
 ·intro e W _ hF _; exact hF.elim

set_option maxRecDepth 100000 in
set_option maxHeartbeats 4000000 in
theorem ptake_2 (pp rb c : Nat) (Y : Nat → Prop) (a : Bool) (c0 c1 c2 c3 t clp : Int) (l : List Rb) (w : World) (hX : PlX w pp Y a l rb c c0 c1 c2 c3) (hI : RlsI (l.map (·.1))) (hv : verdR t clp (l.map (·.1)) = 2) :
  CV Try.prog 41 #[.pointer (some ⟨pp, 0, none⟩), .int .i64 t, .int .i64 clp] w (fun x w1 => x = .int .i64 (polV a t clp (l.map (·.1))) ∧ Pl w1 pp Y a (rulesT t clp (l.map (·.1))) ∧ Step Y w w1) := by
 have hpp : Own w pp (polArr a rb l.length c c0 c1 c2 c3) 103 := hX.own
 have hrow := hX.row.sl
 have hbk : BksW w (takeK t 1 (0) l) := by rw [takeK_zero]; exact hX.bks
 have hrl := hX.row.lt
 have hbl0 := hX.bks.lt
 have hin : ∀ k (p : Rb), p ∈ takeK t 1 k l → ∃ q ∈ l, q.2 = p.2 := fun k p hp => List.mem_map.1 (by rw [← takeK_snd t 1 l k]; exact List.mem_map_of_mem hp)
 have hbl : ∀ k (p : Rb), p ∈ takeK t 1 k l → p.2 < w.heap.size := fun k p hp => by obtain ⟨q, hq, h8⟩ := hin k p hp; have h7 := hbl0 q hq; omega
 have hbp : ∀ k (p : Rb), p ∈ takeK t 1 k l → p.2 ≠ pp := fun k p hp => by obtain ⟨q, hq, h8⟩ := hin k p hp; have h7 := (hX.ne_b q hq).1; omega
 have hpl := hpp.lt
 have hnrp := hX.ne_row
 have hlen : l.length < 1152921504606846976 := by have h9 := hI.1; rw [List.length_map] at h9; omega
 have hbi : ∀ y ∈ l, BkI y.1.b := fun y hy => hI.2 _ (List.mem_map_of_mem hy)
 have hS : Step (polF pp l) w w := Step.refl _ _
 have hSn : Step No w w := Step.refl _ _
 refine CV_enterM Try.f41 _ 61 [(0, .pointer (some ⟨pp, 0, none⟩)), (1, .int .i64 t), (2, .int .i64 clp)] Try.func41 rfl rfl (by kernel_rfl) rfl ?_
 refine VC_seq ?_
 refine VC_region ?_
 have hzs1 := hSn.size
 have hzl1 := hpp.lt
 have hzk1 := hrl
 refine VL_box (d := 4) (t := 3) (c := #[.int .i64 t]) (by kernel_rfl) (by kernel_rfl) ?_
 intro b1 w1 hn1
 replace hSn := Step.trans hSn (hn1.step No)
 replace hS := stepP_no hS (hn1.step No)
 replace hpp := hpp.no (hn1.step No)
 replace hrow := hrow.step (hn1.step No) (fun k hk1 hk2 hF => hF)
 replace hbk := BksW.no hbk (hn1.step No)
 replace hrl := Nat.lt_of_lt_of_le hrl (hn1.step No).size
 have ho1 := hn1.own
 have hzhn1 := hn1.size
 have hqhn1 := hn1.eqb
 refine VL_pure 2 [0, 2, 4, 6] [(0, .pointer (some ⟨pp, 0, none⟩)), (2, .int .i64 clp), (4, .pointer (some ⟨b1, 0, none⟩)), (6, .int .i64 0)] (by kernel_rfl) rfl ?_
 refine VL_end (by kernel_rfl) ?_
 refine VQ_next ?_
 refine VC_seq ?_
 refine VC_seq ?_
 refine VC_region ?_
 refine VL_pure 2 [0, 2, 4, 6, 11] [(0, .pointer (some ⟨pp, 0, none⟩)), (2, .int .i64 clp), (4, .pointer (some ⟨b1, 0, none⟩)), (6, .int .i64 0), (11, .bool false)] (by kernel_rfl) rfl ?_
 refine VL_end (by kernel_rfl) ?_
 refine VQ_next ?_
 refine VC_false (by kernel_rfl) ?_
 refine VC_skip ?_
 refine VQ_next ?_
 refine VC_seq ?_
 refine VC_region ?_
 refine VL_pure 1 [0, 2, 4, 6, 12] [(0, .pointer (some ⟨pp, 0, none⟩)), (2, .int .i64 clp), (4, .pointer (some ⟨b1, 0, none⟩)), (6, .int .i64 0), (12, .pointer (some ⟨pp, 0, none⟩))] (by kernel_rfl) rfl ?_
 refine VL_load (d := 13) (t := 3) (a := ⟨b1, 0, none⟩) (v := .int .i64 t) (by kernel_rfl) (by kernel_rfl) (Loads.own1 ho1 (by kernel_rfl) (by rfl)) ?_
 refine VL_pure 3 [0, 2, 4, 6, 12, 13, 14] [(0, .pointer (some ⟨pp, 0, none⟩)), (2, .int .i64 clp), (4, .pointer (some ⟨b1, 0, none⟩)), (6, .int .i64 0), (12, .pointer (some ⟨pp, 0, none⟩)), (13, .int .i64 t), (14, .int .i64 clp)] (by kernel_rfl) rfl ?_
 have hzs2 := hSn.size
 have hzl2 := hpp.lt
 have hzl3 := ho1.lt
 refine VL_call (d := 15) (f := 50) (args := #[.pointer (some ⟨pp, 0, none⟩), .int .i64 t, .int .i64 clp]) (by kernel_rfl) (by kernel_rfl) (by kernel_rfl) Try.call50 ((verdict_any pp rb c Y a c0 c1 c2 c3 t clp l _ (hX.step hSn (fun _ _ h9 => h9)) hI).mono (fun x w1 h9 => ⟨h9.1.trans (by rw [hv]), h9.2⟩ : ∀ x w1, _ → x = .int .i64 2 ∧ Step No _ w1)) ?_
 rintro _ w2 ⟨rfl, hc1⟩
 replace hS := stepP_no hS hc1
 replace hpp := hpp.no hc1
 replace hrow := hrow.step hc1 (fun k hk1 hk2 hF => hF)
 replace hbk := BksW.no hbk hc1
 replace hrl := Nat.lt_of_lt_of_le hrl (hc1).size
 replace ho1 := ho1.no hc1
 refine VL_pure 5 [0, 2, 4, 6, 7] [(0, .pointer (some ⟨pp, 0, none⟩)), (2, .int .i64 clp), (4, .pointer (some ⟨b1, 0, none⟩)), (6, .int .i64 0), (7, .int .i64 2)] (by kernel_rfl) rfl ?_
 refine VL_end (by kernel_rfl) ?_
 refine VQ_next ?_
 refine VC_seq ?_
 refine VC_region ?_
 refine VL_pure 2 [0, 2, 4, 6, 7, 8] [(0, .pointer (some ⟨pp, 0, none⟩)), (2, .int .i64 clp), (4, .pointer (some ⟨b1, 0, none⟩)), (6, .int .i64 0), (7, .int .i64 2), (8, .int .i64 clp)] (by kernel_rfl) rfl ?_
 refine VL_end (by kernel_rfl) ?_
 refine VQ_next ?_
 refine VC_seq ?_
 refine VC_seq ?_
 refine VC_region ?_
 refine VL_pure 2 [0, 2, 4, 6, 7, 8, 18] [(0, .pointer (some ⟨pp, 0, none⟩)), (2, .int .i64 clp), (4, .pointer (some ⟨b1, 0, none⟩)), (6, .int .i64 0), (7, .int .i64 2), (8, .int .i64 clp), (18, .bool true)] (by kernel_rfl) rfl ?_
 refine VL_end (by kernel_rfl) ?_
 refine VQ_next ?_
 refine VC_true (by kernel_rfl) ?_
 refine VC_region ?_
 refine VL_pure 1 [0, 2, 4, 6, 7, 8] [(0, .pointer (some ⟨pp, 0, none⟩)), (2, .int .i64 clp), (4, .pointer (some ⟨b1, 0, none⟩)), (6, .int .i64 0), (7, .int .i64 2), (8, .int .i64 1)] (by kernel_rfl) rfl ?_
 refine VL_end (by kernel_rfl) ?_
 refine VQ_next ?_
 refine VC_seq ?_
 refine VC_seq ?_
 refine VC_region ?_
 refine VL_pure 2 [0, 2, 4, 6, 7, 8, 20] [(0, .pointer (some ⟨pp, 0, none⟩)), (2, .int .i64 clp), (4, .pointer (some ⟨b1, 0, none⟩)), (6, .int .i64 0), (7, .int .i64 2), (8, .int .i64 1), (20, .bool true)] (by kernel_rfl) rfl ?_
 refine VL_end (by kernel_rfl) ?_
 refine VQ_next ?_
 refine VC_true (by kernel_rfl) ?_
 refine VC_seq ?_
 refine VC_region ?_
 refine VL_pure 2 [0, 2, 4, 6, 7, 21, 22] [(0, .pointer (some ⟨pp, 0, none⟩)), (2, .int .i64 clp), (4, .pointer (some ⟨b1, 0, none⟩)), (6, .int .i64 0), (7, .int .i64 2), (21, .pointer (some ⟨pp, 0, none⟩)), (22, .int .i64 1)] (by kernel_rfl) rfl ?_
 have hzl4 := hpp.lt
 have hzl5 := ho1.lt
 refine VL_call (d := 23) (f := 51) (args := #[.pointer (some ⟨pp, 0, none⟩), .int .i64 1]) (by kernel_rfl) (by kernel_rfl) (by kernel_rfl) Try.call51 (asked_any pp 1 _) ?_
 rintro _ w3 ⟨bb1, bb2, rfl, hgbb1, hgbb2, hbb1, hbb2, hc2⟩
 replace hS := stepP_no hS hc2
 replace hpp := hpp.no hc2
 replace hrow := hrow.step hc2 (fun k hk1 hk2 hF => hF)
 replace hbk := BksW.no hbk hc2
 replace hrl := Nat.lt_of_lt_of_le hrl (hc2).size
 replace ho1 := ho1.no hc2
 have hzhbb1 := hbb1.lt
 have hzhbb2 := hbb2.lt
 refine VL_end (by kernel_rfl) ?_
 refine VQ_next ?_
 refine VC_block ?_
 have hzl6 := hpp.lt
 have hzk2 := hrl
 have hzl7 := ho1.lt
 have hzl8 := hbb1.lt
 have hzl9 := hbb2.lt
 have hzl10 := hpp.lt
 have hzk3 := hrl
 have hzl11 := ho1.lt
 have hzl12 := hbb1.lt
 have hzl13 := hbb2.lt
 refine VC_range (gf := 60) (lb := #[.pointer (some ⟨bb1, 0, none⟩), .pointer (some ⟨bb2, 0, none⟩)]) (xs := (askV 1 l)) (by kernel_rfl) Try.call60 (asked_iter bb1 bb2 pp rb c a 1 c0 c1 c2 c3 l hlen) (fun a ha => askV_sz _ _ a ha) (by kernel_rfl) (fun M i => ∃ p ∈ l, i = p.2) (fun M i ⟨p, hp, hi⟩ => by have h9 := hbl0 p hp; omega) (fun M k W => (Step (polF pp l) w W) ∧ (Own W pp #[.bool a, .slice (some ⟨rb, 0, none⟩) l.length c, .int .i64 c0, .int .i64 c1, .int .i64 c2, .int .i64 c3] 103) ∧ (Sl2 W rb (rb + 1) (some ⟨rb, 0, none⟩) (flat rlc l)) ∧ (BksW W (takeK t 1 (k) l)) ∧ (rb < W.heap.size) ∧ (Own W b1 #[.int .i64 t] 3) ∧ (Own W bb1 #[.pointer (some ⟨pp, 0, none⟩)] 65) ∧ (Own W bb2 #[.int .i64 1] 3)) (fun e W => False) (by rintro M k W W' ⟨hS, hpp, hrow, hbk, hrl, ho1, hbb1, hbb2⟩ hs; exact ⟨Step.transNew hS hs (fun i hi hF => by have hF9 : i = (w3.heap.size + 1) := hF; omega), hpp.step hs (show ¬ pp = (w3.heap.size + 1) by omega), hrow.step hs (fun k hk1 hk2 (hF : k = (w3.heap.size + 1)) => by omega), BksW.step hbk hs (fun p hp hF => by have h9 := hbl _ p hp; have h8 := hbp _ p hp; have hF : p.2 = (w3.heap.size + 1) := hF; omega), Nat.lt_of_lt_of_le hrl hs.size, ho1.step hs (show ¬ b1 = (w3.heap.size + 1) by omega), hbb1.step hs (show ¬ bb1 = (w3.heap.size + 1) by omega), hbb2.step hs (show ¬ bb2 = (w3.heap.size + 1) by omega)⟩) (by rintro e W W' h; exact h.elim) (by rintro M k W W' ⟨hS, hpp, hrow, hbk, hrl, ho1, hbb1, hbb2⟩ hs; exact ⟨(stepP_no hS hs), hpp.no hs, hrow.step hs (fun _ _ _ h9 => h9), (BksW.no hbk hs), Nat.lt_of_lt_of_le hrl hs.size, ho1.no hs, hbb1.no hs, hbb2.no hs⟩) (by rintro e W W' h; exact h.elim) (by rintro M k W ⟨hS, hpp, hrow, hbk, hrl, ho1, hbb1, hbb2⟩; exact ⟨⟨hbb1, hbb2, hpp, hrow⟩, hrl⟩) (fun W hs => ⟨⟨hbb1.no hs, hbb2.no hs, hpp.no hs, hrow.step hs (fun _ _ _ h9 => h9)⟩, Nat.lt_of_lt_of_le hrl hs.size⟩) (fun M W hMm hM2 hs _ => ⟨(stepP_no hS hs), hpp.no hs, hrow.step hs (fun _ _ _ h9 => h9), (BksW.no hbk hs), Nat.lt_of_lt_of_le hrl hs.size, ho1.no hs, hbb1.no hs, hbb2.no hs⟩) ?_ ?_ ?_
 ·intro M k w4 args hM hM2 hx hJ0 hsz
  obtain ⟨hS, hpp, hrow, hbk, hrl, ho1, hbb1, hbb2⟩ := hJ0
  obtain ⟨y, hy, hym, rfl⟩ := askV_mem hx
  have hyl := hbl0 y hym
  have hyn := hX.ne_b y hym
  have hAs : Step No w4 w4 := Step.refl _ _
  have hML : M ≤ w4.heap.size := hM2
  refine VC_keep [4, 24] [(4, .pointer (some ⟨b1, 0, none⟩)), (24, .agg #[.int .i64 y.1.step, .int .i64 y.1.early, .bool y.1.zero, .bool y.1.tag, .iface 111 (.pointer (some ⟨y.2, 0, none⟩))])] (by kernel_rfl) ?_
  refine VC_region ?_
  have hzl14 := hpp.lt
  have hzk4 := hrl
  have hzl15 := ho1.lt
  have hzl16 := hbb1.lt
  have hzl17 := hbb2.lt
  have hzk5 := hML
  have hzs3 := hAs.size
  refine VL_box (d := 9) (t := 98) (c := #[.int .i64 0, .int .i64 0, .bool false, .bool false, .nilIface]) (by kernel_rfl) (by kernel_rfl) ?_
  intro b2 w5 hn2
  replace hS := stepP_no hS (hn2.step No)
  replace hpp := hpp.no (hn2.step No)
  replace hrow := hrow.step (hn2.step No) (fun k hk1 hk2 hF => hF)
  replace hbk := BksW.no hbk (hn2.step No)
  replace hrl := Nat.lt_of_lt_of_le hrl (hn2.step No).size
  replace ho1 := ho1.no (hn2.step No)
  replace hbb1 := hbb1.no (hn2.step No)
  replace hbb2 := hbb2.no (hn2.step No)
  replace hML := Nat.le_trans hML (hn2.step No).size
  replace hAs := Step.trans hAs (hn2.step No)
  have ho2 := hn2.own
  have hzhn2 := hn2.size
  have hqhn2 := hn2.eqb
  refine VL_store (b := b2) (o := 0) (vs := [.int .i64 y.1.step, .int .i64 y.1.early, .bool y.1.zero, .bool y.1.tag, .iface 111 (.pointer (some ⟨y.2, 0, none⟩))]) (by kernel_rfl) (by kernel_rfl) ho2 (Nat.le_of_ble_eq_true (by kernel_rfl)) ?_
  intro w6 hw1
  replace hS := Step.transNew hS hw1.step (fun i hi hF => by have hF9 : i = b2 := hF; omega)
  replace hpp := hpp.step hw1.step (show ¬ pp = b2 by omega)
  replace hrow := hrow.step hw1.step (fun k hk1 hk2 (hF : k = b2) => by omega)
  replace hbk := BksW.step hbk hw1.step (fun p hp hF => by have h9 := hbl _ p hp; have h8 := hbp _ p hp; have hF : p.2 = b2 := hF; omega)
  replace hrl := Nat.lt_of_lt_of_le hrl (hw1.step).size
  replace ho1 := ho1.step hw1.step (show ¬ b1 = b2 by omega)
  replace hbb1 := hbb1.step hw1.step (show ¬ bb1 = b2 by omega)
  replace hbb2 := hbb2.step hw1.step (show ¬ bb2 = b2 by omega)
  replace hML := Nat.le_trans hML (hw1.step).size
  replace hAs := Step.transNew hAs hw1.step (fun _ _ _ => by omega)
  have ho3 : Own w6 b2 #[.int .i64 y.1.step, .int .i64 y.1.early, .bool y.1.zero, .bool y.1.tag, .iface 111 (.pointer (some ⟨y.2, 0, none⟩))] 98 := Own.cast hw1.own (by kernel_rfl)
  have hzhw1 := hw1.same
  refine VL_end (by kernel_rfl) ?_
  refine VQ_begin hAs ?_
  intro w7 hb1 hzhb1
  have hzl18 := hpp.lt
  have hzk6 := hrl
  have hzl19 := ho1.lt
  have hzl20 := hbb1.lt
  have hzl21 := hbb2.lt
  have hzk7 := hML
  have hzl22 := ho3.lt
  replace hS := Step.transNew hS hb1 (fun i hi hF => by have hF9 : i = (w3.heap.size + 1) := hF; omega)
  replace hpp := hpp.step hb1 (show ¬ pp = (w3.heap.size + 1) by omega)
  replace hrow := hrow.step hb1 (fun k hk1 hk2 (hF : k = (w3.heap.size + 1)) => by omega)
  replace hbk := BksW.step hbk hb1 (fun p hp hF => by have h9 := hbl _ p hp; have h8 := hbp _ p hp; have hF : p.2 = (w3.heap.size + 1) := hF; omega)
  replace hrl := Nat.lt_of_lt_of_le hrl (hb1).size
  replace ho1 := ho1.step hb1 (show ¬ b1 = (w3.heap.size + 1) by omega)
  replace hbb1 := hbb1.step hb1 (show ¬ bb1 = (w3.heap.size + 1) by omega)
  replace hbb2 := hbb2.step hb1 (show ¬ bb2 = (w3.heap.size + 1) by omega)
  replace hML := Nat.le_trans hML (hb1).size
  replace ho3 := ho3.step hb1 (show ¬ b2 = (w3.heap.size + 1) by omega)
  have hR1 : Step ((fun M i => ∃ p ∈ l, i = p.2) M) w7 w7 := Step.refl _ _
  refine VC_block ?_
  refine VC_region ?_
  refine VL_pure 1 [4, 25] [(4, .pointer (some ⟨b1, 0, none⟩)), (25, .pointer (some ⟨b2, 4, none⟩))] (by kernel_rfl) rfl ?_
  refine VL_load (d := 26) (t := 96) (a := ⟨b2, 4, none⟩) (v := .iface 111 (.pointer (some ⟨y.2, 0, none⟩))) (by kernel_rfl) (by kernel_rfl) (Loads.own1 ho3 (by kernel_rfl) (by rfl)) ?_
  refine VL_load (d := 27) (t := 3) (a := ⟨b1, 0, none⟩) (v := .int .i64 t) (by kernel_rfl) (by kernel_rfl) (Loads.own1 ho1 (by kernel_rfl) (by rfl)) ?_
  have hzl23 := hpp.lt
  have hzl24 := ho1.lt
  have hzl25 := hbb1.lt
  have hzl26 := hbb2.lt
  have hzl27 := ho3.lt
  have hzs4 := hR1.size
  refine VL_invoke (d := 28) (f := 97) (args := #[.pointer (some ⟨y.2, 0, none⟩), .int .i64 t]) (by kernel_rfl) (by kernel_rfl) Try.call97 (btake_any y.2 y.1.b t _ (hbi _ hym) (hbk _ (takeK_mem t 1 l k y hy))) ?_
  rintro _ w8 ⟨rfl, hbo, hc3⟩
  replace hS := Step.trans hS (Step.mono hc3 (fun i hi => .inr ⟨y, hym, hi⟩))
  replace hpp := hpp.step hc3 (show ¬ pp = y.2 by omega)
  replace hrow := hrow.step hc3 (fun k hk1 hk2 (hF : k = y.2) => by omega)
  replace hrl := Nat.lt_of_lt_of_le hrl (hc3).size
  replace ho1 := ho1.step hc3 (show ¬ b1 = y.2 by omega)
  replace hbb1 := hbb1.step hc3 (show ¬ bb1 = y.2 by omega)
  replace hbb2 := hbb2.step hc3 (show ¬ bb2 = y.2 by omega)
  replace hML := Nat.le_trans hML (hc3).size
  replace ho3 := ho3.step hc3 (show ¬ b2 = y.2 by omega)
  replace hR1 := Step.trans hR1 (Step.mono hc3 (by intro i hi; first | exact hi | exact ⟨_, by assumption, hi⟩ | (have hi9 : i = y.2 := hi; (first | show _ ∨ _ | show _ = _); omega)))
  have hbk2 := BksW.take hbk hX.nodup hy hbo hc3
  refine VL_end (by kernel_rfl) ?_
  refine VQ_block_normal ?_
  exact VQ_round_end hR1 ⟨hS, hpp, hrow, hbk2, hrl, ho1, hbb1, hbb2⟩
 ·intro M w9 hM hzM hJ0 hD
  rw [askV_lenL] at hJ0
  obtain ⟨hS, hpp, hrow, hbk, hrl, ho1, hbb1, hbb2⟩ := hJ0
  have hmk1 := hD
  refine VQ_block_normal ?_
  refine VQ_next ?_
  refine VC_seq ?_
  refine VC_seq ?_
  refine VC_region ?_
  refine VL_pure 12 [0, 7, 40] [(0, .pointer (some ⟨pp, 0, none⟩)), (7, .int .i64 2), (40, .bool false)] (by kernel_rfl) rfl ?_
  refine VL_end (by kernel_rfl) ?_
  refine VQ_next ?_
  refine VC_false (by kernel_rfl) ?_
  refine VC_skip ?_
  refine VQ_next ?_
  refine VC_seq ?_
  refine VC_det [[], [0], [0, 1], [0, 1, 2], [0, 1, 2, 3], [0, 1, 2, 3, 4], [0], [0, 6], [0, 1, 2, 3, 4, 5, 6, 7], [0, 1, 2, 3, 4, 5, 6, 7, 8]] 8 [.pointer (some ⟨pp, 0, none⟩), .pointer (some ⟨pp, 0, none⟩), .pointer (some ⟨pp, 2, none⟩), .pointer (some ⟨pp, 2, none⟩), .int .i64 c0, .int .i64 (IntKind.wrap .i64 (c0 + 1)), .pointer (some ⟨pp, 0, none⟩), .pointer (some ⟨pp, 2, none⟩)] [0, 1, 2, 5, 6, 7] [3, 4] (by kernel_rfl) (by kernel_rfl) (by kernel_rfl) (by kernel_rfl) ?_ ?_
  ·intro w10 hs1
   replace hS := stepP_no hS hs1
   replace hpp := hpp.no hs1
   replace hrow := hrow.step hs1 (fun k hk1 hk2 hF => hF)
   replace hbk := BksW.no hbk hs1
   replace hrl := Nat.lt_of_lt_of_le hrl (hs1).size
   replace ho1 := ho1.no hs1
   replace hbb1 := hbb1.no hs1
   replace hbb2 := hbb2.no hs1
   replace hmk1 := hmk1.no hs1
   exact ⟨Det1_index (d := 44) (b := pp) (o := 2) (len := 4) (sz := 1) (m := 0) (by kernel_rfl) (by kernel_rfl) 0 (by rfl) (by omega) 2 (by omega), Det1_load (d := 45) (t := 3) (a := ⟨pp, 2, none⟩) (by kernel_rfl) (by kernel_rfl) (Loads.own1 hpp (by kernel_rfl) (by rfl)), trivial⟩
  intro w10 hs1
  replace hS := stepP_no hS hs1
  replace hpp := hpp.no hs1
  replace hrow := hrow.step hs1 (fun k hk1 hk2 hF => hF)
  replace hbk := BksW.no hbk hs1
  replace hrl := Nat.lt_of_lt_of_le hrl (hs1).size
  replace ho1 := ho1.no hs1
  replace hbb1 := hbb1.no hs1
  replace hbb2 := hbb2.no hs1
  replace hmk1 := hmk1.no hs1
  refine VL_keep [0, 7, 46, 48] [(0, .pointer (some ⟨pp, 0, none⟩)), (7, .int .i64 2), (46, .int .i64 (IntKind.wrap .i64 (c0 + 1))), (48, .pointer (some ⟨pp, 2, none⟩))] (by kernel_rfl) ?_
  refine VL_index (d := 49) (b := pp) (o := 2) (len := 4) (sz := 1) (m := 0) (by kernel_rfl) (by kernel_rfl) 0 (by rfl) (by omega) 2 (by omega) ?_
  refine VL_store (b := pp) (o := 2) (vs := [.int .i64 (IntKind.wrap .i64 (c0 + 1))]) (by kernel_rfl) (by kernel_rfl) hpp (Nat.le_of_ble_eq_true (by kernel_rfl)) ?_
  intro w11 hw2
  replace hS := Step.trans hS (Step.mono hw2.step (fun i hi => .inl hi))
  replace hrow := hrow.step hw2.step (fun k hk1 hk2 (hF : k = pp) => by omega)
  replace hbk := BksW.step hbk hw2.step (fun p hp hF => by have h9 := hbl _ p hp; have h8 := hbp _ p hp; have hF : p.2 = pp := hF; omega)
  replace hrl := Nat.lt_of_lt_of_le hrl (hw2.step).size
  replace ho1 := ho1.step hw2.step (show ¬ b1 = pp by omega)
  replace hbb1 := hbb1.step hw2.step (show ¬ bb1 = pp by omega)
  replace hbb2 := hbb2.step hw2.step (show ¬ bb2 = pp by omega)
  replace hmk1 := hmk1.step hw2.step (show ¬ w3.heap.size = pp by omega)
  have ho4 : Own w11 pp #[.bool a, .slice (some ⟨rb, 0, none⟩) l.length c, .int .i64 (IntKind.wrap .i64 (c0 + 1)), .int .i64 c1, .int .i64 c2, .int .i64 c3] 103 := Own.cast hw2.own (by kernel_rfl)
  have hzhw2 := hw2.same
  refine VL_end (by kernel_rfl) ?_
  refine VQ_next ?_
  refine VC_seq ?_
  refine VC_det [[], [], [0], [0, 2], [0, 1, 2, 3], [0, 1, 2, 3, 4], [0, 1, 2, 3, 4, 5], [0], [0, 7], [0, 1, 2, 3, 4, 5, 6, 7, 8], [0, 1, 2, 3, 4, 5, 6, 7, 8, 9]] 9 [.pointer (some ⟨pp, 0, none⟩), .int .i64 2, .pointer (some ⟨pp, 0, none⟩), .pointer (some ⟨pp, 2, none⟩), .pointer (some ⟨pp, 4, none⟩), .int .i64 c2, .int .i64 (IntKind.wrap .i64 (c2 + 1)), .pointer (some ⟨pp, 0, none⟩), .pointer (some ⟨pp, 2, none⟩)] [0, 1, 2, 3, 6, 7, 8] [4, 5] (by kernel_rfl) (by kernel_rfl) (by kernel_rfl) (by kernel_rfl) ?_ ?_
  ·intro w12 hs2
   replace hS := stepP_no hS hs2
   replace hrow := hrow.step hs2 (fun k hk1 hk2 hF => hF)
   replace hbk := BksW.no hbk hs2
   replace hrl := Nat.lt_of_lt_of_le hrl (hs2).size
   replace ho1 := ho1.no hs2
   replace hbb1 := hbb1.no hs2
   replace hbb2 := hbb2.no hs2
   replace hmk1 := hmk1.no hs2
   replace ho4 := ho4.no hs2
   exact ⟨Det1_index (d := 54) (b := pp) (o := 2) (len := 4) (sz := 1) (m := 2) (by kernel_rfl) (by kernel_rfl) 2 (by rfl) (by omega) 4 (by omega), Det1_load (d := 55) (t := 3) (a := ⟨pp, 4, none⟩) (by kernel_rfl) (by kernel_rfl) (Loads.own1 ho4 (by kernel_rfl) (by rfl)), trivial⟩
  intro w12 hs2
  replace hS := stepP_no hS hs2
  replace hrow := hrow.step hs2 (fun k hk1 hk2 hF => hF)
  replace hbk := BksW.no hbk hs2
  replace hrl := Nat.lt_of_lt_of_le hrl (hs2).size
  replace ho1 := ho1.no hs2
  replace hbb1 := hbb1.no hs2
  replace hbb2 := hbb2.no hs2
  replace hmk1 := hmk1.no hs2
  replace ho4 := ho4.no hs2
  refine VL_keep [7, 51, 56, 58] [(7, .int .i64 2), (51, .int .i64 2), (56, .int .i64 (IntKind.wrap .i64 (c2 + 1))), (58, .pointer (some ⟨pp, 2, none⟩))] (by kernel_rfl) ?_
  refine VL_index (d := 59) (b := pp) (o := 2) (len := 4) (sz := 1) (m := 2) (by kernel_rfl) (by kernel_rfl) 2 (by rfl) (by omega) 4 (by omega) ?_
  refine VL_store (b := pp) (o := 4) (vs := [.int .i64 (IntKind.wrap .i64 (c2 + 1))]) (by kernel_rfl) (by kernel_rfl) ho4 (Nat.le_of_ble_eq_true (by kernel_rfl)) ?_
  intro w13 hw3
  replace hS := Step.trans hS (Step.mono hw3.step (fun i hi => .inl hi))
  replace hrow := hrow.step hw3.step (fun k hk1 hk2 (hF : k = pp) => by omega)
  replace hbk := BksW.step hbk hw3.step (fun p hp hF => by have h9 := hbl _ p hp; have h8 := hbp _ p hp; have hF : p.2 = pp := hF; omega)
  replace hrl := Nat.lt_of_lt_of_le hrl (hw3.step).size
  replace ho1 := ho1.step hw3.step (show ¬ b1 = pp by omega)
  replace hbb1 := hbb1.step hw3.step (show ¬ bb1 = pp by omega)
  replace hbb2 := hbb2.step hw3.step (show ¬ bb2 = pp by omega)
  replace hmk1 := hmk1.step hw3.step (show ¬ w3.heap.size = pp by omega)
  have ho5 : Own w13 pp #[.bool a, .slice (some ⟨rb, 0, none⟩) l.length c, .int .i64 (IntKind.wrap .i64 (c0 + 1)), .int .i64 c1, .int .i64 (IntKind.wrap .i64 (c2 + 1)), .int .i64 c3] 103 := Own.cast hw3.own (by kernel_rfl)
  have hzhw3 := hw3.same
  refine VL_end (by kernel_rfl) ?_
  refine VQ_next ?_
  refine VC_seq ?_
  refine VC_region ?_
  refine VL_pure 2 [6] [(6, .int .i64 2)] (by kernel_rfl) rfl ?_
  refine VL_end (by kernel_rfl) ?_
  refine VQ_next ?_
  refine VC_ret ?_
  have hzk8 := hrl
  have hzl28 := ho1.lt
  have hzl29 := hbb1.lt
  have hzl30 := hbb2.lt
  have hzl31 := hmk1.lt
  have hzl32 := ho5.lt
  refine VQ_retM1 (.int .i64 2) [w3.heap.size] (.inr rfl) rfl rfl ⟨hmk1, (by simp), trivial⟩ ?_
  intro w14 hq1
  replace hq1 : Step (Just w3.heap.size) w13 w14 := Step.mono hq1 (fun i hi => by simpa using hi)
  replace hS := Step.transNew hS hq1 (fun i hi hF => by have hF9 : i = w3.heap.size := hF; omega)
  replace hrow := hrow.step hq1 (fun k hk1 hk2 (hF : k = w3.heap.size) => by omega)
  replace hbk := BksW.step hbk hq1 (fun p hp hF => by have h9 := hbl _ p hp; have h8 := hbp _ p hp; have hF : p.2 = w3.heap.size := hF; omega)
  replace hrl := Nat.lt_of_lt_of_le hrl (hq1).size
  replace ho1 := ho1.step hq1 (show ¬ b1 = w3.heap.size by omega)
  replace hbb1 := hbb1.step hq1 (show ¬ bb1 = w3.heap.size by omega)
  replace hbb2 := hbb2.step hq1 (show ¬ bb2 = w3.heap.size by omega)
  replace ho5 := ho5.step hq1 (show ¬ pp = w3.heap.size by omega)
  exact ⟨congrArg (Value.int .i64) (by rw [polV_of hv]; first | rfl | simp_all), ptake_done 1 hX hI hv ho5 hrow hbk hS (.inr ⟨by decide, rfl, rfl⟩)⟩
 ·intro e W _ hF _; exact hF.elim

set_option maxRecDepth 100000 in
set_option maxHeartbeats 4000000 in
theorem ptake_3 (pp rb c : Nat) (Y : Nat → Prop) (a : Bool) (c0 c1 c2 c3 t clp : Int) (l : List Rb) (w : World) (hX : PlX w pp Y a l rb c c0 c1 c2 c3) (hI : RlsI (l.map (·.1))) (hv : verdR t clp (l.map (·.1)) = 3) :
  CV Try.prog 41 #[.pointer (some ⟨pp, 0, none⟩), .int .i64 t, .int .i64 clp] w (fun x w1 => x = .int .i64 (polV a t clp (l.map (·.1))) ∧ Pl w1 pp Y a (rulesT t clp (l.map (·.1))) ∧ Step Y w w1) := by
 have hpp : Own w pp (polArr a rb l.length c c0 c1 c2 c3) 103 := hX.own
 have hrow := hX.row.sl
 have hbk : BksW w (takeK t clp (0) l) := by rw [takeK_zero]; exact hX.bks
 have hrl := hX.row.lt
 have hbl0 := hX.bks.lt
 have hin : ∀ k (p : Rb), p ∈ takeK t clp k l → ∃ q ∈ l, q.2 = p.2 := fun k p hp => List.mem_map.1 (by rw [← takeK_snd t clp l k]; exact List.mem_map_of_mem hp)
 have hbl : ∀ k (p : Rb), p ∈ takeK t clp k l → p.2 < w.heap.size := fun k p hp => by obtain ⟨q, hq, h8⟩ := hin k p hp; have h7 := hbl0 q hq; omega
 have hbp : ∀ k (p : Rb), p ∈ takeK t clp k l → p.2 ≠ pp := fun k p hp => by obtain ⟨q, hq, h8⟩ := hin k p hp; have h7 := (hX.ne_b q hq).1; omega
 have hpl := hpp.lt
 have hnrp := hX.ne_row
 have hlen : l.length < 1152921504606846976 := by have h9 := hI.1; rw [List.length_map] at h9; omega
 have hbi : ∀ y ∈ l, BkI y.1.b := fun y hy => hI.2 _ (List.mem_map_of_mem hy)
 have hS : Step (polF pp l) w w := Step.refl _ _
 have hSn : Step No w w := Step.refl _ _
 refine CV_enterM Try.f41 _ 61 [(0, .pointer (some ⟨pp, 0, none⟩)), (1, .int .i64 t), (2, .int .i64 clp)] Try.func41 rfl rfl (by kernel_rfl) rfl ?_
 refine VC_seq ?_
 refine VC_region ?_
 have hzs1 := hSn.size
 have hzl1 := hpp.lt
 have hzk1 := hrl
 refine VL_box (d := 4) (t := 3) (c := #[.int .i64 t]) (by kernel_rfl) (by kernel_rfl) ?_
 intro b1 w1 hn1
 replace hSn := Step.trans hSn (hn1.step No)
 replace hS := stepP_no hS (hn1.step No)
 replace hpp := hpp.no (hn1.step No)
 replace hrow := hrow.step (hn1.step No) (fun k hk1 hk2 hF => hF)
 replace hbk := BksW.no hbk (hn1.step No)
 replace hrl := Nat.lt_of_lt_of_le hrl (hn1.step No).size
 have ho1 := hn1.own
 have hzhn1 := hn1.size
 have hqhn1 := hn1.eqb
 refine VL_pure 2 [0, 2, 4, 6] [(0, .pointer (some ⟨pp, 0, none⟩)), (2, .int .i64 clp), (4, .pointer (some ⟨b1, 0, none⟩)), (6, .int .i64 0)] (by kernel_rfl) rfl ?_
 refine VL_end (by kernel_rfl) ?_
 refine VQ_next ?_
 refine VC_seq ?_
 refine VC_seq ?_
 refine VC_region ?_
 refine VL_pure 2 [0, 2, 4, 6, 11] [(0, .pointer (some ⟨pp, 0, none⟩)), (2, .int .i64 clp), (4, .pointer (some ⟨b1, 0, none⟩)), (6, .int .i64 0), (11, .bool false)] (by kernel_rfl) rfl ?_
 refine VL_end (by kernel_rfl) ?_
 refine VQ_next ?_
 refine VC_false (by kernel_rfl) ?_
 refine VC_skip ?_
 refine VQ_next ?_
 refine VC_seq ?_
 refine VC_region ?_
 refine VL_pure 1 [0, 2, 4, 6, 12] [(0, .pointer (some ⟨pp, 0, none⟩)), (2, .int .i64 clp), (4, .pointer (some ⟨b1, 0, none⟩)), (6, .int .i64 0), (12, .pointer (some ⟨pp, 0, none⟩))] (by kernel_rfl) rfl ?_
 refine VL_load (d := 13) (t := 3) (a := ⟨b1, 0, none⟩) (v := .int .i64 t) (by kernel_rfl) (by kernel_rfl) (Loads.own1 ho1 (by kernel_rfl) (by rfl)) ?_
 refine VL_pure 3 [0, 2, 4, 6, 12, 13, 14] [(0, .pointer (some ⟨pp, 0, none⟩)), (2, .int .i64 clp), (4, .pointer (some ⟨b1, 0, none⟩)), (6, .int .i64 0), (12, .pointer (some ⟨pp, 0, none⟩)), (13, .int .i64 t), (14, .int .i64 clp)] (by kernel_rfl) rfl ?_
 have hzs2 := hSn.size
 have hzl2 := hpp.lt
 have hzl3 := ho1.lt
 refine VL_call (d := 15) (f := 50) (args := #[.pointer (some ⟨pp, 0, none⟩), .int .i64 t, .int .i64 clp]) (by kernel_rfl) (by kernel_rfl) (by kernel_rfl) Try.call50 ((verdict_any pp rb c Y a c0 c1 c2 c3 t clp l _ (hX.step hSn (fun _ _ h9 => h9)) hI).mono (fun x w1 h9 => ⟨h9.1.trans (by rw [hv]), h9.2⟩ : ∀ x w1, _ → x = .int .i64 3 ∧ Step No _ w1)) ?_
 rintro _ w2 ⟨rfl, hc1⟩
 replace hS := stepP_no hS hc1
 replace hpp := hpp.no hc1
 replace hrow := hrow.step hc1 (fun k hk1 hk2 hF => hF)
 replace hbk := BksW.no hbk hc1
 replace hrl := Nat.lt_of_lt_of_le hrl (hc1).size
 replace ho1 := ho1.no hc1
 refine VL_pure 5 [0, 2, 4, 6, 7] [(0, .pointer (some ⟨pp, 0, none⟩)), (2, .int .i64 clp), (4, .pointer (some ⟨b1, 0, none⟩)), (6, .int .i64 0), (7, .int .i64 3)] (by kernel_rfl) rfl ?_
 refine VL_end (by kernel_rfl) ?_
 refine VQ_next ?_
 refine VC_seq ?_
 refine VC_region ?_
 refine VL_pure 2 [0, 2, 4, 6, 7, 8] [(0, .pointer (some ⟨pp, 0, none⟩)), (2, .int .i64 clp), (4, .pointer (some ⟨b1, 0, none⟩)), (6, .int .i64 0), (7, .int .i64 3), (8, .int .i64 clp)] (by kernel_rfl) rfl ?_
 refine VL_end (by kernel_rfl) ?_
 refine VQ_next ?_
 refine VC_seq ?_
 refine VC_seq ?_
 refine VC_region ?_
 refine VL_pure 2 [0, 2, 4, 6, 7, 8, 18] [(0, .pointer (some ⟨pp, 0, none⟩)), (2, .int .i64 clp), (4, .pointer (some ⟨b1, 0, none⟩)), (6, .int .i64 0), (7, .int .i64 3), (8, .int .i64 clp), (18, .bool false)] (by kernel_rfl) rfl ?_
 refine VL_end (by kernel_rfl) ?_
 refine VQ_next ?_
 refine VC_false (by kernel_rfl) ?_
 refine VC_skip ?_
 refine VQ_next ?_
 refine VC_seq ?_
 refine VC_seq ?_
 refine VC_region ?_
 refine VL_pure 2 [0, 2, 4, 6, 7, 8, 20] [(0, .pointer (some ⟨pp, 0, none⟩)), (2, .int .i64 clp), (4, .pointer (some ⟨b1, 0, none⟩)), (6, .int .i64 0), (7, .int .i64 3), (8, .int .i64 clp), (20, .bool false)] (by kernel_rfl) rfl ?_
 refine VL_end (by kernel_rfl) ?_
 refine VQ_next ?_
 refine VC_false (by kernel_rfl) ?_
 refine VC_skip ?_
 refine VQ_next ?_
 refine VC_seq ?_
 refine VC_seq ?_
 refine VC_region ?_
 refine VL_pure 12 [0, 7, 40] [(0, .pointer (some ⟨pp, 0, none⟩)), (7, .int .i64 3), (40, .bool false)] (by kernel_rfl) rfl ?_
 refine VL_end (by kernel_rfl) ?_
 refine VQ_next ?_
 refine VC_false (by kernel_rfl) ?_
 refine VC_skip ?_
 refine VQ_next ?_
 refine VC_seq ?_
 refine VC_det [[], [0], [0, 1], [0, 1, 2], [0, 1, 2, 3], [0, 1, 2, 3, 4], [0], [0, 6], [0, 1, 2, 3, 4, 5, 6, 7], [0, 1, 2, 3, 4, 5, 6, 7, 8]] 8 [.pointer (some ⟨pp, 0, none⟩), .pointer (some ⟨pp, 0, none⟩), .pointer (some ⟨pp, 2, none⟩), .pointer (some ⟨pp, 2, none⟩), .int .i64 c0, .int .i64 (IntKind.wrap .i64 (c0 + 1)), .pointer (some ⟨pp, 0, none⟩), .pointer (some ⟨pp, 2, none⟩)] [0, 1, 2, 5, 6, 7] [3, 4] (by kernel_rfl) (by kernel_rfl) (by kernel_rfl) (by kernel_rfl) ?_ ?_
 ·intro w3 hs1
  replace hS := stepP_no hS hs1
  replace hpp := hpp.no hs1
  replace hrow := hrow.step hs1 (fun k hk1 hk2 hF => hF)
  replace hbk := BksW.no hbk hs1
  replace hrl := Nat.lt_of_lt_of_le hrl (hs1).size
  replace ho1 := ho1.no hs1
  exact ⟨Det1_index (d := 44) (b := pp) (o := 2) (len := 4) (sz := 1) (m := 0) (by kernel_rfl) (by kernel_rfl) 0 (by rfl) (by omega) 2 (by omega), Det1_load (d := 45) (t := 3) (a := ⟨pp, 2, none⟩) (by kernel_rfl) (by kernel_rfl) (Loads.own1 hpp (by kernel_rfl) (by rfl)), trivial⟩
 intro w3 hs1
 replace hS := stepP_no hS hs1
 replace hpp := hpp.no hs1
 replace hrow := hrow.step hs1 (fun k hk1 hk2 hF => hF)
 replace hbk := BksW.no hbk hs1
 replace hrl := Nat.lt_of_lt_of_le hrl (hs1).size
 replace ho1 := ho1.no hs1
 refine VL_keep [0, 7, 46, 48] [(0, .pointer (some ⟨pp, 0, none⟩)), (7, .int .i64 3), (46, .int .i64 (IntKind.wrap .i64 (c0 + 1))), (48, .pointer (some ⟨pp, 2, none⟩))] (by kernel_rfl) ?_
 refine VL_index (d := 49) (b := pp) (o := 2) (len := 4) (sz := 1) (m := 0) (by kernel_rfl) (by kernel_rfl) 0 (by rfl) (by omega) 2 (by omega) ?_
 refine VL_store (b := pp) (o := 2) (vs := [.int .i64 (IntKind.wrap .i64 (c0 + 1))]) (by kernel_rfl) (by kernel_rfl) hpp (Nat.le_of_ble_eq_true (by kernel_rfl)) ?_
 intro w4 hw1
 replace hS := Step.trans hS (Step.mono hw1.step (fun i hi => .inl hi))
 replace hrow := hrow.step hw1.step (fun k hk1 hk2 (hF : k = pp) => by omega)
 replace hbk := BksW.step hbk hw1.step (fun p hp hF => by have h9 := hbl _ p hp; have h8 := hbp _ p hp; have hF : p.2 = pp := hF; omega)
 replace hrl := Nat.lt_of_lt_of_le hrl (hw1.step).size
 replace ho1 := ho1.step hw1.step (show ¬ b1 = pp by omega)
 have ho2 : Own w4 pp #[.bool a, .slice (some ⟨rb, 0, none⟩) l.length c, .int .i64 (IntKind.wrap .i64 (c0 + 1)), .int .i64 c1, .int .i64 c2, .int .i64 c3] 103 := Own.cast hw1.own (by kernel_rfl)
 have hzhw1 := hw1.same
 refine VL_end (by kernel_rfl) ?_
 refine VQ_next ?_
 refine VC_seq ?_
 refine VC_det [[], [], [0], [0, 2], [0, 1, 2, 3], [0, 1, 2, 3, 4], [0, 1, 2, 3, 4, 5], [0], [0, 7], [0, 1, 2, 3, 4, 5, 6, 7, 8], [0, 1, 2, 3, 4, 5, 6, 7, 8, 9]] 9 [.pointer (some ⟨pp, 0, none⟩), .int .i64 3, .pointer (some ⟨pp, 0, none⟩), .pointer (some ⟨pp, 2, none⟩), .pointer (some ⟨pp, 5, none⟩), .int .i64 c3, .int .i64 (IntKind.wrap .i64 (c3 + 1)), .pointer (some ⟨pp, 0, none⟩), .pointer (some ⟨pp, 2, none⟩)] [0, 1, 2, 3, 6, 7, 8] [4, 5] (by kernel_rfl) (by kernel_rfl) (by kernel_rfl) (by kernel_rfl) ?_ ?_
 ·intro w5 hs2
  replace hS := stepP_no hS hs2
  replace hrow := hrow.step hs2 (fun k hk1 hk2 hF => hF)
  replace hbk := BksW.no hbk hs2
  replace hrl := Nat.lt_of_lt_of_le hrl (hs2).size
  replace ho1 := ho1.no hs2
  replace ho2 := ho2.no hs2
  exact ⟨Det1_index (d := 54) (b := pp) (o := 2) (len := 4) (sz := 1) (m := 3) (by kernel_rfl) (by kernel_rfl) 3 (by rfl) (by omega) 5 (by omega), Det1_load (d := 55) (t := 3) (a := ⟨pp, 5, none⟩) (by kernel_rfl) (by kernel_rfl) (Loads.own1 ho2 (by kernel_rfl) (by rfl)), trivial⟩
 intro w5 hs2
 replace hS := stepP_no hS hs2
 replace hrow := hrow.step hs2 (fun k hk1 hk2 hF => hF)
 replace hbk := BksW.no hbk hs2
 replace hrl := Nat.lt_of_lt_of_le hrl (hs2).size
 replace ho1 := ho1.no hs2
 replace ho2 := ho2.no hs2
 refine VL_keep [7, 51, 56, 58] [(7, .int .i64 3), (51, .int .i64 3), (56, .int .i64 (IntKind.wrap .i64 (c3 + 1))), (58, .pointer (some ⟨pp, 2, none⟩))] (by kernel_rfl) ?_
 refine VL_index (d := 59) (b := pp) (o := 2) (len := 4) (sz := 1) (m := 3) (by kernel_rfl) (by kernel_rfl) 3 (by rfl) (by omega) 5 (by omega) ?_
 refine VL_store (b := pp) (o := 5) (vs := [.int .i64 (IntKind.wrap .i64 (c3 + 1))]) (by kernel_rfl) (by kernel_rfl) ho2 (Nat.le_of_ble_eq_true (by kernel_rfl)) ?_
 intro w6 hw2
 replace hS := Step.trans hS (Step.mono hw2.step (fun i hi => .inl hi))
 replace hrow := hrow.step hw2.step (fun k hk1 hk2 (hF : k = pp) => by omega)
 replace hbk := BksW.step hbk hw2.step (fun p hp hF => by have h9 := hbl _ p hp; have h8 := hbp _ p hp; have hF : p.2 = pp := hF; omega)
 replace hrl := Nat.lt_of_lt_of_le hrl (hw2.step).size
 replace ho1 := ho1.step hw2.step (show ¬ b1 = pp by omega)
 have ho3 : Own w6 pp #[.bool a, .slice (some ⟨rb, 0, none⟩) l.length c, .int .i64 (IntKind.wrap .i64 (c0 + 1)), .int .i64 c1, .int .i64 c2, .int .i64 (IntKind.wrap .i64 (c3 + 1))] 103 := Own.cast hw2.own (by kernel_rfl)
 have hzhw2 := hw2.same
 refine VL_end (by kernel_rfl) ?_
 refine VQ_next ?_
 refine VC_seq ?_
 refine VC_region ?_
 refine VL_pure 2 [6] [(6, .int .i64 3)] (by kernel_rfl) rfl ?_
 refine VL_end (by kernel_rfl) ?_
 refine VQ_next ?_
 refine VC_ret ?_
 have hzk2 := hrl
 have hzl4 := ho1.lt
 have hzl5 := ho3.lt
 refine VQ_retM1 (.int .i64 3) [] (.inr rfl) rfl rfl trivial ?_
 intro w7 hq1
 replace hq1 : Step No w6 w7 := Step.mono hq1 (fun i hi => by simp at hi)
 replace hS := stepP_no hS hq1
 replace hrow := hrow.step hq1 (fun k hk1 hk2 hF => hF)
 replace hbk := BksW.no hbk hq1
 replace hrl := Nat.lt_of_lt_of_le hrl (hq1).size
 replace ho1 := ho1.no hq1
 replace ho3 := ho3.no hq1
 exact ⟨congrArg (Value.int .i64) (by rw [polV_of hv]; first | rfl | simp_all), ptake_done clp hX hI hv ho3 hrow hbk hS (.inl ⟨rfl, rfl⟩)⟩

theorem ptake_any {w : World} {pp : Nat} {Y : Nat → Prop} {a : Bool} {rs : List Rl} (t clp : Int) (h : Pl w pp Y a rs) : CV Try.prog 41 #[.pointer (some ⟨pp, 0, none⟩), .int .i64 t, .int .i64 clp] w fun x w1 => x = .int .i64 (polV a t clp rs) ∧ Pl w1 pp Y a (rulesT t clp rs) ∧ Step Y w w1 := by
  obtain ⟨hI, l, rb, c, c0, c1, c2, c3, rfl, hX⟩ := h
  rcases verdR_cases t clp (l.map (·.1)) with hv | hv | hv
  · exact ptake_1 pp rb c Y a c0 c1 c2 c3 t clp l w hX hI hv
  · exact ptake_2 pp rb c Y a c0 c1 c2 c3 t clp l w hX hI hv
  · exact ptake_3 pp rb c Y a c0 c1 c2 c3 t clp l w hX hI hv
end Go.Proofs.Ythchmlidobgkoaa
end

section
/- Drawn regions: new rows whose order is open. -/
set_option linter.unusedVariables false
set_option linter.unusedSimpArgs false
namespace Go.Vc
open Go.RowKit
section
variable {r : Option Nat} {n : Nat} {ds : List Deferred} {P : Program} {ops : Array Oper} {Q : Exit → Act → World → Prop} {l : List (Nat × Value)} {w : World}
end
end Go.Vc
end

section
/- Drawn regions: rows of flat elements whose order is open. -/
set_option linter.unusedVariables false
set_option linter.unusedSimpArgs false
namespace Go.Vc
open Go.RowKit
section
variable {r : Option Nat} {n : Nat} {ds : List Deferred} {P : Program} {ops : Array Oper} {Q : Exit → Act → World → Prop} {l : List (Nat × Value)} {w : World}
end
end Go.Vc
end
