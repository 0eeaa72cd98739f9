/- The document's alarm, function by function. -/
import Derived.Test.YtkimbomnbaogjaaProg
import Derived.Test.YtkimbomnbaogjaaAl14
import Derived.Test.YtkimbomnbaogjaaAl10
set_option linter.unusedVariables false
set_option linter.unusedSimpArgs false
namespace Go.Proofs.Ytkimbomnbaogjaa
open Go.Vc Go.RowKit

theorem rheld_any (t : Int) (w : World) :
    CV Try.prog 25 #[.int .i64 t] w (fun x w1 => x = .int .i64 (held t) ∧ Step No w w1) := by
  have hS : Step No w w := Step.refl _ _
  refine CV_enter Try.f25 _ 6 [(0, .int .i64 t)] Try.func25 rfl rfl (by kernel_rfl) rfl ?_
  refine VC_seq ?_
  refine VC_region ?_
  refine VL_pure 1 [0] [(0, .int .i64 t)] (by kernel_rfl) rfl ?_
  refine VL_end (by kernel_rfl) ?_
  refine VQ_next ?_
  refine VC_seq ?_
  refine VC_region ?_
  refine VL_pure 4 [2] [(2, .int .i64 (imax 0 (imin t 1152921504606846976)))] (by kernel_rfl) rfl ?_
  refine VL_end (by kernel_rfl) ?_
  refine VQ_next ?_
  refine VC_ret ?_
  refine VQ_ret1 (.int .i64 (imax 0 (imin t 1152921504606846976))) (.inr rfl) rfl rfl ?_
  exact ⟨rfl, hS⟩

set_option maxRecDepth 20000 in
set_option maxHeartbeats 1000000 in
theorem right14_any (o : Om) (w : World) :
    CV Try.prog 28 #[.agg #[.int .i64 o.k, .int .u8 o.d, .bool o.a, .int .u32 o.tg, .int .u8 (o.p 0), .int .u8 (o.p 1), .int .u8 (o.p 2), .int .u8 (o.p 3), .int .u8 (o.p 4), .int .u8 (o.p 5), .int .u8 (o.p 6), .int .u8 (o.p 7), .int .u8 (o.p 8), .int .u8 (o.p 9), .int .u8 (o.p 10), .int .u8 (o.p 11), .int .u8 (o.p 12), .int .u8 (o.p 13), .int .u8 (o.p 14), .int .u8 (o.p 15), .int .u8 (o.s 0), .int .u8 (o.s 1), .int .u8 (o.s 2), .int .u8 (o.s 3), .int .u8 (o.s 4), .int .u8 (o.s 5), .int .u8 (o.s 6), .int .u8 (o.s 7), .int .u8 (o.s 8), .int .u8 (o.s 9), .int .u8 (o.s 10), .int .u8 (o.s 11), .int .u8 (o.s 12), .int .u8 (o.s 13), .int .u8 (o.s 14), .int .u8 (o.s 15)]] w (fun x w1 => x = .bool (rightO o) ∧ Step No w w1) := by
  have hS : Step No w w := Step.refl _ _
  refine CV_enter Try.f28 _ 37 [(0, .agg #[.int .i64 o.k, .int .u8 o.d, .bool o.a, .int .u32 o.tg, .int .u8 (o.p 0), .int .u8 (o.p 1), .int .u8 (o.p 2), .int .u8 (o.p 3), .int .u8 (o.p 4), .int .u8 (o.p 5), .int .u8 (o.p 6), .int .u8 (o.p 7), .int .u8 (o.p 8), .int .u8 (o.p 9), .int .u8 (o.p 10), .int .u8 (o.p 11), .int .u8 (o.p 12), .int .u8 (o.p 13), .int .u8 (o.p 14), .int .u8 (o.p 15), .int .u8 (o.s 0), .int .u8 (o.s 1), .int .u8 (o.s 2), .int .u8 (o.s 3), .int .u8 (o.s 4), .int .u8 (o.s 5), .int .u8 (o.s 6), .int .u8 (o.s 7), .int .u8 (o.s 8), .int .u8 (o.s 9), .int .u8 (o.s 10), .int .u8 (o.s 11), .int .u8 (o.s 12), .int .u8 (o.s 13), .int .u8 (o.s 14), .int .u8 (o.s 15)])] Try.func28 rfl rfl (by kernel_rfl) rfl ?_
  refine VC_seq ?_
  refine VC_region ?_
  have hzs1 := hS.size
  refine VL_box (d := 1) (t := 31) (c := #[.int .i64 o.k, .int .u8 o.d, .bool o.a, .int .u32 o.tg, .int .u8 (o.p 0), .int .u8 (o.p 1), .int .u8 (o.p 2), .int .u8 (o.p 3), .int .u8 (o.p 4), .int .u8 (o.p 5), .int .u8 (o.p 6), .int .u8 (o.p 7), .int .u8 (o.p 8), .int .u8 (o.p 9), .int .u8 (o.p 10), .int .u8 (o.p 11), .int .u8 (o.p 12), .int .u8 (o.p 13), .int .u8 (o.p 14), .int .u8 (o.p 15), .int .u8 (o.s 0), .int .u8 (o.s 1), .int .u8 (o.s 2), .int .u8 (o.s 3), .int .u8 (o.s 4), .int .u8 (o.s 5), .int .u8 (o.s 6), .int .u8 (o.s 7), .int .u8 (o.s 8), .int .u8 (o.s 9), .int .u8 (o.s 10), .int .u8 (o.s 11), .int .u8 (o.s 12), .int .u8 (o.s 13), .int .u8 (o.s 14), .int .u8 (o.s 15)]) (by kernel_rfl) (by kernel_rfl) ?_
  intro b1 w1 hn1
  replace hS := Step.trans hS (hn1.step No)
  have ho1 := hn1.own
  have hzhn1 := hn1.size
  have hqhn1 := hn1.eqb
  refine VL_pure 2 [1] [(1, .pointer (some ⟨b1, 0, none⟩))] (by kernel_rfl) rfl ?_
  refine VL_end (by kernel_rfl) ?_
  refine VQ_next ?_
  refine VC_seq ?_
  refine VC_region ?_
  refine VL_pure 1 [1, 4] [(1, .pointer (some ⟨b1, 0, none⟩)), (4, .pointer (some ⟨b1, 0, none⟩))] (by kernel_rfl) rfl ?_
  refine VL_load (d := 5) (t := 3) (a := ⟨b1, 0, none⟩) (v := .int .i64 o.k) (by kernel_rfl) (by kernel_rfl) (Loads.own1 ho1 (by kernel_rfl) (by rfl)) ?_
  refine VL_pure 3 [1, 6] [(1, .pointer (some ⟨b1, 0, none⟩)), (6, .agg #[.int .i64 o.k, .int .u8 0, .bool false, .int .u32 0, .int .u8 0, .int .u8 0, .int .u8 0, .int .u8 0, .int .u8 0, .int .u8 0, .int .u8 0, .int .u8 0, .int .u8 0, .int .u8 0, .int .u8 0, .int .u8 0, .int .u8 0, .int .u8 0, .int .u8 0, .int .u8 0, .int .u8 0, .int .u8 0, .int .u8 0, .int .u8 0, .int .u8 0, .int .u8 0, .int .u8 0, .int .u8 0, .int .u8 0, .int .u8 0, .int .u8 0, .int .u8 0, .int .u8 0, .int .u8 0, .int .u8 0, .int .u8 0])] (by kernel_rfl) rfl ?_
  have hzs2 := hS.size
  have hzl1 := ho1.lt
  refine VL_box (d := 3) (t := 31) (c := #[.int .i64 0, .int .u8 0, .bool false, .int .u32 0, .int .u8 0, .int .u8 0, .int .u8 0, .int .u8 0, .int .u8 0, .int .u8 0, .int .u8 0, .int .u8 0, .int .u8 0, .int .u8 0, .int .u8 0, .int .u8 0, .int .u8 0, .int .u8 0, .int .u8 0, .int .u8 0, .int .u8 0, .int .u8 0, .int .u8 0, .int .u8 0, .int .u8 0, .int .u8 0, .int .u8 0, .int .u8 0, .int .u8 0, .int .u8 0, .int .u8 0, .int .u8 0, .int .u8 0, .int .u8 0, .int .u8 0, .int .u8 0]) (by kernel_rfl) (by kernel_rfl) ?_
  intro b2 w2 hn2
  replace hS := Step.trans hS (hn2.step No)
  replace ho1 := ho1.no (hn2.step No)
  have ho2 := hn2.own
  have hzhn2 := hn2.size
  have hqhn2 := hn2.eqb
  refine VL_store (b := b2) (o := 0) (vs := [.int .i64 o.k, .int .u8 0, .bool false, .int .u32 0, .int .u8 0, .int .u8 0, .int .u8 0, .int .u8 0, .int .u8 0, .int .u8 0, .int .u8 0, .int .u8 0, .int .u8 0, .int .u8 0, .int .u8 0, .int .u8 0, .int .u8 0, .int .u8 0, .int .u8 0, .int .u8 0, .int .u8 0, .int .u8 0, .int .u8 0, .int .u8 0, .int .u8 0, .int .u8 0, .int .u8 0, .int .u8 0, .int .u8 0, .int .u8 0, .int .u8 0, .int .u8 0, .int .u8 0, .int .u8 0, .int .u8 0, .int .u8 0]) (by kernel_rfl) (by kernel_rfl) ho2 (Nat.le_of_ble_eq_true (by kernel_rfl)) ?_
  intro w3 hw1
  replace hS := Step.transNew hS hw1.step (fun _ _ _ => by omega)
  replace ho1 := ho1.step hw1.step (show ¬ b1 = b2 by omega)
  have ho3 : Own w3 b2 #[.int .i64 o.k, .int .u8 0, .bool false, .int .u32 0, .int .u8 0, .int .u8 0, .int .u8 0, .int .u8 0, .int .u8 0, .int .u8 0, .int .u8 0, .int .u8 0, .int .u8 0, .int .u8 0, .int .u8 0, .int .u8 0, .int .u8 0, .int .u8 0, .int .u8 0, .int .u8 0, .int .u8 0, .int .u8 0, .int .u8 0, .int .u8 0, .int .u8 0, .int .u8 0, .int .u8 0, .int .u8 0, .int .u8 0, .int .u8 0, .int .u8 0, .int .u8 0, .int .u8 0, .int .u8 0, .int .u8 0, .int .u8 0] 31 := Own.cast hw1.own (by kernel_rfl)
  have hzhw1 := hw1.same
  refine VL_end (by kernel_rfl) ?_
  refine VQ_next ?_
  refine VC_seq ?_
  refine VC_seq ?_
  refine VC_region ?_
  refine VL_pure 1 [1, 3, 7] [(1, .pointer (some ⟨b1, 0, none⟩)), (3, .pointer (some ⟨b2, 0, none⟩)), (7, .pointer (some ⟨b1, 0, none⟩))] (by kernel_rfl) rfl ?_
  refine VL_load (d := 8) (t := 3) (a := ⟨b1, 0, none⟩) (v := .int .i64 o.k) (by kernel_rfl) (by kernel_rfl) (Loads.own1 ho1 (by kernel_rfl) (by rfl)) ?_
  refine VL_end (by kernel_rfl) ?_
  refine VQ_next ?_
  refine VC_block ?_
  refine VC_seq ?_
  refine VC_seq ?_
  refine VC_region ?_
  refine VL_pure 2 [1, 3, 8, 9] [(1, .pointer (some ⟨b1, 0, none⟩)), (3, .pointer (some ⟨b2, 0, none⟩)), (8, .int .i64 o.k), (9, .bool (o.k == 0))] (by kernel_rfl) rfl ?_
  refine VL_end (by kernel_rfl) ?_
  refine VQ_next ?_
  refine VC_eq o.k 0 (by kernel_rfl) (fun h1 => ?_) (fun h1 => ?_)
  · refine VC_skip ?_
    refine VQ_next ?_
    refine VC_eq o.k 0 (by kernel_rfl) (fun h2 => ?_) (fun h2 => ?_)
    · refine VC_eff [[], [0], [], [2], [0, 1], [0, 1, 4], [0, 1, 2, 3, 4, 5], [0, 1, 2, 3, 4, 5, 6]] 6 [.pointer (some ⟨b1, 1, none⟩), .int .u8 o.d, .pointer (some ⟨b1, 4, none⟩), .agg #[.int .u8 (o.p 0), .int .u8 (o.p 1), .int .u8 (o.p 2), .int .u8 (o.p 3), .int .u8 (o.p 4), .int .u8 (o.p 5), .int .u8 (o.p 6), .int .u8 (o.p 7), .int .u8 (o.p 8), .int .u8 (o.p 9), .int .u8 (o.p 10), .int .u8 (o.p 11), .int .u8 (o.p 12), .int .u8 (o.p 13), .int .u8 (o.p 14), .int .u8 (o.p 15)], .pointer (some ⟨b2, 1, none⟩), undef] [0, 2, 4] [1, 3, 5] (ROwn b2 31 #[.int .i64 o.k, .int .u8 0, .bool false, .int .u32 0, .int .u8 0, .int .u8 0, .int .u8 0, .int .u8 0, .int .u8 0, .int .u8 0, .int .u8 0, .int .u8 0, .int .u8 0, .int .u8 0, .int .u8 0, .int .u8 0, .int .u8 0, .int .u8 0, .int .u8 0, .int .u8 0, .int .u8 0, .int .u8 0, .int .u8 0, .int .u8 0, .int .u8 0, .int .u8 0, .int .u8 0, .int .u8 0, .int .u8 0, .int .u8 0, .int .u8 0, .int .u8 0, .int .u8 0, .int .u8 0, .int .u8 0, .int .u8 0] #[.int .i64 o.k, .int .u8 o.d, .bool false, .int .u32 0, .int .u8 0, .int .u8 0, .int .u8 0, .int .u8 0, .int .u8 0, .int .u8 0, .int .u8 0, .int .u8 0, .int .u8 0, .int .u8 0, .int .u8 0, .int .u8 0, .int .u8 0, .int .u8 0, .int .u8 0, .int .u8 0, .int .u8 0, .int .u8 0, .int .u8 0, .int .u8 0, .int .u8 0, .int .u8 0, .int .u8 0, .int .u8 0, .int .u8 0, .int .u8 0, .int .u8 0, .int .u8 0, .int .u8 0, .int .u8 0, .int .u8 0, .int .u8 0]) (fun j x => j = 5 → Own x b2 #[.int .i64 o.k, .int .u8 o.d, .bool false, .int .u32 0, .int .u8 0, .int .u8 0, .int .u8 0, .int .u8 0, .int .u8 0, .int .u8 0, .int .u8 0, .int .u8 0, .int .u8 0, .int .u8 0, .int .u8 0, .int .u8 0, .int .u8 0, .int .u8 0, .int .u8 0, .int .u8 0, .int .u8 0, .int .u8 0, .int .u8 0, .int .u8 0, .int .u8 0, .int .u8 0, .int .u8 0, .int .u8 0, .int .u8 0, .int .u8 0, .int .u8 0, .int .u8 0, .int .u8 0, .int .u8 0, .int .u8 0, .int .u8 0] 31) (by kernel_rfl) (by kernel_rfl) (by kernel_rfl) (ROwn.refl _ _ _ _) ROwn.trans (ROwn.no (drew_step _)) (fun _ _ _ h hr e => hr.2.1 (h e)) (by kernel_rfl) (by intro k hk x e; subst e; simp at hk) ?_ ?_
      · intro w6 hr1
        have hI := hr1.1 (.inl ho3)
        replace hS := Step.transNew hS hr1.2.2 (fun _ _ _ => by omega)
        replace ho1 := ho1.step hr1.2.2 (show ¬ b1 = b2 by omega)
        exact ⟨fun _ => Eff1_no (Det1_load (d := 13) (t := 5) (a := ⟨b1, 1, none⟩) (by kernel_rfl) (by kernel_rfl) (Loads.own1 ho1 (by kernel_rfl) (by rfl))) (fun x e => absurd e (by decide)), fun _ => Eff1_no (Det1_load (d := 15) (t := 22) (a := ⟨b1, 4, none⟩) (by kernel_rfl) (by kernel_rfl) (Loads.ownL ho1 (n := 16) (by kernel_rfl) (by kernel_rfl) (by kernel_rfl))) (fun x e => absurd e (by decide)), fun _ => Eff1_store (b := b2) (o := 1) (T := 31) (c0 := #[.int .i64 o.k, .int .u8 0, .bool false, .int .u32 0, .int .u8 0, .int .u8 0, .int .u8 0, .int .u8 0, .int .u8 0, .int .u8 0, .int .u8 0, .int .u8 0, .int .u8 0, .int .u8 0, .int .u8 0, .int .u8 0, .int .u8 0, .int .u8 0, .int .u8 0, .int .u8 0, .int .u8 0, .int .u8 0, .int .u8 0, .int .u8 0, .int .u8 0, .int .u8 0, .int .u8 0, .int .u8 0, .int .u8 0, .int .u8 0, .int .u8 0, .int .u8 0, .int .u8 0, .int .u8 0, .int .u8 0, .int .u8 0]) (c1 := #[.int .i64 o.k, .int .u8 o.d, .bool false, .int .u32 0, .int .u8 0, .int .u8 0, .int .u8 0, .int .u8 0, .int .u8 0, .int .u8 0, .int .u8 0, .int .u8 0, .int .u8 0, .int .u8 0, .int .u8 0, .int .u8 0, .int .u8 0, .int .u8 0, .int .u8 0, .int .u8 0, .int .u8 0, .int .u8 0, .int .u8 0, .int .u8 0, .int .u8 0, .int .u8 0, .int .u8 0, .int .u8 0, .int .u8 0, .int .u8 0, .int .u8 0, .int .u8 0, .int .u8 0, .int .u8 0, .int .u8 0, .int .u8 0]) (vs := [.int .u8 o.d]) (by kernel_rfl) (by kernel_rfl) hI (Nat.le_of_ble_eq_true (by kernel_rfl)) (Nat.le_of_ble_eq_true (by kernel_rfl)) (by kernel_rfl) (by kernel_rfl), trivial⟩
      intro w5 hr2 hB1
      have ho4 := hB1 5 (by decide) rfl
      replace hS := Step.transNew hS hr2.2.2 (fun _ _ _ => by omega)
      replace ho1 := ho1.step hr2.2.2 (show ¬ b1 = b2 by omega)
      refine VL_keep [1, 3, 15] [(1, .pointer (some ⟨b1, 0, none⟩)), (3, .pointer (some ⟨b2, 0, none⟩)), (15, .agg #[.int .u8 (o.p 0), .int .u8 (o.p 1), .int .u8 (o.p 2), .int .u8 (o.p 3), .int .u8 (o.p 4), .int .u8 (o.p 5), .int .u8 (o.p 6), .int .u8 (o.p 7), .int .u8 (o.p 8), .int .u8 (o.p 9), .int .u8 (o.p 10), .int .u8 (o.p 11), .int .u8 (o.p 12), .int .u8 (o.p 13), .int .u8 (o.p 14), .int .u8 (o.p 15)])] (by kernel_rfl) ?_
      refine VL_pure 7 [1, 3, 15, 17] [(1, .pointer (some ⟨b1, 0, none⟩)), (3, .pointer (some ⟨b2, 0, none⟩)), (15, .agg #[.int .u8 (o.p 0), .int .u8 (o.p 1), .int .u8 (o.p 2), .int .u8 (o.p 3), .int .u8 (o.p 4), .int .u8 (o.p 5), .int .u8 (o.p 6), .int .u8 (o.p 7), .int .u8 (o.p 8), .int .u8 (o.p 9), .int .u8 (o.p 10), .int .u8 (o.p 11), .int .u8 (o.p 12), .int .u8 (o.p 13), .int .u8 (o.p 14), .int .u8 (o.p 15)]), (17, .pointer (some ⟨b2, 4, none⟩))] (by kernel_rfl) rfl ?_
      refine VL_store (b := b2) (o := 4) (vs := [.int .u8 (o.p 0), .int .u8 (o.p 1), .int .u8 (o.p 2), .int .u8 (o.p 3), .int .u8 (o.p 4), .int .u8 (o.p 5), .int .u8 (o.p 6), .int .u8 (o.p 7), .int .u8 (o.p 8), .int .u8 (o.p 9), .int .u8 (o.p 10), .int .u8 (o.p 11), .int .u8 (o.p 12), .int .u8 (o.p 13), .int .u8 (o.p 14), .int .u8 (o.p 15)]) (by kernel_rfl) (by kernel_rfl) ho4 (Nat.le_of_ble_eq_true (by kernel_rfl)) ?_
      intro w7 hw2
      replace hS := Step.transNew hS hw2.step (fun _ _ _ => by omega)
      replace ho1 := ho1.step hw2.step (show ¬ b1 = b2 by omega)
      have ho5 : Own w7 b2 #[.int .i64 o.k, .int .u8 o.d, .bool false, .int .u32 0, .int .u8 (o.p 0), .int .u8 (o.p 1), .int .u8 (o.p 2), .int .u8 (o.p 3), .int .u8 (o.p 4), .int .u8 (o.p 5), .int .u8 (o.p 6), .int .u8 (o.p 7), .int .u8 (o.p 8), .int .u8 (o.p 9), .int .u8 (o.p 10), .int .u8 (o.p 11), .int .u8 (o.p 12), .int .u8 (o.p 13), .int .u8 (o.p 14), .int .u8 (o.p 15), .int .u8 0, .int .u8 0, .int .u8 0, .int .u8 0, .int .u8 0, .int .u8 0, .int .u8 0, .int .u8 0, .int .u8 0, .int .u8 0, .int .u8 0, .int .u8 0, .int .u8 0, .int .u8 0, .int .u8 0, .int .u8 0] 31 := Own.cast hw2.own (by kernel_rfl)
      have hzhw2 := hw2.same
      refine VL_end (by kernel_rfl) ?_
      refine VQ_block_normal ?_
      refine VQ_next ?_
      refine VC_seq ?_
      refine VC_region ?_
      refine VL_load (d := 34) (t := 31) (a := ⟨b2, 0, none⟩) (v := .agg #[.int .i64 o.k, .int .u8 o.d, .bool false, .int .u32 0, .int .u8 (o.p 0), .int .u8 (o.p 1), .int .u8 (o.p 2), .int .u8 (o.p 3), .int .u8 (o.p 4), .int .u8 (o.p 5), .int .u8 (o.p 6), .int .u8 (o.p 7), .int .u8 (o.p 8), .int .u8 (o.p 9), .int .u8 (o.p 10), .int .u8 (o.p 11), .int .u8 (o.p 12), .int .u8 (o.p 13), .int .u8 (o.p 14), .int .u8 (o.p 15), .int .u8 0, .int .u8 0, .int .u8 0, .int .u8 0, .int .u8 0, .int .u8 0, .int .u8 0, .int .u8 0, .int .u8 0, .int .u8 0, .int .u8 0, .int .u8 0, .int .u8 0, .int .u8 0, .int .u8 0, .int .u8 0]) (by kernel_rfl) (by kernel_rfl) (Loads.ownL ho5 (n := 36) (by kernel_rfl) (by kernel_rfl) (by kernel_rfl)) ?_
      refine VL_load (d := 35) (t := 31) (a := ⟨b1, 0, none⟩) (v := .agg #[.int .i64 o.k, .int .u8 o.d, .bool o.a, .int .u32 o.tg, .int .u8 (o.p 0), .int .u8 (o.p 1), .int .u8 (o.p 2), .int .u8 (o.p 3), .int .u8 (o.p 4), .int .u8 (o.p 5), .int .u8 (o.p 6), .int .u8 (o.p 7), .int .u8 (o.p 8), .int .u8 (o.p 9), .int .u8 (o.p 10), .int .u8 (o.p 11), .int .u8 (o.p 12), .int .u8 (o.p 13), .int .u8 (o.p 14), .int .u8 (o.p 15), .int .u8 (o.s 0), .int .u8 (o.s 1), .int .u8 (o.s 2), .int .u8 (o.s 3), .int .u8 (o.s 4), .int .u8 (o.s 5), .int .u8 (o.s 6), .int .u8 (o.s 7), .int .u8 (o.s 8), .int .u8 (o.s 9), .int .u8 (o.s 10), .int .u8 (o.s 11), .int .u8 (o.s 12), .int .u8 (o.s 13), .int .u8 (o.s 14), .int .u8 (o.s 15)]) (by kernel_rfl) (by kernel_rfl) (Loads.ownL ho1 (n := 36) (by kernel_rfl) (by kernel_rfl) (by kernel_rfl)) ?_
      refine VL_agEq (d := 36) (dd := 9) (ls := ([.int .i64] ++ [.int .u8] ++ [.bool] ++ [.int .u32] ++ (rep 16 [.int .u8]) ++ (rep 16 [.int .u8]) ++ [])) (pos := true) (t := 31) (xs := #[.int .i64 o.k, .int .u8 o.d, .bool false, .int .u32 0, .int .u8 (o.p 0), .int .u8 (o.p 1), .int .u8 (o.p 2), .int .u8 (o.p 3), .int .u8 (o.p 4), .int .u8 (o.p 5), .int .u8 (o.p 6), .int .u8 (o.p 7), .int .u8 (o.p 8), .int .u8 (o.p 9), .int .u8 (o.p 10), .int .u8 (o.p 11), .int .u8 (o.p 12), .int .u8 (o.p 13), .int .u8 (o.p 14), .int .u8 (o.p 15), .int .u8 0, .int .u8 0, .int .u8 0, .int .u8 0, .int .u8 0, .int .u8 0, .int .u8 0, .int .u8 0, .int .u8 0, .int .u8 0, .int .u8 0, .int .u8 0, .int .u8 0, .int .u8 0, .int .u8 0, .int .u8 0]) (ys := #[.int .i64 o.k, .int .u8 o.d, .bool o.a, .int .u32 o.tg, .int .u8 (o.p 0), .int .u8 (o.p 1), .int .u8 (o.p 2), .int .u8 (o.p 3), .int .u8 (o.p 4), .int .u8 (o.p 5), .int .u8 (o.p 6), .int .u8 (o.p 7), .int .u8 (o.p 8), .int .u8 (o.p 9), .int .u8 (o.p 10), .int .u8 (o.p 11), .int .u8 (o.p 12), .int .u8 (o.p 13), .int .u8 (o.p 14), .int .u8 (o.p 15), .int .u8 (o.s 0), .int .u8 (o.s 1), .int .u8 (o.s 2), .int .u8 (o.s 3), .int .u8 (o.s 4), .int .u8 (o.s 5), .int .u8 (o.s 6), .int .u8 (o.s 7), .int .u8 (o.s 8), .int .u8 (o.s 9), .int .u8 (o.s 10), .int .u8 (o.s 11), .int .u8 (o.s 12), .int .u8 (o.s 13), .int .u8 (o.s 14), .int .u8 (o.s 15)]) (by kernel_rfl) (by kernel_rfl) (by kernel_rfl) (by kernel_rfl) (by first | exact ⟨⟨_, rfl⟩, ⟨_, rfl⟩, ⟨_, rfl⟩, ⟨_, rfl⟩, ⟨_, rfl⟩, ⟨_, rfl⟩, ⟨_, rfl⟩, ⟨_, rfl⟩, ⟨_, rfl⟩, ⟨_, rfl⟩, ⟨_, rfl⟩, ⟨_, rfl⟩, ⟨_, rfl⟩, ⟨_, rfl⟩, ⟨_, rfl⟩, ⟨_, rfl⟩, ⟨_, rfl⟩, ⟨_, rfl⟩, ⟨_, rfl⟩, ⟨_, rfl⟩, ⟨_, rfl⟩, ⟨_, rfl⟩, ⟨_, rfl⟩, ⟨_, rfl⟩, ⟨_, rfl⟩, ⟨_, rfl⟩, ⟨_, rfl⟩, ⟨_, rfl⟩, ⟨_, rfl⟩, ⟨_, rfl⟩, ⟨_, rfl⟩, ⟨_, rfl⟩, ⟨_, rfl⟩, ⟨_, rfl⟩, ⟨_, rfl⟩, ⟨_, rfl⟩, trivial⟩ | trivial) (by first | exact ⟨⟨_, rfl⟩, ⟨_, rfl⟩, ⟨_, rfl⟩, ⟨_, rfl⟩, ⟨_, rfl⟩, ⟨_, rfl⟩, ⟨_, rfl⟩, ⟨_, rfl⟩, ⟨_, rfl⟩, ⟨_, rfl⟩, ⟨_, rfl⟩, ⟨_, rfl⟩, ⟨_, rfl⟩, ⟨_, rfl⟩, ⟨_, rfl⟩, ⟨_, rfl⟩, ⟨_, rfl⟩, ⟨_, rfl⟩, ⟨_, rfl⟩, ⟨_, rfl⟩, ⟨_, rfl⟩, ⟨_, rfl⟩, ⟨_, rfl⟩, ⟨_, rfl⟩, ⟨_, rfl⟩, ⟨_, rfl⟩, ⟨_, rfl⟩, ⟨_, rfl⟩, ⟨_, rfl⟩, ⟨_, rfl⟩, ⟨_, rfl⟩, ⟨_, rfl⟩, ⟨_, rfl⟩, ⟨_, rfl⟩, ⟨_, rfl⟩, ⟨_, rfl⟩, trivial⟩ | trivial) (cellsEq #[.int .i64 o.k, .int .u8 o.d, .bool false, .int .u32 0, .int .u8 (o.p 0), .int .u8 (o.p 1), .int .u8 (o.p 2), .int .u8 (o.p 3), .int .u8 (o.p 4), .int .u8 (o.p 5), .int .u8 (o.p 6), .int .u8 (o.p 7), .int .u8 (o.p 8), .int .u8 (o.p 9), .int .u8 (o.p 10), .int .u8 (o.p 11), .int .u8 (o.p 12), .int .u8 (o.p 13), .int .u8 (o.p 14), .int .u8 (o.p 15), .int .u8 0, .int .u8 0, .int .u8 0, .int .u8 0, .int .u8 0, .int .u8 0, .int .u8 0, .int .u8 0, .int .u8 0, .int .u8 0, .int .u8 0, .int .u8 0, .int .u8 0, .int .u8 0, .int .u8 0, .int .u8 0].toList #[.int .i64 o.k, .int .u8 o.d, .bool o.a, .int .u32 o.tg, .int .u8 (o.p 0), .int .u8 (o.p 1), .int .u8 (o.p 2), .int .u8 (o.p 3), .int .u8 (o.p 4), .int .u8 (o.p 5), .int .u8 (o.p 6), .int .u8 (o.p 7), .int .u8 (o.p 8), .int .u8 (o.p 9), .int .u8 (o.p 10), .int .u8 (o.p 11), .int .u8 (o.p 12), .int .u8 (o.p 13), .int .u8 (o.p 14), .int .u8 (o.p 15), .int .u8 (o.s 0), .int .u8 (o.s 1), .int .u8 (o.s 2), .int .u8 (o.s 3), .int .u8 (o.s 4), .int .u8 (o.s 5), .int .u8 (o.s 6), .int .u8 (o.s 7), .int .u8 (o.s 8), .int .u8 (o.s 9), .int .u8 (o.s 10), .int .u8 (o.s 11), .int .u8 (o.s 12), .int .u8 (o.s 13), .int .u8 (o.s 14), .int .u8 (o.s 15)].toList) (by rfl) ?_
      refine VL_pure 4 [2] [(2, .bool (cellsEq #[.int .i64 o.k, .int .u8 o.d, .bool false, .int .u32 0, .int .u8 (o.p 0), .int .u8 (o.p 1), .int .u8 (o.p 2), .int .u8 (o.p 3), .int .u8 (o.p 4), .int .u8 (o.p 5), .int .u8 (o.p 6), .int .u8 (o.p 7), .int .u8 (o.p 8), .int .u8 (o.p 9), .int .u8 (o.p 10), .int .u8 (o.p 11), .int .u8 (o.p 12), .int .u8 (o.p 13), .int .u8 (o.p 14), .int .u8 (o.p 15), .int .u8 0, .int .u8 0, .int .u8 0, .int .u8 0, .int .u8 0, .int .u8 0, .int .u8 0, .int .u8 0, .int .u8 0, .int .u8 0, .int .u8 0, .int .u8 0, .int .u8 0, .int .u8 0, .int .u8 0, .int .u8 0].toList #[.int .i64 o.k, .int .u8 o.d, .bool o.a, .int .u32 o.tg, .int .u8 (o.p 0), .int .u8 (o.p 1), .int .u8 (o.p 2), .int .u8 (o.p 3), .int .u8 (o.p 4), .int .u8 (o.p 5), .int .u8 (o.p 6), .int .u8 (o.p 7), .int .u8 (o.p 8), .int .u8 (o.p 9), .int .u8 (o.p 10), .int .u8 (o.p 11), .int .u8 (o.p 12), .int .u8 (o.p 13), .int .u8 (o.p 14), .int .u8 (o.p 15), .int .u8 (o.s 0), .int .u8 (o.s 1), .int .u8 (o.s 2), .int .u8 (o.s 3), .int .u8 (o.s 4), .int .u8 (o.s 5), .int .u8 (o.s 6), .int .u8 (o.s 7), .int .u8 (o.s 8), .int .u8 (o.s 9), .int .u8 (o.s 10), .int .u8 (o.s 11), .int .u8 (o.s 12), .int .u8 (o.s 13), .int .u8 (o.s 14), .int .u8 (o.s 15)].toList))] (by kernel_rfl) rfl ?_
      refine VL_end (by kernel_rfl) ?_
      refine VQ_next ?_
      refine VC_ret ?_
      refine VQ_ret1 (.bool (cellsEq #[.int .i64 o.k, .int .u8 o.d, .bool false, .int .u32 0, .int .u8 (o.p 0), .int .u8 (o.p 1), .int .u8 (o.p 2), .int .u8 (o.p 3), .int .u8 (o.p 4), .int .u8 (o.p 5), .int .u8 (o.p 6), .int .u8 (o.p 7), .int .u8 (o.p 8), .int .u8 (o.p 9), .int .u8 (o.p 10), .int .u8 (o.p 11), .int .u8 (o.p 12), .int .u8 (o.p 13), .int .u8 (o.p 14), .int .u8 (o.p 15), .int .u8 0, .int .u8 0, .int .u8 0, .int .u8 0, .int .u8 0, .int .u8 0, .int .u8 0, .int .u8 0, .int .u8 0, .int .u8 0, .int .u8 0, .int .u8 0, .int .u8 0, .int .u8 0, .int .u8 0, .int .u8 0].toList #[.int .i64 o.k, .int .u8 o.d, .bool o.a, .int .u32 o.tg, .int .u8 (o.p 0), .int .u8 (o.p 1), .int .u8 (o.p 2), .int .u8 (o.p 3), .int .u8 (o.p 4), .int .u8 (o.p 5), .int .u8 (o.p 6), .int .u8 (o.p 7), .int .u8 (o.p 8), .int .u8 (o.p 9), .int .u8 (o.p 10), .int .u8 (o.p 11), .int .u8 (o.p 12), .int .u8 (o.p 13), .int .u8 (o.p 14), .int .u8 (o.p 15), .int .u8 (o.s 0), .int .u8 (o.s 1), .int .u8 (o.s 2), .int .u8 (o.s 3), .int .u8 (o.s 4), .int .u8 (o.s 5), .int .u8 (o.s 6), .int .u8 (o.s 7), .int .u8 (o.s 8), .int .u8 (o.s 9), .int .u8 (o.s 10), .int .u8 (o.s 11), .int .u8 (o.s 12), .int .u8 (o.s 13), .int .u8 (o.s 14), .int .u8 (o.s 15)].toList)) (.inr rfl) rfl rfl ?_
      exact ⟨congrArg Value.bool (Eq.symm (rightO_01 (by omega))), hS⟩
    · refine VC_seq ?_
      refine VC_region ?_
      refine VL_pure 2 [1, 3, 8, 18] [(1, .pointer (some ⟨b1, 0, none⟩)), (3, .pointer (some ⟨b2, 0, none⟩)), (8, .int .i64 o.k), (18, .bool (o.k == 4))] (by kernel_rfl) rfl ?_
      refine VL_end (by kernel_rfl) ?_
      refine VQ_next ?_
      refine VC_eq o.k 4 (by kernel_rfl) (fun h3 => ?_) (fun h3 => ?_)
      · refine VC_skip ?_
        refine VQ_block_normal ?_
        refine VQ_next ?_
        refine VC_seq ?_
        refine VC_region ?_
        refine VL_load (d := 34) (t := 31) (a := ⟨b2, 0, none⟩) (v := .agg #[.int .i64 o.k, .int .u8 0, .bool false, .int .u32 0, .int .u8 0, .int .u8 0, .int .u8 0, .int .u8 0, .int .u8 0, .int .u8 0, .int .u8 0, .int .u8 0, .int .u8 0, .int .u8 0, .int .u8 0, .int .u8 0, .int .u8 0, .int .u8 0, .int .u8 0, .int .u8 0, .int .u8 0, .int .u8 0, .int .u8 0, .int .u8 0, .int .u8 0, .int .u8 0, .int .u8 0, .int .u8 0, .int .u8 0, .int .u8 0, .int .u8 0, .int .u8 0, .int .u8 0, .int .u8 0, .int .u8 0, .int .u8 0]) (by kernel_rfl) (by kernel_rfl) (Loads.ownL ho3 (n := 36) (by kernel_rfl) (by kernel_rfl) (by kernel_rfl)) ?_
        refine VL_load (d := 35) (t := 31) (a := ⟨b1, 0, none⟩) (v := .agg #[.int .i64 o.k, .int .u8 o.d, .bool o.a, .int .u32 o.tg, .int .u8 (o.p 0), .int .u8 (o.p 1), .int .u8 (o.p 2), .int .u8 (o.p 3), .int .u8 (o.p 4), .int .u8 (o.p 5), .int .u8 (o.p 6), .int .u8 (o.p 7), .int .u8 (o.p 8), .int .u8 (o.p 9), .int .u8 (o.p 10), .int .u8 (o.p 11), .int .u8 (o.p 12), .int .u8 (o.p 13), .int .u8 (o.p 14), .int .u8 (o.p 15), .int .u8 (o.s 0), .int .u8 (o.s 1), .int .u8 (o.s 2), .int .u8 (o.s 3), .int .u8 (o.s 4), .int .u8 (o.s 5), .int .u8 (o.s 6), .int .u8 (o.s 7), .int .u8 (o.s 8), .int .u8 (o.s 9), .int .u8 (o.s 10), .int .u8 (o.s 11), .int .u8 (o.s 12), .int .u8 (o.s 13), .int .u8 (o.s 14), .int .u8 (o.s 15)]) (by kernel_rfl) (by kernel_rfl) (Loads.ownL ho1 (n := 36) (by kernel_rfl) (by kernel_rfl) (by kernel_rfl)) ?_
        refine VL_agEq (d := 36) (dd := 9) (ls := ([.int .i64] ++ [.int .u8] ++ [.bool] ++ [.int .u32] ++ (rep 16 [.int .u8]) ++ (rep 16 [.int .u8]) ++ [])) (pos := true) (t := 31) (xs := #[.int .i64 o.k, .int .u8 0, .bool false, .int .u32 0, .int .u8 0, .int .u8 0, .int .u8 0, .int .u8 0, .int .u8 0, .int .u8 0, .int .u8 0, .int .u8 0, .int .u8 0, .int .u8 0, .int .u8 0, .int .u8 0, .int .u8 0, .int .u8 0, .int .u8 0, .int .u8 0, .int .u8 0, .int .u8 0, .int .u8 0, .int .u8 0, .int .u8 0, .int .u8 0, .int .u8 0, .int .u8 0, .int .u8 0, .int .u8 0, .int .u8 0, .int .u8 0, .int .u8 0, .int .u8 0, .int .u8 0, .int .u8 0]) (ys := #[.int .i64 o.k, .int .u8 o.d, .bool o.a, .int .u32 o.tg, .int .u8 (o.p 0), .int .u8 (o.p 1), .int .u8 (o.p 2), .int .u8 (o.p 3), .int .u8 (o.p 4), .int .u8 (o.p 5), .int .u8 (o.p 6), .int .u8 (o.p 7), .int .u8 (o.p 8), .int .u8 (o.p 9), .int .u8 (o.p 10), .int .u8 (o.p 11), .int .u8 (o.p 12), .int .u8 (o.p 13), .int .u8 (o.p 14), .int .u8 (o.p 15), .int .u8 (o.s 0), .int .u8 (o.s 1), .int .u8 (o.s 2), .int .u8 (o.s 3), .int .u8 (o.s 4), .int .u8 (o.s 5), .int .u8 (o.s 6), .int .u8 (o.s 7), .int .u8 (o.s 8), .int .u8 (o.s 9), .int .u8 (o.s 10), .int .u8 (o.s 11), .int .u8 (o.s 12), .int .u8 (o.s 13), .int .u8 (o.s 14), .int .u8 (o.s 15)]) (by kernel_rfl) (by kernel_rfl) (by kernel_rfl) (by kernel_rfl) (by first | exact ⟨⟨_, rfl⟩, ⟨_, rfl⟩, ⟨_, rfl⟩, ⟨_, rfl⟩, ⟨_, rfl⟩, ⟨_, rfl⟩, ⟨_, rfl⟩, ⟨_, rfl⟩, ⟨_, rfl⟩, ⟨_, rfl⟩, ⟨_, rfl⟩, ⟨_, rfl⟩, ⟨_, rfl⟩, ⟨_, rfl⟩, ⟨_, rfl⟩, ⟨_, rfl⟩, ⟨_, rfl⟩, ⟨_, rfl⟩, ⟨_, rfl⟩, ⟨_, rfl⟩, ⟨_, rfl⟩, ⟨_, rfl⟩, ⟨_, rfl⟩, ⟨_, rfl⟩, ⟨_, rfl⟩, ⟨_, rfl⟩, ⟨_, rfl⟩, ⟨_, rfl⟩, ⟨_, rfl⟩, ⟨_, rfl⟩, ⟨_, rfl⟩, ⟨_, rfl⟩, ⟨_, rfl⟩, ⟨_, rfl⟩, ⟨_, rfl⟩, ⟨_, rfl⟩, trivial⟩ | trivial) (by first | exact ⟨⟨_, rfl⟩, ⟨_, rfl⟩, ⟨_, rfl⟩, ⟨_, rfl⟩, ⟨_, rfl⟩, ⟨_, rfl⟩, ⟨_, rfl⟩, ⟨_, rfl⟩, ⟨_, rfl⟩, ⟨_, rfl⟩, ⟨_, rfl⟩, ⟨_, rfl⟩, ⟨_, rfl⟩, ⟨_, rfl⟩, ⟨_, rfl⟩, ⟨_, rfl⟩, ⟨_, rfl⟩, ⟨_, rfl⟩, ⟨_, rfl⟩, ⟨_, rfl⟩, ⟨_, rfl⟩, ⟨_, rfl⟩, ⟨_, rfl⟩, ⟨_, rfl⟩, ⟨_, rfl⟩, ⟨_, rfl⟩, ⟨_, rfl⟩, ⟨_, rfl⟩, ⟨_, rfl⟩, ⟨_, rfl⟩, ⟨_, rfl⟩, ⟨_, rfl⟩, ⟨_, rfl⟩, ⟨_, rfl⟩, ⟨_, rfl⟩, ⟨_, rfl⟩, trivial⟩ | trivial) (cellsEq #[.int .i64 o.k, .int .u8 0, .bool false, .int .u32 0, .int .u8 0, .int .u8 0, .int .u8 0, .int .u8 0, .int .u8 0, .int .u8 0, .int .u8 0, .int .u8 0, .int .u8 0, .int .u8 0, .int .u8 0, .int .u8 0, .int .u8 0, .int .u8 0, .int .u8 0, .int .u8 0, .int .u8 0, .int .u8 0, .int .u8 0, .int .u8 0, .int .u8 0, .int .u8 0, .int .u8 0, .int .u8 0, .int .u8 0, .int .u8 0, .int .u8 0, .int .u8 0, .int .u8 0, .int .u8 0, .int .u8 0, .int .u8 0].toList #[.int .i64 o.k, .int .u8 o.d, .bool o.a, .int .u32 o.tg, .int .u8 (o.p 0), .int .u8 (o.p 1), .int .u8 (o.p 2), .int .u8 (o.p 3), .int .u8 (o.p 4), .int .u8 (o.p 5), .int .u8 (o.p 6), .int .u8 (o.p 7), .int .u8 (o.p 8), .int .u8 (o.p 9), .int .u8 (o.p 10), .int .u8 (o.p 11), .int .u8 (o.p 12), .int .u8 (o.p 13), .int .u8 (o.p 14), .int .u8 (o.p 15), .int .u8 (o.s 0), .int .u8 (o.s 1), .int .u8 (o.s 2), .int .u8 (o.s 3), .int .u8 (o.s 4), .int .u8 (o.s 5), .int .u8 (o.s 6), .int .u8 (o.s 7), .int .u8 (o.s 8), .int .u8 (o.s 9), .int .u8 (o.s 10), .int .u8 (o.s 11), .int .u8 (o.s 12), .int .u8 (o.s 13), .int .u8 (o.s 14), .int .u8 (o.s 15)].toList) (by rfl) ?_
        refine VL_pure 4 [2] [(2, .bool (cellsEq #[.int .i64 o.k, .int .u8 0, .bool false, .int .u32 0, .int .u8 0, .int .u8 0, .int .u8 0, .int .u8 0, .int .u8 0, .int .u8 0, .int .u8 0, .int .u8 0, .int .u8 0, .int .u8 0, .int .u8 0, .int .u8 0, .int .u8 0, .int .u8 0, .int .u8 0, .int .u8 0, .int .u8 0, .int .u8 0, .int .u8 0, .int .u8 0, .int .u8 0, .int .u8 0, .int .u8 0, .int .u8 0, .int .u8 0, .int .u8 0, .int .u8 0, .int .u8 0, .int .u8 0, .int .u8 0, .int .u8 0, .int .u8 0].toList #[.int .i64 o.k, .int .u8 o.d, .bool o.a, .int .u32 o.tg, .int .u8 (o.p 0), .int .u8 (o.p 1), .int .u8 (o.p 2), .int .u8 (o.p 3), .int .u8 (o.p 4), .int .u8 (o.p 5), .int .u8 (o.p 6), .int .u8 (o.p 7), .int .u8 (o.p 8), .int .u8 (o.p 9), .int .u8 (o.p 10), .int .u8 (o.p 11), .int .u8 (o.p 12), .int .u8 (o.p 13), .int .u8 (o.p 14), .int .u8 (o.p 15), .int .u8 (o.s 0), .int .u8 (o.s 1), .int .u8 (o.s 2), .int .u8 (o.s 3), .int .u8 (o.s 4), .int .u8 (o.s 5), .int .u8 (o.s 6), .int .u8 (o.s 7), .int .u8 (o.s 8), .int .u8 (o.s 9), .int .u8 (o.s 10), .int .u8 (o.s 11), .int .u8 (o.s 12), .int .u8 (o.s 13), .int .u8 (o.s 14), .int .u8 (o.s 15)].toList))] (by kernel_rfl) rfl ?_
        refine VL_end (by kernel_rfl) ?_
        refine VQ_next ?_
        refine VC_ret ?_
        refine VQ_ret1 (.bool (cellsEq #[.int .i64 o.k, .int .u8 0, .bool false, .int .u32 0, .int .u8 0, .int .u8 0, .int .u8 0, .int .u8 0, .int .u8 0, .int .u8 0, .int .u8 0, .int .u8 0, .int .u8 0, .int .u8 0, .int .u8 0, .int .u8 0, .int .u8 0, .int .u8 0, .int .u8 0, .int .u8 0, .int .u8 0, .int .u8 0, .int .u8 0, .int .u8 0, .int .u8 0, .int .u8 0, .int .u8 0, .int .u8 0, .int .u8 0, .int .u8 0, .int .u8 0, .int .u8 0, .int .u8 0, .int .u8 0, .int .u8 0, .int .u8 0].toList #[.int .i64 o.k, .int .u8 o.d, .bool o.a, .int .u32 o.tg, .int .u8 (o.p 0), .int .u8 (o.p 1), .int .u8 (o.p 2), .int .u8 (o.p 3), .int .u8 (o.p 4), .int .u8 (o.p 5), .int .u8 (o.p 6), .int .u8 (o.p 7), .int .u8 (o.p 8), .int .u8 (o.p 9), .int .u8 (o.p 10), .int .u8 (o.p 11), .int .u8 (o.p 12), .int .u8 (o.p 13), .int .u8 (o.p 14), .int .u8 (o.p 15), .int .u8 (o.s 0), .int .u8 (o.s 1), .int .u8 (o.s 2), .int .u8 (o.s 3), .int .u8 (o.s 4), .int .u8 (o.s 5), .int .u8 (o.s 6), .int .u8 (o.s 7), .int .u8 (o.s 8), .int .u8 (o.s 9), .int .u8 (o.s 10), .int .u8 (o.s 11), .int .u8 (o.s 12), .int .u8 (o.s 13), .int .u8 (o.s 14), .int .u8 (o.s 15)].toList)) (.inr rfl) rfl rfl ?_
        exact ⟨congrArg Value.bool (Eq.symm (rightO_4 (by omega))), hS⟩
      · refine VC_seq ?_
        refine VC_region ?_
        refine VL_pure 2 [1, 3, 20] [(1, .pointer (some ⟨b1, 0, none⟩)), (3, .pointer (some ⟨b2, 0, none⟩)), (20, .bool (o.k == 8))] (by kernel_rfl) rfl ?_
        refine VL_end (by kernel_rfl) ?_
        refine VQ_next ?_
        refine VC_eq o.k 8 (by kernel_rfl) (fun h4 => ?_) (fun h4 => ?_)
        · have hs2 := drew_step w3
          have hs2z : w3.heap.size = w3.drew.heap.size := rfl
          refine VC_text [[], [0], [], [2], [], [4], [], [6], [0, 1], [0, 1, 8], [0, 1, 2, 3, 8, 9], [0, 1, 2, 3, 8, 9, 10], [0, 1, 2, 3, 4, 5, 8, 9, 10, 11], [0, 1, 2, 3, 4, 5, 8, 9, 10, 11, 12], [0, 1, 2, 3, 4, 5, 6, 7, 8, 9, 10, 11, 12, 13], [0, 1, 2, 3, 4, 5, 6, 7, 8, 9, 10, 11, 12, 13, 14]] 14 (fun x y => Step (fun k => k = b2 ∨ w3.heap.size ≤ k) x y) [9, 11, 13] [0, 1, 2, 3, 4, 5, 6, 7, 8, 9, 10, 11, 12, 13] (by kernel_rfl) (by kernel_rfl) (by kernel_rfl) (by kernel_rfl) (fun x => Step.refl _ x) (fun h k => Step.trans h k) Step.weak ?_
          have hzs3 := hS.size
          have hzl2 := ho1.lt
          have hzl3 := ho3.lt
          generalize w3.drew = w8 at hs2 hs2z ⊢
          replace hS := Step.trans hS hs2
          replace ho1 := ho1.no hs2
          replace ho3 := ho3.no hs2
          refine VT_pures 1 (kn' := [(0, .pointer (some ⟨b1, 2, none⟩))]) (by kernel_rfl) ?_
          refine VT_load (d := 23) (t := 4) (a := ⟨b1, 2, none⟩) (v := .bool o.a) (by kernel_rfl) (by kernel_rfl) ?_ ?_
          · intro w9 hr3
            replace hS := Step.transNew hS hr3 (fun i hi hG => by (try simp only at hG); omega)
            replace ho1 := ho1.step hr3 (by (try simp only); omega)
            exact (Loads.own1 ho1 (by kernel_rfl) (by rfl))
          refine VT_pures 1 (kn' := [(2, .pointer (some ⟨b1, 3, none⟩)), (1, .bool o.a), (0, .pointer (some ⟨b1, 2, none⟩))]) (by kernel_rfl) ?_
          refine VT_load (d := 25) (t := 29) (a := ⟨b1, 3, none⟩) (v := .int .u32 o.tg) (by kernel_rfl) (by kernel_rfl) ?_ ?_
          · intro w10 hr4
            replace hS := Step.transNew hS hr4 (fun i hi hG => by (try simp only at hG); omega)
            replace ho1 := ho1.step hr4 (by (try simp only); omega)
            exact (Loads.own1 ho1 (by kernel_rfl) (by rfl))
          refine VT_pures 1 (kn' := [(4, .pointer (some ⟨b1, 4, none⟩)), (3, .int .u32 o.tg), (2, .pointer (some ⟨b1, 3, none⟩)), (1, .bool o.a), (0, .pointer (some ⟨b1, 2, none⟩))]) (by kernel_rfl) ?_
          refine VT_load (d := 27) (t := 22) (a := ⟨b1, 4, none⟩) (v := .agg #[.int .u8 (o.p 0), .int .u8 (o.p 1), .int .u8 (o.p 2), .int .u8 (o.p 3), .int .u8 (o.p 4), .int .u8 (o.p 5), .int .u8 (o.p 6), .int .u8 (o.p 7), .int .u8 (o.p 8), .int .u8 (o.p 9), .int .u8 (o.p 10), .int .u8 (o.p 11), .int .u8 (o.p 12), .int .u8 (o.p 13), .int .u8 (o.p 14), .int .u8 (o.p 15)]) (by kernel_rfl) (by kernel_rfl) ?_ ?_
          · intro w11 hr5
            replace hS := Step.transNew hS hr5 (fun i hi hG => by (try simp only at hG); omega)
            replace ho1 := ho1.step hr5 (by (try simp only); omega)
            exact (Loads.ownL ho1 (n := 16) (by kernel_rfl) (by kernel_rfl) (by kernel_rfl))
          refine VT_pures 1 (kn' := [(6, .pointer (some ⟨b1, 20, none⟩)), (5, .agg #[.int .u8 (o.p 0), .int .u8 (o.p 1), .int .u8 (o.p 2), .int .u8 (o.p 3), .int .u8 (o.p 4), .int .u8 (o.p 5), .int .u8 (o.p 6), .int .u8 (o.p 7), .int .u8 (o.p 8), .int .u8 (o.p 9), .int .u8 (o.p 10), .int .u8 (o.p 11), .int .u8 (o.p 12), .int .u8 (o.p 13), .int .u8 (o.p 14), .int .u8 (o.p 15)]), (4, .pointer (some ⟨b1, 4, none⟩)), (3, .int .u32 o.tg), (2, .pointer (some ⟨b1, 3, none⟩)), (1, .bool o.a), (0, .pointer (some ⟨b1, 2, none⟩))]) (by kernel_rfl) ?_
          refine VT_load (d := 29) (t := 22) (a := ⟨b1, 20, none⟩) (v := .agg #[.int .u8 (o.s 0), .int .u8 (o.s 1), .int .u8 (o.s 2), .int .u8 (o.s 3), .int .u8 (o.s 4), .int .u8 (o.s 5), .int .u8 (o.s 6), .int .u8 (o.s 7), .int .u8 (o.s 8), .int .u8 (o.s 9), .int .u8 (o.s 10), .int .u8 (o.s 11), .int .u8 (o.s 12), .int .u8 (o.s 13), .int .u8 (o.s 14), .int .u8 (o.s 15)]) (by kernel_rfl) (by kernel_rfl) ?_ ?_
          · intro w12 hr6
            replace hS := Step.transNew hS hr6 (fun i hi hG => by (try simp only at hG); omega)
            replace ho1 := ho1.step hr6 (by (try simp only); omega)
            exact (Loads.ownL ho1 (n := 16) (by kernel_rfl) (by kernel_rfl) (by kernel_rfl))
          refine VT_pures 1 (kn' := [(8, .pointer (some ⟨b2, 2, none⟩)), (7, .agg #[.int .u8 (o.s 0), .int .u8 (o.s 1), .int .u8 (o.s 2), .int .u8 (o.s 3), .int .u8 (o.s 4), .int .u8 (o.s 5), .int .u8 (o.s 6), .int .u8 (o.s 7), .int .u8 (o.s 8), .int .u8 (o.s 9), .int .u8 (o.s 10), .int .u8 (o.s 11), .int .u8 (o.s 12), .int .u8 (o.s 13), .int .u8 (o.s 14), .int .u8 (o.s 15)]), (6, .pointer (some ⟨b1, 20, none⟩)), (5, .agg #[.int .u8 (o.p 0), .int .u8 (o.p 1), .int .u8 (o.p 2), .int .u8 (o.p 3), .int .u8 (o.p 4), .int .u8 (o.p 5), .int .u8 (o.p 6), .int .u8 (o.p 7), .int .u8 (o.p 8), .int .u8 (o.p 9), .int .u8 (o.p 10), .int .u8 (o.p 11), .int .u8 (o.p 12), .int .u8 (o.p 13), .int .u8 (o.p 14), .int .u8 (o.p 15)]), (4, .pointer (some ⟨b1, 4, none⟩)), (3, .int .u32 o.tg), (2, .pointer (some ⟨b1, 3, none⟩)), (1, .bool o.a), (0, .pointer (some ⟨b1, 2, none⟩))]) (by kernel_rfl) ?_
          refine VT_chain (by kernel_rfl) ?_
          intro w13 hs3
          have hzhs3 := hs3.size
          replace hS := Step.trans hS hs3
          replace ho1 := ho1.no hs3
          replace ho3 := ho3.no hs3
          refine VTc_store (b := b2) (o := 2) (vs := [.bool o.a]) (by kernel_rfl) (by kernel_rfl) ho3 (Nat.le_of_ble_eq_true (by kernel_rfl)) (fun w1 hw => Step.mono hw.step (by intro i hi; (try simp only at hi ⊢); omega)) ?_
          intro w14 hw3
          replace hS := Step.transNew hS hw3.step (fun _ _ _ => by omega)
          replace ho1 := ho1.step hw3.step (show ¬ b1 = b2 by omega)
          have ho6 : Own w14 b2 #[.int .i64 o.k, .int .u8 0, .bool o.a, .int .u32 0, .int .u8 0, .int .u8 0, .int .u8 0, .int .u8 0, .int .u8 0, .int .u8 0, .int .u8 0, .int .u8 0, .int .u8 0, .int .u8 0, .int .u8 0, .int .u8 0, .int .u8 0, .int .u8 0, .int .u8 0, .int .u8 0, .int .u8 0, .int .u8 0, .int .u8 0, .int .u8 0, .int .u8 0, .int .u8 0, .int .u8 0, .int .u8 0, .int .u8 0, .int .u8 0, .int .u8 0, .int .u8 0, .int .u8 0, .int .u8 0, .int .u8 0, .int .u8 0] 31 := Own.cast hw3.own (by kernel_rfl)
          have hzhw3 := hw3.same
          refine VT_pures 1 (kn' := [(10, .pointer (some ⟨b2, 3, none⟩)), (8, .pointer (some ⟨b2, 2, none⟩)), (7, .agg #[.int .u8 (o.s 0), .int .u8 (o.s 1), .int .u8 (o.s 2), .int .u8 (o.s 3), .int .u8 (o.s 4), .int .u8 (o.s 5), .int .u8 (o.s 6), .int .u8 (o.s 7), .int .u8 (o.s 8), .int .u8 (o.s 9), .int .u8 (o.s 10), .int .u8 (o.s 11), .int .u8 (o.s 12), .int .u8 (o.s 13), .int .u8 (o.s 14), .int .u8 (o.s 15)]), (6, .pointer (some ⟨b1, 20, none⟩)), (5, .agg #[.int .u8 (o.p 0), .int .u8 (o.p 1), .int .u8 (o.p 2), .int .u8 (o.p 3), .int .u8 (o.p 4), .int .u8 (o.p 5), .int .u8 (o.p 6), .int .u8 (o.p 7), .int .u8 (o.p 8), .int .u8 (o.p 9), .int .u8 (o.p 10), .int .u8 (o.p 11), .int .u8 (o.p 12), .int .u8 (o.p 13), .int .u8 (o.p 14), .int .u8 (o.p 15)]), (4, .pointer (some ⟨b1, 4, none⟩)), (3, .int .u32 o.tg), (2, .pointer (some ⟨b1, 3, none⟩)), (1, .bool o.a), (0, .pointer (some ⟨b1, 2, none⟩))]) (by kernel_rfl) ?_
          refine VT_chain (by kernel_rfl) ?_
          intro w15 hs4
          have hzhs4 := hs4.size
          replace hS := Step.trans hS hs4
          replace ho1 := ho1.no hs4
          replace ho6 := ho6.no hs4
          refine VTc_store (b := b2) (o := 3) (vs := [.int .u32 o.tg]) (by kernel_rfl) (by kernel_rfl) ho6 (Nat.le_of_ble_eq_true (by kernel_rfl)) (fun w1 hw => Step.mono hw.step (by intro i hi; (try simp only at hi ⊢); omega)) ?_
          intro w16 hw4
          replace hS := Step.transNew hS hw4.step (fun _ _ _ => by omega)
          replace ho1 := ho1.step hw4.step (show ¬ b1 = b2 by omega)
          have ho7 : Own w16 b2 #[.int .i64 o.k, .int .u8 0, .bool o.a, .int .u32 o.tg, .int .u8 0, .int .u8 0, .int .u8 0, .int .u8 0, .int .u8 0, .int .u8 0, .int .u8 0, .int .u8 0, .int .u8 0, .int .u8 0, .int .u8 0, .int .u8 0, .int .u8 0, .int .u8 0, .int .u8 0, .int .u8 0, .int .u8 0, .int .u8 0, .int .u8 0, .int .u8 0, .int .u8 0, .int .u8 0, .int .u8 0, .int .u8 0, .int .u8 0, .int .u8 0, .int .u8 0, .int .u8 0, .int .u8 0, .int .u8 0, .int .u8 0, .int .u8 0] 31 := Own.cast hw4.own (by kernel_rfl)
          have hzhw4 := hw4.same
          refine VT_pures 1 (kn' := [(12, .pointer (some ⟨b2, 4, none⟩)), (10, .pointer (some ⟨b2, 3, none⟩)), (8, .pointer (some ⟨b2, 2, none⟩)), (7, .agg #[.int .u8 (o.s 0), .int .u8 (o.s 1), .int .u8 (o.s 2), .int .u8 (o.s 3), .int .u8 (o.s 4), .int .u8 (o.s 5), .int .u8 (o.s 6), .int .u8 (o.s 7), .int .u8 (o.s 8), .int .u8 (o.s 9), .int .u8 (o.s 10), .int .u8 (o.s 11), .int .u8 (o.s 12), .int .u8 (o.s 13), .int .u8 (o.s 14), .int .u8 (o.s 15)]), (6, .pointer (some ⟨b1, 20, none⟩)), (5, .agg #[.int .u8 (o.p 0), .int .u8 (o.p 1), .int .u8 (o.p 2), .int .u8 (o.p 3), .int .u8 (o.p 4), .int .u8 (o.p 5), .int .u8 (o.p 6), .int .u8 (o.p 7), .int .u8 (o.p 8), .int .u8 (o.p 9), .int .u8 (o.p 10), .int .u8 (o.p 11), .int .u8 (o.p 12), .int .u8 (o.p 13), .int .u8 (o.p 14), .int .u8 (o.p 15)]), (4, .pointer (some ⟨b1, 4, none⟩)), (3, .int .u32 o.tg), (2, .pointer (some ⟨b1, 3, none⟩)), (1, .bool o.a), (0, .pointer (some ⟨b1, 2, none⟩))]) (by kernel_rfl) ?_
          refine VT_chain (by kernel_rfl) ?_
          intro w17 hs5
          have hzhs5 := hs5.size
          replace hS := Step.trans hS hs5
          replace ho1 := ho1.no hs5
          replace ho7 := ho7.no hs5
          refine VTc_store (b := b2) (o := 4) (vs := [.int .u8 (o.p 0), .int .u8 (o.p 1), .int .u8 (o.p 2), .int .u8 (o.p 3), .int .u8 (o.p 4), .int .u8 (o.p 5), .int .u8 (o.p 6), .int .u8 (o.p 7), .int .u8 (o.p 8), .int .u8 (o.p 9), .int .u8 (o.p 10), .int .u8 (o.p 11), .int .u8 (o.p 12), .int .u8 (o.p 13), .int .u8 (o.p 14), .int .u8 (o.p 15)]) (by kernel_rfl) (by kernel_rfl) ho7 (Nat.le_of_ble_eq_true (by kernel_rfl)) (fun w1 hw => Step.mono hw.step (by intro i hi; (try simp only at hi ⊢); omega)) ?_
          intro w18 hw5
          replace hS := Step.transNew hS hw5.step (fun _ _ _ => by omega)
          replace ho1 := ho1.step hw5.step (show ¬ b1 = b2 by omega)
          have ho8 : Own w18 b2 #[.int .i64 o.k, .int .u8 0, .bool o.a, .int .u32 o.tg, .int .u8 (o.p 0), .int .u8 (o.p 1), .int .u8 (o.p 2), .int .u8 (o.p 3), .int .u8 (o.p 4), .int .u8 (o.p 5), .int .u8 (o.p 6), .int .u8 (o.p 7), .int .u8 (o.p 8), .int .u8 (o.p 9), .int .u8 (o.p 10), .int .u8 (o.p 11), .int .u8 (o.p 12), .int .u8 (o.p 13), .int .u8 (o.p 14), .int .u8 (o.p 15), .int .u8 0, .int .u8 0, .int .u8 0, .int .u8 0, .int .u8 0, .int .u8 0, .int .u8 0, .int .u8 0, .int .u8 0, .int .u8 0, .int .u8 0, .int .u8 0, .int .u8 0, .int .u8 0, .int .u8 0, .int .u8 0] 31 := Own.cast hw5.own (by kernel_rfl)
          have hzhw5 := hw5.same
          refine VT_end ?_
          intro w19 hs6
          replace hS := Step.trans hS hs6
          replace ho1 := ho1.no hs6
          replace ho8 := ho8.no hs6
          refine VL_keep [1, 3, 29] [(1, .pointer (some ⟨b1, 0, none⟩)), (3, .pointer (some ⟨b2, 0, none⟩)), (29, .agg #[.int .u8 (o.s 0), .int .u8 (o.s 1), .int .u8 (o.s 2), .int .u8 (o.s 3), .int .u8 (o.s 4), .int .u8 (o.s 5), .int .u8 (o.s 6), .int .u8 (o.s 7), .int .u8 (o.s 8), .int .u8 (o.s 9), .int .u8 (o.s 10), .int .u8 (o.s 11), .int .u8 (o.s 12), .int .u8 (o.s 13), .int .u8 (o.s 14), .int .u8 (o.s 15)])] (by kernel_rfl) ?_
          refine VL_pure 15 [1, 3, 29, 33] [(1, .pointer (some ⟨b1, 0, none⟩)), (3, .pointer (some ⟨b2, 0, none⟩)), (29, .agg #[.int .u8 (o.s 0), .int .u8 (o.s 1), .int .u8 (o.s 2), .int .u8 (o.s 3), .int .u8 (o.s 4), .int .u8 (o.s 5), .int .u8 (o.s 6), .int .u8 (o.s 7), .int .u8 (o.s 8), .int .u8 (o.s 9), .int .u8 (o.s 10), .int .u8 (o.s 11), .int .u8 (o.s 12), .int .u8 (o.s 13), .int .u8 (o.s 14), .int .u8 (o.s 15)]), (33, .pointer (some ⟨b2, 20, none⟩))] (by kernel_rfl) rfl ?_
          refine VL_store (b := b2) (o := 20) (vs := [.int .u8 (o.s 0), .int .u8 (o.s 1), .int .u8 (o.s 2), .int .u8 (o.s 3), .int .u8 (o.s 4), .int .u8 (o.s 5), .int .u8 (o.s 6), .int .u8 (o.s 7), .int .u8 (o.s 8), .int .u8 (o.s 9), .int .u8 (o.s 10), .int .u8 (o.s 11), .int .u8 (o.s 12), .int .u8 (o.s 13), .int .u8 (o.s 14), .int .u8 (o.s 15)]) (by kernel_rfl) (by kernel_rfl) ho8 (Nat.le_of_ble_eq_true (by kernel_rfl)) ?_
          intro w20 hw6
          replace hS := Step.transNew hS hw6.step (fun _ _ _ => by omega)
          replace ho1 := ho1.step hw6.step (show ¬ b1 = b2 by omega)
          have ho9 : Own w20 b2 #[.int .i64 o.k, .int .u8 0, .bool o.a, .int .u32 o.tg, .int .u8 (o.p 0), .int .u8 (o.p 1), .int .u8 (o.p 2), .int .u8 (o.p 3), .int .u8 (o.p 4), .int .u8 (o.p 5), .int .u8 (o.p 6), .int .u8 (o.p 7), .int .u8 (o.p 8), .int .u8 (o.p 9), .int .u8 (o.p 10), .int .u8 (o.p 11), .int .u8 (o.p 12), .int .u8 (o.p 13), .int .u8 (o.p 14), .int .u8 (o.p 15), .int .u8 (o.s 0), .int .u8 (o.s 1), .int .u8 (o.s 2), .int .u8 (o.s 3), .int .u8 (o.s 4), .int .u8 (o.s 5), .int .u8 (o.s 6), .int .u8 (o.s 7), .int .u8 (o.s 8), .int .u8 (o.s 9), .int .u8 (o.s 10), .int .u8 (o.s 11), .int .u8 (o.s 12), .int .u8 (o.s 13), .int .u8 (o.s 14), .int .u8 (o.s 15)] 31 := Own.cast hw6.own (by kernel_rfl)
          have hzhw6 := hw6.same
          refine VL_end (by kernel_rfl) ?_
          refine VQ_block_normal ?_
          refine VQ_next ?_
          refine VC_seq ?_
          refine VC_region ?_
          refine VL_load (d := 34) (t := 31) (a := ⟨b2, 0, none⟩) (v := .agg #[.int .i64 o.k, .int .u8 0, .bool o.a, .int .u32 o.tg, .int .u8 (o.p 0), .int .u8 (o.p 1), .int .u8 (o.p 2), .int .u8 (o.p 3), .int .u8 (o.p 4), .int .u8 (o.p 5), .int .u8 (o.p 6), .int .u8 (o.p 7), .int .u8 (o.p 8), .int .u8 (o.p 9), .int .u8 (o.p 10), .int .u8 (o.p 11), .int .u8 (o.p 12), .int .u8 (o.p 13), .int .u8 (o.p 14), .int .u8 (o.p 15), .int .u8 (o.s 0), .int .u8 (o.s 1), .int .u8 (o.s 2), .int .u8 (o.s 3), .int .u8 (o.s 4), .int .u8 (o.s 5), .int .u8 (o.s 6), .int .u8 (o.s 7), .int .u8 (o.s 8), .int .u8 (o.s 9), .int .u8 (o.s 10), .int .u8 (o.s 11), .int .u8 (o.s 12), .int .u8 (o.s 13), .int .u8 (o.s 14), .int .u8 (o.s 15)]) (by kernel_rfl) (by kernel_rfl) (Loads.ownL ho9 (n := 36) (by kernel_rfl) (by kernel_rfl) (by kernel_rfl)) ?_
          refine VL_load (d := 35) (t := 31) (a := ⟨b1, 0, none⟩) (v := .agg #[.int .i64 o.k, .int .u8 o.d, .bool o.a, .int .u32 o.tg, .int .u8 (o.p 0), .int .u8 (o.p 1), .int .u8 (o.p 2), .int .u8 (o.p 3), .int .u8 (o.p 4), .int .u8 (o.p 5), .int .u8 (o.p 6), .int .u8 (o.p 7), .int .u8 (o.p 8), .int .u8 (o.p 9), .int .u8 (o.p 10), .int .u8 (o.p 11), .int .u8 (o.p 12), .int .u8 (o.p 13), .int .u8 (o.p 14), .int .u8 (o.p 15), .int .u8 (o.s 0), .int .u8 (o.s 1), .int .u8 (o.s 2), .int .u8 (o.s 3), .int .u8 (o.s 4), .int .u8 (o.s 5), .int .u8 (o.s 6), .int .u8 (o.s 7), .int .u8 (o.s 8), .int .u8 (o.s 9), .int .u8 (o.s 10), .int .u8 (o.s 11), .int .u8 (o.s 12), .int .u8 (o.s 13), .int .u8 (o.s 14), .int .u8 (o.s 15)]) (by kernel_rfl) (by kernel_rfl) (Loads.ownL ho1 (n := 36) (by kernel_rfl) (by kernel_rfl) (by kernel_rfl)) ?_
          refine VL_agEq (d := 36) (dd := 9) (ls := ([.int .i64] ++ [.int .u8] ++ [.bool] ++ [.int .u32] ++ (rep 16 [.int .u8]) ++ (rep 16 [.int .u8]) ++ [])) (pos := true) (t := 31) (xs := #[.int .i64 o.k, .int .u8 0, .bool o.a, .int .u32 o.tg, .int .u8 (o.p 0), .int .u8 (o.p 1), .int .u8 (o.p 2), .int .u8 (o.p 3), .int .u8 (o.p 4), .int .u8 (o.p 5), .int .u8 (o.p 6), .int .u8 (o.p 7), .int .u8 (o.p 8), .int .u8 (o.p 9), .int .u8 (o.p 10), .int .u8 (o.p 11), .int .u8 (o.p 12), .int .u8 (o.p 13), .int .u8 (o.p 14), .int .u8 (o.p 15), .int .u8 (o.s 0), .int .u8 (o.s 1), .int .u8 (o.s 2), .int .u8 (o.s 3), .int .u8 (o.s 4), .int .u8 (o.s 5), .int .u8 (o.s 6), .int .u8 (o.s 7), .int .u8 (o.s 8), .int .u8 (o.s 9), .int .u8 (o.s 10), .int .u8 (o.s 11), .int .u8 (o.s 12), .int .u8 (o.s 13), .int .u8 (o.s 14), .int .u8 (o.s 15)]) (ys := #[.int .i64 o.k, .int .u8 o.d, .bool o.a, .int .u32 o.tg, .int .u8 (o.p 0), .int .u8 (o.p 1), .int .u8 (o.p 2), .int .u8 (o.p 3), .int .u8 (o.p 4), .int .u8 (o.p 5), .int .u8 (o.p 6), .int .u8 (o.p 7), .int .u8 (o.p 8), .int .u8 (o.p 9), .int .u8 (o.p 10), .int .u8 (o.p 11), .int .u8 (o.p 12), .int .u8 (o.p 13), .int .u8 (o.p 14), .int .u8 (o.p 15), .int .u8 (o.s 0), .int .u8 (o.s 1), .int .u8 (o.s 2), .int .u8 (o.s 3), .int .u8 (o.s 4), .int .u8 (o.s 5), .int .u8 (o.s 6), .int .u8 (o.s 7), .int .u8 (o.s 8), .int .u8 (o.s 9), .int .u8 (o.s 10), .int .u8 (o.s 11), .int .u8 (o.s 12), .int .u8 (o.s 13), .int .u8 (o.s 14), .int .u8 (o.s 15)]) (by kernel_rfl) (by kernel_rfl) (by kernel_rfl) (by kernel_rfl) (by first | exact ⟨⟨_, rfl⟩, ⟨_, rfl⟩, ⟨_, rfl⟩, ⟨_, rfl⟩, ⟨_, rfl⟩, ⟨_, rfl⟩, ⟨_, rfl⟩, ⟨_, rfl⟩, ⟨_, rfl⟩, ⟨_, rfl⟩, ⟨_, rfl⟩, ⟨_, rfl⟩, ⟨_, rfl⟩, ⟨_, rfl⟩, ⟨_, rfl⟩, ⟨_, rfl⟩, ⟨_, rfl⟩, ⟨_, rfl⟩, ⟨_, rfl⟩, ⟨_, rfl⟩, ⟨_, rfl⟩, ⟨_, rfl⟩, ⟨_, rfl⟩, ⟨_, rfl⟩, ⟨_, rfl⟩, ⟨_, rfl⟩, ⟨_, rfl⟩, ⟨_, rfl⟩, ⟨_, rfl⟩, ⟨_, rfl⟩, ⟨_, rfl⟩, ⟨_, rfl⟩, ⟨_, rfl⟩, ⟨_, rfl⟩, ⟨_, rfl⟩, ⟨_, rfl⟩, trivial⟩ | trivial) (by first | exact ⟨⟨_, rfl⟩, ⟨_, rfl⟩, ⟨_, rfl⟩, ⟨_, rfl⟩, ⟨_, rfl⟩, ⟨_, rfl⟩, ⟨_, rfl⟩, ⟨_, rfl⟩, ⟨_, rfl⟩, ⟨_, rfl⟩, ⟨_, rfl⟩, ⟨_, rfl⟩, ⟨_, rfl⟩, ⟨_, rfl⟩, ⟨_, rfl⟩, ⟨_, rfl⟩, ⟨_, rfl⟩, ⟨_, rfl⟩, ⟨_, rfl⟩, ⟨_, rfl⟩, ⟨_, rfl⟩, ⟨_, rfl⟩, ⟨_, rfl⟩, ⟨_, rfl⟩, ⟨_, rfl⟩, ⟨_, rfl⟩, ⟨_, rfl⟩, ⟨_, rfl⟩, ⟨_, rfl⟩, ⟨_, rfl⟩, ⟨_, rfl⟩, ⟨_, rfl⟩, ⟨_, rfl⟩, ⟨_, rfl⟩, ⟨_, rfl⟩, ⟨_, rfl⟩, trivial⟩ | trivial) (cellsEq #[.int .i64 o.k, .int .u8 0, .bool o.a, .int .u32 o.tg, .int .u8 (o.p 0), .int .u8 (o.p 1), .int .u8 (o.p 2), .int .u8 (o.p 3), .int .u8 (o.p 4), .int .u8 (o.p 5), .int .u8 (o.p 6), .int .u8 (o.p 7), .int .u8 (o.p 8), .int .u8 (o.p 9), .int .u8 (o.p 10), .int .u8 (o.p 11), .int .u8 (o.p 12), .int .u8 (o.p 13), .int .u8 (o.p 14), .int .u8 (o.p 15), .int .u8 (o.s 0), .int .u8 (o.s 1), .int .u8 (o.s 2), .int .u8 (o.s 3), .int .u8 (o.s 4), .int .u8 (o.s 5), .int .u8 (o.s 6), .int .u8 (o.s 7), .int .u8 (o.s 8), .int .u8 (o.s 9), .int .u8 (o.s 10), .int .u8 (o.s 11), .int .u8 (o.s 12), .int .u8 (o.s 13), .int .u8 (o.s 14), .int .u8 (o.s 15)].toList #[.int .i64 o.k, .int .u8 o.d, .bool o.a, .int .u32 o.tg, .int .u8 (o.p 0), .int .u8 (o.p 1), .int .u8 (o.p 2), .int .u8 (o.p 3), .int .u8 (o.p 4), .int .u8 (o.p 5), .int .u8 (o.p 6), .int .u8 (o.p 7), .int .u8 (o.p 8), .int .u8 (o.p 9), .int .u8 (o.p 10), .int .u8 (o.p 11), .int .u8 (o.p 12), .int .u8 (o.p 13), .int .u8 (o.p 14), .int .u8 (o.p 15), .int .u8 (o.s 0), .int .u8 (o.s 1), .int .u8 (o.s 2), .int .u8 (o.s 3), .int .u8 (o.s 4), .int .u8 (o.s 5), .int .u8 (o.s 6), .int .u8 (o.s 7), .int .u8 (o.s 8), .int .u8 (o.s 9), .int .u8 (o.s 10), .int .u8 (o.s 11), .int .u8 (o.s 12), .int .u8 (o.s 13), .int .u8 (o.s 14), .int .u8 (o.s 15)].toList) (by rfl) ?_
          refine VL_pure 4 [2] [(2, .bool (cellsEq #[.int .i64 o.k, .int .u8 0, .bool o.a, .int .u32 o.tg, .int .u8 (o.p 0), .int .u8 (o.p 1), .int .u8 (o.p 2), .int .u8 (o.p 3), .int .u8 (o.p 4), .int .u8 (o.p 5), .int .u8 (o.p 6), .int .u8 (o.p 7), .int .u8 (o.p 8), .int .u8 (o.p 9), .int .u8 (o.p 10), .int .u8 (o.p 11), .int .u8 (o.p 12), .int .u8 (o.p 13), .int .u8 (o.p 14), .int .u8 (o.p 15), .int .u8 (o.s 0), .int .u8 (o.s 1), .int .u8 (o.s 2), .int .u8 (o.s 3), .int .u8 (o.s 4), .int .u8 (o.s 5), .int .u8 (o.s 6), .int .u8 (o.s 7), .int .u8 (o.s 8), .int .u8 (o.s 9), .int .u8 (o.s 10), .int .u8 (o.s 11), .int .u8 (o.s 12), .int .u8 (o.s 13), .int .u8 (o.s 14), .int .u8 (o.s 15)].toList #[.int .i64 o.k, .int .u8 o.d, .bool o.a, .int .u32 o.tg, .int .u8 (o.p 0), .int .u8 (o.p 1), .int .u8 (o.p 2), .int .u8 (o.p 3), .int .u8 (o.p 4), .int .u8 (o.p 5), .int .u8 (o.p 6), .int .u8 (o.p 7), .int .u8 (o.p 8), .int .u8 (o.p 9), .int .u8 (o.p 10), .int .u8 (o.p 11), .int .u8 (o.p 12), .int .u8 (o.p 13), .int .u8 (o.p 14), .int .u8 (o.p 15), .int .u8 (o.s 0), .int .u8 (o.s 1), .int .u8 (o.s 2), .int .u8 (o.s 3), .int .u8 (o.s 4), .int .u8 (o.s 5), .int .u8 (o.s 6), .int .u8 (o.s 7), .int .u8 (o.s 8), .int .u8 (o.s 9), .int .u8 (o.s 10), .int .u8 (o.s 11), .int .u8 (o.s 12), .int .u8 (o.s 13), .int .u8 (o.s 14), .int .u8 (o.s 15)].toList))] (by kernel_rfl) rfl ?_
          refine VL_end (by kernel_rfl) ?_
          refine VQ_next ?_
          refine VC_ret ?_
          refine VQ_ret1 (.bool (cellsEq #[.int .i64 o.k, .int .u8 0, .bool o.a, .int .u32 o.tg, .int .u8 (o.p 0), .int .u8 (o.p 1), .int .u8 (o.p 2), .int .u8 (o.p 3), .int .u8 (o.p 4), .int .u8 (o.p 5), .int .u8 (o.p 6), .int .u8 (o.p 7), .int .u8 (o.p 8), .int .u8 (o.p 9), .int .u8 (o.p 10), .int .u8 (o.p 11), .int .u8 (o.p 12), .int .u8 (o.p 13), .int .u8 (o.p 14), .int .u8 (o.p 15), .int .u8 (o.s 0), .int .u8 (o.s 1), .int .u8 (o.s 2), .int .u8 (o.s 3), .int .u8 (o.s 4), .int .u8 (o.s 5), .int .u8 (o.s 6), .int .u8 (o.s 7), .int .u8 (o.s 8), .int .u8 (o.s 9), .int .u8 (o.s 10), .int .u8 (o.s 11), .int .u8 (o.s 12), .int .u8 (o.s 13), .int .u8 (o.s 14), .int .u8 (o.s 15)].toList #[.int .i64 o.k, .int .u8 o.d, .bool o.a, .int .u32 o.tg, .int .u8 (o.p 0), .int .u8 (o.p 1), .int .u8 (o.p 2), .int .u8 (o.p 3), .int .u8 (o.p 4), .int .u8 (o.p 5), .int .u8 (o.p 6), .int .u8 (o.p 7), .int .u8 (o.p 8), .int .u8 (o.p 9), .int .u8 (o.p 10), .int .u8 (o.p 11), .int .u8 (o.p 12), .int .u8 (o.p 13), .int .u8 (o.p 14), .int .u8 (o.p 15), .int .u8 (o.s 0), .int .u8 (o.s 1), .int .u8 (o.s 2), .int .u8 (o.s 3), .int .u8 (o.s 4), .int .u8 (o.s 5), .int .u8 (o.s 6), .int .u8 (o.s 7), .int .u8 (o.s 8), .int .u8 (o.s 9), .int .u8 (o.s 10), .int .u8 (o.s 11), .int .u8 (o.s 12), .int .u8 (o.s 13), .int .u8 (o.s 14), .int .u8 (o.s 15)].toList)) (.inr rfl) rfl rfl ?_
          exact ⟨congrArg Value.bool (Eq.symm (rightO_8 (by omega))), hS⟩
        · refine VC_seq ?_
          refine VC_region ?_
          refine VL_pure 1 [2] [(2, .bool false)] (by kernel_rfl) rfl ?_
          refine VL_end (by kernel_rfl) ?_
          refine VQ_next ?_
          refine VC_ret ?_
          refine VQ_block_ret ?_
          refine VQ_then_ret ?_
          refine VQ_ret1 (.bool false) (.inr rfl) rfl rfl ?_
          exact ⟨congrArg Value.bool (Eq.symm (rightO_no (by omega) (by omega) (by omega) (by omega))), hS⟩
  · refine VC_region ?_
    refine VL_pure 2 [1, 3, 8, 9] [(1, .pointer (some ⟨b1, 0, none⟩)), (3, .pointer (some ⟨b2, 0, none⟩)), (8, .int .i64 o.k), (9, .bool (o.k == 1))] (by kernel_rfl) rfl ?_
    refine VL_end (by kernel_rfl) ?_
    refine VQ_next ?_
    refine VC_eq o.k 1 (by kernel_rfl) (fun h5 => ?_) (fun h5 => ?_)
    · refine VC_eff [[], [0], [], [2], [0, 1], [0, 1, 4], [0, 1, 2, 3, 4, 5], [0, 1, 2, 3, 4, 5, 6]] 6 [.pointer (some ⟨b1, 1, none⟩), .int .u8 o.d, .pointer (some ⟨b1, 4, none⟩), .agg #[.int .u8 (o.p 0), .int .u8 (o.p 1), .int .u8 (o.p 2), .int .u8 (o.p 3), .int .u8 (o.p 4), .int .u8 (o.p 5), .int .u8 (o.p 6), .int .u8 (o.p 7), .int .u8 (o.p 8), .int .u8 (o.p 9), .int .u8 (o.p 10), .int .u8 (o.p 11), .int .u8 (o.p 12), .int .u8 (o.p 13), .int .u8 (o.p 14), .int .u8 (o.p 15)], .pointer (some ⟨b2, 1, none⟩), undef] [0, 2, 4] [1, 3, 5] (ROwn b2 31 #[.int .i64 o.k, .int .u8 0, .bool false, .int .u32 0, .int .u8 0, .int .u8 0, .int .u8 0, .int .u8 0, .int .u8 0, .int .u8 0, .int .u8 0, .int .u8 0, .int .u8 0, .int .u8 0, .int .u8 0, .int .u8 0, .int .u8 0, .int .u8 0, .int .u8 0, .int .u8 0, .int .u8 0, .int .u8 0, .int .u8 0, .int .u8 0, .int .u8 0, .int .u8 0, .int .u8 0, .int .u8 0, .int .u8 0, .int .u8 0, .int .u8 0, .int .u8 0, .int .u8 0, .int .u8 0, .int .u8 0, .int .u8 0] #[.int .i64 o.k, .int .u8 o.d, .bool false, .int .u32 0, .int .u8 0, .int .u8 0, .int .u8 0, .int .u8 0, .int .u8 0, .int .u8 0, .int .u8 0, .int .u8 0, .int .u8 0, .int .u8 0, .int .u8 0, .int .u8 0, .int .u8 0, .int .u8 0, .int .u8 0, .int .u8 0, .int .u8 0, .int .u8 0, .int .u8 0, .int .u8 0, .int .u8 0, .int .u8 0, .int .u8 0, .int .u8 0, .int .u8 0, .int .u8 0, .int .u8 0, .int .u8 0, .int .u8 0, .int .u8 0, .int .u8 0, .int .u8 0]) (fun j x => j = 5 → Own x b2 #[.int .i64 o.k, .int .u8 o.d, .bool false, .int .u32 0, .int .u8 0, .int .u8 0, .int .u8 0, .int .u8 0, .int .u8 0, .int .u8 0, .int .u8 0, .int .u8 0, .int .u8 0, .int .u8 0, .int .u8 0, .int .u8 0, .int .u8 0, .int .u8 0, .int .u8 0, .int .u8 0, .int .u8 0, .int .u8 0, .int .u8 0, .int .u8 0, .int .u8 0, .int .u8 0, .int .u8 0, .int .u8 0, .int .u8 0, .int .u8 0, .int .u8 0, .int .u8 0, .int .u8 0, .int .u8 0, .int .u8 0, .int .u8 0] 31) (by kernel_rfl) (by kernel_rfl) (by kernel_rfl) (ROwn.refl _ _ _ _) ROwn.trans (ROwn.no (drew_step _)) (fun _ _ _ h hr e => hr.2.1 (h e)) (by kernel_rfl) (by intro k hk x e; subst e; simp at hk) ?_ ?_
      · intro w23 hr7
        have hI := hr7.1 (.inl ho3)
        replace hS := Step.transNew hS hr7.2.2 (fun _ _ _ => by omega)
        replace ho1 := ho1.step hr7.2.2 (show ¬ b1 = b2 by omega)
        exact ⟨fun _ => Eff1_no (Det1_load (d := 13) (t := 5) (a := ⟨b1, 1, none⟩) (by kernel_rfl) (by kernel_rfl) (Loads.own1 ho1 (by kernel_rfl) (by rfl))) (fun x e => absurd e (by decide)), fun _ => Eff1_no (Det1_load (d := 15) (t := 22) (a := ⟨b1, 4, none⟩) (by kernel_rfl) (by kernel_rfl) (Loads.ownL ho1 (n := 16) (by kernel_rfl) (by kernel_rfl) (by kernel_rfl))) (fun x e => absurd e (by decide)), fun _ => Eff1_store (b := b2) (o := 1) (T := 31) (c0 := #[.int .i64 o.k, .int .u8 0, .bool false, .int .u32 0, .int .u8 0, .int .u8 0, .int .u8 0, .int .u8 0, .int .u8 0, .int .u8 0, .int .u8 0, .int .u8 0, .int .u8 0, .int .u8 0, .int .u8 0, .int .u8 0, .int .u8 0, .int .u8 0, .int .u8 0, .int .u8 0, .int .u8 0, .int .u8 0, .int .u8 0, .int .u8 0, .int .u8 0, .int .u8 0, .int .u8 0, .int .u8 0, .int .u8 0, .int .u8 0, .int .u8 0, .int .u8 0, .int .u8 0, .int .u8 0, .int .u8 0, .int .u8 0]) (c1 := #[.int .i64 o.k, .int .u8 o.d, .bool false, .int .u32 0, .int .u8 0, .int .u8 0, .int .u8 0, .int .u8 0, .int .u8 0, .int .u8 0, .int .u8 0, .int .u8 0, .int .u8 0, .int .u8 0, .int .u8 0, .int .u8 0, .int .u8 0, .int .u8 0, .int .u8 0, .int .u8 0, .int .u8 0, .int .u8 0, .int .u8 0, .int .u8 0, .int .u8 0, .int .u8 0, .int .u8 0, .int .u8 0, .int .u8 0, .int .u8 0, .int .u8 0, .int .u8 0, .int .u8 0, .int .u8 0, .int .u8 0, .int .u8 0]) (vs := [.int .u8 o.d]) (by kernel_rfl) (by kernel_rfl) hI (Nat.le_of_ble_eq_true (by kernel_rfl)) (Nat.le_of_ble_eq_true (by kernel_rfl)) (by kernel_rfl) (by kernel_rfl), trivial⟩
      intro w22 hr8 hB2
      have ho10 := hB2 5 (by decide) rfl
      replace hS := Step.transNew hS hr8.2.2 (fun _ _ _ => by omega)
      replace ho1 := ho1.step hr8.2.2 (show ¬ b1 = b2 by omega)
      refine VL_keep [1, 3, 15] [(1, .pointer (some ⟨b1, 0, none⟩)), (3, .pointer (some ⟨b2, 0, none⟩)), (15, .agg #[.int .u8 (o.p 0), .int .u8 (o.p 1), .int .u8 (o.p 2), .int .u8 (o.p 3), .int .u8 (o.p 4), .int .u8 (o.p 5), .int .u8 (o.p 6), .int .u8 (o.p 7), .int .u8 (o.p 8), .int .u8 (o.p 9), .int .u8 (o.p 10), .int .u8 (o.p 11), .int .u8 (o.p 12), .int .u8 (o.p 13), .int .u8 (o.p 14), .int .u8 (o.p 15)])] (by kernel_rfl) ?_
      refine VL_pure 7 [1, 3, 15, 17] [(1, .pointer (some ⟨b1, 0, none⟩)), (3, .pointer (some ⟨b2, 0, none⟩)), (15, .agg #[.int .u8 (o.p 0), .int .u8 (o.p 1), .int .u8 (o.p 2), .int .u8 (o.p 3), .int .u8 (o.p 4), .int .u8 (o.p 5), .int .u8 (o.p 6), .int .u8 (o.p 7), .int .u8 (o.p 8), .int .u8 (o.p 9), .int .u8 (o.p 10), .int .u8 (o.p 11), .int .u8 (o.p 12), .int .u8 (o.p 13), .int .u8 (o.p 14), .int .u8 (o.p 15)]), (17, .pointer (some ⟨b2, 4, none⟩))] (by kernel_rfl) rfl ?_
      refine VL_store (b := b2) (o := 4) (vs := [.int .u8 (o.p 0), .int .u8 (o.p 1), .int .u8 (o.p 2), .int .u8 (o.p 3), .int .u8 (o.p 4), .int .u8 (o.p 5), .int .u8 (o.p 6), .int .u8 (o.p 7), .int .u8 (o.p 8), .int .u8 (o.p 9), .int .u8 (o.p 10), .int .u8 (o.p 11), .int .u8 (o.p 12), .int .u8 (o.p 13), .int .u8 (o.p 14), .int .u8 (o.p 15)]) (by kernel_rfl) (by kernel_rfl) ho10 (Nat.le_of_ble_eq_true (by kernel_rfl)) ?_
      intro w24 hw7
      replace hS := Step.transNew hS hw7.step (fun _ _ _ => by omega)
      replace ho1 := ho1.step hw7.step (show ¬ b1 = b2 by omega)
      have ho11 : Own w24 b2 #[.int .i64 o.k, .int .u8 o.d, .bool false, .int .u32 0, .int .u8 (o.p 0), .int .u8 (o.p 1), .int .u8 (o.p 2), .int .u8 (o.p 3), .int .u8 (o.p 4), .int .u8 (o.p 5), .int .u8 (o.p 6), .int .u8 (o.p 7), .int .u8 (o.p 8), .int .u8 (o.p 9), .int .u8 (o.p 10), .int .u8 (o.p 11), .int .u8 (o.p 12), .int .u8 (o.p 13), .int .u8 (o.p 14), .int .u8 (o.p 15), .int .u8 0, .int .u8 0, .int .u8 0, .int .u8 0, .int .u8 0, .int .u8 0, .int .u8 0, .int .u8 0, .int .u8 0, .int .u8 0, .int .u8 0, .int .u8 0, .int .u8 0, .int .u8 0, .int .u8 0, .int .u8 0] 31 := Own.cast hw7.own (by kernel_rfl)
      have hzhw7 := hw7.same
      refine VL_end (by kernel_rfl) ?_
      refine VQ_block_normal ?_
      refine VQ_next ?_
      refine VC_seq ?_
      refine VC_region ?_
      refine VL_load (d := 34) (t := 31) (a := ⟨b2, 0, none⟩) (v := .agg #[.int .i64 o.k, .int .u8 o.d, .bool false, .int .u32 0, .int .u8 (o.p 0), .int .u8 (o.p 1), .int .u8 (o.p 2), .int .u8 (o.p 3), .int .u8 (o.p 4), .int .u8 (o.p 5), .int .u8 (o.p 6), .int .u8 (o.p 7), .int .u8 (o.p 8), .int .u8 (o.p 9), .int .u8 (o.p 10), .int .u8 (o.p 11), .int .u8 (o.p 12), .int .u8 (o.p 13), .int .u8 (o.p 14), .int .u8 (o.p 15), .int .u8 0, .int .u8 0, .int .u8 0, .int .u8 0, .int .u8 0, .int .u8 0, .int .u8 0, .int .u8 0, .int .u8 0, .int .u8 0, .int .u8 0, .int .u8 0, .int .u8 0, .int .u8 0, .int .u8 0, .int .u8 0]) (by kernel_rfl) (by kernel_rfl) (Loads.ownL ho11 (n := 36) (by kernel_rfl) (by kernel_rfl) (by kernel_rfl)) ?_
      refine VL_load (d := 35) (t := 31) (a := ⟨b1, 0, none⟩) (v := .agg #[.int .i64 o.k, .int .u8 o.d, .bool o.a, .int .u32 o.tg, .int .u8 (o.p 0), .int .u8 (o.p 1), .int .u8 (o.p 2), .int .u8 (o.p 3), .int .u8 (o.p 4), .int .u8 (o.p 5), .int .u8 (o.p 6), .int .u8 (o.p 7), .int .u8 (o.p 8), .int .u8 (o.p 9), .int .u8 (o.p 10), .int .u8 (o.p 11), .int .u8 (o.p 12), .int .u8 (o.p 13), .int .u8 (o.p 14), .int .u8 (o.p 15), .int .u8 (o.s 0), .int .u8 (o.s 1), .int .u8 (o.s 2), .int .u8 (o.s 3), .int .u8 (o.s 4), .int .u8 (o.s 5), .int .u8 (o.s 6), .int .u8 (o.s 7), .int .u8 (o.s 8), .int .u8 (o.s 9), .int .u8 (o.s 10), .int .u8 (o.s 11), .int .u8 (o.s 12), .int .u8 (o.s 13), .int .u8 (o.s 14), .int .u8 (o.s 15)]) (by kernel_rfl) (by kernel_rfl) (Loads.ownL ho1 (n := 36) (by kernel_rfl) (by kernel_rfl) (by kernel_rfl)) ?_
      refine VL_agEq (d := 36) (dd := 9) (ls := ([.int .i64] ++ [.int .u8] ++ [.bool] ++ [.int .u32] ++ (rep 16 [.int .u8]) ++ (rep 16 [.int .u8]) ++ [])) (pos := true) (t := 31) (xs := #[.int .i64 o.k, .int .u8 o.d, .bool false, .int .u32 0, .int .u8 (o.p 0), .int .u8 (o.p 1), .int .u8 (o.p 2), .int .u8 (o.p 3), .int .u8 (o.p 4), .int .u8 (o.p 5), .int .u8 (o.p 6), .int .u8 (o.p 7), .int .u8 (o.p 8), .int .u8 (o.p 9), .int .u8 (o.p 10), .int .u8 (o.p 11), .int .u8 (o.p 12), .int .u8 (o.p 13), .int .u8 (o.p 14), .int .u8 (o.p 15), .int .u8 0, .int .u8 0, .int .u8 0, .int .u8 0, .int .u8 0, .int .u8 0, .int .u8 0, .int .u8 0, .int .u8 0, .int .u8 0, .int .u8 0, .int .u8 0, .int .u8 0, .int .u8 0, .int .u8 0, .int .u8 0]) (ys := #[.int .i64 o.k, .int .u8 o.d, .bool o.a, .int .u32 o.tg, .int .u8 (o.p 0), .int .u8 (o.p 1), .int .u8 (o.p 2), .int .u8 (o.p 3), .int .u8 (o.p 4), .int .u8 (o.p 5), .int .u8 (o.p 6), .int .u8 (o.p 7), .int .u8 (o.p 8), .int .u8 (o.p 9), .int .u8 (o.p 10), .int .u8 (o.p 11), .int .u8 (o.p 12), .int .u8 (o.p 13), .int .u8 (o.p 14), .int .u8 (o.p 15), .int .u8 (o.s 0), .int .u8 (o.s 1), .int .u8 (o.s 2), .int .u8 (o.s 3), .int .u8 (o.s 4), .int .u8 (o.s 5), .int .u8 (o.s 6), .int .u8 (o.s 7), .int .u8 (o.s 8), .int .u8 (o.s 9), .int .u8 (o.s 10), .int .u8 (o.s 11), .int .u8 (o.s 12), .int .u8 (o.s 13), .int .u8 (o.s 14), .int .u8 (o.s 15)]) (by kernel_rfl) (by kernel_rfl) (by kernel_rfl) (by kernel_rfl) (by first | exact ⟨⟨_, rfl⟩, ⟨_, rfl⟩, ⟨_, rfl⟩, ⟨_, rfl⟩, ⟨_, rfl⟩, ⟨_, rfl⟩, ⟨_, rfl⟩, ⟨_, rfl⟩, ⟨_, rfl⟩, ⟨_, rfl⟩, ⟨_, rfl⟩, ⟨_, rfl⟩, ⟨_, rfl⟩, ⟨_, rfl⟩, ⟨_, rfl⟩, ⟨_, rfl⟩, ⟨_, rfl⟩, ⟨_, rfl⟩, ⟨_, rfl⟩, ⟨_, rfl⟩, ⟨_, rfl⟩, ⟨_, rfl⟩, ⟨_, rfl⟩, ⟨_, rfl⟩, ⟨_, rfl⟩, ⟨_, rfl⟩, ⟨_, rfl⟩, ⟨_, rfl⟩, ⟨_, rfl⟩, ⟨_, rfl⟩, ⟨_, rfl⟩, ⟨_, rfl⟩, ⟨_, rfl⟩, ⟨_, rfl⟩, ⟨_, rfl⟩, ⟨_, rfl⟩, trivial⟩ | trivial) (by first | exact ⟨⟨_, rfl⟩, ⟨_, rfl⟩, ⟨_, rfl⟩, ⟨_, rfl⟩, ⟨_, rfl⟩, ⟨_, rfl⟩, ⟨_, rfl⟩, ⟨_, rfl⟩, ⟨_, rfl⟩, ⟨_, rfl⟩, ⟨_, rfl⟩, ⟨_, rfl⟩, ⟨_, rfl⟩, ⟨_, rfl⟩, ⟨_, rfl⟩, ⟨_, rfl⟩, ⟨_, rfl⟩, ⟨_, rfl⟩, ⟨_, rfl⟩, ⟨_, rfl⟩, ⟨_, rfl⟩, ⟨_, rfl⟩, ⟨_, rfl⟩, ⟨_, rfl⟩, ⟨_, rfl⟩, ⟨_, rfl⟩, ⟨_, rfl⟩, ⟨_, rfl⟩, ⟨_, rfl⟩, ⟨_, rfl⟩, ⟨_, rfl⟩, ⟨_, rfl⟩, ⟨_, rfl⟩, ⟨_, rfl⟩, ⟨_, rfl⟩, ⟨_, rfl⟩, trivial⟩ | trivial) (cellsEq #[.int .i64 o.k, .int .u8 o.d, .bool false, .int .u32 0, .int .u8 (o.p 0), .int .u8 (o.p 1), .int .u8 (o.p 2), .int .u8 (o.p 3), .int .u8 (o.p 4), .int .u8 (o.p 5), .int .u8 (o.p 6), .int .u8 (o.p 7), .int .u8 (o.p 8), .int .u8 (o.p 9), .int .u8 (o.p 10), .int .u8 (o.p 11), .int .u8 (o.p 12), .int .u8 (o.p 13), .int .u8 (o.p 14), .int .u8 (o.p 15), .int .u8 0, .int .u8 0, .int .u8 0, .int .u8 0, .int .u8 0, .int .u8 0, .int .u8 0, .int .u8 0, .int .u8 0, .int .u8 0, .int .u8 0, .int .u8 0, .int .u8 0, .int .u8 0, .int .u8 0, .int .u8 0].toList #[.int .i64 o.k, .int .u8 o.d, .bool o.a, .int .u32 o.tg, .int .u8 (o.p 0), .int .u8 (o.p 1), .int .u8 (o.p 2), .int .u8 (o.p 3), .int .u8 (o.p 4), .int .u8 (o.p 5), .int .u8 (o.p 6), .int .u8 (o.p 7), .int .u8 (o.p 8), .int .u8 (o.p 9), .int .u8 (o.p 10), .int .u8 (o.p 11), .int .u8 (o.p 12), .int .u8 (o.p 13), .int .u8 (o.p 14), .int .u8 (o.p 15), .int .u8 (o.s 0), .int .u8 (o.s 1), .int .u8 (o.s 2), .int .u8 (o.s 3), .int .u8 (o.s 4), .int .u8 (o.s 5), .int .u8 (o.s 6), .int .u8 (o.s 7), .int .u8 (o.s 8), .int .u8 (o.s 9), .int .u8 (o.s 10), .int .u8 (o.s 11), .int .u8 (o.s 12), .int .u8 (o.s 13), .int .u8 (o.s 14), .int .u8 (o.s 15)].toList) (by rfl) ?_
      refine VL_pure 4 [2] [(2, .bool (cellsEq #[.int .i64 o.k, .int .u8 o.d, .bool false, .int .u32 0, .int .u8 (o.p 0), .int .u8 (o.p 1), .int .u8 (o.p 2), .int .u8 (o.p 3), .int .u8 (o.p 4), .int .u8 (o.p 5), .int .u8 (o.p 6), .int .u8 (o.p 7), .int .u8 (o.p 8), .int .u8 (o.p 9), .int .u8 (o.p 10), .int .u8 (o.p 11), .int .u8 (o.p 12), .int .u8 (o.p 13), .int .u8 (o.p 14), .int .u8 (o.p 15), .int .u8 0, .int .u8 0, .int .u8 0, .int .u8 0, .int .u8 0, .int .u8 0, .int .u8 0, .int .u8 0, .int .u8 0, .int .u8 0, .int .u8 0, .int .u8 0, .int .u8 0, .int .u8 0, .int .u8 0, .int .u8 0].toList #[.int .i64 o.k, .int .u8 o.d, .bool o.a, .int .u32 o.tg, .int .u8 (o.p 0), .int .u8 (o.p 1), .int .u8 (o.p 2), .int .u8 (o.p 3), .int .u8 (o.p 4), .int .u8 (o.p 5), .int .u8 (o.p 6), .int .u8 (o.p 7), .int .u8 (o.p 8), .int .u8 (o.p 9), .int .u8 (o.p 10), .int .u8 (o.p 11), .int .u8 (o.p 12), .int .u8 (o.p 13), .int .u8 (o.p 14), .int .u8 (o.p 15), .int .u8 (o.s 0), .int .u8 (o.s 1), .int .u8 (o.s 2), .int .u8 (o.s 3), .int .u8 (o.s 4), .int .u8 (o.s 5), .int .u8 (o.s 6), .int .u8 (o.s 7), .int .u8 (o.s 8), .int .u8 (o.s 9), .int .u8 (o.s 10), .int .u8 (o.s 11), .int .u8 (o.s 12), .int .u8 (o.s 13), .int .u8 (o.s 14), .int .u8 (o.s 15)].toList))] (by kernel_rfl) rfl ?_
      refine VL_end (by kernel_rfl) ?_
      refine VQ_next ?_
      refine VC_ret ?_
      refine VQ_ret1 (.bool (cellsEq #[.int .i64 o.k, .int .u8 o.d, .bool false, .int .u32 0, .int .u8 (o.p 0), .int .u8 (o.p 1), .int .u8 (o.p 2), .int .u8 (o.p 3), .int .u8 (o.p 4), .int .u8 (o.p 5), .int .u8 (o.p 6), .int .u8 (o.p 7), .int .u8 (o.p 8), .int .u8 (o.p 9), .int .u8 (o.p 10), .int .u8 (o.p 11), .int .u8 (o.p 12), .int .u8 (o.p 13), .int .u8 (o.p 14), .int .u8 (o.p 15), .int .u8 0, .int .u8 0, .int .u8 0, .int .u8 0, .int .u8 0, .int .u8 0, .int .u8 0, .int .u8 0, .int .u8 0, .int .u8 0, .int .u8 0, .int .u8 0, .int .u8 0, .int .u8 0, .int .u8 0, .int .u8 0].toList #[.int .i64 o.k, .int .u8 o.d, .bool o.a, .int .u32 o.tg, .int .u8 (o.p 0), .int .u8 (o.p 1), .int .u8 (o.p 2), .int .u8 (o.p 3), .int .u8 (o.p 4), .int .u8 (o.p 5), .int .u8 (o.p 6), .int .u8 (o.p 7), .int .u8 (o.p 8), .int .u8 (o.p 9), .int .u8 (o.p 10), .int .u8 (o.p 11), .int .u8 (o.p 12), .int .u8 (o.p 13), .int .u8 (o.p 14), .int .u8 (o.p 15), .int .u8 (o.s 0), .int .u8 (o.s 1), .int .u8 (o.s 2), .int .u8 (o.s 3), .int .u8 (o.s 4), .int .u8 (o.s 5), .int .u8 (o.s 6), .int .u8 (o.s 7), .int .u8 (o.s 8), .int .u8 (o.s 9), .int .u8 (o.s 10), .int .u8 (o.s 11), .int .u8 (o.s 12), .int .u8 (o.s 13), .int .u8 (o.s 14), .int .u8 (o.s 15)].toList)) (.inr rfl) rfl rfl ?_
      exact ⟨congrArg Value.bool (Eq.symm (rightO_01 (by omega))), hS⟩
    · refine VC_seq ?_
      refine VC_region ?_
      refine VL_pure 2 [1, 3, 8, 18] [(1, .pointer (some ⟨b1, 0, none⟩)), (3, .pointer (some ⟨b2, 0, none⟩)), (8, .int .i64 o.k), (18, .bool (o.k == 4))] (by kernel_rfl) rfl ?_
      refine VL_end (by kernel_rfl) ?_
      refine VQ_next ?_
      refine VC_eq o.k 4 (by kernel_rfl) (fun h6 => ?_) (fun h6 => ?_)
      · refine VC_skip ?_
        refine VQ_block_normal ?_
        refine VQ_next ?_
        refine VC_seq ?_
        refine VC_region ?_
        refine VL_load (d := 34) (t := 31) (a := ⟨b2, 0, none⟩) (v := .agg #[.int .i64 o.k, .int .u8 0, .bool false, .int .u32 0, .int .u8 0, .int .u8 0, .int .u8 0, .int .u8 0, .int .u8 0, .int .u8 0, .int .u8 0, .int .u8 0, .int .u8 0, .int .u8 0, .int .u8 0, .int .u8 0, .int .u8 0, .int .u8 0, .int .u8 0, .int .u8 0, .int .u8 0, .int .u8 0, .int .u8 0, .int .u8 0, .int .u8 0, .int .u8 0, .int .u8 0, .int .u8 0, .int .u8 0, .int .u8 0, .int .u8 0, .int .u8 0, .int .u8 0, .int .u8 0, .int .u8 0, .int .u8 0]) (by kernel_rfl) (by kernel_rfl) (Loads.ownL ho3 (n := 36) (by kernel_rfl) (by kernel_rfl) (by kernel_rfl)) ?_
        refine VL_load (d := 35) (t := 31) (a := ⟨b1, 0, none⟩) (v := .agg #[.int .i64 o.k, .int .u8 o.d, .bool o.a, .int .u32 o.tg, .int .u8 (o.p 0), .int .u8 (o.p 1), .int .u8 (o.p 2), .int .u8 (o.p 3), .int .u8 (o.p 4), .int .u8 (o.p 5), .int .u8 (o.p 6), .int .u8 (o.p 7), .int .u8 (o.p 8), .int .u8 (o.p 9), .int .u8 (o.p 10), .int .u8 (o.p 11), .int .u8 (o.p 12), .int .u8 (o.p 13), .int .u8 (o.p 14), .int .u8 (o.p 15), .int .u8 (o.s 0), .int .u8 (o.s 1), .int .u8 (o.s 2), .int .u8 (o.s 3), .int .u8 (o.s 4), .int .u8 (o.s 5), .int .u8 (o.s 6), .int .u8 (o.s 7), .int .u8 (o.s 8), .int .u8 (o.s 9), .int .u8 (o.s 10), .int .u8 (o.s 11), .int .u8 (o.s 12), .int .u8 (o.s 13), .int .u8 (o.s 14), .int .u8 (o.s 15)]) (by kernel_rfl) (by kernel_rfl) (Loads.ownL ho1 (n := 36) (by kernel_rfl) (by kernel_rfl) (by kernel_rfl)) ?_
        refine VL_agEq (d := 36) (dd := 9) (ls := ([.int .i64] ++ [.int .u8] ++ [.bool] ++ [.int .u32] ++ (rep 16 [.int .u8]) ++ (rep 16 [.int .u8]) ++ [])) (pos := true) (t := 31) (xs := #[.int .i64 o.k, .int .u8 0, .bool false, .int .u32 0, .int .u8 0, .int .u8 0, .int .u8 0, .int .u8 0, .int .u8 0, .int .u8 0, .int .u8 0, .int .u8 0, .int .u8 0, .int .u8 0, .int .u8 0, .int .u8 0, .int .u8 0, .int .u8 0, .int .u8 0, .int .u8 0, .int .u8 0, .int .u8 0, .int .u8 0, .int .u8 0, .int .u8 0, .int .u8 0, .int .u8 0, .int .u8 0, .int .u8 0, .int .u8 0, .int .u8 0, .int .u8 0, .int .u8 0, .int .u8 0, .int .u8 0, .int .u8 0]) (ys := #[.int .i64 o.k, .int .u8 o.d, .bool o.a, .int .u32 o.tg, .int .u8 (o.p 0), .int .u8 (o.p 1), .int .u8 (o.p 2), .int .u8 (o.p 3), .int .u8 (o.p 4), .int .u8 (o.p 5), .int .u8 (o.p 6), .int .u8 (o.p 7), .int .u8 (o.p 8), .int .u8 (o.p 9), .int .u8 (o.p 10), .int .u8 (o.p 11), .int .u8 (o.p 12), .int .u8 (o.p 13), .int .u8 (o.p 14), .int .u8 (o.p 15), .int .u8 (o.s 0), .int .u8 (o.s 1), .int .u8 (o.s 2), .int .u8 (o.s 3), .int .u8 (o.s 4), .int .u8 (o.s 5), .int .u8 (o.s 6), .int .u8 (o.s 7), .int .u8 (o.s 8), .int .u8 (o.s 9), .int .u8 (o.s 10), .int .u8 (o.s 11), .int .u8 (o.s 12), .int .u8 (o.s 13), .int .u8 (o.s 14), .int .u8 (o.s 15)]) (by kernel_rfl) (by kernel_rfl) (by kernel_rfl) (by kernel_rfl) (by first | exact ⟨⟨_, rfl⟩, ⟨_, rfl⟩, ⟨_, rfl⟩, ⟨_, rfl⟩, ⟨_, rfl⟩, ⟨_, rfl⟩, ⟨_, rfl⟩, ⟨_, rfl⟩, ⟨_, rfl⟩, ⟨_, rfl⟩, ⟨_, rfl⟩, ⟨_, rfl⟩, ⟨_, rfl⟩, ⟨_, rfl⟩, ⟨_, rfl⟩, ⟨_, rfl⟩, ⟨_, rfl⟩, ⟨_, rfl⟩, ⟨_, rfl⟩, ⟨_, rfl⟩, ⟨_, rfl⟩, ⟨_, rfl⟩, ⟨_, rfl⟩, ⟨_, rfl⟩, ⟨_, rfl⟩, ⟨_, rfl⟩, ⟨_, rfl⟩, ⟨_, rfl⟩, ⟨_, rfl⟩, ⟨_, rfl⟩, ⟨_, rfl⟩, ⟨_, rfl⟩, ⟨_, rfl⟩, ⟨_, rfl⟩, ⟨_, rfl⟩, ⟨_, rfl⟩, trivial⟩ | trivial) (by first | exact ⟨⟨_, rfl⟩, ⟨_, rfl⟩, ⟨_, rfl⟩, ⟨_, rfl⟩, ⟨_, rfl⟩, ⟨_, rfl⟩, ⟨_, rfl⟩, ⟨_, rfl⟩, ⟨_, rfl⟩, ⟨_, rfl⟩, ⟨_, rfl⟩, ⟨_, rfl⟩, ⟨_, rfl⟩, ⟨_, rfl⟩, ⟨_, rfl⟩, ⟨_, rfl⟩, ⟨_, rfl⟩, ⟨_, rfl⟩, ⟨_, rfl⟩, ⟨_, rfl⟩, ⟨_, rfl⟩, ⟨_, rfl⟩, ⟨_, rfl⟩, ⟨_, rfl⟩, ⟨_, rfl⟩, ⟨_, rfl⟩, ⟨_, rfl⟩, ⟨_, rfl⟩, ⟨_, rfl⟩, ⟨_, rfl⟩, ⟨_, rfl⟩, ⟨_, rfl⟩, ⟨_, rfl⟩, ⟨_, rfl⟩, ⟨_, rfl⟩, ⟨_, rfl⟩, trivial⟩ | trivial) (cellsEq #[.int .i64 o.k, .int .u8 0, .bool false, .int .u32 0, .int .u8 0, .int .u8 0, .int .u8 0, .int .u8 0, .int .u8 0, .int .u8 0, .int .u8 0, .int .u8 0, .int .u8 0, .int .u8 0, .int .u8 0, .int .u8 0, .int .u8 0, .int .u8 0, .int .u8 0, .int .u8 0, .int .u8 0, .int .u8 0, .int .u8 0, .int .u8 0, .int .u8 0, .int .u8 0, .int .u8 0, .int .u8 0, .int .u8 0, .int .u8 0, .int .u8 0, .int .u8 0, .int .u8 0, .int .u8 0, .int .u8 0, .int .u8 0].toList #[.int .i64 o.k, .int .u8 o.d, .bool o.a, .int .u32 o.tg, .int .u8 (o.p 0), .int .u8 (o.p 1), .int .u8 (o.p 2), .int .u8 (o.p 3), .int .u8 (o.p 4), .int .u8 (o.p 5), .int .u8 (o.p 6), .int .u8 (o.p 7), .int .u8 (o.p 8), .int .u8 (o.p 9), .int .u8 (o.p 10), .int .u8 (o.p 11), .int .u8 (o.p 12), .int .u8 (o.p 13), .int .u8 (o.p 14), .int .u8 (o.p 15), .int .u8 (o.s 0), .int .u8 (o.s 1), .int .u8 (o.s 2), .int .u8 (o.s 3), .int .u8 (o.s 4), .int .u8 (o.s 5), .int .u8 (o.s 6), .int .u8 (o.s 7), .int .u8 (o.s 8), .int .u8 (o.s 9), .int .u8 (o.s 10), .int .u8 (o.s 11), .int .u8 (o.s 12), .int .u8 (o.s 13), .int .u8 (o.s 14), .int .u8 (o.s 15)].toList) (by rfl) ?_
        refine VL_pure 4 [2] [(2, .bool (cellsEq #[.int .i64 o.k, .int .u8 0, .bool false, .int .u32 0, .int .u8 0, .int .u8 0, .int .u8 0, .int .u8 0, .int .u8 0, .int .u8 0, .int .u8 0, .int .u8 0, .int .u8 0, .int .u8 0, .int .u8 0, .int .u8 0, .int .u8 0, .int .u8 0, .int .u8 0, .int .u8 0, .int .u8 0, .int .u8 0, .int .u8 0, .int .u8 0, .int .u8 0, .int .u8 0, .int .u8 0, .int .u8 0, .int .u8 0, .int .u8 0, .int .u8 0, .int .u8 0, .int .u8 0, .int .u8 0, .int .u8 0, .int .u8 0].toList #[.int .i64 o.k, .int .u8 o.d, .bool o.a, .int .u32 o.tg, .int .u8 (o.p 0), .int .u8 (o.p 1), .int .u8 (o.p 2), .int .u8 (o.p 3), .int .u8 (o.p 4), .int .u8 (o.p 5), .int .u8 (o.p 6), .int .u8 (o.p 7), .int .u8 (o.p 8), .int .u8 (o.p 9), .int .u8 (o.p 10), .int .u8 (o.p 11), .int .u8 (o.p 12), .int .u8 (o.p 13), .int .u8 (o.p 14), .int .u8 (o.p 15), .int .u8 (o.s 0), .int .u8 (o.s 1), .int .u8 (o.s 2), .int .u8 (o.s 3), .int .u8 (o.s 4), .int .u8 (o.s 5), .int .u8 (o.s 6), .int .u8 (o.s 7), .int .u8 (o.s 8), .int .u8 (o.s 9), .int .u8 (o.s 10), .int .u8 (o.s 11), .int .u8 (o.s 12), .int .u8 (o.s 13), .int .u8 (o.s 14), .int .u8 (o.s 15)].toList))] (by kernel_rfl) rfl ?_
        refine VL_end (by kernel_rfl) ?_
        refine VQ_next ?_
        refine VC_ret ?_
        refine VQ_ret1 (.bool (cellsEq #[.int .i64 o.k, .int .u8 0, .bool false, .int .u32 0, .int .u8 0, .int .u8 0, .int .u8 0, .int .u8 0, .int .u8 0, .int .u8 0, .int .u8 0, .int .u8 0, .int .u8 0, .int .u8 0, .int .u8 0, .int .u8 0, .int .u8 0, .int .u8 0, .int .u8 0, .int .u8 0, .int .u8 0, .int .u8 0, .int .u8 0, .int .u8 0, .int .u8 0, .int .u8 0, .int .u8 0, .int .u8 0, .int .u8 0, .int .u8 0, .int .u8 0, .int .u8 0, .int .u8 0, .int .u8 0, .int .u8 0, .int .u8 0].toList #[.int .i64 o.k, .int .u8 o.d, .bool o.a, .int .u32 o.tg, .int .u8 (o.p 0), .int .u8 (o.p 1), .int .u8 (o.p 2), .int .u8 (o.p 3), .int .u8 (o.p 4), .int .u8 (o.p 5), .int .u8 (o.p 6), .int .u8 (o.p 7), .int .u8 (o.p 8), .int .u8 (o.p 9), .int .u8 (o.p 10), .int .u8 (o.p 11), .int .u8 (o.p 12), .int .u8 (o.p 13), .int .u8 (o.p 14), .int .u8 (o.p 15), .int .u8 (o.s 0), .int .u8 (o.s 1), .int .u8 (o.s 2), .int .u8 (o.s 3), .int .u8 (o.s 4), .int .u8 (o.s 5), .int .u8 (o.s 6), .int .u8 (o.s 7), .int .u8 (o.s 8), .int .u8 (o.s 9), .int .u8 (o.s 10), .int .u8 (o.s 11), .int .u8 (o.s 12), .int .u8 (o.s 13), .int .u8 (o.s 14), .int .u8 (o.s 15)].toList)) (.inr rfl) rfl rfl ?_
        exact ⟨congrArg Value.bool (Eq.symm (rightO_4 (by omega))), hS⟩
      · refine VC_seq ?_
        refine VC_region ?_
        refine VL_pure 2 [1, 3, 20] [(1, .pointer (some ⟨b1, 0, none⟩)), (3, .pointer (some ⟨b2, 0, none⟩)), (20, .bool (o.k == 8))] (by kernel_rfl) rfl ?_
        refine VL_end (by kernel_rfl) ?_
        refine VQ_next ?_
        refine VC_eq o.k 8 (by kernel_rfl) (fun h7 => ?_) (fun h7 => ?_)
        · have hs8 := drew_step w3
          have hs8z : w3.heap.size = w3.drew.heap.size := rfl
          refine VC_text [[], [0], [], [2], [], [4], [], [6], [0, 1], [0, 1, 8], [0, 1, 2, 3, 8, 9], [0, 1, 2, 3, 8, 9, 10], [0, 1, 2, 3, 4, 5, 8, 9, 10, 11], [0, 1, 2, 3, 4, 5, 8, 9, 10, 11, 12], [0, 1, 2, 3, 4, 5, 6, 7, 8, 9, 10, 11, 12, 13], [0, 1, 2, 3, 4, 5, 6, 7, 8, 9, 10, 11, 12, 13, 14]] 14 (fun x y => Step (fun k => k = b2 ∨ w3.heap.size ≤ k) x y) [9, 11, 13] [0, 1, 2, 3, 4, 5, 6, 7, 8, 9, 10, 11, 12, 13] (by kernel_rfl) (by kernel_rfl) (by kernel_rfl) (by kernel_rfl) (fun x => Step.refl _ x) (fun h k => Step.trans h k) Step.weak ?_
          have hzs4 := hS.size
          have hzl4 := ho1.lt
          have hzl5 := ho3.lt
          generalize w3.drew = w25 at hs8 hs8z ⊢
          replace hS := Step.trans hS hs8
          replace ho1 := ho1.no hs8
          replace ho3 := ho3.no hs8
          refine VT_pures 1 (kn' := [(0, .pointer (some ⟨b1, 2, none⟩))]) (by kernel_rfl) ?_
          refine VT_load (d := 23) (t := 4) (a := ⟨b1, 2, none⟩) (v := .bool o.a) (by kernel_rfl) (by kernel_rfl) ?_ ?_
          · intro w26 hr9
            replace hS := Step.transNew hS hr9 (fun i hi hG => by (try simp only at hG); omega)
            replace ho1 := ho1.step hr9 (by (try simp only); omega)
            exact (Loads.own1 ho1 (by kernel_rfl) (by rfl))
          refine VT_pures 1 (kn' := [(2, .pointer (some ⟨b1, 3, none⟩)), (1, .bool o.a), (0, .pointer (some ⟨b1, 2, none⟩))]) (by kernel_rfl) ?_
          refine VT_load (d := 25) (t := 29) (a := ⟨b1, 3, none⟩) (v := .int .u32 o.tg) (by kernel_rfl) (by kernel_rfl) ?_ ?_
          · intro w27 hr10
            replace hS := Step.transNew hS hr10 (fun i hi hG => by (try simp only at hG); omega)
            replace ho1 := ho1.step hr10 (by (try simp only); omega)
            exact (Loads.own1 ho1 (by kernel_rfl) (by rfl))
          refine VT_pures 1 (kn' := [(4, .pointer (some ⟨b1, 4, none⟩)), (3, .int .u32 o.tg), (2, .pointer (some ⟨b1, 3, none⟩)), (1, .bool o.a), (0, .pointer (some ⟨b1, 2, none⟩))]) (by kernel_rfl) ?_
          refine VT_load (d := 27) (t := 22) (a := ⟨b1, 4, none⟩) (v := .agg #[.int .u8 (o.p 0), .int .u8 (o.p 1), .int .u8 (o.p 2), .int .u8 (o.p 3), .int .u8 (o.p 4), .int .u8 (o.p 5), .int .u8 (o.p 6), .int .u8 (o.p 7), .int .u8 (o.p 8), .int .u8 (o.p 9), .int .u8 (o.p 10), .int .u8 (o.p 11), .int .u8 (o.p 12), .int .u8 (o.p 13), .int .u8 (o.p 14), .int .u8 (o.p 15)]) (by kernel_rfl) (by kernel_rfl) ?_ ?_
          · intro w28 hr11
            replace hS := Step.transNew hS hr11 (fun i hi hG => by (try simp only at hG); omega)
            replace ho1 := ho1.step hr11 (by (try simp only); omega)
            exact (Loads.ownL ho1 (n := 16) (by kernel_rfl) (by kernel_rfl) (by kernel_rfl))
          refine VT_pures 1 (kn' := [(6, .pointer (some ⟨b1, 20, none⟩)), (5, .agg #[.int .u8 (o.p 0), .int .u8 (o.p 1), .int .u8 (o.p 2), .int .u8 (o.p 3), .int .u8 (o.p 4), .int .u8 (o.p 5), .int .u8 (o.p 6), .int .u8 (o.p 7), .int .u8 (o.p 8), .int .u8 (o.p 9), .int .u8 (o.p 10), .int .u8 (o.p 11), .int .u8 (o.p 12), .int .u8 (o.p 13), .int .u8 (o.p 14), .int .u8 (o.p 15)]), (4, .pointer (some ⟨b1, 4, none⟩)), (3, .int .u32 o.tg), (2, .pointer (some ⟨b1, 3, none⟩)), (1, .bool o.a), (0, .pointer (some ⟨b1, 2, none⟩))]) (by kernel_rfl) ?_
          refine VT_load (d := 29) (t := 22) (a := ⟨b1, 20, none⟩) (v := .agg #[.int .u8 (o.s 0), .int .u8 (o.s 1), .int .u8 (o.s 2), .int .u8 (o.s 3), .int .u8 (o.s 4), .int .u8 (o.s 5), .int .u8 (o.s 6), .int .u8 (o.s 7), .int .u8 (o.s 8), .int .u8 (o.s 9), .int .u8 (o.s 10), .int .u8 (o.s 11), .int .u8 (o.s 12), .int .u8 (o.s 13), .int .u8 (o.s 14), .int .u8 (o.s 15)]) (by kernel_rfl) (by kernel_rfl) ?_ ?_
          · intro w29 hr12
            replace hS := Step.transNew hS hr12 (fun i hi hG => by (try simp only at hG); omega)
            replace ho1 := ho1.step hr12 (by (try simp only); omega)
            exact (Loads.ownL ho1 (n := 16) (by kernel_rfl) (by kernel_rfl) (by kernel_rfl))
          refine VT_pures 1 (kn' := [(8, .pointer (some ⟨b2, 2, none⟩)), (7, .agg #[.int .u8 (o.s 0), .int .u8 (o.s 1), .int .u8 (o.s 2), .int .u8 (o.s 3), .int .u8 (o.s 4), .int .u8 (o.s 5), .int .u8 (o.s 6), .int .u8 (o.s 7), .int .u8 (o.s 8), .int .u8 (o.s 9), .int .u8 (o.s 10), .int .u8 (o.s 11), .int .u8 (o.s 12), .int .u8 (o.s 13), .int .u8 (o.s 14), .int .u8 (o.s 15)]), (6, .pointer (some ⟨b1, 20, none⟩)), (5, .agg #[.int .u8 (o.p 0), .int .u8 (o.p 1), .int .u8 (o.p 2), .int .u8 (o.p 3), .int .u8 (o.p 4), .int .u8 (o.p 5), .int .u8 (o.p 6), .int .u8 (o.p 7), .int .u8 (o.p 8), .int .u8 (o.p 9), .int .u8 (o.p 10), .int .u8 (o.p 11), .int .u8 (o.p 12), .int .u8 (o.p 13), .int .u8 (o.p 14), .int .u8 (o.p 15)]), (4, .pointer (some ⟨b1, 4, none⟩)), (3, .int .u32 o.tg), (2, .pointer (some ⟨b1, 3, none⟩)), (1, .bool o.a), (0, .pointer (some ⟨b1, 2, none⟩))]) (by kernel_rfl) ?_
          refine VT_chain (by kernel_rfl) ?_
          intro w30 hs9
          have hzhs9 := hs9.size
          replace hS := Step.trans hS hs9
          replace ho1 := ho1.no hs9
          replace ho3 := ho3.no hs9
          refine VTc_store (b := b2) (o := 2) (vs := [.bool o.a]) (by kernel_rfl) (by kernel_rfl) ho3 (Nat.le_of_ble_eq_true (by kernel_rfl)) (fun w1 hw => Step.mono hw.step (by intro i hi; (try simp only at hi ⊢); omega)) ?_
          intro w31 hw8
          replace hS := Step.transNew hS hw8.step (fun _ _ _ => by omega)
          replace ho1 := ho1.step hw8.step (show ¬ b1 = b2 by omega)
          have ho12 : Own w31 b2 #[.int .i64 o.k, .int .u8 0, .bool o.a, .int .u32 0, .int .u8 0, .int .u8 0, .int .u8 0, .int .u8 0, .int .u8 0, .int .u8 0, .int .u8 0, .int .u8 0, .int .u8 0, .int .u8 0, .int .u8 0, .int .u8 0, .int .u8 0, .int .u8 0, .int .u8 0, .int .u8 0, .int .u8 0, .int .u8 0, .int .u8 0, .int .u8 0, .int .u8 0, .int .u8 0, .int .u8 0, .int .u8 0, .int .u8 0, .int .u8 0, .int .u8 0, .int .u8 0, .int .u8 0, .int .u8 0, .int .u8 0, .int .u8 0] 31 := Own.cast hw8.own (by kernel_rfl)
          have hzhw8 := hw8.same
          refine VT_pures 1 (kn' := [(10, .pointer (some ⟨b2, 3, none⟩)), (8, .pointer (some ⟨b2, 2, none⟩)), (7, .agg #[.int .u8 (o.s 0), .int .u8 (o.s 1), .int .u8 (o.s 2), .int .u8 (o.s 3), .int .u8 (o.s 4), .int .u8 (o.s 5), .int .u8 (o.s 6), .int .u8 (o.s 7), .int .u8 (o.s 8), .int .u8 (o.s 9), .int .u8 (o.s 10), .int .u8 (o.s 11), .int .u8 (o.s 12), .int .u8 (o.s 13), .int .u8 (o.s 14), .int .u8 (o.s 15)]), (6, .pointer (some ⟨b1, 20, none⟩)), (5, .agg #[.int .u8 (o.p 0), .int .u8 (o.p 1), .int .u8 (o.p 2), .int .u8 (o.p 3), .int .u8 (o.p 4), .int .u8 (o.p 5), .int .u8 (o.p 6), .int .u8 (o.p 7), .int .u8 (o.p 8), .int .u8 (o.p 9), .int .u8 (o.p 10), .int .u8 (o.p 11), .int .u8 (o.p 12), .int .u8 (o.p 13), .int .u8 (o.p 14), .int .u8 (o.p 15)]), (4, .pointer (some ⟨b1, 4, none⟩)), (3, .int .u32 o.tg), (2, .pointer (some ⟨b1, 3, none⟩)), (1, .bool o.a), (0, .pointer (some ⟨b1, 2, none⟩))]) (by kernel_rfl) ?_
          refine VT_chain (by kernel_rfl) ?_
          intro w32 hs10
          have hzhs10 := hs10.size
          replace hS := Step.trans hS hs10
          replace ho1 := ho1.no hs10
          replace ho12 := ho12.no hs10
          refine VTc_store (b := b2) (o := 3) (vs := [.int .u32 o.tg]) (by kernel_rfl) (by kernel_rfl) ho12 (Nat.le_of_ble_eq_true (by kernel_rfl)) (fun w1 hw => Step.mono hw.step (by intro i hi; (try simp only at hi ⊢); omega)) ?_
          intro w33 hw9
          replace hS := Step.transNew hS hw9.step (fun _ _ _ => by omega)
          replace ho1 := ho1.step hw9.step (show ¬ b1 = b2 by omega)
          have ho13 : Own w33 b2 #[.int .i64 o.k, .int .u8 0, .bool o.a, .int .u32 o.tg, .int .u8 0, .int .u8 0, .int .u8 0, .int .u8 0, .int .u8 0, .int .u8 0, .int .u8 0, .int .u8 0, .int .u8 0, .int .u8 0, .int .u8 0, .int .u8 0, .int .u8 0, .int .u8 0, .int .u8 0, .int .u8 0, .int .u8 0, .int .u8 0, .int .u8 0, .int .u8 0, .int .u8 0, .int .u8 0, .int .u8 0, .int .u8 0, .int .u8 0, .int .u8 0, .int .u8 0, .int .u8 0, .int .u8 0, .int .u8 0, .int .u8 0, .int .u8 0] 31 := Own.cast hw9.own (by kernel_rfl)
          have hzhw9 := hw9.same
          refine VT_pures 1 (kn' := [(12, .pointer (some ⟨b2, 4, none⟩)), (10, .pointer (some ⟨b2, 3, none⟩)), (8, .pointer (some ⟨b2, 2, none⟩)), (7, .agg #[.int .u8 (o.s 0), .int .u8 (o.s 1), .int .u8 (o.s 2), .int .u8 (o.s 3), .int .u8 (o.s 4), .int .u8 (o.s 5), .int .u8 (o.s 6), .int .u8 (o.s 7), .int .u8 (o.s 8), .int .u8 (o.s 9), .int .u8 (o.s 10), .int .u8 (o.s 11), .int .u8 (o.s 12), .int .u8 (o.s 13), .int .u8 (o.s 14), .int .u8 (o.s 15)]), (6, .pointer (some ⟨b1, 20, none⟩)), (5, .agg #[.int .u8 (o.p 0), .int .u8 (o.p 1), .int .u8 (o.p 2), .int .u8 (o.p 3), .int .u8 (o.p 4), .int .u8 (o.p 5), .int .u8 (o.p 6), .int .u8 (o.p 7), .int .u8 (o.p 8), .int .u8 (o.p 9), .int .u8 (o.p 10), .int .u8 (o.p 11), .int .u8 (o.p 12), .int .u8 (o.p 13), .int .u8 (o.p 14), .int .u8 (o.p 15)]), (4, .pointer (some ⟨b1, 4, none⟩)), (3, .int .u32 o.tg), (2, .pointer (some ⟨b1, 3, none⟩)), (1, .bool o.a), (0, .pointer (some ⟨b1, 2, none⟩))]) (by kernel_rfl) ?_
          refine VT_chain (by kernel_rfl) ?_
          intro w34 hs11
          have hzhs11 := hs11.size
          replace hS := Step.trans hS hs11
          replace ho1 := ho1.no hs11
          replace ho13 := ho13.no hs11
          refine VTc_store (b := b2) (o := 4) (vs := [.int .u8 (o.p 0), .int .u8 (o.p 1), .int .u8 (o.p 2), .int .u8 (o.p 3), .int .u8 (o.p 4), .int .u8 (o.p 5), .int .u8 (o.p 6), .int .u8 (o.p 7), .int .u8 (o.p 8), .int .u8 (o.p 9), .int .u8 (o.p 10), .int .u8 (o.p 11), .int .u8 (o.p 12), .int .u8 (o.p 13), .int .u8 (o.p 14), .int .u8 (o.p 15)]) (by kernel_rfl) (by kernel_rfl) ho13 (Nat.le_of_ble_eq_true (by kernel_rfl)) (fun w1 hw => Step.mono hw.step (by intro i hi; (try simp only at hi ⊢); omega)) ?_
          intro w35 hw10
          replace hS := Step.transNew hS hw10.step (fun _ _ _ => by omega)
          replace ho1 := ho1.step hw10.step (show ¬ b1 = b2 by omega)
          have ho14 : Own w35 b2 #[.int .i64 o.k, .int .u8 0, .bool o.a, .int .u32 o.tg, .int .u8 (o.p 0), .int .u8 (o.p 1), .int .u8 (o.p 2), .int .u8 (o.p 3), .int .u8 (o.p 4), .int .u8 (o.p 5), .int .u8 (o.p 6), .int .u8 (o.p 7), .int .u8 (o.p 8), .int .u8 (o.p 9), .int .u8 (o.p 10), .int .u8 (o.p 11), .int .u8 (o.p 12), .int .u8 (o.p 13), .int .u8 (o.p 14), .int .u8 (o.p 15), .int .u8 0, .int .u8 0, .int .u8 0, .int .u8 0, .int .u8 0, .int .u8 0, .int .u8 0, .int .u8 0, .int .u8 0, .int .u8 0, .int .u8 0, .int .u8 0, .int .u8 0, .int .u8 0, .int .u8 0, .int .u8 0] 31 := Own.cast hw10.own (by kernel_rfl)
          have hzhw10 := hw10.same
          refine VT_end ?_
          intro w36 hs12
          replace hS := Step.trans hS hs12
          replace ho1 := ho1.no hs12
          replace ho14 := ho14.no hs12
          refine VL_keep [1, 3, 29] [(1, .pointer (some ⟨b1, 0, none⟩)), (3, .pointer (some ⟨b2, 0, none⟩)), (29, .agg #[.int .u8 (o.s 0), .int .u8 (o.s 1), .int .u8 (o.s 2), .int .u8 (o.s 3), .int .u8 (o.s 4), .int .u8 (o.s 5), .int .u8 (o.s 6), .int .u8 (o.s 7), .int .u8 (o.s 8), .int .u8 (o.s 9), .int .u8 (o.s 10), .int .u8 (o.s 11), .int .u8 (o.s 12), .int .u8 (o.s 13), .int .u8 (o.s 14), .int .u8 (o.s 15)])] (by kernel_rfl) ?_
          refine VL_pure 15 [1, 3, 29, 33] [(1, .pointer (some ⟨b1, 0, none⟩)), (3, .pointer (some ⟨b2, 0, none⟩)), (29, .agg #[.int .u8 (o.s 0), .int .u8 (o.s 1), .int .u8 (o.s 2), .int .u8 (o.s 3), .int .u8 (o.s 4), .int .u8 (o.s 5), .int .u8 (o.s 6), .int .u8 (o.s 7), .int .u8 (o.s 8), .int .u8 (o.s 9), .int .u8 (o.s 10), .int .u8 (o.s 11), .int .u8 (o.s 12), .int .u8 (o.s 13), .int .u8 (o.s 14), .int .u8 (o.s 15)]), (33, .pointer (some ⟨b2, 20, none⟩))] (by kernel_rfl) rfl ?_
          refine VL_store (b := b2) (o := 20) (vs := [.int .u8 (o.s 0), .int .u8 (o.s 1), .int .u8 (o.s 2), .int .u8 (o.s 3), .int .u8 (o.s 4), .int .u8 (o.s 5), .int .u8 (o.s 6), .int .u8 (o.s 7), .int .u8 (o.s 8), .int .u8 (o.s 9), .int .u8 (o.s 10), .int .u8 (o.s 11), .int .u8 (o.s 12), .int .u8 (o.s 13), .int .u8 (o.s 14), .int .u8 (o.s 15)]) (by kernel_rfl) (by kernel_rfl) ho14 (Nat.le_of_ble_eq_true (by kernel_rfl)) ?_
          intro w37 hw11
          replace hS := Step.transNew hS hw11.step (fun _ _ _ => by omega)
          replace ho1 := ho1.step hw11.step (show ¬ b1 = b2 by omega)
          have ho15 : Own w37 b2 #[.int .i64 o.k, .int .u8 0, .bool o.a, .int .u32 o.tg, .int .u8 (o.p 0), .int .u8 (o.p 1), .int .u8 (o.p 2), .int .u8 (o.p 3), .int .u8 (o.p 4), .int .u8 (o.p 5), .int .u8 (o.p 6), .int .u8 (o.p 7), .int .u8 (o.p 8), .int .u8 (o.p 9), .int .u8 (o.p 10), .int .u8 (o.p 11), .int .u8 (o.p 12), .int .u8 (o.p 13), .int .u8 (o.p 14), .int .u8 (o.p 15), .int .u8 (o.s 0), .int .u8 (o.s 1), .int .u8 (o.s 2), .int .u8 (o.s 3), .int .u8 (o.s 4), .int .u8 (o.s 5), .int .u8 (o.s 6), .int .u8 (o.s 7), .int .u8 (o.s 8), .int .u8 (o.s 9), .int .u8 (o.s 10), .int .u8 (o.s 11), .int .u8 (o.s 12), .int .u8 (o.s 13), .int .u8 (o.s 14), .int .u8 (o.s 15)] 31 := Own.cast hw11.own (by kernel_rfl)
          have hzhw11 := hw11.same
          refine VL_end (by kernel_rfl) ?_
          refine VQ_block_normal ?_
          refine VQ_next ?_
          refine VC_seq ?_
          refine VC_region ?_
          refine VL_load (d := 34) (t := 31) (a := ⟨b2, 0, none⟩) (v := .agg #[.int .i64 o.k, .int .u8 0, .bool o.a, .int .u32 o.tg, .int .u8 (o.p 0), .int .u8 (o.p 1), .int .u8 (o.p 2), .int .u8 (o.p 3), .int .u8 (o.p 4), .int .u8 (o.p 5), .int .u8 (o.p 6), .int .u8 (o.p 7), .int .u8 (o.p 8), .int .u8 (o.p 9), .int .u8 (o.p 10), .int .u8 (o.p 11), .int .u8 (o.p 12), .int .u8 (o.p 13), .int .u8 (o.p 14), .int .u8 (o.p 15), .int .u8 (o.s 0), .int .u8 (o.s 1), .int .u8 (o.s 2), .int .u8 (o.s 3), .int .u8 (o.s 4), .int .u8 (o.s 5), .int .u8 (o.s 6), .int .u8 (o.s 7), .int .u8 (o.s 8), .int .u8 (o.s 9), .int .u8 (o.s 10), .int .u8 (o.s 11), .int .u8 (o.s 12), .int .u8 (o.s 13), .int .u8 (o.s 14), .int .u8 (o.s 15)]) (by kernel_rfl) (by kernel_rfl) (Loads.ownL ho15 (n := 36) (by kernel_rfl) (by kernel_rfl) (by kernel_rfl)) ?_
          refine VL_load (d := 35) (t := 31) (a := ⟨b1, 0, none⟩) (v := .agg #[.int .i64 o.k, .int .u8 o.d, .bool o.a, .int .u32 o.tg, .int .u8 (o.p 0), .int .u8 (o.p 1), .int .u8 (o.p 2), .int .u8 (o.p 3), .int .u8 (o.p 4), .int .u8 (o.p 5), .int .u8 (o.p 6), .int .u8 (o.p 7), .int .u8 (o.p 8), .int .u8 (o.p 9), .int .u8 (o.p 10), .int .u8 (o.p 11), .int .u8 (o.p 12), .int .u8 (o.p 13), .int .u8 (o.p 14), .int .u8 (o.p 15), .int .u8 (o.s 0), .int .u8 (o.s 1), .int .u8 (o.s 2), .int .u8 (o.s 3), .int .u8 (o.s 4), .int .u8 (o.s 5), .int .u8 (o.s 6), .int .u8 (o.s 7), .int .u8 (o.s 8), .int .u8 (o.s 9), .int .u8 (o.s 10), .int .u8 (o.s 11), .int .u8 (o.s 12), .int .u8 (o.s 13), .int .u8 (o.s 14), .int .u8 (o.s 15)]) (by kernel_rfl) (by kernel_rfl) (Loads.ownL ho1 (n := 36) (by kernel_rfl) (by kernel_rfl) (by kernel_rfl)) ?_
          refine VL_agEq (d := 36) (dd := 9) (ls := ([.int .i64] ++ [.int .u8] ++ [.bool] ++ [.int .u32] ++ (rep 16 [.int .u8]) ++ (rep 16 [.int .u8]) ++ [])) (pos := true) (t := 31) (xs := #[.int .i64 o.k, .int .u8 0, .bool o.a, .int .u32 o.tg, .int .u8 (o.p 0), .int .u8 (o.p 1), .int .u8 (o.p 2), .int .u8 (o.p 3), .int .u8 (o.p 4), .int .u8 (o.p 5), .int .u8 (o.p 6), .int .u8 (o.p 7), .int .u8 (o.p 8), .int .u8 (o.p 9), .int .u8 (o.p 10), .int .u8 (o.p 11), .int .u8 (o.p 12), .int .u8 (o.p 13), .int .u8 (o.p 14), .int .u8 (o.p 15), .int .u8 (o.s 0), .int .u8 (o.s 1), .int .u8 (o.s 2), .int .u8 (o.s 3), .int .u8 (o.s 4), .int .u8 (o.s 5), .int .u8 (o.s 6), .int .u8 (o.s 7), .int .u8 (o.s 8), .int .u8 (o.s 9), .int .u8 (o.s 10), .int .u8 (o.s 11), .int .u8 (o.s 12), .int .u8 (o.s 13), .int .u8 (o.s 14), .int .u8 (o.s 15)]) (ys := #[.int .i64 o.k, .int .u8 o.d, .bool o.a, .int .u32 o.tg, .int .u8 (o.p 0), .int .u8 (o.p 1), .int .u8 (o.p 2), .int .u8 (o.p 3), .int .u8 (o.p 4), .int .u8 (o.p 5), .int .u8 (o.p 6), .int .u8 (o.p 7), .int .u8 (o.p 8), .int .u8 (o.p 9), .int .u8 (o.p 10), .int .u8 (o.p 11), .int .u8 (o.p 12), .int .u8 (o.p 13), .int .u8 (o.p 14), .int .u8 (o.p 15), .int .u8 (o.s 0), .int .u8 (o.s 1), .int .u8 (o.s 2), .int .u8 (o.s 3), .int .u8 (o.s 4), .int .u8 (o.s 5), .int .u8 (o.s 6), .int .u8 (o.s 7), .int .u8 (o.s 8), .int .u8 (o.s 9), .int .u8 (o.s 10), .int .u8 (o.s 11), .int .u8 (o.s 12), .int .u8 (o.s 13), .int .u8 (o.s 14), .int .u8 (o.s 15)]) (by kernel_rfl) (by kernel_rfl) (by kernel_rfl) (by kernel_rfl) (by first | exact ⟨⟨_, rfl⟩, ⟨_, rfl⟩, ⟨_, rfl⟩, ⟨_, rfl⟩, ⟨_, rfl⟩, ⟨_, rfl⟩, ⟨_, rfl⟩, ⟨_, rfl⟩, ⟨_, rfl⟩, ⟨_, rfl⟩, ⟨_, rfl⟩, ⟨_, rfl⟩, ⟨_, rfl⟩, ⟨_, rfl⟩, ⟨_, rfl⟩, ⟨_, rfl⟩, ⟨_, rfl⟩, ⟨_, rfl⟩, ⟨_, rfl⟩, ⟨_, rfl⟩, ⟨_, rfl⟩, ⟨_, rfl⟩, ⟨_, rfl⟩, ⟨_, rfl⟩, ⟨_, rfl⟩, ⟨_, rfl⟩, ⟨_, rfl⟩, ⟨_, rfl⟩, ⟨_, rfl⟩, ⟨_, rfl⟩, ⟨_, rfl⟩, ⟨_, rfl⟩, ⟨_, rfl⟩, ⟨_, rfl⟩, ⟨_, rfl⟩, ⟨_, rfl⟩, trivial⟩ | trivial) (by first | exact ⟨⟨_, rfl⟩, ⟨_, rfl⟩, ⟨_, rfl⟩, ⟨_, rfl⟩, ⟨_, rfl⟩, ⟨_, rfl⟩, ⟨_, rfl⟩, ⟨_, rfl⟩, ⟨_, rfl⟩, ⟨_, rfl⟩, ⟨_, rfl⟩, ⟨_, rfl⟩, ⟨_, rfl⟩, ⟨_, rfl⟩, ⟨_, rfl⟩, ⟨_, rfl⟩, ⟨_, rfl⟩, ⟨_, rfl⟩, ⟨_, rfl⟩, ⟨_, rfl⟩, ⟨_, rfl⟩, ⟨_, rfl⟩, ⟨_, rfl⟩, ⟨_, rfl⟩, ⟨_, rfl⟩, ⟨_, rfl⟩, ⟨_, rfl⟩, ⟨_, rfl⟩, ⟨_, rfl⟩, ⟨_, rfl⟩, ⟨_, rfl⟩, ⟨_, rfl⟩, ⟨_, rfl⟩, ⟨_, rfl⟩, ⟨_, rfl⟩, ⟨_, rfl⟩, trivial⟩ | trivial) (cellsEq #[.int .i64 o.k, .int .u8 0, .bool o.a, .int .u32 o.tg, .int .u8 (o.p 0), .int .u8 (o.p 1), .int .u8 (o.p 2), .int .u8 (o.p 3), .int .u8 (o.p 4), .int .u8 (o.p 5), .int .u8 (o.p 6), .int .u8 (o.p 7), .int .u8 (o.p 8), .int .u8 (o.p 9), .int .u8 (o.p 10), .int .u8 (o.p 11), .int .u8 (o.p 12), .int .u8 (o.p 13), .int .u8 (o.p 14), .int .u8 (o.p 15), .int .u8 (o.s 0), .int .u8 (o.s 1), .int .u8 (o.s 2), .int .u8 (o.s 3), .int .u8 (o.s 4), .int .u8 (o.s 5), .int .u8 (o.s 6), .int .u8 (o.s 7), .int .u8 (o.s 8), .int .u8 (o.s 9), .int .u8 (o.s 10), .int .u8 (o.s 11), .int .u8 (o.s 12), .int .u8 (o.s 13), .int .u8 (o.s 14), .int .u8 (o.s 15)].toList #[.int .i64 o.k, .int .u8 o.d, .bool o.a, .int .u32 o.tg, .int .u8 (o.p 0), .int .u8 (o.p 1), .int .u8 (o.p 2), .int .u8 (o.p 3), .int .u8 (o.p 4), .int .u8 (o.p 5), .int .u8 (o.p 6), .int .u8 (o.p 7), .int .u8 (o.p 8), .int .u8 (o.p 9), .int .u8 (o.p 10), .int .u8 (o.p 11), .int .u8 (o.p 12), .int .u8 (o.p 13), .int .u8 (o.p 14), .int .u8 (o.p 15), .int .u8 (o.s 0), .int .u8 (o.s 1), .int .u8 (o.s 2), .int .u8 (o.s 3), .int .u8 (o.s 4), .int .u8 (o.s 5), .int .u8 (o.s 6), .int .u8 (o.s 7), .int .u8 (o.s 8), .int .u8 (o.s 9), .int .u8 (o.s 10), .int .u8 (o.s 11), .int .u8 (o.s 12), .int .u8 (o.s 13), .int .u8 (o.s 14), .int .u8 (o.s 15)].toList) (by rfl) ?_
          refine VL_pure 4 [2] [(2, .bool (cellsEq #[.int .i64 o.k, .int .u8 0, .bool o.a, .int .u32 o.tg, .int .u8 (o.p 0), .int .u8 (o.p 1), .int .u8 (o.p 2), .int .u8 (o.p 3), .int .u8 (o.p 4), .int .u8 (o.p 5), .int .u8 (o.p 6), .int .u8 (o.p 7), .int .u8 (o.p 8), .int .u8 (o.p 9), .int .u8 (o.p 10), .int .u8 (o.p 11), .int .u8 (o.p 12), .int .u8 (o.p 13), .int .u8 (o.p 14), .int .u8 (o.p 15), .int .u8 (o.s 0), .int .u8 (o.s 1), .int .u8 (o.s 2), .int .u8 (o.s 3), .int .u8 (o.s 4), .int .u8 (o.s 5), .int .u8 (o.s 6), .int .u8 (o.s 7), .int .u8 (o.s 8), .int .u8 (o.s 9), .int .u8 (o.s 10), .int .u8 (o.s 11), .int .u8 (o.s 12), .int .u8 (o.s 13), .int .u8 (o.s 14), .int .u8 (o.s 15)].toList #[.int .i64 o.k, .int .u8 o.d, .bool o.a, .int .u32 o.tg, .int .u8 (o.p 0), .int .u8 (o.p 1), .int .u8 (o.p 2), .int .u8 (o.p 3), .int .u8 (o.p 4), .int .u8 (o.p 5), .int .u8 (o.p 6), .int .u8 (o.p 7), .int .u8 (o.p 8), .int .u8 (o.p 9), .int .u8 (o.p 10), .int .u8 (o.p 11), .int .u8 (o.p 12), .int .u8 (o.p 13), .int .u8 (o.p 14), .int .u8 (o.p 15), .int .u8 (o.s 0), .int .u8 (o.s 1), .int .u8 (o.s 2), .int .u8 (o.s 3), .int .u8 (o.s 4), .int .u8 (o.s 5), .int .u8 (o.s 6), .int .u8 (o.s 7), .int .u8 (o.s 8), .int .u8 (o.s 9), .int .u8 (o.s 10), .int .u8 (o.s 11), .int .u8 (o.s 12), .int .u8 (o.s 13), .int .u8 (o.s 14), .int .u8 (o.s 15)].toList))] (by kernel_rfl) rfl ?_
          refine VL_end (by kernel_rfl) ?_
          refine VQ_next ?_
          refine VC_ret ?_
          refine VQ_ret1 (.bool (cellsEq #[.int .i64 o.k, .int .u8 0, .bool o.a, .int .u32 o.tg, .int .u8 (o.p 0), .int .u8 (o.p 1), .int .u8 (o.p 2), .int .u8 (o.p 3), .int .u8 (o.p 4), .int .u8 (o.p 5), .int .u8 (o.p 6), .int .u8 (o.p 7), .int .u8 (o.p 8), .int .u8 (o.p 9), .int .u8 (o.p 10), .int .u8 (o.p 11), .int .u8 (o.p 12), .int .u8 (o.p 13), .int .u8 (o.p 14), .int .u8 (o.p 15), .int .u8 (o.s 0), .int .u8 (o.s 1), .int .u8 (o.s 2), .int .u8 (o.s 3), .int .u8 (o.s 4), .int .u8 (o.s 5), .int .u8 (o.s 6), .int .u8 (o.s 7), .int .u8 (o.s 8), .int .u8 (o.s 9), .int .u8 (o.s 10), .int .u8 (o.s 11), .int .u8 (o.s 12), .int .u8 (o.s 13), .int .u8 (o.s 14), .int .u8 (o.s 15)].toList #[.int .i64 o.k, .int .u8 o.d, .bool o.a, .int .u32 o.tg, .int .u8 (o.p 0), .int .u8 (o.p 1), .int .u8 (o.p 2), .int .u8 (o.p 3), .int .u8 (o.p 4), .int .u8 (o.p 5), .int .u8 (o.p 6), .int .u8 (o.p 7), .int .u8 (o.p 8), .int .u8 (o.p 9), .int .u8 (o.p 10), .int .u8 (o.p 11), .int .u8 (o.p 12), .int .u8 (o.p 13), .int .u8 (o.p 14), .int .u8 (o.p 15), .int .u8 (o.s 0), .int .u8 (o.s 1), .int .u8 (o.s 2), .int .u8 (o.s 3), .int .u8 (o.s 4), .int .u8 (o.s 5), .int .u8 (o.s 6), .int .u8 (o.s 7), .int .u8 (o.s 8), .int .u8 (o.s 9), .int .u8 (o.s 10), .int .u8 (o.s 11), .int .u8 (o.s 12), .int .u8 (o.s 13), .int .u8 (o.s 14), .int .u8 (o.s 15)].toList)) (.inr rfl) rfl rfl ?_
          exact ⟨congrArg Value.bool (Eq.symm (rightO_8 (by omega))), hS⟩
        · refine VC_seq ?_
          refine VC_region ?_
          refine VL_pure 1 [2] [(2, .bool false)] (by kernel_rfl) rfl ?_
          refine VL_end (by kernel_rfl) ?_
          refine VQ_next ?_
          refine VC_ret ?_
          refine VQ_block_ret ?_
          refine VQ_then_ret ?_
          refine VQ_ret1 (.bool false) (.inr rfl) rfl rfl ?_
          exact ⟨congrArg Value.bool (Eq.symm (rightO_no (by omega) (by omega) (by omega) (by omega))), hS⟩

set_option maxRecDepth 20000 in
set_option maxHeartbeats 1000000 in
theorem reply14_any (o : Om) (here : Nat → Int) (w : World) :
    CV Try.prog 29 #[.agg #[.int .i64 o.k, .int .u8 o.d, .bool o.a, .int .u32 o.tg, .int .u8 (o.p 0), .int .u8 (o.p 1), .int .u8 (o.p 2), .int .u8 (o.p 3), .int .u8 (o.p 4), .int .u8 (o.p 5), .int .u8 (o.p 6), .int .u8 (o.p 7), .int .u8 (o.p 8), .int .u8 (o.p 9), .int .u8 (o.p 10), .int .u8 (o.p 11), .int .u8 (o.p 12), .int .u8 (o.p 13), .int .u8 (o.p 14), .int .u8 (o.p 15), .int .u8 (o.s 0), .int .u8 (o.s 1), .int .u8 (o.s 2), .int .u8 (o.s 3), .int .u8 (o.s 4), .int .u8 (o.s 5), .int .u8 (o.s 6), .int .u8 (o.s 7), .int .u8 (o.s 8), .int .u8 (o.s 9), .int .u8 (o.s 10), .int .u8 (o.s 11), .int .u8 (o.s 12), .int .u8 (o.s 13), .int .u8 (o.s 14), .int .u8 (o.s 15)], .agg #[.int .u8 (here 0), .int .u8 (here 1), .int .u8 (here 2), .int .u8 (here 3), .int .u8 (here 4), .int .u8 (here 5), .int .u8 (here 6), .int .u8 (here 7), .int .u8 (here 8), .int .u8 (here 9), .int .u8 (here 10), .int .u8 (here 11), .int .u8 (here 12), .int .u8 (here 13), .int .u8 (here 14), .int .u8 (here 15)]] w (fun x w1 => x = .tuple #[.agg (omL (replyV o here)).toArray, .bool (replyB o here)] ∧ Step No w w1) := by
  have hS : Step No w w := Step.refl _ _
  refine CV_enter Try.f29 _ 31 [(0, .agg #[.int .i64 o.k, .int .u8 o.d, .bool o.a, .int .u32 o.tg, .int .u8 (o.p 0), .int .u8 (o.p 1), .int .u8 (o.p 2), .int .u8 (o.p 3), .int .u8 (o.p 4), .int .u8 (o.p 5), .int .u8 (o.p 6), .int .u8 (o.p 7), .int .u8 (o.p 8), .int .u8 (o.p 9), .int .u8 (o.p 10), .int .u8 (o.p 11), .int .u8 (o.p 12), .int .u8 (o.p 13), .int .u8 (o.p 14), .int .u8 (o.p 15), .int .u8 (o.s 0), .int .u8 (o.s 1), .int .u8 (o.s 2), .int .u8 (o.s 3), .int .u8 (o.s 4), .int .u8 (o.s 5), .int .u8 (o.s 6), .int .u8 (o.s 7), .int .u8 (o.s 8), .int .u8 (o.s 9), .int .u8 (o.s 10), .int .u8 (o.s 11), .int .u8 (o.s 12), .int .u8 (o.s 13), .int .u8 (o.s 14), .int .u8 (o.s 15)]), (1, .agg #[.int .u8 (here 0), .int .u8 (here 1), .int .u8 (here 2), .int .u8 (here 3), .int .u8 (here 4), .int .u8 (here 5), .int .u8 (here 6), .int .u8 (here 7), .int .u8 (here 8), .int .u8 (here 9), .int .u8 (here 10), .int .u8 (here 11), .int .u8 (here 12), .int .u8 (here 13), .int .u8 (here 14), .int .u8 (here 15)])] Try.func29 rfl rfl (by kernel_rfl) rfl ?_
  refine VC_seq ?_
  refine VC_region ?_
  have hzs1 := hS.size
  refine VL_box (d := 2) (t := 31) (c := #[.int .i64 o.k, .int .u8 o.d, .bool o.a, .int .u32 o.tg, .int .u8 (o.p 0), .int .u8 (o.p 1), .int .u8 (o.p 2), .int .u8 (o.p 3), .int .u8 (o.p 4), .int .u8 (o.p 5), .int .u8 (o.p 6), .int .u8 (o.p 7), .int .u8 (o.p 8), .int .u8 (o.p 9), .int .u8 (o.p 10), .int .u8 (o.p 11), .int .u8 (o.p 12), .int .u8 (o.p 13), .int .u8 (o.p 14), .int .u8 (o.p 15), .int .u8 (o.s 0), .int .u8 (o.s 1), .int .u8 (o.s 2), .int .u8 (o.s 3), .int .u8 (o.s 4), .int .u8 (o.s 5), .int .u8 (o.s 6), .int .u8 (o.s 7), .int .u8 (o.s 8), .int .u8 (o.s 9), .int .u8 (o.s 10), .int .u8 (o.s 11), .int .u8 (o.s 12), .int .u8 (o.s 13), .int .u8 (o.s 14), .int .u8 (o.s 15)]) (by kernel_rfl) (by kernel_rfl) ?_
  intro b1 w1 hn1
  replace hS := Step.trans hS (hn1.step No)
  have ho1 := hn1.own
  have hzhn1 := hn1.size
  have hqhn1 := hn1.eqb
  have hzs2 := hS.size
  have hzl1 := ho1.lt
  refine VL_box (d := 3) (t := 22) (c := #[.int .u8 (here 0), .int .u8 (here 1), .int .u8 (here 2), .int .u8 (here 3), .int .u8 (here 4), .int .u8 (here 5), .int .u8 (here 6), .int .u8 (here 7), .int .u8 (here 8), .int .u8 (here 9), .int .u8 (here 10), .int .u8 (here 11), .int .u8 (here 12), .int .u8 (here 13), .int .u8 (here 14), .int .u8 (here 15)]) (by kernel_rfl) (by kernel_rfl) ?_
  intro b2 w2 hn2
  replace hS := Step.trans hS (hn2.step No)
  replace ho1 := ho1.no (hn2.step No)
  have ho2 := hn2.own
  have hzhn2 := hn2.size
  have hqhn2 := hn2.eqb
  have hzs3 := hS.size
  have hzl2 := ho1.lt
  have hzl3 := ho2.lt
  refine VL_box (d := 4) (t := 31) (c := #[.int .i64 0, .int .u8 0, .bool false, .int .u32 0, .int .u8 0, .int .u8 0, .int .u8 0, .int .u8 0, .int .u8 0, .int .u8 0, .int .u8 0, .int .u8 0, .int .u8 0, .int .u8 0, .int .u8 0, .int .u8 0, .int .u8 0, .int .u8 0, .int .u8 0, .int .u8 0, .int .u8 0, .int .u8 0, .int .u8 0, .int .u8 0, .int .u8 0, .int .u8 0, .int .u8 0, .int .u8 0, .int .u8 0, .int .u8 0, .int .u8 0, .int .u8 0, .int .u8 0, .int .u8 0, .int .u8 0, .int .u8 0]) (by kernel_rfl) (by kernel_rfl) ?_
  intro b3 w3 hn3
  replace hS := Step.trans hS (hn3.step No)
  replace ho1 := ho1.no (hn3.step No)
  replace ho2 := ho2.no (hn3.step No)
  have ho3 := hn3.own
  have hzhn3 := hn3.size
  have hqhn3 := hn3.eqb
  refine VL_pure 4 [2, 3, 4] [(2, .pointer (some ⟨b1, 0, none⟩)), (3, .pointer (some ⟨b2, 0, none⟩)), (4, .pointer (some ⟨b3, 0, none⟩))] (by kernel_rfl) rfl ?_
  refine VL_end (by kernel_rfl) ?_
  refine VQ_next ?_
  refine VC_seq ?_
  refine VC_seq ?_
  have hs1 := drew_step w3
  have hs1z : w3.heap.size = w3.drew.heap.size := rfl
  refine VC_text [[], [0], [0, 1], [0, 1, 2], [0, 1, 2, 3], [0, 1, 2, 3, 4], [0, 1, 2, 3, 4, 5], [0, 1, 2, 3, 4, 5, 6], [0, 1, 2, 3, 4, 5, 6, 7], [0, 1, 2, 3, 4, 5, 6, 7, 8], [0, 1, 2, 3, 4, 5, 6, 7, 8, 9], [0, 1, 2, 3, 4, 5, 6, 7, 8], [0, 1, 2, 3, 4, 5, 6, 7, 8, 9, 10, 11], [0, 1, 2, 3, 4, 5, 6, 7, 8, 9, 10, 11, 12], [0, 1, 2, 3, 4, 5, 6, 7, 8, 9, 10, 11, 12, 13], [0, 1, 2, 3, 4, 5, 6, 7, 8, 9, 10, 11, 12, 13, 14], [0, 1, 2, 3, 4, 5, 6, 7, 8, 9, 10, 11, 12, 13], [0, 1, 2, 3, 4, 5, 6, 7, 8, 9, 10, 11, 12, 13, 14, 15, 16], [0, 1, 2, 3, 4, 5, 6, 7, 8, 9, 10, 11, 12, 13, 14, 15, 16, 17], [0, 1, 2, 3, 4, 5, 6, 7, 8, 9, 10, 11, 12, 13, 14, 15, 16, 17, 18]] 17 (fun x y => Step (fun k => w3.heap.size ≤ k) x y) [16] [0, 1, 2, 3, 4, 5, 6, 7, 8, 9, 10, 11, 12, 13, 14, 15, 16] (by kernel_rfl) (by kernel_rfl) (by kernel_rfl) (by kernel_rfl) (fun x => Step.refl _ x) (fun h k => Step.trans h k) Step.weak ?_
  have hzs4 := hS.size
  have hzl4 := ho1.lt
  have hzl5 := ho2.lt
  have hzl6 := ho3.lt
  generalize w3.drew = w4 at hs1 hs1z ⊢
  replace hS := Step.trans hS hs1
  replace ho1 := ho1.no hs1
  replace ho2 := ho2.no hs1
  replace ho3 := ho3.no hs1
  refine VT_pures 1 (kn' := [(0, .pointer (some ⟨b1, 0, none⟩))]) (by kernel_rfl) ?_
  refine VT_load (d := 7) (t := 3) (a := ⟨b1, 0, none⟩) (v := .int .i64 o.k) (by kernel_rfl) (by kernel_rfl) ?_ ?_
  · intro w5 hr1
    replace hS := Step.transNew hS hr1 (fun i hi hG => by (try simp only at hG); omega)
    replace ho1 := ho1.step hr1 (by (try simp only); omega)
    replace ho2 := ho2.step hr1 (by (try simp only); omega)
    replace ho3 := ho3.step hr1 (by (try simp only); omega)
    exact (Loads.own1 ho1 (by kernel_rfl) (by rfl))
  refine VT_pures 2 (kn' := [(3, .bool (o.k != 8)), (2, .bool (o.k != 8)), (1, .int .i64 o.k), (0, .pointer (some ⟨b1, 0, none⟩))]) (by kernel_rfl) ?_
  rcases Bool.eq_false_or_eq_true (o.k != 8) with hg1 | hg1
  · refine VT_eq [(3, .bool true), (2, .bool true), (1, .int .i64 o.k), (0, .pointer (some ⟨b1, 0, none⟩))] (by simp only [hg1, Bool.not_true, Bool.not_false]) ?_
    try simp only [bne_iff_ne, beq_iff_eq, decide_eq_true_eq, decide_eq_false_iff_not, bne_eq_false_iff_eq, beq_eq_false_iff_ne, ne_eq] at hg1
    refine VT_pures 13 (kn' := [(16, undef), (15, undef), (14, undef), (13, undef), (12, undef), (11, undef), (10, undef), (9, undef), (8, .bool true), (7, .bool true), (6, undef), (5, undef), (4, undef), (3, .bool true), (2, .bool true), (1, .int .i64 o.k), (0, .pointer (some ⟨b1, 0, none⟩))]) (by kernel_rfl) ?_
    refine VT_end ?_
    intro w6 hs2
    replace hS := Step.trans hS hs2
    replace ho1 := ho1.no hs2
    replace ho2 := ho2.no hs2
    replace ho3 := ho3.no hs2
    refine VL_keep [2, 3, 4, 14, 19, 21, 22] [(2, .pointer (some ⟨b1, 0, none⟩)), (3, .pointer (some ⟨b2, 0, none⟩)), (4, .pointer (some ⟨b3, 0, none⟩)), (14, .bool true), (19, undef), (21, undef), (22, undef)] (by kernel_rfl) ?_
    refine VL_pure 20 [2, 3, 4, 25] [(2, .pointer (some ⟨b1, 0, none⟩)), (3, .pointer (some ⟨b2, 0, none⟩)), (4, .pointer (some ⟨b3, 0, none⟩)), (25, .bool true)] (by kernel_rfl) rfl ?_
    refine VL_end (by kernel_rfl) ?_
    refine VQ_next ?_
    refine VC_true (by kernel_rfl) ?_
    refine VC_seq ?_
    refine VC_region ?_
    refine VL_pure 1 [4, 26] [(4, .pointer (some ⟨b3, 0, none⟩)), (26, .agg #[.int .i64 0, .int .u8 0, .bool false, .int .u32 0, .int .u8 0, .int .u8 0, .int .u8 0, .int .u8 0, .int .u8 0, .int .u8 0, .int .u8 0, .int .u8 0, .int .u8 0, .int .u8 0, .int .u8 0, .int .u8 0, .int .u8 0, .int .u8 0, .int .u8 0, .int .u8 0, .int .u8 0, .int .u8 0, .int .u8 0, .int .u8 0, .int .u8 0, .int .u8 0, .int .u8 0, .int .u8 0, .int .u8 0, .int .u8 0, .int .u8 0, .int .u8 0, .int .u8 0, .int .u8 0, .int .u8 0, .int .u8 0])] (by kernel_rfl) rfl ?_
    refine VL_store (b := b3) (o := 0) (vs := [.int .i64 0, .int .u8 0, .bool false, .int .u32 0, .int .u8 0, .int .u8 0, .int .u8 0, .int .u8 0, .int .u8 0, .int .u8 0, .int .u8 0, .int .u8 0, .int .u8 0, .int .u8 0, .int .u8 0, .int .u8 0, .int .u8 0, .int .u8 0, .int .u8 0, .int .u8 0, .int .u8 0, .int .u8 0, .int .u8 0, .int .u8 0, .int .u8 0, .int .u8 0, .int .u8 0, .int .u8 0, .int .u8 0, .int .u8 0, .int .u8 0, .int .u8 0, .int .u8 0, .int .u8 0, .int .u8 0, .int .u8 0]) (by kernel_rfl) (by kernel_rfl) ho3 (Nat.le_of_ble_eq_true (by kernel_rfl)) ?_
    intro w7 hw1
    replace hS := Step.transNew hS hw1.step (fun _ _ _ => by omega)
    replace ho1 := ho1.step hw1.step (show ¬ b1 = b3 by omega)
    replace ho2 := ho2.step hw1.step (show ¬ b2 = b3 by omega)
    have ho4 : Own w7 b3 #[.int .i64 0, .int .u8 0, .bool false, .int .u32 0, .int .u8 0, .int .u8 0, .int .u8 0, .int .u8 0, .int .u8 0, .int .u8 0, .int .u8 0, .int .u8 0, .int .u8 0, .int .u8 0, .int .u8 0, .int .u8 0, .int .u8 0, .int .u8 0, .int .u8 0, .int .u8 0, .int .u8 0, .int .u8 0, .int .u8 0, .int .u8 0, .int .u8 0, .int .u8 0, .int .u8 0, .int .u8 0, .int .u8 0, .int .u8 0, .int .u8 0, .int .u8 0, .int .u8 0, .int .u8 0, .int .u8 0, .int .u8 0] 31 := Own.cast hw1.own (by kernel_rfl)
    have hzhw1 := hw1.same
    refine VL_pure 3 [4, 5] [(4, .pointer (some ⟨b3, 0, none⟩)), (5, .bool false)] (by kernel_rfl) rfl ?_
    refine VL_end (by kernel_rfl) ?_
    refine VQ_next ?_
    refine VC_ret ?_
    refine VQ_then_ret ?_
    refine VQ_retC1T1 (T := 31) (.agg #[.int .i64 0, .int .u8 0, .bool false, .int .u32 0, .int .u8 0, .int .u8 0, .int .u8 0, .int .u8 0, .int .u8 0, .int .u8 0, .int .u8 0, .int .u8 0, .int .u8 0, .int .u8 0, .int .u8 0, .int .u8 0, .int .u8 0, .int .u8 0, .int .u8 0, .int .u8 0, .int .u8 0, .int .u8 0, .int .u8 0, .int .u8 0, .int .u8 0, .int .u8 0, .int .u8 0, .int .u8 0, .int .u8 0, .int .u8 0, .int .u8 0, .int .u8 0, .int .u8 0, .int .u8 0, .int .u8 0, .int .u8 0]) (.bool false) (.inr rfl) rfl rfl rfl (Loads.ownL ho4 (n := 36) (by kernel_rfl) (by kernel_rfl) (by kernel_rfl)) ?_
    exact ⟨reply_fin (b := false) (v := zeroO) (by simp [replyB, *]) rfl, hS⟩
  · refine VT_eq [(3, .bool false), (2, .bool false), (1, .int .i64 o.k), (0, .pointer (some ⟨b1, 0, none⟩))] (by simp only [hg1, Bool.not_true, Bool.not_false]) ?_
    try simp only [bne_iff_ne, beq_iff_eq, decide_eq_true_eq, decide_eq_false_iff_not, bne_eq_false_iff_eq, beq_eq_false_iff_ne, ne_eq] at hg1
    refine VT_pures 1 (kn' := [(4, .pointer (some ⟨b1, 2, none⟩)), (3, .bool false), (2, .bool false), (1, .int .i64 o.k), (0, .pointer (some ⟨b1, 0, none⟩))]) (by kernel_rfl) ?_
    refine VT_load (d := 11) (t := 4) (a := ⟨b1, 2, none⟩) (v := .bool o.a) (by kernel_rfl) (by kernel_rfl) ?_ ?_
    · intro w8 hr2
      replace hS := Step.transNew hS hr2 (fun i hi hG => by (try simp only at hG); omega)
      replace ho1 := ho1.step hr2 (by (try simp only); omega)
      replace ho2 := ho2.step hr2 (by (try simp only); omega)
      replace ho3 := ho3.step hr2 (by (try simp only); omega)
      exact (Loads.own1 ho1 (by kernel_rfl) (by rfl))
    refine VT_pures 3 (kn' := [(8, .bool (!o.a)), (7, .bool (!o.a)), (6, .bool (!o.a)), (5, .bool o.a), (4, .pointer (some ⟨b1, 2, none⟩)), (3, .bool false), (2, .bool false), (1, .int .i64 o.k), (0, .pointer (some ⟨b1, 0, none⟩))]) (by kernel_rfl) ?_
    rcases Bool.eq_false_or_eq_true o.a with hg2 | hg2
    · refine VT_eq [(8, .bool false), (7, .bool false), (6, .bool false), (5, .bool true), (4, .pointer (some ⟨b1, 2, none⟩)), (3, .bool false), (2, .bool false), (1, .int .i64 o.k), (0, .pointer (some ⟨b1, 0, none⟩))] (by simp only [hg2, Bool.not_true, Bool.not_false]) ?_
      try simp only [bne_iff_ne, beq_iff_eq, decide_eq_true_eq, decide_eq_false_iff_not, bne_eq_false_iff_eq, beq_eq_false_iff_ne, ne_eq] at hg2
      refine VT_pures 1 (kn' := [(9, .pointer (some ⟨b1, 4, none⟩)), (8, .bool false), (7, .bool false), (6, .bool false), (5, .bool true), (4, .pointer (some ⟨b1, 2, none⟩)), (3, .bool false), (2, .bool false), (1, .int .i64 o.k), (0, .pointer (some ⟨b1, 0, none⟩))]) (by kernel_rfl) ?_
      refine VT_load (d := 16) (t := 22) (a := ⟨b1, 4, none⟩) (v := .agg #[.int .u8 (o.p 0), .int .u8 (o.p 1), .int .u8 (o.p 2), .int .u8 (o.p 3), .int .u8 (o.p 4), .int .u8 (o.p 5), .int .u8 (o.p 6), .int .u8 (o.p 7), .int .u8 (o.p 8), .int .u8 (o.p 9), .int .u8 (o.p 10), .int .u8 (o.p 11), .int .u8 (o.p 12), .int .u8 (o.p 13), .int .u8 (o.p 14), .int .u8 (o.p 15)]) (by kernel_rfl) (by kernel_rfl) ?_ ?_
      · intro w9 hr3
        replace hS := Step.transNew hS hr3 (fun i hi hG => by (try simp only at hG); omega)
        replace ho1 := ho1.step hr3 (by (try simp only); omega)
        replace ho2 := ho2.step hr3 (by (try simp only); omega)
        replace ho3 := ho3.step hr3 (by (try simp only); omega)
        exact (Loads.ownL ho1 (n := 16) (by kernel_rfl) (by kernel_rfl) (by kernel_rfl))
      refine VT_load (d := 17) (t := 22) (a := ⟨b2, 0, none⟩) (v := .agg #[.int .u8 (here 0), .int .u8 (here 1), .int .u8 (here 2), .int .u8 (here 3), .int .u8 (here 4), .int .u8 (here 5), .int .u8 (here 6), .int .u8 (here 7), .int .u8 (here 8), .int .u8 (here 9), .int .u8 (here 10), .int .u8 (here 11), .int .u8 (here 12), .int .u8 (here 13), .int .u8 (here 14), .int .u8 (here 15)]) (by kernel_rfl) (by kernel_rfl) ?_ ?_
      · intro w10 hr4
        replace hS := Step.transNew hS hr4 (fun i hi hG => by (try simp only at hG); omega)
        replace ho1 := ho1.step hr4 (by (try simp only); omega)
        replace ho2 := ho2.step hr4 (by (try simp only); omega)
        replace ho3 := ho3.step hr4 (by (try simp only); omega)
        exact (Loads.ownL ho2 (n := 16) (by kernel_rfl) (by kernel_rfl) (by kernel_rfl))
      refine VT_agEq (d := 18) (dd := 9) (ls := (rep 16 [.int .u8])) (pos := false) (t := 22) (xs := #[.int .u8 (o.p 0), .int .u8 (o.p 1), .int .u8 (o.p 2), .int .u8 (o.p 3), .int .u8 (o.p 4), .int .u8 (o.p 5), .int .u8 (o.p 6), .int .u8 (o.p 7), .int .u8 (o.p 8), .int .u8 (o.p 9), .int .u8 (o.p 10), .int .u8 (o.p 11), .int .u8 (o.p 12), .int .u8 (o.p 13), .int .u8 (o.p 14), .int .u8 (o.p 15)]) (ys := #[.int .u8 (here 0), .int .u8 (here 1), .int .u8 (here 2), .int .u8 (here 3), .int .u8 (here 4), .int .u8 (here 5), .int .u8 (here 6), .int .u8 (here 7), .int .u8 (here 8), .int .u8 (here 9), .int .u8 (here 10), .int .u8 (here 11), .int .u8 (here 12), .int .u8 (here 13), .int .u8 (here 14), .int .u8 (here 15)]) (by kernel_rfl) (by kernel_rfl) (by kernel_rfl) (by kernel_rfl) (by first | exact ⟨⟨_, rfl⟩, ⟨_, rfl⟩, ⟨_, rfl⟩, ⟨_, rfl⟩, ⟨_, rfl⟩, ⟨_, rfl⟩, ⟨_, rfl⟩, ⟨_, rfl⟩, ⟨_, rfl⟩, ⟨_, rfl⟩, ⟨_, rfl⟩, ⟨_, rfl⟩, ⟨_, rfl⟩, ⟨_, rfl⟩, ⟨_, rfl⟩, ⟨_, rfl⟩, trivial⟩ | trivial) (by first | exact ⟨⟨_, rfl⟩, ⟨_, rfl⟩, ⟨_, rfl⟩, ⟨_, rfl⟩, ⟨_, rfl⟩, ⟨_, rfl⟩, ⟨_, rfl⟩, ⟨_, rfl⟩, ⟨_, rfl⟩, ⟨_, rfl⟩, ⟨_, rfl⟩, ⟨_, rfl⟩, ⟨_, rfl⟩, ⟨_, rfl⟩, ⟨_, rfl⟩, ⟨_, rfl⟩, trivial⟩ | trivial) (!(plEq o.p here)) (by rfl) ?_
      refine VT_pures 1 (kn' := [(13, .bool (!(plEq o.p here))), (12, .bool (!(plEq o.p here))), (11, .agg #[.int .u8 (here 0), .int .u8 (here 1), .int .u8 (here 2), .int .u8 (here 3), .int .u8 (here 4), .int .u8 (here 5), .int .u8 (here 6), .int .u8 (here 7), .int .u8 (here 8), .int .u8 (here 9), .int .u8 (here 10), .int .u8 (here 11), .int .u8 (here 12), .int .u8 (here 13), .int .u8 (here 14), .int .u8 (here 15)]), (10, .agg #[.int .u8 (o.p 0), .int .u8 (o.p 1), .int .u8 (o.p 2), .int .u8 (o.p 3), .int .u8 (o.p 4), .int .u8 (o.p 5), .int .u8 (o.p 6), .int .u8 (o.p 7), .int .u8 (o.p 8), .int .u8 (o.p 9), .int .u8 (o.p 10), .int .u8 (o.p 11), .int .u8 (o.p 12), .int .u8 (o.p 13), .int .u8 (o.p 14), .int .u8 (o.p 15)]), (9, .pointer (some ⟨b1, 4, none⟩)), (8, .bool false), (7, .bool false), (6, .bool false), (5, .bool true), (4, .pointer (some ⟨b1, 2, none⟩)), (3, .bool false), (2, .bool false), (1, .int .i64 o.k), (0, .pointer (some ⟨b1, 0, none⟩))]) (by kernel_rfl) ?_
      rcases Bool.eq_false_or_eq_true (plEq o.p here) with hg3 | hg3
      · refine VT_eq [(13, .bool false), (12, .bool false), (11, .agg #[.int .u8 (here 0), .int .u8 (here 1), .int .u8 (here 2), .int .u8 (here 3), .int .u8 (here 4), .int .u8 (here 5), .int .u8 (here 6), .int .u8 (here 7), .int .u8 (here 8), .int .u8 (here 9), .int .u8 (here 10), .int .u8 (here 11), .int .u8 (here 12), .int .u8 (here 13), .int .u8 (here 14), .int .u8 (here 15)]), (10, .agg #[.int .u8 (o.p 0), .int .u8 (o.p 1), .int .u8 (o.p 2), .int .u8 (o.p 3), .int .u8 (o.p 4), .int .u8 (o.p 5), .int .u8 (o.p 6), .int .u8 (o.p 7), .int .u8 (o.p 8), .int .u8 (o.p 9), .int .u8 (o.p 10), .int .u8 (o.p 11), .int .u8 (o.p 12), .int .u8 (o.p 13), .int .u8 (o.p 14), .int .u8 (o.p 15)]), (9, .pointer (some ⟨b1, 4, none⟩)), (8, .bool false), (7, .bool false), (6, .bool false), (5, .bool true), (4, .pointer (some ⟨b1, 2, none⟩)), (3, .bool false), (2, .bool false), (1, .int .i64 o.k), (0, .pointer (some ⟨b1, 0, none⟩))] (by simp only [hg3, Bool.not_true, Bool.not_false]) ?_
        try simp only [bne_iff_ne, beq_iff_eq, decide_eq_true_eq, decide_eq_false_iff_not, bne_eq_false_iff_eq, beq_eq_false_iff_ne, ne_eq] at hg3
        refine VT_pures 3 (kn' := [(16, undef), (15, undef), (14, undef), (13, .bool false), (12, .bool false), (11, .agg #[.int .u8 (here 0), .int .u8 (here 1), .int .u8 (here 2), .int .u8 (here 3), .int .u8 (here 4), .int .u8 (here 5), .int .u8 (here 6), .int .u8 (here 7), .int .u8 (here 8), .int .u8 (here 9), .int .u8 (here 10), .int .u8 (here 11), .int .u8 (here 12), .int .u8 (here 13), .int .u8 (here 14), .int .u8 (here 15)]), (10, .agg #[.int .u8 (o.p 0), .int .u8 (o.p 1), .int .u8 (o.p 2), .int .u8 (o.p 3), .int .u8 (o.p 4), .int .u8 (o.p 5), .int .u8 (o.p 6), .int .u8 (o.p 7), .int .u8 (o.p 8), .int .u8 (o.p 9), .int .u8 (o.p 10), .int .u8 (o.p 11), .int .u8 (o.p 12), .int .u8 (o.p 13), .int .u8 (o.p 14), .int .u8 (o.p 15)]), (9, .pointer (some ⟨b1, 4, none⟩)), (8, .bool false), (7, .bool false), (6, .bool false), (5, .bool true), (4, .pointer (some ⟨b1, 2, none⟩)), (3, .bool false), (2, .bool false), (1, .int .i64 o.k), (0, .pointer (some ⟨b1, 0, none⟩))]) (by kernel_rfl) ?_
        refine VT_end ?_
        intro w11 hs3
        replace hS := Step.trans hS hs3
        replace ho1 := ho1.no hs3
        replace ho2 := ho2.no hs3
        replace ho3 := ho3.no hs3
        refine VL_keep [2, 3, 4, 14, 19, 21, 22] [(2, .pointer (some ⟨b1, 0, none⟩)), (3, .pointer (some ⟨b2, 0, none⟩)), (4, .pointer (some ⟨b3, 0, none⟩)), (14, .bool false), (19, .bool false), (21, undef), (22, undef)] (by kernel_rfl) ?_
        refine VL_pure 20 [2, 3, 4, 25] [(2, .pointer (some ⟨b1, 0, none⟩)), (3, .pointer (some ⟨b2, 0, none⟩)), (4, .pointer (some ⟨b3, 0, none⟩)), (25, .bool false)] (by kernel_rfl) rfl ?_
        refine VL_end (by kernel_rfl) ?_
        refine VQ_next ?_
        refine VC_false (by kernel_rfl) ?_
        refine VC_skip ?_
        refine VQ_next ?_
        refine VC_seq ?_
        refine VC_region ?_
        refine VL_pure 1 [2, 3, 4, 27] [(2, .pointer (some ⟨b1, 0, none⟩)), (3, .pointer (some ⟨b2, 0, none⟩)), (4, .pointer (some ⟨b3, 0, none⟩)), (27, .pointer (some ⟨b1, 2, none⟩))] (by kernel_rfl) rfl ?_
        refine VL_store (b := b1) (o := 2) (vs := [.bool false]) (by kernel_rfl) (by kernel_rfl) ho1 (Nat.le_of_ble_eq_true (by kernel_rfl)) ?_
        intro w12 hw2
        replace hS := Step.transNew hS hw2.step (fun _ _ _ => by omega)
        replace ho2 := ho2.step hw2.step (show ¬ b2 = b1 by omega)
        replace ho3 := ho3.step hw2.step (show ¬ b3 = b1 by omega)
        have ho5 : Own w12 b1 #[.int .i64 o.k, .int .u8 o.d, .bool false, .int .u32 o.tg, .int .u8 (o.p 0), .int .u8 (o.p 1), .int .u8 (o.p 2), .int .u8 (o.p 3), .int .u8 (o.p 4), .int .u8 (o.p 5), .int .u8 (o.p 6), .int .u8 (o.p 7), .int .u8 (o.p 8), .int .u8 (o.p 9), .int .u8 (o.p 10), .int .u8 (o.p 11), .int .u8 (o.p 12), .int .u8 (o.p 13), .int .u8 (o.p 14), .int .u8 (o.p 15), .int .u8 (o.s 0), .int .u8 (o.s 1), .int .u8 (o.s 2), .int .u8 (o.s 3), .int .u8 (o.s 4), .int .u8 (o.s 5), .int .u8 (o.s 6), .int .u8 (o.s 7), .int .u8 (o.s 8), .int .u8 (o.s 9), .int .u8 (o.s 10), .int .u8 (o.s 11), .int .u8 (o.s 12), .int .u8 (o.s 13), .int .u8 (o.s 14), .int .u8 (o.s 15)] 31 := Own.cast hw2.own (by kernel_rfl)
        have hzhw2 := hw2.same
        refine VL_end (by kernel_rfl) ?_
        refine VQ_next ?_
        refine VC_seq ?_
        refine VC_region ?_
        refine VL_load (d := 28) (t := 22) (a := ⟨b2, 0, none⟩) (v := .agg #[.int .u8 (here 0), .int .u8 (here 1), .int .u8 (here 2), .int .u8 (here 3), .int .u8 (here 4), .int .u8 (here 5), .int .u8 (here 6), .int .u8 (here 7), .int .u8 (here 8), .int .u8 (here 9), .int .u8 (here 10), .int .u8 (here 11), .int .u8 (here 12), .int .u8 (here 13), .int .u8 (here 14), .int .u8 (here 15)]) (by kernel_rfl) (by kernel_rfl) (Loads.ownL ho2 (n := 16) (by kernel_rfl) (by kernel_rfl) (by kernel_rfl)) ?_
        refine VL_pure 2 [2, 4, 28, 29] [(2, .pointer (some ⟨b1, 0, none⟩)), (4, .pointer (some ⟨b3, 0, none⟩)), (28, .agg #[.int .u8 (here 0), .int .u8 (here 1), .int .u8 (here 2), .int .u8 (here 3), .int .u8 (here 4), .int .u8 (here 5), .int .u8 (here 6), .int .u8 (here 7), .int .u8 (here 8), .int .u8 (here 9), .int .u8 (here 10), .int .u8 (here 11), .int .u8 (here 12), .int .u8 (here 13), .int .u8 (here 14), .int .u8 (here 15)]), (29, .pointer (some ⟨b1, 4, none⟩))] (by kernel_rfl) rfl ?_
        refine VL_store (b := b1) (o := 4) (vs := [.int .u8 (here 0), .int .u8 (here 1), .int .u8 (here 2), .int .u8 (here 3), .int .u8 (here 4), .int .u8 (here 5), .int .u8 (here 6), .int .u8 (here 7), .int .u8 (here 8), .int .u8 (here 9), .int .u8 (here 10), .int .u8 (here 11), .int .u8 (here 12), .int .u8 (here 13), .int .u8 (here 14), .int .u8 (here 15)]) (by kernel_rfl) (by kernel_rfl) ho5 (Nat.le_of_ble_eq_true (by kernel_rfl)) ?_
        intro w13 hw3
        replace hS := Step.transNew hS hw3.step (fun _ _ _ => by omega)
        replace ho2 := ho2.step hw3.step (show ¬ b2 = b1 by omega)
        replace ho3 := ho3.step hw3.step (show ¬ b3 = b1 by omega)
        have ho6 : Own w13 b1 #[.int .i64 o.k, .int .u8 o.d, .bool false, .int .u32 o.tg, .int .u8 (here 0), .int .u8 (here 1), .int .u8 (here 2), .int .u8 (here 3), .int .u8 (here 4), .int .u8 (here 5), .int .u8 (here 6), .int .u8 (here 7), .int .u8 (here 8), .int .u8 (here 9), .int .u8 (here 10), .int .u8 (here 11), .int .u8 (here 12), .int .u8 (here 13), .int .u8 (here 14), .int .u8 (here 15), .int .u8 (o.s 0), .int .u8 (o.s 1), .int .u8 (o.s 2), .int .u8 (o.s 3), .int .u8 (o.s 4), .int .u8 (o.s 5), .int .u8 (o.s 6), .int .u8 (o.s 7), .int .u8 (o.s 8), .int .u8 (o.s 9), .int .u8 (o.s 10), .int .u8 (o.s 11), .int .u8 (o.s 12), .int .u8 (o.s 13), .int .u8 (o.s 14), .int .u8 (o.s 15)] 31 := Own.cast hw3.own (by kernel_rfl)
        have hzhw3 := hw3.same
        refine VL_end (by kernel_rfl) ?_
        refine VQ_next ?_
        refine VC_seq ?_
        refine VC_region ?_
        refine VL_load (d := 30) (t := 31) (a := ⟨b1, 0, none⟩) (v := .agg #[.int .i64 o.k, .int .u8 o.d, .bool false, .int .u32 o.tg, .int .u8 (here 0), .int .u8 (here 1), .int .u8 (here 2), .int .u8 (here 3), .int .u8 (here 4), .int .u8 (here 5), .int .u8 (here 6), .int .u8 (here 7), .int .u8 (here 8), .int .u8 (here 9), .int .u8 (here 10), .int .u8 (here 11), .int .u8 (here 12), .int .u8 (here 13), .int .u8 (here 14), .int .u8 (here 15), .int .u8 (o.s 0), .int .u8 (o.s 1), .int .u8 (o.s 2), .int .u8 (o.s 3), .int .u8 (o.s 4), .int .u8 (o.s 5), .int .u8 (o.s 6), .int .u8 (o.s 7), .int .u8 (o.s 8), .int .u8 (o.s 9), .int .u8 (o.s 10), .int .u8 (o.s 11), .int .u8 (o.s 12), .int .u8 (o.s 13), .int .u8 (o.s 14), .int .u8 (o.s 15)]) (by kernel_rfl) (by kernel_rfl) (Loads.ownL ho6 (n := 36) (by kernel_rfl) (by kernel_rfl) (by kernel_rfl)) ?_
        refine VL_store (b := b3) (o := 0) (vs := [.int .i64 o.k, .int .u8 o.d, .bool false, .int .u32 o.tg, .int .u8 (here 0), .int .u8 (here 1), .int .u8 (here 2), .int .u8 (here 3), .int .u8 (here 4), .int .u8 (here 5), .int .u8 (here 6), .int .u8 (here 7), .int .u8 (here 8), .int .u8 (here 9), .int .u8 (here 10), .int .u8 (here 11), .int .u8 (here 12), .int .u8 (here 13), .int .u8 (here 14), .int .u8 (here 15), .int .u8 (o.s 0), .int .u8 (o.s 1), .int .u8 (o.s 2), .int .u8 (o.s 3), .int .u8 (o.s 4), .int .u8 (o.s 5), .int .u8 (o.s 6), .int .u8 (o.s 7), .int .u8 (o.s 8), .int .u8 (o.s 9), .int .u8 (o.s 10), .int .u8 (o.s 11), .int .u8 (o.s 12), .int .u8 (o.s 13), .int .u8 (o.s 14), .int .u8 (o.s 15)]) (by kernel_rfl) (by kernel_rfl) ho3 (Nat.le_of_ble_eq_true (by kernel_rfl)) ?_
        intro w14 hw4
        replace hS := Step.transNew hS hw4.step (fun _ _ _ => by omega)
        replace ho2 := ho2.step hw4.step (show ¬ b2 = b3 by omega)
        replace ho6 := ho6.step hw4.step (show ¬ b1 = b3 by omega)
        have ho7 : Own w14 b3 #[.int .i64 o.k, .int .u8 o.d, .bool false, .int .u32 o.tg, .int .u8 (here 0), .int .u8 (here 1), .int .u8 (here 2), .int .u8 (here 3), .int .u8 (here 4), .int .u8 (here 5), .int .u8 (here 6), .int .u8 (here 7), .int .u8 (here 8), .int .u8 (here 9), .int .u8 (here 10), .int .u8 (here 11), .int .u8 (here 12), .int .u8 (here 13), .int .u8 (here 14), .int .u8 (here 15), .int .u8 (o.s 0), .int .u8 (o.s 1), .int .u8 (o.s 2), .int .u8 (o.s 3), .int .u8 (o.s 4), .int .u8 (o.s 5), .int .u8 (o.s 6), .int .u8 (o.s 7), .int .u8 (o.s 8), .int .u8 (o.s 9), .int .u8 (o.s 10), .int .u8 (o.s 11), .int .u8 (o.s 12), .int .u8 (o.s 13), .int .u8 (o.s 14), .int .u8 (o.s 15)] 31 := Own.cast hw4.own (by kernel_rfl)
        have hzhw4 := hw4.same
        refine VL_pure 3 [4, 5] [(4, .pointer (some ⟨b3, 0, none⟩)), (5, .bool true)] (by kernel_rfl) rfl ?_
        refine VL_end (by kernel_rfl) ?_
        refine VQ_next ?_
        refine VC_ret ?_
        refine VQ_retC1T1 (T := 31) (.agg #[.int .i64 o.k, .int .u8 o.d, .bool false, .int .u32 o.tg, .int .u8 (here 0), .int .u8 (here 1), .int .u8 (here 2), .int .u8 (here 3), .int .u8 (here 4), .int .u8 (here 5), .int .u8 (here 6), .int .u8 (here 7), .int .u8 (here 8), .int .u8 (here 9), .int .u8 (here 10), .int .u8 (here 11), .int .u8 (here 12), .int .u8 (here 13), .int .u8 (here 14), .int .u8 (here 15), .int .u8 (o.s 0), .int .u8 (o.s 1), .int .u8 (o.s 2), .int .u8 (o.s 3), .int .u8 (o.s 4), .int .u8 (o.s 5), .int .u8 (o.s 6), .int .u8 (o.s 7), .int .u8 (o.s 8), .int .u8 (o.s 9), .int .u8 (o.s 10), .int .u8 (o.s 11), .int .u8 (o.s 12), .int .u8 (o.s 13), .int .u8 (o.s 14), .int .u8 (o.s 15)]) (.bool true) (.inr rfl) rfl rfl rfl (Loads.ownL ho7 (n := 36) (by kernel_rfl) (by kernel_rfl) (by kernel_rfl)) ?_
        exact ⟨reply_fin (b := true) (v := ⟨o.k, o.d, false, o.tg, here, o.s⟩) (by simp [replyB, *]) rfl, hS⟩
      · refine VT_eq [(13, .bool true), (12, .bool true), (11, .agg #[.int .u8 (here 0), .int .u8 (here 1), .int .u8 (here 2), .int .u8 (here 3), .int .u8 (here 4), .int .u8 (here 5), .int .u8 (here 6), .int .u8 (here 7), .int .u8 (here 8), .int .u8 (here 9), .int .u8 (here 10), .int .u8 (here 11), .int .u8 (here 12), .int .u8 (here 13), .int .u8 (here 14), .int .u8 (here 15)]), (10, .agg #[.int .u8 (o.p 0), .int .u8 (o.p 1), .int .u8 (o.p 2), .int .u8 (o.p 3), .int .u8 (o.p 4), .int .u8 (o.p 5), .int .u8 (o.p 6), .int .u8 (o.p 7), .int .u8 (o.p 8), .int .u8 (o.p 9), .int .u8 (o.p 10), .int .u8 (o.p 11), .int .u8 (o.p 12), .int .u8 (o.p 13), .int .u8 (o.p 14), .int .u8 (o.p 15)]), (9, .pointer (some ⟨b1, 4, none⟩)), (8, .bool false), (7, .bool false), (6, .bool false), (5, .bool true), (4, .pointer (some ⟨b1, 2, none⟩)), (3, .bool false), (2, .bool false), (1, .int .i64 o.k), (0, .pointer (some ⟨b1, 0, none⟩))] (by simp only [hg3, Bool.not_true, Bool.not_false]) ?_
        try simp only [bne_iff_ne, beq_iff_eq, decide_eq_true_eq, decide_eq_false_iff_not, bne_eq_false_iff_eq, beq_eq_false_iff_ne, ne_eq] at hg3
        refine VT_pures 1 (kn' := [(14, .pointer (some ⟨b1, 4, none⟩)), (13, .bool true), (12, .bool true), (11, .agg #[.int .u8 (here 0), .int .u8 (here 1), .int .u8 (here 2), .int .u8 (here 3), .int .u8 (here 4), .int .u8 (here 5), .int .u8 (here 6), .int .u8 (here 7), .int .u8 (here 8), .int .u8 (here 9), .int .u8 (here 10), .int .u8 (here 11), .int .u8 (here 12), .int .u8 (here 13), .int .u8 (here 14), .int .u8 (here 15)]), (10, .agg #[.int .u8 (o.p 0), .int .u8 (o.p 1), .int .u8 (o.p 2), .int .u8 (o.p 3), .int .u8 (o.p 4), .int .u8 (o.p 5), .int .u8 (o.p 6), .int .u8 (o.p 7), .int .u8 (o.p 8), .int .u8 (o.p 9), .int .u8 (o.p 10), .int .u8 (o.p 11), .int .u8 (o.p 12), .int .u8 (o.p 13), .int .u8 (o.p 14), .int .u8 (o.p 15)]), (9, .pointer (some ⟨b1, 4, none⟩)), (8, .bool false), (7, .bool false), (6, .bool false), (5, .bool true), (4, .pointer (some ⟨b1, 2, none⟩)), (3, .bool false), (2, .bool false), (1, .int .i64 o.k), (0, .pointer (some ⟨b1, 0, none⟩))]) (by kernel_rfl) ?_
        refine VT_load (d := 21) (t := 22) (a := ⟨b1, 4, none⟩) (v := .agg #[.int .u8 (o.p 0), .int .u8 (o.p 1), .int .u8 (o.p 2), .int .u8 (o.p 3), .int .u8 (o.p 4), .int .u8 (o.p 5), .int .u8 (o.p 6), .int .u8 (o.p 7), .int .u8 (o.p 8), .int .u8 (o.p 9), .int .u8 (o.p 10), .int .u8 (o.p 11), .int .u8 (o.p 12), .int .u8 (o.p 13), .int .u8 (o.p 14), .int .u8 (o.p 15)]) (by kernel_rfl) (by kernel_rfl) ?_ ?_
        · intro w15 hr5
          replace hS := Step.transNew hS hr5 (fun i hi hG => by (try simp only at hG); omega)
          replace ho1 := ho1.step hr5 (by (try simp only); omega)
          replace ho2 := ho2.step hr5 (by (try simp only); omega)
          replace ho3 := ho3.step hr5 (by (try simp only); omega)
          exact (Loads.ownL ho1 (n := 16) (by kernel_rfl) (by kernel_rfl) (by kernel_rfl))
        refine VT_chain (by kernel_rfl) ?_
        intro w16 hs4
        have hzhs4 := hs4.size
        replace hS := Step.trans hS hs4
        replace ho1 := ho1.no hs4
        replace ho2 := ho2.no hs4
        replace ho3 := ho3.no hs4
        have hzs5 := hS.size
        have hzl7 := ho1.lt
        have hzl8 := ho2.lt
        have hzl9 := ho3.lt
        refine VTc_call (d := 22) (f := 23) (by kernel_rfl) (by kernel_rfl) (by kernel_rfl) Try.call23 (everywhere_any _) ?_ ?_
        · rintro _ w17 ⟨rfl, hc1⟩
          exact Step.mono hc1 (by intro i hi; first | exact hi.elim | ((try simp only at hi ⊢); omega))
        rintro _ w17 ⟨rfl, hc1⟩
        have hzhc1 := (hc1).size
        replace hS := Step.trans hS hc1
        replace ho1 := ho1.no hc1
        replace ho2 := ho2.no hc1
        replace ho3 := ho3.no hc1
        refine VT_end ?_
        intro w18 hs5
        replace hS := Step.trans hS hs5
        replace ho1 := ho1.no hs5
        replace ho2 := ho2.no hs5
        replace ho3 := ho3.no hs5
        refine VL_keep [2, 3, 4, 14, 19, 21, 22] [(2, .pointer (some ⟨b1, 0, none⟩)), (3, .pointer (some ⟨b2, 0, none⟩)), (4, .pointer (some ⟨b3, 0, none⟩)), (14, .bool false), (19, .bool true), (21, .agg #[.int .u8 (o.p 0), .int .u8 (o.p 1), .int .u8 (o.p 2), .int .u8 (o.p 3), .int .u8 (o.p 4), .int .u8 (o.p 5), .int .u8 (o.p 6), .int .u8 (o.p 7), .int .u8 (o.p 8), .int .u8 (o.p 9), .int .u8 (o.p 10), .int .u8 (o.p 11), .int .u8 (o.p 12), .int .u8 (o.p 13), .int .u8 (o.p 14), .int .u8 (o.p 15)]), (22, .agg #[.int .u8 (ones 0), .int .u8 (ones 1), .int .u8 (ones 2), .int .u8 (ones 3), .int .u8 (ones 4), .int .u8 (ones 5), .int .u8 (ones 6), .int .u8 (ones 7), .int .u8 (ones 8), .int .u8 (ones 9), .int .u8 (ones 10), .int .u8 (ones 11), .int .u8 (ones 12), .int .u8 (ones 13), .int .u8 (ones 14), .int .u8 (ones 15)])] (by kernel_rfl) ?_
        refine VL_agEq (d := 23) (dd := 9) (ls := (rep 16 [.int .u8])) (pos := false) (t := 22) (xs := #[.int .u8 (o.p 0), .int .u8 (o.p 1), .int .u8 (o.p 2), .int .u8 (o.p 3), .int .u8 (o.p 4), .int .u8 (o.p 5), .int .u8 (o.p 6), .int .u8 (o.p 7), .int .u8 (o.p 8), .int .u8 (o.p 9), .int .u8 (o.p 10), .int .u8 (o.p 11), .int .u8 (o.p 12), .int .u8 (o.p 13), .int .u8 (o.p 14), .int .u8 (o.p 15)]) (ys := #[.int .u8 (ones 0), .int .u8 (ones 1), .int .u8 (ones 2), .int .u8 (ones 3), .int .u8 (ones 4), .int .u8 (ones 5), .int .u8 (ones 6), .int .u8 (ones 7), .int .u8 (ones 8), .int .u8 (ones 9), .int .u8 (ones 10), .int .u8 (ones 11), .int .u8 (ones 12), .int .u8 (ones 13), .int .u8 (ones 14), .int .u8 (ones 15)]) (by kernel_rfl) (by kernel_rfl) (by kernel_rfl) (by kernel_rfl) (by first | exact ⟨⟨_, rfl⟩, ⟨_, rfl⟩, ⟨_, rfl⟩, ⟨_, rfl⟩, ⟨_, rfl⟩, ⟨_, rfl⟩, ⟨_, rfl⟩, ⟨_, rfl⟩, ⟨_, rfl⟩, ⟨_, rfl⟩, ⟨_, rfl⟩, ⟨_, rfl⟩, ⟨_, rfl⟩, ⟨_, rfl⟩, ⟨_, rfl⟩, ⟨_, rfl⟩, trivial⟩ | trivial) (by first | exact ⟨⟨_, rfl⟩, ⟨_, rfl⟩, ⟨_, rfl⟩, ⟨_, rfl⟩, ⟨_, rfl⟩, ⟨_, rfl⟩, ⟨_, rfl⟩, ⟨_, rfl⟩, ⟨_, rfl⟩, ⟨_, rfl⟩, ⟨_, rfl⟩, ⟨_, rfl⟩, ⟨_, rfl⟩, ⟨_, rfl⟩, ⟨_, rfl⟩, ⟨_, rfl⟩, trivial⟩ | trivial) (!(plEq o.p ones)) (by rfl) ?_
        refine VL_pure 20 [2, 3, 4, 25] [(2, .pointer (some ⟨b1, 0, none⟩)), (3, .pointer (some ⟨b2, 0, none⟩)), (4, .pointer (some ⟨b3, 0, none⟩)), (25, .bool (!(plEq o.p ones)))] (by kernel_rfl) rfl ?_
        refine VL_end (by kernel_rfl) ?_
        refine VQ_next ?_
        refine VC_cond (!(plEq o.p ones)) (by kernel_rfl) (fun h1 => ?_) (fun h1 => ?_)
        · try simp only [Bool.and_eq_true, Bool.or_eq_true, decide_eq_true_eq, Bool.not_eq_true', decide_eq_false_iff_not, Bool.and_eq_false_iff, Bool.or_eq_false_iff, beq_iff_eq, bne_iff_ne, beq_eq_false_iff_ne, bne_eq_false_iff_eq, Bool.not_eq_eq_eq_not, Bool.not_true, Bool.not_false] at h1
          refine VC_seq ?_
          refine VC_region ?_
          refine VL_pure 1 [4, 26] [(4, .pointer (some ⟨b3, 0, none⟩)), (26, .agg #[.int .i64 0, .int .u8 0, .bool false, .int .u32 0, .int .u8 0, .int .u8 0, .int .u8 0, .int .u8 0, .int .u8 0, .int .u8 0, .int .u8 0, .int .u8 0, .int .u8 0, .int .u8 0, .int .u8 0, .int .u8 0, .int .u8 0, .int .u8 0, .int .u8 0, .int .u8 0, .int .u8 0, .int .u8 0, .int .u8 0, .int .u8 0, .int .u8 0, .int .u8 0, .int .u8 0, .int .u8 0, .int .u8 0, .int .u8 0, .int .u8 0, .int .u8 0, .int .u8 0, .int .u8 0, .int .u8 0, .int .u8 0])] (by kernel_rfl) rfl ?_
          refine VL_store (b := b3) (o := 0) (vs := [.int .i64 0, .int .u8 0, .bool false, .int .u32 0, .int .u8 0, .int .u8 0, .int .u8 0, .int .u8 0, .int .u8 0, .int .u8 0, .int .u8 0, .int .u8 0, .int .u8 0, .int .u8 0, .int .u8 0, .int .u8 0, .int .u8 0, .int .u8 0, .int .u8 0, .int .u8 0, .int .u8 0, .int .u8 0, .int .u8 0, .int .u8 0, .int .u8 0, .int .u8 0, .int .u8 0, .int .u8 0, .int .u8 0, .int .u8 0, .int .u8 0, .int .u8 0, .int .u8 0, .int .u8 0, .int .u8 0, .int .u8 0]) (by kernel_rfl) (by kernel_rfl) ho3 (Nat.le_of_ble_eq_true (by kernel_rfl)) ?_
          intro w19 hw5
          replace hS := Step.transNew hS hw5.step (fun _ _ _ => by omega)
          replace ho1 := ho1.step hw5.step (show ¬ b1 = b3 by omega)
          replace ho2 := ho2.step hw5.step (show ¬ b2 = b3 by omega)
          have ho8 : Own w19 b3 #[.int .i64 0, .int .u8 0, .bool false, .int .u32 0, .int .u8 0, .int .u8 0, .int .u8 0, .int .u8 0, .int .u8 0, .int .u8 0, .int .u8 0, .int .u8 0, .int .u8 0, .int .u8 0, .int .u8 0, .int .u8 0, .int .u8 0, .int .u8 0, .int .u8 0, .int .u8 0, .int .u8 0, .int .u8 0, .int .u8 0, .int .u8 0, .int .u8 0, .int .u8 0, .int .u8 0, .int .u8 0, .int .u8 0, .int .u8 0, .int .u8 0, .int .u8 0, .int .u8 0, .int .u8 0, .int .u8 0, .int .u8 0] 31 := Own.cast hw5.own (by kernel_rfl)
          have hzhw5 := hw5.same
          refine VL_pure 3 [4, 5] [(4, .pointer (some ⟨b3, 0, none⟩)), (5, .bool false)] (by kernel_rfl) rfl ?_
          refine VL_end (by kernel_rfl) ?_
          refine VQ_next ?_
          refine VC_ret ?_
          refine VQ_then_ret ?_
          refine VQ_retC1T1 (T := 31) (.agg #[.int .i64 0, .int .u8 0, .bool false, .int .u32 0, .int .u8 0, .int .u8 0, .int .u8 0, .int .u8 0, .int .u8 0, .int .u8 0, .int .u8 0, .int .u8 0, .int .u8 0, .int .u8 0, .int .u8 0, .int .u8 0, .int .u8 0, .int .u8 0, .int .u8 0, .int .u8 0, .int .u8 0, .int .u8 0, .int .u8 0, .int .u8 0, .int .u8 0, .int .u8 0, .int .u8 0, .int .u8 0, .int .u8 0, .int .u8 0, .int .u8 0, .int .u8 0, .int .u8 0, .int .u8 0, .int .u8 0, .int .u8 0]) (.bool false) (.inr rfl) rfl rfl rfl (Loads.ownL ho8 (n := 36) (by kernel_rfl) (by kernel_rfl) (by kernel_rfl)) ?_
          exact ⟨reply_fin (b := false) (v := zeroO) (by simp [replyB, *]) rfl, hS⟩
        · try simp only [Bool.and_eq_true, Bool.or_eq_true, decide_eq_true_eq, Bool.not_eq_true', decide_eq_false_iff_not, Bool.and_eq_false_iff, Bool.or_eq_false_iff, beq_iff_eq, bne_iff_ne, beq_eq_false_iff_ne, bne_eq_false_iff_eq, Bool.not_eq_eq_eq_not, Bool.not_true, Bool.not_false] at h1
          refine VC_skip ?_
          refine VQ_next ?_
          refine VC_seq ?_
          refine VC_region ?_
          refine VL_pure 1 [2, 3, 4, 27] [(2, .pointer (some ⟨b1, 0, none⟩)), (3, .pointer (some ⟨b2, 0, none⟩)), (4, .pointer (some ⟨b3, 0, none⟩)), (27, .pointer (some ⟨b1, 2, none⟩))] (by kernel_rfl) rfl ?_
          refine VL_store (b := b1) (o := 2) (vs := [.bool false]) (by kernel_rfl) (by kernel_rfl) ho1 (Nat.le_of_ble_eq_true (by kernel_rfl)) ?_
          intro w20 hw6
          replace hS := Step.transNew hS hw6.step (fun _ _ _ => by omega)
          replace ho2 := ho2.step hw6.step (show ¬ b2 = b1 by omega)
          replace ho3 := ho3.step hw6.step (show ¬ b3 = b1 by omega)
          have ho9 : Own w20 b1 #[.int .i64 o.k, .int .u8 o.d, .bool false, .int .u32 o.tg, .int .u8 (o.p 0), .int .u8 (o.p 1), .int .u8 (o.p 2), .int .u8 (o.p 3), .int .u8 (o.p 4), .int .u8 (o.p 5), .int .u8 (o.p 6), .int .u8 (o.p 7), .int .u8 (o.p 8), .int .u8 (o.p 9), .int .u8 (o.p 10), .int .u8 (o.p 11), .int .u8 (o.p 12), .int .u8 (o.p 13), .int .u8 (o.p 14), .int .u8 (o.p 15), .int .u8 (o.s 0), .int .u8 (o.s 1), .int .u8 (o.s 2), .int .u8 (o.s 3), .int .u8 (o.s 4), .int .u8 (o.s 5), .int .u8 (o.s 6), .int .u8 (o.s 7), .int .u8 (o.s 8), .int .u8 (o.s 9), .int .u8 (o.s 10), .int .u8 (o.s 11), .int .u8 (o.s 12), .int .u8 (o.s 13), .int .u8 (o.s 14), .int .u8 (o.s 15)] 31 := Own.cast hw6.own (by kernel_rfl)
          have hzhw6 := hw6.same
          refine VL_end (by kernel_rfl) ?_
          refine VQ_next ?_
          refine VC_seq ?_
          refine VC_region ?_
          refine VL_load (d := 28) (t := 22) (a := ⟨b2, 0, none⟩) (v := .agg #[.int .u8 (here 0), .int .u8 (here 1), .int .u8 (here 2), .int .u8 (here 3), .int .u8 (here 4), .int .u8 (here 5), .int .u8 (here 6), .int .u8 (here 7), .int .u8 (here 8), .int .u8 (here 9), .int .u8 (here 10), .int .u8 (here 11), .int .u8 (here 12), .int .u8 (here 13), .int .u8 (here 14), .int .u8 (here 15)]) (by kernel_rfl) (by kernel_rfl) (Loads.ownL ho2 (n := 16) (by kernel_rfl) (by kernel_rfl) (by kernel_rfl)) ?_
          refine VL_pure 2 [2, 4, 28, 29] [(2, .pointer (some ⟨b1, 0, none⟩)), (4, .pointer (some ⟨b3, 0, none⟩)), (28, .agg #[.int .u8 (here 0), .int .u8 (here 1), .int .u8 (here 2), .int .u8 (here 3), .int .u8 (here 4), .int .u8 (here 5), .int .u8 (here 6), .int .u8 (here 7), .int .u8 (here 8), .int .u8 (here 9), .int .u8 (here 10), .int .u8 (here 11), .int .u8 (here 12), .int .u8 (here 13), .int .u8 (here 14), .int .u8 (here 15)]), (29, .pointer (some ⟨b1, 4, none⟩))] (by kernel_rfl) rfl ?_
          refine VL_store (b := b1) (o := 4) (vs := [.int .u8 (here 0), .int .u8 (here 1), .int .u8 (here 2), .int .u8 (here 3), .int .u8 (here 4), .int .u8 (here 5), .int .u8 (here 6), .int .u8 (here 7), .int .u8 (here 8), .int .u8 (here 9), .int .u8 (here 10), .int .u8 (here 11), .int .u8 (here 12), .int .u8 (here 13), .int .u8 (here 14), .int .u8 (here 15)]) (by kernel_rfl) (by kernel_rfl) ho9 (Nat.le_of_ble_eq_true (by kernel_rfl)) ?_
          intro w21 hw7
          replace hS := Step.transNew hS hw7.step (fun _ _ _ => by omega)
          replace ho2 := ho2.step hw7.step (show ¬ b2 = b1 by omega)
          replace ho3 := ho3.step hw7.step (show ¬ b3 = b1 by omega)
          have ho10 : Own w21 b1 #[.int .i64 o.k, .int .u8 o.d, .bool false, .int .u32 o.tg, .int .u8 (here 0), .int .u8 (here 1), .int .u8 (here 2), .int .u8 (here 3), .int .u8 (here 4), .int .u8 (here 5), .int .u8 (here 6), .int .u8 (here 7), .int .u8 (here 8), .int .u8 (here 9), .int .u8 (here 10), .int .u8 (here 11), .int .u8 (here 12), .int .u8 (here 13), .int .u8 (here 14), .int .u8 (here 15), .int .u8 (o.s 0), .int .u8 (o.s 1), .int .u8 (o.s 2), .int .u8 (o.s 3), .int .u8 (o.s 4), .int .u8 (o.s 5), .int .u8 (o.s 6), .int .u8 (o.s 7), .int .u8 (o.s 8), .int .u8 (o.s 9), .int .u8 (o.s 10), .int .u8 (o.s 11), .int .u8 (o.s 12), .int .u8 (o.s 13), .int .u8 (o.s 14), .int .u8 (o.s 15)] 31 := Own.cast hw7.own (by kernel_rfl)
          have hzhw7 := hw7.same
          refine VL_end (by kernel_rfl) ?_
          refine VQ_next ?_
          refine VC_seq ?_
          refine VC_region ?_
          refine VL_load (d := 30) (t := 31) (a := ⟨b1, 0, none⟩) (v := .agg #[.int .i64 o.k, .int .u8 o.d, .bool false, .int .u32 o.tg, .int .u8 (here 0), .int .u8 (here 1), .int .u8 (here 2), .int .u8 (here 3), .int .u8 (here 4), .int .u8 (here 5), .int .u8 (here 6), .int .u8 (here 7), .int .u8 (here 8), .int .u8 (here 9), .int .u8 (here 10), .int .u8 (here 11), .int .u8 (here 12), .int .u8 (here 13), .int .u8 (here 14), .int .u8 (here 15), .int .u8 (o.s 0), .int .u8 (o.s 1), .int .u8 (o.s 2), .int .u8 (o.s 3), .int .u8 (o.s 4), .int .u8 (o.s 5), .int .u8 (o.s 6), .int .u8 (o.s 7), .int .u8 (o.s 8), .int .u8 (o.s 9), .int .u8 (o.s 10), .int .u8 (o.s 11), .int .u8 (o.s 12), .int .u8 (o.s 13), .int .u8 (o.s 14), .int .u8 (o.s 15)]) (by kernel_rfl) (by kernel_rfl) (Loads.ownL ho10 (n := 36) (by kernel_rfl) (by kernel_rfl) (by kernel_rfl)) ?_
          refine VL_store (b := b3) (o := 0) (vs := [.int .i64 o.k, .int .u8 o.d, .bool false, .int .u32 o.tg, .int .u8 (here 0), .int .u8 (here 1), .int .u8 (here 2), .int .u8 (here 3), .int .u8 (here 4), .int .u8 (here 5), .int .u8 (here 6), .int .u8 (here 7), .int .u8 (here 8), .int .u8 (here 9), .int .u8 (here 10), .int .u8 (here 11), .int .u8 (here 12), .int .u8 (here 13), .int .u8 (here 14), .int .u8 (here 15), .int .u8 (o.s 0), .int .u8 (o.s 1), .int .u8 (o.s 2), .int .u8 (o.s 3), .int .u8 (o.s 4), .int .u8 (o.s 5), .int .u8 (o.s 6), .int .u8 (o.s 7), .int .u8 (o.s 8), .int .u8 (o.s 9), .int .u8 (o.s 10), .int .u8 (o.s 11), .int .u8 (o.s 12), .int .u8 (o.s 13), .int .u8 (o.s 14), .int .u8 (o.s 15)]) (by kernel_rfl) (by kernel_rfl) ho3 (Nat.le_of_ble_eq_true (by kernel_rfl)) ?_
          intro w22 hw8
          replace hS := Step.transNew hS hw8.step (fun _ _ _ => by omega)
          replace ho2 := ho2.step hw8.step (show ¬ b2 = b3 by omega)
          replace ho10 := ho10.step hw8.step (show ¬ b1 = b3 by omega)
          have ho11 : Own w22 b3 #[.int .i64 o.k, .int .u8 o.d, .bool false, .int .u32 o.tg, .int .u8 (here 0), .int .u8 (here 1), .int .u8 (here 2), .int .u8 (here 3), .int .u8 (here 4), .int .u8 (here 5), .int .u8 (here 6), .int .u8 (here 7), .int .u8 (here 8), .int .u8 (here 9), .int .u8 (here 10), .int .u8 (here 11), .int .u8 (here 12), .int .u8 (here 13), .int .u8 (here 14), .int .u8 (here 15), .int .u8 (o.s 0), .int .u8 (o.s 1), .int .u8 (o.s 2), .int .u8 (o.s 3), .int .u8 (o.s 4), .int .u8 (o.s 5), .int .u8 (o.s 6), .int .u8 (o.s 7), .int .u8 (o.s 8), .int .u8 (o.s 9), .int .u8 (o.s 10), .int .u8 (o.s 11), .int .u8 (o.s 12), .int .u8 (o.s 13), .int .u8 (o.s 14), .int .u8 (o.s 15)] 31 := Own.cast hw8.own (by kernel_rfl)
          have hzhw8 := hw8.same
          refine VL_pure 3 [4, 5] [(4, .pointer (some ⟨b3, 0, none⟩)), (5, .bool true)] (by kernel_rfl) rfl ?_
          refine VL_end (by kernel_rfl) ?_
          refine VQ_next ?_
          refine VC_ret ?_
          refine VQ_retC1T1 (T := 31) (.agg #[.int .i64 o.k, .int .u8 o.d, .bool false, .int .u32 o.tg, .int .u8 (here 0), .int .u8 (here 1), .int .u8 (here 2), .int .u8 (here 3), .int .u8 (here 4), .int .u8 (here 5), .int .u8 (here 6), .int .u8 (here 7), .int .u8 (here 8), .int .u8 (here 9), .int .u8 (here 10), .int .u8 (here 11), .int .u8 (here 12), .int .u8 (here 13), .int .u8 (here 14), .int .u8 (here 15), .int .u8 (o.s 0), .int .u8 (o.s 1), .int .u8 (o.s 2), .int .u8 (o.s 3), .int .u8 (o.s 4), .int .u8 (o.s 5), .int .u8 (o.s 6), .int .u8 (o.s 7), .int .u8 (o.s 8), .int .u8 (o.s 9), .int .u8 (o.s 10), .int .u8 (o.s 11), .int .u8 (o.s 12), .int .u8 (o.s 13), .int .u8 (o.s 14), .int .u8 (o.s 15)]) (.bool true) (.inr rfl) rfl rfl rfl (Loads.ownL ho11 (n := 36) (by kernel_rfl) (by kernel_rfl) (by kernel_rfl)) ?_
          exact ⟨reply_fin (b := true) (v := ⟨o.k, o.d, false, o.tg, here, o.s⟩) (by simp [replyB, *]) rfl, hS⟩
    · refine VT_eq [(8, .bool true), (7, .bool true), (6, .bool true), (5, .bool false), (4, .pointer (some ⟨b1, 2, none⟩)), (3, .bool false), (2, .bool false), (1, .int .i64 o.k), (0, .pointer (some ⟨b1, 0, none⟩))] (by simp only [hg2, Bool.not_true, Bool.not_false]) ?_
      try simp only [bne_iff_ne, beq_iff_eq, decide_eq_true_eq, decide_eq_false_iff_not, bne_eq_false_iff_eq, beq_eq_false_iff_ne, ne_eq] at hg2
      refine VT_pures 8 (kn' := [(16, undef), (15, undef), (14, undef), (13, undef), (12, undef), (11, undef), (10, undef), (9, undef), (8, .bool true), (7, .bool true), (6, .bool true), (5, .bool false), (4, .pointer (some ⟨b1, 2, none⟩)), (3, .bool false), (2, .bool false), (1, .int .i64 o.k), (0, .pointer (some ⟨b1, 0, none⟩))]) (by kernel_rfl) ?_
      refine VT_end ?_
      intro w23 hs6
      replace hS := Step.trans hS hs6
      replace ho1 := ho1.no hs6
      replace ho2 := ho2.no hs6
      replace ho3 := ho3.no hs6
      refine VL_keep [2, 3, 4, 14, 19, 21, 22] [(2, .pointer (some ⟨b1, 0, none⟩)), (3, .pointer (some ⟨b2, 0, none⟩)), (4, .pointer (some ⟨b3, 0, none⟩)), (14, .bool true), (19, undef), (21, undef), (22, undef)] (by kernel_rfl) ?_
      refine VL_pure 20 [2, 3, 4, 25] [(2, .pointer (some ⟨b1, 0, none⟩)), (3, .pointer (some ⟨b2, 0, none⟩)), (4, .pointer (some ⟨b3, 0, none⟩)), (25, .bool true)] (by kernel_rfl) rfl ?_
      refine VL_end (by kernel_rfl) ?_
      refine VQ_next ?_
      refine VC_true (by kernel_rfl) ?_
      refine VC_seq ?_
      refine VC_region ?_
      refine VL_pure 1 [4, 26] [(4, .pointer (some ⟨b3, 0, none⟩)), (26, .agg #[.int .i64 0, .int .u8 0, .bool false, .int .u32 0, .int .u8 0, .int .u8 0, .int .u8 0, .int .u8 0, .int .u8 0, .int .u8 0, .int .u8 0, .int .u8 0, .int .u8 0, .int .u8 0, .int .u8 0, .int .u8 0, .int .u8 0, .int .u8 0, .int .u8 0, .int .u8 0, .int .u8 0, .int .u8 0, .int .u8 0, .int .u8 0, .int .u8 0, .int .u8 0, .int .u8 0, .int .u8 0, .int .u8 0, .int .u8 0, .int .u8 0, .int .u8 0, .int .u8 0, .int .u8 0, .int .u8 0, .int .u8 0])] (by kernel_rfl) rfl ?_
      refine VL_store (b := b3) (o := 0) (vs := [.int .i64 0, .int .u8 0, .bool false, .int .u32 0, .int .u8 0, .int .u8 0, .int .u8 0, .int .u8 0, .int .u8 0, .int .u8 0, .int .u8 0, .int .u8 0, .int .u8 0, .int .u8 0, .int .u8 0, .int .u8 0, .int .u8 0, .int .u8 0, .int .u8 0, .int .u8 0, .int .u8 0, .int .u8 0, .int .u8 0, .int .u8 0, .int .u8 0, .int .u8 0, .int .u8 0, .int .u8 0, .int .u8 0, .int .u8 0, .int .u8 0, .int .u8 0, .int .u8 0, .int .u8 0, .int .u8 0, .int .u8 0]) (by kernel_rfl) (by kernel_rfl) ho3 (Nat.le_of_ble_eq_true (by kernel_rfl)) ?_
      intro w24 hw9
      replace hS := Step.transNew hS hw9.step (fun _ _ _ => by omega)
      replace ho1 := ho1.step hw9.step (show ¬ b1 = b3 by omega)
      replace ho2 := ho2.step hw9.step (show ¬ b2 = b3 by omega)
      have ho12 : Own w24 b3 #[.int .i64 0, .int .u8 0, .bool false, .int .u32 0, .int .u8 0, .int .u8 0, .int .u8 0, .int .u8 0, .int .u8 0, .int .u8 0, .int .u8 0, .int .u8 0, .int .u8 0, .int .u8 0, .int .u8 0, .int .u8 0, .int .u8 0, .int .u8 0, .int .u8 0, .int .u8 0, .int .u8 0, .int .u8 0, .int .u8 0, .int .u8 0, .int .u8 0, .int .u8 0, .int .u8 0, .int .u8 0, .int .u8 0, .int .u8 0, .int .u8 0, .int .u8 0, .int .u8 0, .int .u8 0, .int .u8 0, .int .u8 0] 31 := Own.cast hw9.own (by kernel_rfl)
      have hzhw9 := hw9.same
      refine VL_pure 3 [4, 5] [(4, .pointer (some ⟨b3, 0, none⟩)), (5, .bool false)] (by kernel_rfl) rfl ?_
      refine VL_end (by kernel_rfl) ?_
      refine VQ_next ?_
      refine VC_ret ?_
      refine VQ_then_ret ?_
      refine VQ_retC1T1 (T := 31) (.agg #[.int .i64 0, .int .u8 0, .bool false, .int .u32 0, .int .u8 0, .int .u8 0, .int .u8 0, .int .u8 0, .int .u8 0, .int .u8 0, .int .u8 0, .int .u8 0, .int .u8 0, .int .u8 0, .int .u8 0, .int .u8 0, .int .u8 0, .int .u8 0, .int .u8 0, .int .u8 0, .int .u8 0, .int .u8 0, .int .u8 0, .int .u8 0, .int .u8 0, .int .u8 0, .int .u8 0, .int .u8 0, .int .u8 0, .int .u8 0, .int .u8 0, .int .u8 0, .int .u8 0, .int .u8 0, .int .u8 0, .int .u8 0]) (.bool false) (.inr rfl) rfl rfl rfl (Loads.ownL ho12 (n := 36) (by kernel_rfl) (by kernel_rfl) (by kernel_rfl)) ?_
      exact ⟨reply_fin (b := false) (v := zeroO) (by simp [replyB, *]) rfl, hS⟩

theorem rnew_any (here : Nat → Int) (wait : Int) (w : World) :
    CV Try.prog 11 #[.agg #[.int .u8 (here 0), .int .u8 (here 1), .int .u8 (here 2), .int .u8 (here 3), .int .u8 (here 4), .int .u8 (here 5), .int .u8 (here 6), .int .u8 (here 7), .int .u8 (here 8), .int .u8 (here 9), .int .u8 (here 10), .int .u8 (here 11), .int .u8 (here 12), .int .u8 (here 13), .int .u8 (here 14), .int .u8 (here 15)], .int .i64 wait] w (fun x w1 => ∃ b, x = .pointer (some ⟨b, 0, none⟩) ∧ ¬ b < w.heap.size ∧ Own w1 b (rfC (newA here wait)) 41 ∧ Step No w w1) := by
  have hS : Step No w w := Step.refl _ _
  refine CV_enter Try.f11 _ 11 [(0, .agg #[.int .u8 (here 0), .int .u8 (here 1), .int .u8 (here 2), .int .u8 (here 3), .int .u8 (here 4), .int .u8 (here 5), .int .u8 (here 6), .int .u8 (here 7), .int .u8 (here 8), .int .u8 (here 9), .int .u8 (here 10), .int .u8 (here 11), .int .u8 (here 12), .int .u8 (here 13), .int .u8 (here 14), .int .u8 (here 15)]), (1, .int .i64 wait)] Try.func11 rfl rfl (by kernel_rfl) rfl ?_
  refine VC_seq ?_
  refine VC_region ?_
  have hzs1 := hS.size
  refine VL_box (d := 2) (t := 22) (c := #[.int .u8 (here 0), .int .u8 (here 1), .int .u8 (here 2), .int .u8 (here 3), .int .u8 (here 4), .int .u8 (here 5), .int .u8 (here 6), .int .u8 (here 7), .int .u8 (here 8), .int .u8 (here 9), .int .u8 (here 10), .int .u8 (here 11), .int .u8 (here 12), .int .u8 (here 13), .int .u8 (here 14), .int .u8 (here 15)]) (by kernel_rfl) (by kernel_rfl) ?_
  intro b1 w1 hn1
  replace hS := Step.trans hS (hn1.step No)
  have ho1 := hn1.own
  have hzhn1 := hn1.size
  have hqhn1 := hn1.eqb
  refine VL_pure 2 [1, 2] [(1, .int .i64 wait), (2, .pointer (some ⟨b1, 0, none⟩))] (by kernel_rfl) rfl ?_
  refine VL_end (by kernel_rfl) ?_
  refine VQ_next ?_
  refine VC_seq ?_
  refine VC_det [[], [], [1], [1, 2], [0, 1, 2, 3], [0, 1, 2, 3, 4], [0, 1, 2, 3, 4, 5]] 4 [.agg #[.int .u8 (here 0), .int .u8 (here 1), .int .u8 (here 2), .int .u8 (here 3), .int .u8 (here 4), .int .u8 (here 5), .int .u8 (here 6), .int .u8 (here 7), .int .u8 (here 8), .int .u8 (here 9), .int .u8 (here 10), .int .u8 (here 11), .int .u8 (here 12), .int .u8 (here 13), .int .u8 (here 14), .int .u8 (here 15)], .int .i64 wait, .int .i64 (held wait), .int .i64 (imax 1 (held wait))] [1, 3] [0, 2] (by kernel_rfl) (by kernel_rfl) (by kernel_rfl) (by kernel_rfl) ?_ ?_
  · intro w2 hs1
    replace hS := Step.trans hS hs1
    replace ho1 := ho1.no hs1
    exact ⟨Det1_load (d := 5) (t := 22) (a := ⟨b1, 0, none⟩) (by kernel_rfl) (by kernel_rfl) (Loads.ownL ho1 (n := 16) (by kernel_rfl) (by kernel_rfl) (by kernel_rfl)), Det1_call (d := 7) (f := 25) (args := #[.int .i64 wait]) (by kernel_rfl) (by kernel_rfl) (by kernel_rfl) Try.call25 (by exact rheld_any _ _), trivial⟩
  intro w2 hs1
  replace hS := Step.trans hS hs1
  replace ho1 := ho1.no hs1
  refine VL_keep [5, 8] [(5, .agg #[.int .u8 (here 0), .int .u8 (here 1), .int .u8 (here 2), .int .u8 (here 3), .int .u8 (here 4), .int .u8 (here 5), .int .u8 (here 6), .int .u8 (here 7), .int .u8 (here 8), .int .u8 (here 9), .int .u8 (here 10), .int .u8 (here 11), .int .u8 (here 12), .int .u8 (here 13), .int .u8 (here 14), .int .u8 (here 15)]), (8, .int .i64 (imax 1 (held wait)))] (by kernel_rfl) ?_
  refine VL_pure 5 [9] [(9, .agg #[.int .u8 (here 0), .int .u8 (here 1), .int .u8 (here 2), .int .u8 (here 3), .int .u8 (here 4), .int .u8 (here 5), .int .u8 (here 6), .int .u8 (here 7), .int .u8 (here 8), .int .u8 (here 9), .int .u8 (here 10), .int .u8 (here 11), .int .u8 (here 12), .int .u8 (here 13), .int .u8 (here 14), .int .u8 (here 15), .int .i64 (imax 1 (held wait)), .bool false, .int .i64 0, .int .i64 0])] (by kernel_rfl) rfl ?_
  have hzs2 := hS.size
  have hzl1 := ho1.lt
  refine VL_box (d := 10) (t := 41) (c := #[.int .u8 (here 0), .int .u8 (here 1), .int .u8 (here 2), .int .u8 (here 3), .int .u8 (here 4), .int .u8 (here 5), .int .u8 (here 6), .int .u8 (here 7), .int .u8 (here 8), .int .u8 (here 9), .int .u8 (here 10), .int .u8 (here 11), .int .u8 (here 12), .int .u8 (here 13), .int .u8 (here 14), .int .u8 (here 15), .int .i64 (imax 1 (held wait)), .bool false, .int .i64 0, .int .i64 0]) (by kernel_rfl) (by kernel_rfl) ?_
  intro b2 w3 hn2
  replace hS := Step.trans hS (hn2.step No)
  replace ho1 := ho1.no (hn2.step No)
  have ho2 := hn2.own
  have hzhn2 := hn2.size
  have hqhn2 := hn2.eqb
  refine VL_pure 7 [4] [(4, .pointer (some ⟨b2, 0, none⟩))] (by kernel_rfl) rfl ?_
  refine VL_end (by kernel_rfl) ?_
  refine VQ_next ?_
  refine VC_ret ?_
  refine VQ_ret1 (.pointer (some ⟨b2, 0, none⟩)) (.inr rfl) rfl rfl ?_
  exact ⟨_, rfl, by omega, ho2, hS⟩

theorem rstate_any (b : Nat) (s : Al) (w : World) (ht : Own w b (rfC s) 41) (t : Int) :
    CV Try.prog 17 #[.pointer (some ⟨b, 0, none⟩), .int .i64 t] w (fun x w1 => x = .tuple #[.bool (aheadA s t), .bool (behindA s t)] ∧ Step No w w1) := by
  have hS : Step No w w := Step.refl _ _
  have hbl := ht.lt
  refine CV_enter Try.f17 _ 20 [(0, .pointer (some ⟨b, 0, none⟩)), (1, .int .i64 t)] Try.func17 rfl rfl (by kernel_rfl) rfl ?_
  refine VC_seq ?_
  refine VC_region ?_
  refine VL_pure 2 [0, 1] [(0, .pointer (some ⟨b, 0, none⟩)), (1, .int .i64 t)] (by kernel_rfl) rfl ?_
  refine VL_end (by kernel_rfl) ?_
  refine VQ_next ?_
  refine VC_seq ?_
  refine VC_det [[], [0], [], [2], [2, 3], [2, 3, 4], [0, 1, 2, 3, 4, 5], [], [0, 1, 7], [], [9], [9, 10], [9, 10, 11], [0, 1, 7, 8, 9, 10, 11, 12], [0, 1, 2, 3, 4, 5, 6, 7, 8], [0, 1, 2, 3, 4, 5, 6, 7, 8, 9, 10, 11, 12, 13, 14]] 15 [.int .i64 t, .int .i64 (held t), .pointer (some ⟨b, 0, none⟩), .pointer (some ⟨b, 0, none⟩), .pointer (some ⟨b, 18, none⟩), .int .i64 s.ah, .bool (decide ((held t) < s.ah)), .int .i64 t, .int .i64 (held t), .pointer (some ⟨b, 0, none⟩), .pointer (some ⟨b, 0, none⟩), .pointer (some ⟨b, 19, none⟩), .int .i64 s.bh, .bool (decide ((held t) < s.bh)), .bool (decide ((held t) < s.ah))] [0, 2, 3, 4, 6, 7, 9, 10, 11, 13, 14] [1, 5, 8, 12] (by kernel_rfl) (by kernel_rfl) (by kernel_rfl) (by kernel_rfl) ?_ ?_
  · intro w1 hs1
    replace hS := Step.trans hS hs1
    replace ht := ht.no hs1
    exact ⟨Det1_call (d := 7) (f := 25) (args := #[.int .i64 t]) (by kernel_rfl) (by kernel_rfl) (by kernel_rfl) Try.call25 (by exact rheld_any _ _), Det1_load (d := 11) (t := 3) (a := ⟨b, 18, none⟩) (by kernel_rfl) (by kernel_rfl) (Loads.own1 ht (by kernel_rfl) (by rfl)), Det1_call (d := 14) (f := 25) (args := #[.int .i64 t]) (by kernel_rfl) (by kernel_rfl) (by kernel_rfl) Try.call25 (by exact rheld_any _ _), Det1_load (d := 18) (t := 3) (a := ⟨b, 19, none⟩) (by kernel_rfl) (by kernel_rfl) (Loads.own1 ht (by kernel_rfl) (by rfl)), trivial⟩
  intro w1 hs1
  replace hS := Step.trans hS hs1
  replace ht := ht.no hs1
  refine VL_keep [19, 4] [(19, .bool (decide ((held t) < s.bh))), (4, .bool (decide ((held t) < s.ah)))] (by kernel_rfl) ?_
  refine VL_pure 16 [4, 5] [(4, .bool (decide ((held t) < s.ah))), (5, .bool (decide ((held t) < s.bh)))] (by kernel_rfl) rfl ?_
  refine VL_end (by kernel_rfl) ?_
  refine VQ_next ?_
  refine VC_ret ?_
  refine VQ_ret2 (.bool (decide ((held t) < s.ah))) (.bool (decide ((held t) < s.bh))) (.inr rfl) rfl rfl rfl ?_
  exact ⟨rfl, hS⟩

set_option maxRecDepth 20000 in
set_option maxHeartbeats 1000000 in
theorem rgot_any (b : Nat) (s : Al) (w : World) (ht : Own w b (rfC s) 41) (t : Int) (o : Om) (hw : waits s) :
    CV Try.prog 13 #[.pointer (some ⟨b, 0, none⟩), .int .i64 t, .agg #[.int .i64 o.k, .int .u8 o.d, .bool o.a, .int .u32 o.tg, .int .u8 (o.p 0), .int .u8 (o.p 1), .int .u8 (o.p 2), .int .u8 (o.p 3), .int .u8 (o.p 4), .int .u8 (o.p 5), .int .u8 (o.p 6), .int .u8 (o.p 7), .int .u8 (o.p 8), .int .u8 (o.p 9), .int .u8 (o.p 10), .int .u8 (o.p 11), .int .u8 (o.p 12), .int .u8 (o.p 13), .int .u8 (o.p 14), .int .u8 (o.p 15), .int .u8 (o.s 0), .int .u8 (o.s 1), .int .u8 (o.s 2), .int .u8 (o.s 3), .int .u8 (o.s 4), .int .u8 (o.s 5), .int .u8 (o.s 6), .int .u8 (o.s 7), .int .u8 (o.s 8), .int .u8 (o.s 9), .int .u8 (o.s 10), .int .u8 (o.s 11), .int .u8 (o.s 12), .int .u8 (o.s 13), .int .u8 (o.s 14), .int .u8 (o.s 15)]] w (fun x w1 => x = .tuple #[.agg (omL (gotV s o)).toArray, .bool (gotB s o)] ∧ Own w1 b (rfC (gotA s t o)) 41 ∧ Step (Just b) w w1) := by
  have hS : Step (Just b) w w := Step.refl _ _
  have hbl := ht.lt
  refine CV_enter Try.f13 _ 56 [(0, .pointer (some ⟨b, 0, none⟩)), (1, .int .i64 t), (2, .agg #[.int .i64 o.k, .int .u8 o.d, .bool o.a, .int .u32 o.tg, .int .u8 (o.p 0), .int .u8 (o.p 1), .int .u8 (o.p 2), .int .u8 (o.p 3), .int .u8 (o.p 4), .int .u8 (o.p 5), .int .u8 (o.p 6), .int .u8 (o.p 7), .int .u8 (o.p 8), .int .u8 (o.p 9), .int .u8 (o.p 10), .int .u8 (o.p 11), .int .u8 (o.p 12), .int .u8 (o.p 13), .int .u8 (o.p 14), .int .u8 (o.p 15), .int .u8 (o.s 0), .int .u8 (o.s 1), .int .u8 (o.s 2), .int .u8 (o.s 3), .int .u8 (o.s 4), .int .u8 (o.s 5), .int .u8 (o.s 6), .int .u8 (o.s 7), .int .u8 (o.s 8), .int .u8 (o.s 9), .int .u8 (o.s 10), .int .u8 (o.s 11), .int .u8 (o.s 12), .int .u8 (o.s 13), .int .u8 (o.s 14), .int .u8 (o.s 15)])] Try.func13 rfl rfl (by kernel_rfl) rfl ?_
  refine VC_seq ?_
  refine VC_region ?_
  have hzs1 := hS.size
  have hzl1 := ht.lt
  refine VL_box (d := 5) (t := 31) (c := #[.int .i64 o.k, .int .u8 o.d, .bool o.a, .int .u32 o.tg, .int .u8 (o.p 0), .int .u8 (o.p 1), .int .u8 (o.p 2), .int .u8 (o.p 3), .int .u8 (o.p 4), .int .u8 (o.p 5), .int .u8 (o.p 6), .int .u8 (o.p 7), .int .u8 (o.p 8), .int .u8 (o.p 9), .int .u8 (o.p 10), .int .u8 (o.p 11), .int .u8 (o.p 12), .int .u8 (o.p 13), .int .u8 (o.p 14), .int .u8 (o.p 15), .int .u8 (o.s 0), .int .u8 (o.s 1), .int .u8 (o.s 2), .int .u8 (o.s 3), .int .u8 (o.s 4), .int .u8 (o.s 5), .int .u8 (o.s 6), .int .u8 (o.s 7), .int .u8 (o.s 8), .int .u8 (o.s 9), .int .u8 (o.s 10), .int .u8 (o.s 11), .int .u8 (o.s 12), .int .u8 (o.s 13), .int .u8 (o.s 14), .int .u8 (o.s 15)]) (by kernel_rfl) (by kernel_rfl) ?_
  intro b1 w1 hn1
  replace hS := Step.trans hS (Step.weak (hn1.step No))
  replace ht := ht.no (hn1.step No)
  have ho1 := hn1.own
  have hzhn1 := hn1.size
  have hqhn1 := hn1.eqb
  have hzs2 := hS.size
  have hzl2 := ht.lt
  have hzl3 := ho1.lt
  refine VL_box (d := 6) (t := 31) (c := #[.int .i64 0, .int .u8 0, .bool false, .int .u32 0, .int .u8 0, .int .u8 0, .int .u8 0, .int .u8 0, .int .u8 0, .int .u8 0, .int .u8 0, .int .u8 0, .int .u8 0, .int .u8 0, .int .u8 0, .int .u8 0, .int .u8 0, .int .u8 0, .int .u8 0, .int .u8 0, .int .u8 0, .int .u8 0, .int .u8 0, .int .u8 0, .int .u8 0, .int .u8 0, .int .u8 0, .int .u8 0, .int .u8 0, .int .u8 0, .int .u8 0, .int .u8 0, .int .u8 0, .int .u8 0, .int .u8 0, .int .u8 0]) (by kernel_rfl) (by kernel_rfl) ?_
  intro b2 w2 hn2
  replace hS := Step.trans hS (Step.weak (hn2.step No))
  replace ht := ht.no (hn2.step No)
  replace ho1 := ho1.no (hn2.step No)
  have ho2 := hn2.own
  have hzhn2 := hn2.size
  have hqhn2 := hn2.eqb
  refine VL_pure 3 [0, 1, 5, 6] [(0, .pointer (some ⟨b, 0, none⟩)), (1, .int .i64 t), (5, .pointer (some ⟨b1, 0, none⟩)), (6, .pointer (some ⟨b2, 0, none⟩))] (by kernel_rfl) rfl ?_
  refine VL_end (by kernel_rfl) ?_
  refine VQ_next ?_
  refine VC_seq ?_
  refine VC_seq ?_
  refine VC_region ?_
  refine VL_load (d := 10) (t := 31) (a := ⟨b1, 0, none⟩) (v := .agg #[.int .i64 o.k, .int .u8 o.d, .bool o.a, .int .u32 o.tg, .int .u8 (o.p 0), .int .u8 (o.p 1), .int .u8 (o.p 2), .int .u8 (o.p 3), .int .u8 (o.p 4), .int .u8 (o.p 5), .int .u8 (o.p 6), .int .u8 (o.p 7), .int .u8 (o.p 8), .int .u8 (o.p 9), .int .u8 (o.p 10), .int .u8 (o.p 11), .int .u8 (o.p 12), .int .u8 (o.p 13), .int .u8 (o.p 14), .int .u8 (o.p 15), .int .u8 (o.s 0), .int .u8 (o.s 1), .int .u8 (o.s 2), .int .u8 (o.s 3), .int .u8 (o.s 4), .int .u8 (o.s 5), .int .u8 (o.s 6), .int .u8 (o.s 7), .int .u8 (o.s 8), .int .u8 (o.s 9), .int .u8 (o.s 10), .int .u8 (o.s 11), .int .u8 (o.s 12), .int .u8 (o.s 13), .int .u8 (o.s 14), .int .u8 (o.s 15)]) (by kernel_rfl) (by kernel_rfl) (Loads.ownL ho1 (n := 36) (by kernel_rfl) (by kernel_rfl) (by kernel_rfl)) ?_
  have hzs3 := hS.size
  have hzl4 := ht.lt
  have hzl5 := ho1.lt
  have hzl6 := ho2.lt
  refine VL_call (d := 11) (f := 28) (by kernel_rfl) (by kernel_rfl) (by kernel_rfl) Try.call28 (right14_any o _) ?_
  rintro _ w3 ⟨rfl, hc1⟩
  replace hS := Step.trans hS (Step.weak hc1)
  replace ht := ht.no hc1
  replace ho1 := ho1.no hc1
  replace ho2 := ho2.no hc1
  refine VL_pure 3 [0, 1, 5, 6, 12] [(0, .pointer (some ⟨b, 0, none⟩)), (1, .int .i64 t), (5, .pointer (some ⟨b1, 0, none⟩)), (6, .pointer (some ⟨b2, 0, none⟩)), (12, .bool (!(rightO o)))] (by kernel_rfl) rfl ?_
  refine VL_end (by kernel_rfl) ?_
  refine VQ_next ?_
  refine VC_cond (!(rightO o)) (by kernel_rfl) (fun h1 => ?_) (fun h1 => ?_)
  · try simp only [Bool.and_eq_true, Bool.or_eq_true, decide_eq_true_eq, Bool.not_eq_true', decide_eq_false_iff_not, Bool.and_eq_false_iff, Bool.or_eq_false_iff, beq_iff_eq, bne_iff_ne, beq_eq_false_iff_ne, bne_eq_false_iff_eq, Bool.not_eq_eq_eq_not, Bool.not_true, Bool.not_false] at h1
    refine VC_seq ?_
    refine VC_region ?_
    refine VL_pure 1 [6, 13] [(6, .pointer (some ⟨b2, 0, none⟩)), (13, .agg #[.int .i64 0, .int .u8 0, .bool false, .int .u32 0, .int .u8 0, .int .u8 0, .int .u8 0, .int .u8 0, .int .u8 0, .int .u8 0, .int .u8 0, .int .u8 0, .int .u8 0, .int .u8 0, .int .u8 0, .int .u8 0, .int .u8 0, .int .u8 0, .int .u8 0, .int .u8 0, .int .u8 0, .int .u8 0, .int .u8 0, .int .u8 0, .int .u8 0, .int .u8 0, .int .u8 0, .int .u8 0, .int .u8 0, .int .u8 0, .int .u8 0, .int .u8 0, .int .u8 0, .int .u8 0, .int .u8 0, .int .u8 0])] (by kernel_rfl) rfl ?_
    refine VL_store (b := b2) (o := 0) (vs := [.int .i64 0, .int .u8 0, .bool false, .int .u32 0, .int .u8 0, .int .u8 0, .int .u8 0, .int .u8 0, .int .u8 0, .int .u8 0, .int .u8 0, .int .u8 0, .int .u8 0, .int .u8 0, .int .u8 0, .int .u8 0, .int .u8 0, .int .u8 0, .int .u8 0, .int .u8 0, .int .u8 0, .int .u8 0, .int .u8 0, .int .u8 0, .int .u8 0, .int .u8 0, .int .u8 0, .int .u8 0, .int .u8 0, .int .u8 0, .int .u8 0, .int .u8 0, .int .u8 0, .int .u8 0, .int .u8 0, .int .u8 0]) (by kernel_rfl) (by kernel_rfl) ho2 (Nat.le_of_ble_eq_true (by kernel_rfl)) ?_
    intro w4 hw1
    replace hS := Step.transNew hS hw1.step (fun _ _ _ => by omega)
    replace ht := ht.step hw1.step (show ¬ b = b2 by omega)
    replace ho1 := ho1.step hw1.step (show ¬ b1 = b2 by omega)
    have ho3 : Own w4 b2 #[.int .i64 0, .int .u8 0, .bool false, .int .u32 0, .int .u8 0, .int .u8 0, .int .u8 0, .int .u8 0, .int .u8 0, .int .u8 0, .int .u8 0, .int .u8 0, .int .u8 0, .int .u8 0, .int .u8 0, .int .u8 0, .int .u8 0, .int .u8 0, .int .u8 0, .int .u8 0, .int .u8 0, .int .u8 0, .int .u8 0, .int .u8 0, .int .u8 0, .int .u8 0, .int .u8 0, .int .u8 0, .int .u8 0, .int .u8 0, .int .u8 0, .int .u8 0, .int .u8 0, .int .u8 0, .int .u8 0, .int .u8 0] 31 := Own.cast hw1.own (by kernel_rfl)
    have hzhw1 := hw1.same
    refine VL_pure 3 [6, 7] [(6, .pointer (some ⟨b2, 0, none⟩)), (7, .bool false)] (by kernel_rfl) rfl ?_
    refine VL_end (by kernel_rfl) ?_
    refine VQ_next ?_
    refine VC_ret ?_
    refine VQ_then_ret ?_
    refine VQ_retC1T1 (T := 31) (.agg #[.int .i64 0, .int .u8 0, .bool false, .int .u32 0, .int .u8 0, .int .u8 0, .int .u8 0, .int .u8 0, .int .u8 0, .int .u8 0, .int .u8 0, .int .u8 0, .int .u8 0, .int .u8 0, .int .u8 0, .int .u8 0, .int .u8 0, .int .u8 0, .int .u8 0, .int .u8 0, .int .u8 0, .int .u8 0, .int .u8 0, .int .u8 0, .int .u8 0, .int .u8 0, .int .u8 0, .int .u8 0, .int .u8 0, .int .u8 0, .int .u8 0, .int .u8 0, .int .u8 0, .int .u8 0, .int .u8 0, .int .u8 0]) (.bool false) (.inr rfl) rfl rfl rfl (Loads.ownL ho3 (n := 36) (by kernel_rfl) (by kernel_rfl) (by kernel_rfl)) ?_
    obtain ⟨e1, e2, e3⟩ := got_no (s := s) (t := t) h1
    exact ⟨by rw [e2, e3]; kernel_rfl, Own.cast ht (by rw [e1]), hS⟩
  · try simp only [Bool.and_eq_true, Bool.or_eq_true, decide_eq_true_eq, Bool.not_eq_true', decide_eq_false_iff_not, Bool.and_eq_false_iff, Bool.or_eq_false_iff, beq_iff_eq, bne_iff_ne, beq_eq_false_iff_ne, bne_eq_false_iff_eq, Bool.not_eq_eq_eq_not, Bool.not_true, Bool.not_false] at h1
    refine VC_skip ?_
    refine VQ_next ?_
    refine VC_seq ?_
    refine VC_seq ?_
    refine VC_region ?_
    refine VL_pure 1 [0, 1, 5, 6, 14] [(0, .pointer (some ⟨b, 0, none⟩)), (1, .int .i64 t), (5, .pointer (some ⟨b1, 0, none⟩)), (6, .pointer (some ⟨b2, 0, none⟩)), (14, .pointer (some ⟨b1, 0, none⟩))] (by kernel_rfl) rfl ?_
    refine VL_load (d := 15) (t := 3) (a := ⟨b1, 0, none⟩) (v := .int .i64 o.k) (by kernel_rfl) (by kernel_rfl) (Loads.own1 ho1 (by kernel_rfl) (by rfl)) ?_
    refine VL_end (by kernel_rfl) ?_
    refine VQ_next ?_
    refine VC_block ?_
    refine VC_seq ?_
    refine VC_region ?_
    refine VL_pure 2 [0, 1, 5, 6, 15, 16] [(0, .pointer (some ⟨b, 0, none⟩)), (1, .int .i64 t), (5, .pointer (some ⟨b1, 0, none⟩)), (6, .pointer (some ⟨b2, 0, none⟩)), (15, .int .i64 o.k), (16, .bool (o.k == 0))] (by kernel_rfl) rfl ?_
    refine VL_end (by kernel_rfl) ?_
    refine VQ_next ?_
    refine VC_eq o.k 0 (by kernel_rfl) (fun h2 => ?_) (fun h2 => ?_)
    · refine VC_det [[], [], [1], [], [3], [3, 4], [3, 4, 5], [1, 2, 3, 4, 5, 6], [0, 1, 2, 3, 4, 5, 6, 7], [0, 1, 2, 3, 4, 5, 6, 7, 8], [0, 1, 2, 3, 4, 5, 6, 7, 8, 9]] 8 [.pointer (some ⟨b, 0, none⟩), .int .i64 t, .int .i64 (held t), .pointer (some ⟨b, 0, none⟩), .pointer (some ⟨b, 0, none⟩), .pointer (some ⟨b, 16, none⟩), .int .i64 s.wt, .int .i64 (IntKind.wrap .i64 ((held t) + s.wt))] [0, 1, 3, 4, 5, 7] [2, 6] (by kernel_rfl) (by kernel_rfl) (by kernel_rfl) (by kernel_rfl) ?_ ?_
      · intro w5 hs1
        replace hS := Step.trans hS (Step.weak hs1)
        replace ht := ht.no hs1
        replace ho1 := ho1.no hs1
        replace ho2 := ho2.no hs1
        exact ⟨Det1_call (d := 20) (f := 25) (args := #[.int .i64 t]) (by kernel_rfl) (by kernel_rfl) (by kernel_rfl) Try.call25 (by exact rheld_any _ _), Det1_load (d := 24) (t := 3) (a := ⟨b, 16, none⟩) (by kernel_rfl) (by kernel_rfl) (Loads.own1 ht (by kernel_rfl) (by rfl)), trivial⟩
      intro w5 hs1
      replace hS := Step.trans hS (Step.weak hs1)
      replace ht := ht.no hs1
      replace ho1 := ho1.no hs1
      replace ho2 := ho2.no hs1
      refine VL_keep [0, 5, 6, 18, 25] [(0, .pointer (some ⟨b, 0, none⟩)), (5, .pointer (some ⟨b1, 0, none⟩)), (6, .pointer (some ⟨b2, 0, none⟩)), (18, .pointer (some ⟨b, 0, none⟩)), (25, .int .i64 (IntKind.wrap .i64 ((held t) + s.wt)))] (by kernel_rfl) ?_
      refine VL_pure 10 [0, 5, 6, 25, 27] [(0, .pointer (some ⟨b, 0, none⟩)), (5, .pointer (some ⟨b1, 0, none⟩)), (6, .pointer (some ⟨b2, 0, none⟩)), (25, .int .i64 (IntKind.wrap .i64 ((held t) + s.wt))), (27, .pointer (some ⟨b, 18, none⟩))] (by kernel_rfl) rfl ?_
      refine VL_store (b := b) (o := 18) (vs := [.int .i64 (IntKind.wrap .i64 ((held t) + s.wt))]) (by kernel_rfl) (by kernel_rfl) ht (Nat.le_of_ble_eq_true (by kernel_rfl)) ?_
      intro w6 hw2
      replace hS := Step.trans hS (Step.mono hw2.step (by intro i hi; first | exact hi | simp_all))
      replace ho1 := ho1.step hw2.step (show ¬ b1 = b by omega)
      replace ho2 := ho2.step hw2.step (show ¬ b2 = b by omega)
      have ho4 : Own w6 b #[.int .u8 (s.here 0), .int .u8 (s.here 1), .int .u8 (s.here 2), .int .u8 (s.here 3), .int .u8 (s.here 4), .int .u8 (s.here 5), .int .u8 (s.here 6), .int .u8 (s.here 7), .int .u8 (s.here 8), .int .u8 (s.here 9), .int .u8 (s.here 10), .int .u8 (s.here 11), .int .u8 (s.here 12), .int .u8 (s.here 13), .int .u8 (s.here 14), .int .u8 (s.here 15), .int .i64 s.wt, .bool s.dn, .int .i64 (IntKind.wrap .i64 ((held t) + s.wt)), .int .i64 s.bh] 41 := Own.cast hw2.own (by kernel_rfl)
      have hzhw2 := hw2.same
      refine VL_end (by kernel_rfl) ?_
      refine VQ_block_normal ?_
      refine VQ_next ?_
      refine VC_seq ?_
      have hs2 := drew_step w6
      have hs2z : w6.heap.size = w6.drew.heap.size := rfl
      refine VC_text [[], [], [1], [1, 2], [1, 2, 3], [0, 1, 2, 3, 4], [0, 1, 2, 3, 4, 5], [0, 1, 2, 3, 4, 5, 6], [0, 1, 2, 3, 4, 5, 6], [], [0, 1, 2, 3, 4, 5, 6, 7, 9], [0, 1, 2, 3, 4, 5, 6, 7, 8, 9, 10]] 11 (fun x y => Step (fun k => w6.heap.size ≤ k) x y) [9, 10] [0, 1, 2, 3, 4, 5, 6, 7, 8, 9, 10] (by kernel_rfl) (by kernel_rfl) (by kernel_rfl) (by kernel_rfl) (fun x => Step.refl _ x) (fun h k => Step.trans h k) Step.weak ?_
      have hzs4 := hS.size
      have hzl7 := ho1.lt
      have hzl8 := ho2.lt
      have hzl9 := ho4.lt
      generalize w6.drew = w7 at hs2 hs2z ⊢
      replace hS := Step.trans hS (Step.weak hs2)
      replace ho1 := ho1.no hs2
      replace ho2 := ho2.no hs2
      replace ho4 := ho4.no hs2
      refine VT_load (d := 46) (t := 31) (a := ⟨b1, 0, none⟩) (v := .agg #[.int .i64 o.k, .int .u8 o.d, .bool o.a, .int .u32 o.tg, .int .u8 (o.p 0), .int .u8 (o.p 1), .int .u8 (o.p 2), .int .u8 (o.p 3), .int .u8 (o.p 4), .int .u8 (o.p 5), .int .u8 (o.p 6), .int .u8 (o.p 7), .int .u8 (o.p 8), .int .u8 (o.p 9), .int .u8 (o.p 10), .int .u8 (o.p 11), .int .u8 (o.p 12), .int .u8 (o.p 13), .int .u8 (o.p 14), .int .u8 (o.p 15), .int .u8 (o.s 0), .int .u8 (o.s 1), .int .u8 (o.s 2), .int .u8 (o.s 3), .int .u8 (o.s 4), .int .u8 (o.s 5), .int .u8 (o.s 6), .int .u8 (o.s 7), .int .u8 (o.s 8), .int .u8 (o.s 9), .int .u8 (o.s 10), .int .u8 (o.s 11), .int .u8 (o.s 12), .int .u8 (o.s 13), .int .u8 (o.s 14), .int .u8 (o.s 15)]) (by kernel_rfl) (by kernel_rfl) ?_ ?_
      · intro w8 hr1
        replace hS := Step.transNew hS hr1 (fun i hi hG => by (try simp only at hG); show _ = _; omega)
        replace ho1 := ho1.step hr1 (by (try simp only); omega)
        replace ho2 := ho2.step hr1 (by (try simp only); omega)
        replace ho4 := ho4.step hr1 (by (try simp only); omega)
        exact (Loads.ownL ho1 (n := 36) (by kernel_rfl) (by kernel_rfl) (by kernel_rfl))
      refine VT_pures 3 (kn' := [(3, .pointer (some ⟨b, 0, none⟩)), (2, .pointer (some ⟨b, 0, none⟩)), (1, .pointer (some ⟨b, 0, none⟩)), (0, .agg #[.int .i64 o.k, .int .u8 o.d, .bool o.a, .int .u32 o.tg, .int .u8 (o.p 0), .int .u8 (o.p 1), .int .u8 (o.p 2), .int .u8 (o.p 3), .int .u8 (o.p 4), .int .u8 (o.p 5), .int .u8 (o.p 6), .int .u8 (o.p 7), .int .u8 (o.p 8), .int .u8 (o.p 9), .int .u8 (o.p 10), .int .u8 (o.p 11), .int .u8 (o.p 12), .int .u8 (o.p 13), .int .u8 (o.p 14), .int .u8 (o.p 15), .int .u8 (o.s 0), .int .u8 (o.s 1), .int .u8 (o.s 2), .int .u8 (o.s 3), .int .u8 (o.s 4), .int .u8 (o.s 5), .int .u8 (o.s 6), .int .u8 (o.s 7), .int .u8 (o.s 8), .int .u8 (o.s 9), .int .u8 (o.s 10), .int .u8 (o.s 11), .int .u8 (o.s 12), .int .u8 (o.s 13), .int .u8 (o.s 14), .int .u8 (o.s 15)])]) (by kernel_rfl) ?_
      refine VT_load (d := 50) (t := 22) (a := ⟨b, 0, none⟩) (v := .agg #[.int .u8 (s.here 0), .int .u8 (s.here 1), .int .u8 (s.here 2), .int .u8 (s.here 3), .int .u8 (s.here 4), .int .u8 (s.here 5), .int .u8 (s.here 6), .int .u8 (s.here 7), .int .u8 (s.here 8), .int .u8 (s.here 9), .int .u8 (s.here 10), .int .u8 (s.here 11), .int .u8 (s.here 12), .int .u8 (s.here 13), .int .u8 (s.here 14), .int .u8 (s.here 15)]) (by kernel_rfl) (by kernel_rfl) ?_ ?_
      · intro w9 hr2
        replace hS := Step.transNew hS hr2 (fun i hi hG => by (try simp only at hG); show _ = _; omega)
        replace ho1 := ho1.step hr2 (by (try simp only); omega)
        replace ho2 := ho2.step hr2 (by (try simp only); omega)
        replace ho4 := ho4.step hr2 (by (try simp only); omega)
        exact (Loads.ownL ho4 (n := 16) (by kernel_rfl) (by kernel_rfl) (by kernel_rfl))
      refine VT_fcall (d := 51) (f := 29) (args := #[.agg (omL o).toArray, .agg (pl s.here).toArray]) (v := .tuple #[.agg (omL (replyV o s.here)).toArray, .bool (replyB o s.here)]) (by kernel_rfl) (by kernel_rfl) (by kernel_rfl) Try.call29 ?_ ?_
      · intro w10 hr3
        replace hS := Step.transNew hS hr3 (fun i hi hG => by (try simp only at hG); show _ = _; omega)
        replace ho1 := ho1.step hr3 (by (try simp only); omega)
        replace ho2 := ho2.step hr3 (by (try simp only); omega)
        replace ho4 := ho4.step hr3 (by (try simp only); omega)
        exact reply14_any o s.here _
      refine VT_pures 3 (kn' := [(8, .bool (replyB o s.here)), (7, .agg #[.int .i64 ((replyV o s.here).k), .int .u8 ((replyV o s.here).d), .bool ((replyV o s.here).a), .int .u32 ((replyV o s.here).tg), .int .u8 (((replyV o s.here).p) 0), .int .u8 (((replyV o s.here).p) 1), .int .u8 (((replyV o s.here).p) 2), .int .u8 (((replyV o s.here).p) 3), .int .u8 (((replyV o s.here).p) 4), .int .u8 (((replyV o s.here).p) 5), .int .u8 (((replyV o s.here).p) 6), .int .u8 (((replyV o s.here).p) 7), .int .u8 (((replyV o s.here).p) 8), .int .u8 (((replyV o s.here).p) 9), .int .u8 (((replyV o s.here).p) 10), .int .u8 (((replyV o s.here).p) 11), .int .u8 (((replyV o s.here).p) 12), .int .u8 (((replyV o s.here).p) 13), .int .u8 (((replyV o s.here).p) 14), .int .u8 (((replyV o s.here).p) 15), .int .u8 (((replyV o s.here).s) 0), .int .u8 (((replyV o s.here).s) 1), .int .u8 (((replyV o s.here).s) 2), .int .u8 (((replyV o s.here).s) 3), .int .u8 (((replyV o s.here).s) 4), .int .u8 (((replyV o s.here).s) 5), .int .u8 (((replyV o s.here).s) 6), .int .u8 (((replyV o s.here).s) 7), .int .u8 (((replyV o s.here).s) 8), .int .u8 (((replyV o s.here).s) 9), .int .u8 (((replyV o s.here).s) 10), .int .u8 (((replyV o s.here).s) 11), .int .u8 (((replyV o s.here).s) 12), .int .u8 (((replyV o s.here).s) 13), .int .u8 (((replyV o s.here).s) 14), .int .u8 (((replyV o s.here).s) 15)]), (6, .tuple #[.agg #[.int .i64 ((replyV o s.here).k), .int .u8 ((replyV o s.here).d), .bool ((replyV o s.here).a), .int .u32 ((replyV o s.here).tg), .int .u8 (((replyV o s.here).p) 0), .int .u8 (((replyV o s.here).p) 1), .int .u8 (((replyV o s.here).p) 2), .int .u8 (((replyV o s.here).p) 3), .int .u8 (((replyV o s.here).p) 4), .int .u8 (((replyV o s.here).p) 5), .int .u8 (((replyV o s.here).p) 6), .int .u8 (((replyV o s.here).p) 7), .int .u8 (((replyV o s.here).p) 8), .int .u8 (((replyV o s.here).p) 9), .int .u8 (((replyV o s.here).p) 10), .int .u8 (((replyV o s.here).p) 11), .int .u8 (((replyV o s.here).p) 12), .int .u8 (((replyV o s.here).p) 13), .int .u8 (((replyV o s.here).p) 14), .int .u8 (((replyV o s.here).p) 15), .int .u8 (((replyV o s.here).s) 0), .int .u8 (((replyV o s.here).s) 1), .int .u8 (((replyV o s.here).s) 2), .int .u8 (((replyV o s.here).s) 3), .int .u8 (((replyV o s.here).s) 4), .int .u8 (((replyV o s.here).s) 5), .int .u8 (((replyV o s.here).s) 6), .int .u8 (((replyV o s.here).s) 7), .int .u8 (((replyV o s.here).s) 8), .int .u8 (((replyV o s.here).s) 9), .int .u8 (((replyV o s.here).s) 10), .int .u8 (((replyV o s.here).s) 11), .int .u8 (((replyV o s.here).s) 12), .int .u8 (((replyV o s.here).s) 13), .int .u8 (((replyV o s.here).s) 14), .int .u8 (((replyV o s.here).s) 15)], .bool (replyB o s.here)]), (5, .tuple #[.agg #[.int .i64 ((replyV o s.here).k), .int .u8 ((replyV o s.here).d), .bool ((replyV o s.here).a), .int .u32 ((replyV o s.here).tg), .int .u8 (((replyV o s.here).p) 0), .int .u8 (((replyV o s.here).p) 1), .int .u8 (((replyV o s.here).p) 2), .int .u8 (((replyV o s.here).p) 3), .int .u8 (((replyV o s.here).p) 4), .int .u8 (((replyV o s.here).p) 5), .int .u8 (((replyV o s.here).p) 6), .int .u8 (((replyV o s.here).p) 7), .int .u8 (((replyV o s.here).p) 8), .int .u8 (((replyV o s.here).p) 9), .int .u8 (((replyV o s.here).p) 10), .int .u8 (((replyV o s.here).p) 11), .int .u8 (((replyV o s.here).p) 12), .int .u8 (((replyV o s.here).p) 13), .int .u8 (((replyV o s.here).p) 14), .int .u8 (((replyV o s.here).p) 15), .int .u8 (((replyV o s.here).s) 0), .int .u8 (((replyV o s.here).s) 1), .int .u8 (((replyV o s.here).s) 2), .int .u8 (((replyV o s.here).s) 3), .int .u8 (((replyV o s.here).s) 4), .int .u8 (((replyV o s.here).s) 5), .int .u8 (((replyV o s.here).s) 6), .int .u8 (((replyV o s.here).s) 7), .int .u8 (((replyV o s.here).s) 8), .int .u8 (((replyV o s.here).s) 9), .int .u8 (((replyV o s.here).s) 10), .int .u8 (((replyV o s.here).s) 11), .int .u8 (((replyV o s.here).s) 12), .int .u8 (((replyV o s.here).s) 13), .int .u8 (((replyV o s.here).s) 14), .int .u8 (((replyV o s.here).s) 15)], .bool (replyB o s.here)]), (4, .agg #[.int .u8 (s.here 0), .int .u8 (s.here 1), .int .u8 (s.here 2), .int .u8 (s.here 3), .int .u8 (s.here 4), .int .u8 (s.here 5), .int .u8 (s.here 6), .int .u8 (s.here 7), .int .u8 (s.here 8), .int .u8 (s.here 9), .int .u8 (s.here 10), .int .u8 (s.here 11), .int .u8 (s.here 12), .int .u8 (s.here 13), .int .u8 (s.here 14), .int .u8 (s.here 15)]), (3, .pointer (some ⟨b, 0, none⟩)), (2, .pointer (some ⟨b, 0, none⟩)), (1, .pointer (some ⟨b, 0, none⟩)), (0, .agg #[.int .i64 o.k, .int .u8 o.d, .bool o.a, .int .u32 o.tg, .int .u8 (o.p 0), .int .u8 (o.p 1), .int .u8 (o.p 2), .int .u8 (o.p 3), .int .u8 (o.p 4), .int .u8 (o.p 5), .int .u8 (o.p 6), .int .u8 (o.p 7), .int .u8 (o.p 8), .int .u8 (o.p 9), .int .u8 (o.p 10), .int .u8 (o.p 11), .int .u8 (o.p 12), .int .u8 (o.p 13), .int .u8 (o.p 14), .int .u8 (o.p 15), .int .u8 (o.s 0), .int .u8 (o.s 1), .int .u8 (o.s 2), .int .u8 (o.s 3), .int .u8 (o.s 4), .int .u8 (o.s 5), .int .u8 (o.s 6), .int .u8 (o.s 7), .int .u8 (o.s 8), .int .u8 (o.s 9), .int .u8 (o.s 10), .int .u8 (o.s 11), .int .u8 (o.s 12), .int .u8 (o.s 13), .int .u8 (o.s 14), .int .u8 (o.s 15)])]) (by kernel_rfl) ?_
      refine VT_chain (by kernel_rfl) ?_
      intro w11 hs3
      have hzhs3 := hs3.size
      replace hS := Step.trans hS (Step.weak hs3)
      replace ho1 := ho1.no hs3
      replace ho2 := ho2.no hs3
      replace ho4 := ho4.no hs3
      have hzs5 := hS.size
      have hzl10 := ho1.lt
      have hzl11 := ho2.lt
      have hzl12 := ho4.lt
      refine VTc_box (d := 8) (t := 31) (c := #[.int .i64 0, .int .u8 0, .bool false, .int .u32 0, .int .u8 0, .int .u8 0, .int .u8 0, .int .u8 0, .int .u8 0, .int .u8 0, .int .u8 0, .int .u8 0, .int .u8 0, .int .u8 0, .int .u8 0, .int .u8 0, .int .u8 0, .int .u8 0, .int .u8 0, .int .u8 0, .int .u8 0, .int .u8 0, .int .u8 0, .int .u8 0, .int .u8 0, .int .u8 0, .int .u8 0, .int .u8 0, .int .u8 0, .int .u8 0, .int .u8 0, .int .u8 0, .int .u8 0, .int .u8 0, .int .u8 0, .int .u8 0]) (by kernel_rfl) (by kernel_rfl) (fun b w1 hn => hn.step _) ?_
      intro b3 w12 hn3
      replace hS := Step.trans hS (Step.weak (hn3.step No))
      replace ho1 := ho1.no (hn3.step No)
      replace ho2 := ho2.no (hn3.step No)
      replace ho4 := ho4.no (hn3.step No)
      have ho5 := hn3.own
      have hzhn3 := hn3.size
      have hqhn3 := hn3.eqb
      refine VT_chain (by kernel_rfl) ?_
      intro w13 hs4
      have hzhs4 := hs4.size
      replace hS := Step.trans hS (Step.weak hs4)
      replace ho1 := ho1.no hs4
      replace ho2 := ho2.no hs4
      replace ho4 := ho4.no hs4
      replace ho5 := ho5.no hs4
      refine VTc_store (b := b3) (o := 0) (vs := [.int .i64 ((replyV o s.here).k), .int .u8 ((replyV o s.here).d), .bool ((replyV o s.here).a), .int .u32 ((replyV o s.here).tg), .int .u8 (((replyV o s.here).p) 0), .int .u8 (((replyV o s.here).p) 1), .int .u8 (((replyV o s.here).p) 2), .int .u8 (((replyV o s.here).p) 3), .int .u8 (((replyV o s.here).p) 4), .int .u8 (((replyV o s.here).p) 5), .int .u8 (((replyV o s.here).p) 6), .int .u8 (((replyV o s.here).p) 7), .int .u8 (((replyV o s.here).p) 8), .int .u8 (((replyV o s.here).p) 9), .int .u8 (((replyV o s.here).p) 10), .int .u8 (((replyV o s.here).p) 11), .int .u8 (((replyV o s.here).p) 12), .int .u8 (((replyV o s.here).p) 13), .int .u8 (((replyV o s.here).p) 14), .int .u8 (((replyV o s.here).p) 15), .int .u8 (((replyV o s.here).s) 0), .int .u8 (((replyV o s.here).s) 1), .int .u8 (((replyV o s.here).s) 2), .int .u8 (((replyV o s.here).s) 3), .int .u8 (((replyV o s.here).s) 4), .int .u8 (((replyV o s.here).s) 5), .int .u8 (((replyV o s.here).s) 6), .int .u8 (((replyV o s.here).s) 7), .int .u8 (((replyV o s.here).s) 8), .int .u8 (((replyV o s.here).s) 9), .int .u8 (((replyV o s.here).s) 10), .int .u8 (((replyV o s.here).s) 11), .int .u8 (((replyV o s.here).s) 12), .int .u8 (((replyV o s.here).s) 13), .int .u8 (((replyV o s.here).s) 14), .int .u8 (((replyV o s.here).s) 15)]) (by kernel_rfl) (by kernel_rfl) ho5 (Nat.le_of_ble_eq_true (by kernel_rfl)) (fun w1 hw => Step.mono hw.step (by intro i hi; (try simp only at hi ⊢); omega)) ?_
      intro w14 hw3
      replace hS := Step.transNew hS hw3.step (fun _ _ _ => by omega)
      replace ho1 := ho1.step hw3.step (show ¬ b1 = b3 by omega)
      replace ho2 := ho2.step hw3.step (show ¬ b2 = b3 by omega)
      replace ho4 := ho4.step hw3.step (show ¬ b = b3 by omega)
      have ho6 : Own w14 b3 #[.int .i64 ((replyV o s.here).k), .int .u8 ((replyV o s.here).d), .bool ((replyV o s.here).a), .int .u32 ((replyV o s.here).tg), .int .u8 (((replyV o s.here).p) 0), .int .u8 (((replyV o s.here).p) 1), .int .u8 (((replyV o s.here).p) 2), .int .u8 (((replyV o s.here).p) 3), .int .u8 (((replyV o s.here).p) 4), .int .u8 (((replyV o s.here).p) 5), .int .u8 (((replyV o s.here).p) 6), .int .u8 (((replyV o s.here).p) 7), .int .u8 (((replyV o s.here).p) 8), .int .u8 (((replyV o s.here).p) 9), .int .u8 (((replyV o s.here).p) 10), .int .u8 (((replyV o s.here).p) 11), .int .u8 (((replyV o s.here).p) 12), .int .u8 (((replyV o s.here).p) 13), .int .u8 (((replyV o s.here).p) 14), .int .u8 (((replyV o s.here).p) 15), .int .u8 (((replyV o s.here).s) 0), .int .u8 (((replyV o s.here).s) 1), .int .u8 (((replyV o s.here).s) 2), .int .u8 (((replyV o s.here).s) 3), .int .u8 (((replyV o s.here).s) 4), .int .u8 (((replyV o s.here).s) 5), .int .u8 (((replyV o s.here).s) 6), .int .u8 (((replyV o s.here).s) 7), .int .u8 (((replyV o s.here).s) 8), .int .u8 (((replyV o s.here).s) 9), .int .u8 (((replyV o s.here).s) 10), .int .u8 (((replyV o s.here).s) 11), .int .u8 (((replyV o s.here).s) 12), .int .u8 (((replyV o s.here).s) 13), .int .u8 (((replyV o s.here).s) 14), .int .u8 (((replyV o s.here).s) 15)] 31 := Own.cast hw3.own (by kernel_rfl)
      have hzhw3 := hw3.same
      refine VT_end ?_
      intro w15 hs5
      replace hS := Step.trans hS (Step.weak hs5)
      replace ho1 := ho1.no hs5
      replace ho2 := ho2.no hs5
      replace ho4 := ho4.no hs5
      replace ho6 := ho6.no hs5
      refine VL_keep [6, 53, 8] [(6, .pointer (some ⟨b2, 0, none⟩)), (53, .bool (replyB o s.here)), (8, .pointer (some ⟨b3, 0, none⟩))] (by kernel_rfl) ?_
      refine VL_pure 12 [6, 8, 9] [(6, .pointer (some ⟨b2, 0, none⟩)), (8, .pointer (some ⟨b3, 0, none⟩)), (9, .bool (replyB o s.here))] (by kernel_rfl) rfl ?_
      refine VL_end (by kernel_rfl) ?_
      refine VQ_next ?_
      refine VC_seq ?_
      refine VC_region ?_
      refine VL_load (d := 54) (t := 31) (a := ⟨b3, 0, none⟩) (v := .agg #[.int .i64 ((replyV o s.here).k), .int .u8 ((replyV o s.here).d), .bool ((replyV o s.here).a), .int .u32 ((replyV o s.here).tg), .int .u8 (((replyV o s.here).p) 0), .int .u8 (((replyV o s.here).p) 1), .int .u8 (((replyV o s.here).p) 2), .int .u8 (((replyV o s.here).p) 3), .int .u8 (((replyV o s.here).p) 4), .int .u8 (((replyV o s.here).p) 5), .int .u8 (((replyV o s.here).p) 6), .int .u8 (((replyV o s.here).p) 7), .int .u8 (((replyV o s.here).p) 8), .int .u8 (((replyV o s.here).p) 9), .int .u8 (((replyV o s.here).p) 10), .int .u8 (((replyV o s.here).p) 11), .int .u8 (((replyV o s.here).p) 12), .int .u8 (((replyV o s.here).p) 13), .int .u8 (((replyV o s.here).p) 14), .int .u8 (((replyV o s.here).p) 15), .int .u8 (((replyV o s.here).s) 0), .int .u8 (((replyV o s.here).s) 1), .int .u8 (((replyV o s.here).s) 2), .int .u8 (((replyV o s.here).s) 3), .int .u8 (((replyV o s.here).s) 4), .int .u8 (((replyV o s.here).s) 5), .int .u8 (((replyV o s.here).s) 6), .int .u8 (((replyV o s.here).s) 7), .int .u8 (((replyV o s.here).s) 8), .int .u8 (((replyV o s.here).s) 9), .int .u8 (((replyV o s.here).s) 10), .int .u8 (((replyV o s.here).s) 11), .int .u8 (((replyV o s.here).s) 12), .int .u8 (((replyV o s.here).s) 13), .int .u8 (((replyV o s.here).s) 14), .int .u8 (((replyV o s.here).s) 15)]) (by kernel_rfl) (by kernel_rfl) (Loads.ownL ho6 (n := 36) (by kernel_rfl) (by kernel_rfl) (by kernel_rfl)) ?_
      refine VL_pure 2 [6, 54, 55] [(6, .pointer (some ⟨b2, 0, none⟩)), (54, .agg #[.int .i64 ((replyV o s.here).k), .int .u8 ((replyV o s.here).d), .bool ((replyV o s.here).a), .int .u32 ((replyV o s.here).tg), .int .u8 (((replyV o s.here).p) 0), .int .u8 (((replyV o s.here).p) 1), .int .u8 (((replyV o s.here).p) 2), .int .u8 (((replyV o s.here).p) 3), .int .u8 (((replyV o s.here).p) 4), .int .u8 (((replyV o s.here).p) 5), .int .u8 (((replyV o s.here).p) 6), .int .u8 (((replyV o s.here).p) 7), .int .u8 (((replyV o s.here).p) 8), .int .u8 (((replyV o s.here).p) 9), .int .u8 (((replyV o s.here).p) 10), .int .u8 (((replyV o s.here).p) 11), .int .u8 (((replyV o s.here).p) 12), .int .u8 (((replyV o s.here).p) 13), .int .u8 (((replyV o s.here).p) 14), .int .u8 (((replyV o s.here).p) 15), .int .u8 (((replyV o s.here).s) 0), .int .u8 (((replyV o s.here).s) 1), .int .u8 (((replyV o s.here).s) 2), .int .u8 (((replyV o s.here).s) 3), .int .u8 (((replyV o s.here).s) 4), .int .u8 (((replyV o s.here).s) 5), .int .u8 (((replyV o s.here).s) 6), .int .u8 (((replyV o s.here).s) 7), .int .u8 (((replyV o s.here).s) 8), .int .u8 (((replyV o s.here).s) 9), .int .u8 (((replyV o s.here).s) 10), .int .u8 (((replyV o s.here).s) 11), .int .u8 (((replyV o s.here).s) 12), .int .u8 (((replyV o s.here).s) 13), .int .u8 (((replyV o s.here).s) 14), .int .u8 (((replyV o s.here).s) 15)]), (55, .bool (replyB o s.here))] (by kernel_rfl) rfl ?_
      refine VL_store (b := b2) (o := 0) (vs := [.int .i64 ((replyV o s.here).k), .int .u8 ((replyV o s.here).d), .bool ((replyV o s.here).a), .int .u32 ((replyV o s.here).tg), .int .u8 (((replyV o s.here).p) 0), .int .u8 (((replyV o s.here).p) 1), .int .u8 (((replyV o s.here).p) 2), .int .u8 (((replyV o s.here).p) 3), .int .u8 (((replyV o s.here).p) 4), .int .u8 (((replyV o s.here).p) 5), .int .u8 (((replyV o s.here).p) 6), .int .u8 (((replyV o s.here).p) 7), .int .u8 (((replyV o s.here).p) 8), .int .u8 (((replyV o s.here).p) 9), .int .u8 (((replyV o s.here).p) 10), .int .u8 (((replyV o s.here).p) 11), .int .u8 (((replyV o s.here).p) 12), .int .u8 (((replyV o s.here).p) 13), .int .u8 (((replyV o s.here).p) 14), .int .u8 (((replyV o s.here).p) 15), .int .u8 (((replyV o s.here).s) 0), .int .u8 (((replyV o s.here).s) 1), .int .u8 (((replyV o s.here).s) 2), .int .u8 (((replyV o s.here).s) 3), .int .u8 (((replyV o s.here).s) 4), .int .u8 (((replyV o s.here).s) 5), .int .u8 (((replyV o s.here).s) 6), .int .u8 (((replyV o s.here).s) 7), .int .u8 (((replyV o s.here).s) 8), .int .u8 (((replyV o s.here).s) 9), .int .u8 (((replyV o s.here).s) 10), .int .u8 (((replyV o s.here).s) 11), .int .u8 (((replyV o s.here).s) 12), .int .u8 (((replyV o s.here).s) 13), .int .u8 (((replyV o s.here).s) 14), .int .u8 (((replyV o s.here).s) 15)]) (by kernel_rfl) (by kernel_rfl) ho2 (Nat.le_of_ble_eq_true (by kernel_rfl)) ?_
      intro w16 hw4
      replace hS := Step.transNew hS hw4.step (fun _ _ _ => by omega)
      replace ho1 := ho1.step hw4.step (show ¬ b1 = b2 by omega)
      replace ho4 := ho4.step hw4.step (show ¬ b = b2 by omega)
      replace ho6 := ho6.step hw4.step (show ¬ b3 = b2 by omega)
      have ho7 : Own w16 b2 #[.int .i64 ((replyV o s.here).k), .int .u8 ((replyV o s.here).d), .bool ((replyV o s.here).a), .int .u32 ((replyV o s.here).tg), .int .u8 (((replyV o s.here).p) 0), .int .u8 (((replyV o s.here).p) 1), .int .u8 (((replyV o s.here).p) 2), .int .u8 (((replyV o s.here).p) 3), .int .u8 (((replyV o s.here).p) 4), .int .u8 (((replyV o s.here).p) 5), .int .u8 (((replyV o s.here).p) 6), .int .u8 (((replyV o s.here).p) 7), .int .u8 (((replyV o s.here).p) 8), .int .u8 (((replyV o s.here).p) 9), .int .u8 (((replyV o s.here).p) 10), .int .u8 (((replyV o s.here).p) 11), .int .u8 (((replyV o s.here).p) 12), .int .u8 (((replyV o s.here).p) 13), .int .u8 (((replyV o s.here).p) 14), .int .u8 (((replyV o s.here).p) 15), .int .u8 (((replyV o s.here).s) 0), .int .u8 (((replyV o s.here).s) 1), .int .u8 (((replyV o s.here).s) 2), .int .u8 (((replyV o s.here).s) 3), .int .u8 (((replyV o s.here).s) 4), .int .u8 (((replyV o s.here).s) 5), .int .u8 (((replyV o s.here).s) 6), .int .u8 (((replyV o s.here).s) 7), .int .u8 (((replyV o s.here).s) 8), .int .u8 (((replyV o s.here).s) 9), .int .u8 (((replyV o s.here).s) 10), .int .u8 (((replyV o s.here).s) 11), .int .u8 (((replyV o s.here).s) 12), .int .u8 (((replyV o s.here).s) 13), .int .u8 (((replyV o s.here).s) 14), .int .u8 (((replyV o s.here).s) 15)] 31 := Own.cast hw4.own (by kernel_rfl)
      have hzhw4 := hw4.same
      refine VL_pure 4 [6, 7] [(6, .pointer (some ⟨b2, 0, none⟩)), (7, .bool (replyB o s.here))] (by kernel_rfl) rfl ?_
      refine VL_end (by kernel_rfl) ?_
      refine VQ_next ?_
      refine VC_ret ?_
      refine VQ_retC1T1 (T := 31) (.agg #[.int .i64 ((replyV o s.here).k), .int .u8 ((replyV o s.here).d), .bool ((replyV o s.here).a), .int .u32 ((replyV o s.here).tg), .int .u8 (((replyV o s.here).p) 0), .int .u8 (((replyV o s.here).p) 1), .int .u8 (((replyV o s.here).p) 2), .int .u8 (((replyV o s.here).p) 3), .int .u8 (((replyV o s.here).p) 4), .int .u8 (((replyV o s.here).p) 5), .int .u8 (((replyV o s.here).p) 6), .int .u8 (((replyV o s.here).p) 7), .int .u8 (((replyV o s.here).p) 8), .int .u8 (((replyV o s.here).p) 9), .int .u8 (((replyV o s.here).p) 10), .int .u8 (((replyV o s.here).p) 11), .int .u8 (((replyV o s.here).p) 12), .int .u8 (((replyV o s.here).p) 13), .int .u8 (((replyV o s.here).p) 14), .int .u8 (((replyV o s.here).p) 15), .int .u8 (((replyV o s.here).s) 0), .int .u8 (((replyV o s.here).s) 1), .int .u8 (((replyV o s.here).s) 2), .int .u8 (((replyV o s.here).s) 3), .int .u8 (((replyV o s.here).s) 4), .int .u8 (((replyV o s.here).s) 5), .int .u8 (((replyV o s.here).s) 6), .int .u8 (((replyV o s.here).s) 7), .int .u8 (((replyV o s.here).s) 8), .int .u8 (((replyV o s.here).s) 9), .int .u8 (((replyV o s.here).s) 10), .int .u8 (((replyV o s.here).s) 11), .int .u8 (((replyV o s.here).s) 12), .int .u8 (((replyV o s.here).s) 13), .int .u8 (((replyV o s.here).s) 14), .int .u8 (((replyV o s.here).s) 15)]) (.bool (replyB o s.here)) (.inr rfl) rfl rfl rfl (Loads.ownL ho7 (n := 36) (by kernel_rfl) (by kernel_rfl) (by kernel_rfl)) ?_
      obtain ⟨e1, e2⟩ := got_yes (s := s) h1
      exact ⟨by rw [e1, e2]; rfl, Own.cast ho4 (rgotA_0 h1 (by assumption) hw), hS⟩
    · refine VC_seq ?_
      refine VC_region ?_
      refine VL_pure 2 [0, 1, 5, 6, 15, 28] [(0, .pointer (some ⟨b, 0, none⟩)), (1, .int .i64 t), (5, .pointer (some ⟨b1, 0, none⟩)), (6, .pointer (some ⟨b2, 0, none⟩)), (15, .int .i64 o.k), (28, .bool (o.k == 1))] (by kernel_rfl) rfl ?_
      refine VL_end (by kernel_rfl) ?_
      refine VQ_next ?_
      refine VC_eq o.k 1 (by kernel_rfl) (fun h3 => ?_) (fun h3 => ?_)
      · refine VC_det [[], [], [1], [], [3], [3, 4], [3, 4, 5], [1, 2, 3, 4, 5, 6], [0, 1, 2, 3, 4, 5, 6, 7], [0, 1, 2, 3, 4, 5, 6, 7, 8], [0, 1, 2, 3, 4, 5, 6, 7, 8, 9]] 8 [.pointer (some ⟨b, 0, none⟩), .int .i64 t, .int .i64 (held t), .pointer (some ⟨b, 0, none⟩), .pointer (some ⟨b, 0, none⟩), .pointer (some ⟨b, 16, none⟩), .int .i64 s.wt, .int .i64 (IntKind.wrap .i64 ((held t) + s.wt))] [0, 1, 3, 4, 5, 7] [2, 6] (by kernel_rfl) (by kernel_rfl) (by kernel_rfl) (by kernel_rfl) ?_ ?_
        · intro w17 hs6
          replace hS := Step.trans hS (Step.weak hs6)
          replace ht := ht.no hs6
          replace ho1 := ho1.no hs6
          replace ho2 := ho2.no hs6
          exact ⟨Det1_call (d := 32) (f := 25) (args := #[.int .i64 t]) (by kernel_rfl) (by kernel_rfl) (by kernel_rfl) Try.call25 (by exact rheld_any _ _), Det1_load (d := 36) (t := 3) (a := ⟨b, 16, none⟩) (by kernel_rfl) (by kernel_rfl) (Loads.own1 ht (by kernel_rfl) (by rfl)), trivial⟩
        intro w17 hs6
        replace hS := Step.trans hS (Step.weak hs6)
        replace ht := ht.no hs6
        replace ho1 := ho1.no hs6
        replace ho2 := ho2.no hs6
        refine VL_keep [0, 5, 6, 30, 37] [(0, .pointer (some ⟨b, 0, none⟩)), (5, .pointer (some ⟨b1, 0, none⟩)), (6, .pointer (some ⟨b2, 0, none⟩)), (30, .pointer (some ⟨b, 0, none⟩)), (37, .int .i64 (IntKind.wrap .i64 ((held t) + s.wt)))] (by kernel_rfl) ?_
        refine VL_pure 10 [0, 5, 6, 37, 39] [(0, .pointer (some ⟨b, 0, none⟩)), (5, .pointer (some ⟨b1, 0, none⟩)), (6, .pointer (some ⟨b2, 0, none⟩)), (37, .int .i64 (IntKind.wrap .i64 ((held t) + s.wt))), (39, .pointer (some ⟨b, 19, none⟩))] (by kernel_rfl) rfl ?_
        refine VL_store (b := b) (o := 19) (vs := [.int .i64 (IntKind.wrap .i64 ((held t) + s.wt))]) (by kernel_rfl) (by kernel_rfl) ht (Nat.le_of_ble_eq_true (by kernel_rfl)) ?_
        intro w18 hw5
        replace hS := Step.trans hS (Step.mono hw5.step (by intro i hi; first | exact hi | simp_all))
        replace ho1 := ho1.step hw5.step (show ¬ b1 = b by omega)
        replace ho2 := ho2.step hw5.step (show ¬ b2 = b by omega)
        have ho8 : Own w18 b #[.int .u8 (s.here 0), .int .u8 (s.here 1), .int .u8 (s.here 2), .int .u8 (s.here 3), .int .u8 (s.here 4), .int .u8 (s.here 5), .int .u8 (s.here 6), .int .u8 (s.here 7), .int .u8 (s.here 8), .int .u8 (s.here 9), .int .u8 (s.here 10), .int .u8 (s.here 11), .int .u8 (s.here 12), .int .u8 (s.here 13), .int .u8 (s.here 14), .int .u8 (s.here 15), .int .i64 s.wt, .bool s.dn, .int .i64 s.ah, .int .i64 (IntKind.wrap .i64 ((held t) + s.wt))] 41 := Own.cast hw5.own (by kernel_rfl)
        have hzhw5 := hw5.same
        refine VL_end (by kernel_rfl) ?_
        refine VQ_block_normal ?_
        refine VQ_next ?_
        refine VC_seq ?_
        have hs7 := drew_step w18
        have hs7z : w18.heap.size = w18.drew.heap.size := rfl
        refine VC_text [[], [], [1], [1, 2], [1, 2, 3], [0, 1, 2, 3, 4], [0, 1, 2, 3, 4, 5], [0, 1, 2, 3, 4, 5, 6], [0, 1, 2, 3, 4, 5, 6], [], [0, 1, 2, 3, 4, 5, 6, 7, 9], [0, 1, 2, 3, 4, 5, 6, 7, 8, 9, 10]] 11 (fun x y => Step (fun k => w18.heap.size ≤ k) x y) [9, 10] [0, 1, 2, 3, 4, 5, 6, 7, 8, 9, 10] (by kernel_rfl) (by kernel_rfl) (by kernel_rfl) (by kernel_rfl) (fun x => Step.refl _ x) (fun h k => Step.trans h k) Step.weak ?_
        have hzs6 := hS.size
        have hzl13 := ho1.lt
        have hzl14 := ho2.lt
        have hzl15 := ho8.lt
        generalize w18.drew = w19 at hs7 hs7z ⊢
        replace hS := Step.trans hS (Step.weak hs7)
        replace ho1 := ho1.no hs7
        replace ho2 := ho2.no hs7
        replace ho8 := ho8.no hs7
        refine VT_load (d := 46) (t := 31) (a := ⟨b1, 0, none⟩) (v := .agg #[.int .i64 o.k, .int .u8 o.d, .bool o.a, .int .u32 o.tg, .int .u8 (o.p 0), .int .u8 (o.p 1), .int .u8 (o.p 2), .int .u8 (o.p 3), .int .u8 (o.p 4), .int .u8 (o.p 5), .int .u8 (o.p 6), .int .u8 (o.p 7), .int .u8 (o.p 8), .int .u8 (o.p 9), .int .u8 (o.p 10), .int .u8 (o.p 11), .int .u8 (o.p 12), .int .u8 (o.p 13), .int .u8 (o.p 14), .int .u8 (o.p 15), .int .u8 (o.s 0), .int .u8 (o.s 1), .int .u8 (o.s 2), .int .u8 (o.s 3), .int .u8 (o.s 4), .int .u8 (o.s 5), .int .u8 (o.s 6), .int .u8 (o.s 7), .int .u8 (o.s 8), .int .u8 (o.s 9), .int .u8 (o.s 10), .int .u8 (o.s 11), .int .u8 (o.s 12), .int .u8 (o.s 13), .int .u8 (o.s 14), .int .u8 (o.s 15)]) (by kernel_rfl) (by kernel_rfl) ?_ ?_
        · intro w20 hr4
          replace hS := Step.transNew hS hr4 (fun i hi hG => by (try simp only at hG); show _ = _; omega)
          replace ho1 := ho1.step hr4 (by (try simp only); omega)
          replace ho2 := ho2.step hr4 (by (try simp only); omega)
          replace ho8 := ho8.step hr4 (by (try simp only); omega)
          exact (Loads.ownL ho1 (n := 36) (by kernel_rfl) (by kernel_rfl) (by kernel_rfl))
        refine VT_pures 3 (kn' := [(3, .pointer (some ⟨b, 0, none⟩)), (2, .pointer (some ⟨b, 0, none⟩)), (1, .pointer (some ⟨b, 0, none⟩)), (0, .agg #[.int .i64 o.k, .int .u8 o.d, .bool o.a, .int .u32 o.tg, .int .u8 (o.p 0), .int .u8 (o.p 1), .int .u8 (o.p 2), .int .u8 (o.p 3), .int .u8 (o.p 4), .int .u8 (o.p 5), .int .u8 (o.p 6), .int .u8 (o.p 7), .int .u8 (o.p 8), .int .u8 (o.p 9), .int .u8 (o.p 10), .int .u8 (o.p 11), .int .u8 (o.p 12), .int .u8 (o.p 13), .int .u8 (o.p 14), .int .u8 (o.p 15), .int .u8 (o.s 0), .int .u8 (o.s 1), .int .u8 (o.s 2), .int .u8 (o.s 3), .int .u8 (o.s 4), .int .u8 (o.s 5), .int .u8 (o.s 6), .int .u8 (o.s 7), .int .u8 (o.s 8), .int .u8 (o.s 9), .int .u8 (o.s 10), .int .u8 (o.s 11), .int .u8 (o.s 12), .int .u8 (o.s 13), .int .u8 (o.s 14), .int .u8 (o.s 15)])]) (by kernel_rfl) ?_
        refine VT_load (d := 50) (t := 22) (a := ⟨b, 0, none⟩) (v := .agg #[.int .u8 (s.here 0), .int .u8 (s.here 1), .int .u8 (s.here 2), .int .u8 (s.here 3), .int .u8 (s.here 4), .int .u8 (s.here 5), .int .u8 (s.here 6), .int .u8 (s.here 7), .int .u8 (s.here 8), .int .u8 (s.here 9), .int .u8 (s.here 10), .int .u8 (s.here 11), .int .u8 (s.here 12), .int .u8 (s.here 13), .int .u8 (s.here 14), .int .u8 (s.here 15)]) (by kernel_rfl) (by kernel_rfl) ?_ ?_
        · intro w21 hr5
          replace hS := Step.transNew hS hr5 (fun i hi hG => by (try simp only at hG); show _ = _; omega)
          replace ho1 := ho1.step hr5 (by (try simp only); omega)
          replace ho2 := ho2.step hr5 (by (try simp only); omega)
          replace ho8 := ho8.step hr5 (by (try simp only); omega)
          exact (Loads.ownL ho8 (n := 16) (by kernel_rfl) (by kernel_rfl) (by kernel_rfl))
        refine VT_fcall (d := 51) (f := 29) (args := #[.agg (omL o).toArray, .agg (pl s.here).toArray]) (v := .tuple #[.agg (omL (replyV o s.here)).toArray, .bool (replyB o s.here)]) (by kernel_rfl) (by kernel_rfl) (by kernel_rfl) Try.call29 ?_ ?_
        · intro w22 hr6
          replace hS := Step.transNew hS hr6 (fun i hi hG => by (try simp only at hG); show _ = _; omega)
          replace ho1 := ho1.step hr6 (by (try simp only); omega)
          replace ho2 := ho2.step hr6 (by (try simp only); omega)
          replace ho8 := ho8.step hr6 (by (try simp only); omega)
          exact reply14_any o s.here _
        refine VT_pures 3 (kn' := [(8, .bool (replyB o s.here)), (7, .agg #[.int .i64 ((replyV o s.here).k), .int .u8 ((replyV o s.here).d), .bool ((replyV o s.here).a), .int .u32 ((replyV o s.here).tg), .int .u8 (((replyV o s.here).p) 0), .int .u8 (((replyV o s.here).p) 1), .int .u8 (((replyV o s.here).p) 2), .int .u8 (((replyV o s.here).p) 3), .int .u8 (((replyV o s.here).p) 4), .int .u8 (((replyV o s.here).p) 5), .int .u8 (((replyV o s.here).p) 6), .int .u8 (((replyV o s.here).p) 7), .int .u8 (((replyV o s.here).p) 8), .int .u8 (((replyV o s.here).p) 9), .int .u8 (((replyV o s.here).p) 10), .int .u8 (((replyV o s.here).p) 11), .int .u8 (((replyV o s.here).p) 12), .int .u8 (((replyV o s.here).p) 13), .int .u8 (((replyV o s.here).p) 14), .int .u8 (((replyV o s.here).p) 15), .int .u8 (((replyV o s.here).s) 0), .int .u8 (((replyV o s.here).s) 1), .int .u8 (((replyV o s.here).s) 2), .int .u8 (((replyV o s.here).s) 3), .int .u8 (((replyV o s.here).s) 4), .int .u8 (((replyV o s.here).s) 5), .int .u8 (((replyV o s.here).s) 6), .int .u8 (((replyV o s.here).s) 7), .int .u8 (((replyV o s.here).s) 8), .int .u8 (((replyV o s.here).s) 9), .int .u8 (((replyV o s.here).s) 10), .int .u8 (((replyV o s.here).s) 11), .int .u8 (((replyV o s.here).s) 12), .int .u8 (((replyV o s.here).s) 13), .int .u8 (((replyV o s.here).s) 14), .int .u8 (((replyV o s.here).s) 15)]), (6, .tuple #[.agg #[.int .i64 ((replyV o s.here).k), .int .u8 ((replyV o s.here).d), .bool ((replyV o s.here).a), .int .u32 ((replyV o s.here).tg), .int .u8 (((replyV o s.here).p) 0), .int .u8 (((replyV o s.here).p) 1), .int .u8 (((replyV o s.here).p) 2), .int .u8 (((replyV o s.here).p) 3), .int .u8 (((replyV o s.here).p) 4), .int .u8 (((replyV o s.here).p) 5), .int .u8 (((replyV o s.here).p) 6), .int .u8 (((replyV o s.here).p) 7), .int .u8 (((replyV o s.here).p) 8), .int .u8 (((replyV o s.here).p) 9), .int .u8 (((replyV o s.here).p) 10), .int .u8 (((replyV o s.here).p) 11), .int .u8 (((replyV o s.here).p) 12), .int .u8 (((replyV o s.here).p) 13), .int .u8 (((replyV o s.here).p) 14), .int .u8 (((replyV o s.here).p) 15), .int .u8 (((replyV o s.here).s) 0), .int .u8 (((replyV o s.here).s) 1), .int .u8 (((replyV o s.here).s) 2), .int .u8 (((replyV o s.here).s) 3), .int .u8 (((replyV o s.here).s) 4), .int .u8 (((replyV o s.here).s) 5), .int .u8 (((replyV o s.here).s) 6), .int .u8 (((replyV o s.here).s) 7), .int .u8 (((replyV o s.here).s) 8), .int .u8 (((replyV o s.here).s) 9), .int .u8 (((replyV o s.here).s) 10), .int .u8 (((replyV o s.here).s) 11), .int .u8 (((replyV o s.here).s) 12), .int .u8 (((replyV o s.here).s) 13), .int .u8 (((replyV o s.here).s) 14), .int .u8 (((replyV o s.here).s) 15)], .bool (replyB o s.here)]), (5, .tuple #[.agg #[.int .i64 ((replyV o s.here).k), .int .u8 ((replyV o s.here).d), .bool ((replyV o s.here).a), .int .u32 ((replyV o s.here).tg), .int .u8 (((replyV o s.here).p) 0), .int .u8 (((replyV o s.here).p) 1), .int .u8 (((replyV o s.here).p) 2), .int .u8 (((replyV o s.here).p) 3), .int .u8 (((replyV o s.here).p) 4), .int .u8 (((replyV o s.here).p) 5), .int .u8 (((replyV o s.here).p) 6), .int .u8 (((replyV o s.here).p) 7), .int .u8 (((replyV o s.here).p) 8), .int .u8 (((replyV o s.here).p) 9), .int .u8 (((replyV o s.here).p) 10), .int .u8 (((replyV o s.here).p) 11), .int .u8 (((replyV o s.here).p) 12), .int .u8 (((replyV o s.here).p) 13), .int .u8 (((replyV o s.here).p) 14), .int .u8 (((replyV o s.here).p) 15), .int .u8 (((replyV o s.here).s) 0), .int .u8 (((replyV o s.here).s) 1), .int .u8 (((replyV o s.here).s) 2), .int .u8 (((replyV o s.here).s) 3), .int .u8 (((replyV o s.here).s) 4), .int .u8 (((replyV o s.here).s) 5), .int .u8 (((replyV o s.here).s) 6), .int .u8 (((replyV o s.here).s) 7), .int .u8 (((replyV o s.here).s) 8), .int .u8 (((replyV o s.here).s) 9), .int .u8 (((replyV o s.here).s) 10), .int .u8 (((replyV o s.here).s) 11), .int .u8 (((replyV o s.here).s) 12), .int .u8 (((replyV o s.here).s) 13), .int .u8 (((replyV o s.here).s) 14), .int .u8 (((replyV o s.here).s) 15)], .bool (replyB o s.here)]), (4, .agg #[.int .u8 (s.here 0), .int .u8 (s.here 1), .int .u8 (s.here 2), .int .u8 (s.here 3), .int .u8 (s.here 4), .int .u8 (s.here 5), .int .u8 (s.here 6), .int .u8 (s.here 7), .int .u8 (s.here 8), .int .u8 (s.here 9), .int .u8 (s.here 10), .int .u8 (s.here 11), .int .u8 (s.here 12), .int .u8 (s.here 13), .int .u8 (s.here 14), .int .u8 (s.here 15)]), (3, .pointer (some ⟨b, 0, none⟩)), (2, .pointer (some ⟨b, 0, none⟩)), (1, .pointer (some ⟨b, 0, none⟩)), (0, .agg #[.int .i64 o.k, .int .u8 o.d, .bool o.a, .int .u32 o.tg, .int .u8 (o.p 0), .int .u8 (o.p 1), .int .u8 (o.p 2), .int .u8 (o.p 3), .int .u8 (o.p 4), .int .u8 (o.p 5), .int .u8 (o.p 6), .int .u8 (o.p 7), .int .u8 (o.p 8), .int .u8 (o.p 9), .int .u8 (o.p 10), .int .u8 (o.p 11), .int .u8 (o.p 12), .int .u8 (o.p 13), .int .u8 (o.p 14), .int .u8 (o.p 15), .int .u8 (o.s 0), .int .u8 (o.s 1), .int .u8 (o.s 2), .int .u8 (o.s 3), .int .u8 (o.s 4), .int .u8 (o.s 5), .int .u8 (o.s 6), .int .u8 (o.s 7), .int .u8 (o.s 8), .int .u8 (o.s 9), .int .u8 (o.s 10), .int .u8 (o.s 11), .int .u8 (o.s 12), .int .u8 (o.s 13), .int .u8 (o.s 14), .int .u8 (o.s 15)])]) (by kernel_rfl) ?_
        refine VT_chain (by kernel_rfl) ?_
        intro w23 hs8
        have hzhs8 := hs8.size
        replace hS := Step.trans hS (Step.weak hs8)
        replace ho1 := ho1.no hs8
        replace ho2 := ho2.no hs8
        replace ho8 := ho8.no hs8
        have hzs7 := hS.size
        have hzl16 := ho1.lt
        have hzl17 := ho2.lt
        have hzl18 := ho8.lt
        refine VTc_box (d := 8) (t := 31) (c := #[.int .i64 0, .int .u8 0, .bool false, .int .u32 0, .int .u8 0, .int .u8 0, .int .u8 0, .int .u8 0, .int .u8 0, .int .u8 0, .int .u8 0, .int .u8 0, .int .u8 0, .int .u8 0, .int .u8 0, .int .u8 0, .int .u8 0, .int .u8 0, .int .u8 0, .int .u8 0, .int .u8 0, .int .u8 0, .int .u8 0, .int .u8 0, .int .u8 0, .int .u8 0, .int .u8 0, .int .u8 0, .int .u8 0, .int .u8 0, .int .u8 0, .int .u8 0, .int .u8 0, .int .u8 0, .int .u8 0, .int .u8 0]) (by kernel_rfl) (by kernel_rfl) (fun b w1 hn => hn.step _) ?_
        intro b4 w24 hn4
        replace hS := Step.trans hS (Step.weak (hn4.step No))
        replace ho1 := ho1.no (hn4.step No)
        replace ho2 := ho2.no (hn4.step No)
        replace ho8 := ho8.no (hn4.step No)
        have ho9 := hn4.own
        have hzhn4 := hn4.size
        have hqhn4 := hn4.eqb
        refine VT_chain (by kernel_rfl) ?_
        intro w25 hs9
        have hzhs9 := hs9.size
        replace hS := Step.trans hS (Step.weak hs9)
        replace ho1 := ho1.no hs9
        replace ho2 := ho2.no hs9
        replace ho8 := ho8.no hs9
        replace ho9 := ho9.no hs9
        refine VTc_store (b := b4) (o := 0) (vs := [.int .i64 ((replyV o s.here).k), .int .u8 ((replyV o s.here).d), .bool ((replyV o s.here).a), .int .u32 ((replyV o s.here).tg), .int .u8 (((replyV o s.here).p) 0), .int .u8 (((replyV o s.here).p) 1), .int .u8 (((replyV o s.here).p) 2), .int .u8 (((replyV o s.here).p) 3), .int .u8 (((replyV o s.here).p) 4), .int .u8 (((replyV o s.here).p) 5), .int .u8 (((replyV o s.here).p) 6), .int .u8 (((replyV o s.here).p) 7), .int .u8 (((replyV o s.here).p) 8), .int .u8 (((replyV o s.here).p) 9), .int .u8 (((replyV o s.here).p) 10), .int .u8 (((replyV o s.here).p) 11), .int .u8 (((replyV o s.here).p) 12), .int .u8 (((replyV o s.here).p) 13), .int .u8 (((replyV o s.here).p) 14), .int .u8 (((replyV o s.here).p) 15), .int .u8 (((replyV o s.here).s) 0), .int .u8 (((replyV o s.here).s) 1), .int .u8 (((replyV o s.here).s) 2), .int .u8 (((replyV o s.here).s) 3), .int .u8 (((replyV o s.here).s) 4), .int .u8 (((replyV o s.here).s) 5), .int .u8 (((replyV o s.here).s) 6), .int .u8 (((replyV o s.here).s) 7), .int .u8 (((replyV o s.here).s) 8), .int .u8 (((replyV o s.here).s) 9), .int .u8 (((replyV o s.here).s) 10), .int .u8 (((replyV o s.here).s) 11), .int .u8 (((replyV o s.here).s) 12), .int .u8 (((replyV o s.here).s) 13), .int .u8 (((replyV o s.here).s) 14), .int .u8 (((replyV o s.here).s) 15)]) (by kernel_rfl) (by kernel_rfl) ho9 (Nat.le_of_ble_eq_true (by kernel_rfl)) (fun w1 hw => Step.mono hw.step (by intro i hi; (try simp only at hi ⊢); omega)) ?_
        intro w26 hw6
        replace hS := Step.transNew hS hw6.step (fun _ _ _ => by omega)
        replace ho1 := ho1.step hw6.step (show ¬ b1 = b4 by omega)
        replace ho2 := ho2.step hw6.step (show ¬ b2 = b4 by omega)
        replace ho8 := ho8.step hw6.step (show ¬ b = b4 by omega)
        have ho10 : Own w26 b4 #[.int .i64 ((replyV o s.here).k), .int .u8 ((replyV o s.here).d), .bool ((replyV o s.here).a), .int .u32 ((replyV o s.here).tg), .int .u8 (((replyV o s.here).p) 0), .int .u8 (((replyV o s.here).p) 1), .int .u8 (((replyV o s.here).p) 2), .int .u8 (((replyV o s.here).p) 3), .int .u8 (((replyV o s.here).p) 4), .int .u8 (((replyV o s.here).p) 5), .int .u8 (((replyV o s.here).p) 6), .int .u8 (((replyV o s.here).p) 7), .int .u8 (((replyV o s.here).p) 8), .int .u8 (((replyV o s.here).p) 9), .int .u8 (((replyV o s.here).p) 10), .int .u8 (((replyV o s.here).p) 11), .int .u8 (((replyV o s.here).p) 12), .int .u8 (((replyV o s.here).p) 13), .int .u8 (((replyV o s.here).p) 14), .int .u8 (((replyV o s.here).p) 15), .int .u8 (((replyV o s.here).s) 0), .int .u8 (((replyV o s.here).s) 1), .int .u8 (((replyV o s.here).s) 2), .int .u8 (((replyV o s.here).s) 3), .int .u8 (((replyV o s.here).s) 4), .int .u8 (((replyV o s.here).s) 5), .int .u8 (((replyV o s.here).s) 6), .int .u8 (((replyV o s.here).s) 7), .int .u8 (((replyV o s.here).s) 8), .int .u8 (((replyV o s.here).s) 9), .int .u8 (((replyV o s.here).s) 10), .int .u8 (((replyV o s.here).s) 11), .int .u8 (((replyV o s.here).s) 12), .int .u8 (((replyV o s.here).s) 13), .int .u8 (((replyV o s.here).s) 14), .int .u8 (((replyV o s.here).s) 15)] 31 := Own.cast hw6.own (by kernel_rfl)
        have hzhw6 := hw6.same
        refine VT_end ?_
        intro w27 hs10
        replace hS := Step.trans hS (Step.weak hs10)
        replace ho1 := ho1.no hs10
        replace ho2 := ho2.no hs10
        replace ho8 := ho8.no hs10
        replace ho10 := ho10.no hs10
        refine VL_keep [6, 53, 8] [(6, .pointer (some ⟨b2, 0, none⟩)), (53, .bool (replyB o s.here)), (8, .pointer (some ⟨b4, 0, none⟩))] (by kernel_rfl) ?_
        refine VL_pure 12 [6, 8, 9] [(6, .pointer (some ⟨b2, 0, none⟩)), (8, .pointer (some ⟨b4, 0, none⟩)), (9, .bool (replyB o s.here))] (by kernel_rfl) rfl ?_
        refine VL_end (by kernel_rfl) ?_
        refine VQ_next ?_
        refine VC_seq ?_
        refine VC_region ?_
        refine VL_load (d := 54) (t := 31) (a := ⟨b4, 0, none⟩) (v := .agg #[.int .i64 ((replyV o s.here).k), .int .u8 ((replyV o s.here).d), .bool ((replyV o s.here).a), .int .u32 ((replyV o s.here).tg), .int .u8 (((replyV o s.here).p) 0), .int .u8 (((replyV o s.here).p) 1), .int .u8 (((replyV o s.here).p) 2), .int .u8 (((replyV o s.here).p) 3), .int .u8 (((replyV o s.here).p) 4), .int .u8 (((replyV o s.here).p) 5), .int .u8 (((replyV o s.here).p) 6), .int .u8 (((replyV o s.here).p) 7), .int .u8 (((replyV o s.here).p) 8), .int .u8 (((replyV o s.here).p) 9), .int .u8 (((replyV o s.here).p) 10), .int .u8 (((replyV o s.here).p) 11), .int .u8 (((replyV o s.here).p) 12), .int .u8 (((replyV o s.here).p) 13), .int .u8 (((replyV o s.here).p) 14), .int .u8 (((replyV o s.here).p) 15), .int .u8 (((replyV o s.here).s) 0), .int .u8 (((replyV o s.here).s) 1), .int .u8 (((replyV o s.here).s) 2), .int .u8 (((replyV o s.here).s) 3), .int .u8 (((replyV o s.here).s) 4), .int .u8 (((replyV o s.here).s) 5), .int .u8 (((replyV o s.here).s) 6), .int .u8 (((replyV o s.here).s) 7), .int .u8 (((replyV o s.here).s) 8), .int .u8 (((replyV o s.here).s) 9), .int .u8 (((replyV o s.here).s) 10), .int .u8 (((replyV o s.here).s) 11), .int .u8 (((replyV o s.here).s) 12), .int .u8 (((replyV o s.here).s) 13), .int .u8 (((replyV o s.here).s) 14), .int .u8 (((replyV o s.here).s) 15)]) (by kernel_rfl) (by kernel_rfl) (Loads.ownL ho10 (n := 36) (by kernel_rfl) (by kernel_rfl) (by kernel_rfl)) ?_
        refine VL_pure 2 [6, 54, 55] [(6, .pointer (some ⟨b2, 0, none⟩)), (54, .agg #[.int .i64 ((replyV o s.here).k), .int .u8 ((replyV o s.here).d), .bool ((replyV o s.here).a), .int .u32 ((replyV o s.here).tg), .int .u8 (((replyV o s.here).p) 0), .int .u8 (((replyV o s.here).p) 1), .int .u8 (((replyV o s.here).p) 2), .int .u8 (((replyV o s.here).p) 3), .int .u8 (((replyV o s.here).p) 4), .int .u8 (((replyV o s.here).p) 5), .int .u8 (((replyV o s.here).p) 6), .int .u8 (((replyV o s.here).p) 7), .int .u8 (((replyV o s.here).p) 8), .int .u8 (((replyV o s.here).p) 9), .int .u8 (((replyV o s.here).p) 10), .int .u8 (((replyV o s.here).p) 11), .int .u8 (((replyV o s.here).p) 12), .int .u8 (((replyV o s.here).p) 13), .int .u8 (((replyV o s.here).p) 14), .int .u8 (((replyV o s.here).p) 15), .int .u8 (((replyV o s.here).s) 0), .int .u8 (((replyV o s.here).s) 1), .int .u8 (((replyV o s.here).s) 2), .int .u8 (((replyV o s.here).s) 3), .int .u8 (((replyV o s.here).s) 4), .int .u8 (((replyV o s.here).s) 5), .int .u8 (((replyV o s.here).s) 6), .int .u8 (((replyV o s.here).s) 7), .int .u8 (((replyV o s.here).s) 8), .int .u8 (((replyV o s.here).s) 9), .int .u8 (((replyV o s.here).s) 10), .int .u8 (((replyV o s.here).s) 11), .int .u8 (((replyV o s.here).s) 12), .int .u8 (((replyV o s.here).s) 13), .int .u8 (((replyV o s.here).s) 14), .int .u8 (((replyV o s.here).s) 15)]), (55, .bool (replyB o s.here))] (by kernel_rfl) rfl ?_
        refine VL_store (b := b2) (o := 0) (vs := [.int .i64 ((replyV o s.here).k), .int .u8 ((replyV o s.here).d), .bool ((replyV o s.here).a), .int .u32 ((replyV o s.here).tg), .int .u8 (((replyV o s.here).p) 0), .int .u8 (((replyV o s.here).p) 1), .int .u8 (((replyV o s.here).p) 2), .int .u8 (((replyV o s.here).p) 3), .int .u8 (((replyV o s.here).p) 4), .int .u8 (((replyV o s.here).p) 5), .int .u8 (((replyV o s.here).p) 6), .int .u8 (((replyV o s.here).p) 7), .int .u8 (((replyV o s.here).p) 8), .int .u8 (((replyV o s.here).p) 9), .int .u8 (((replyV o s.here).p) 10), .int .u8 (((replyV o s.here).p) 11), .int .u8 (((replyV o s.here).p) 12), .int .u8 (((replyV o s.here).p) 13), .int .u8 (((replyV o s.here).p) 14), .int .u8 (((replyV o s.here).p) 15), .int .u8 (((replyV o s.here).s) 0), .int .u8 (((replyV o s.here).s) 1), .int .u8 (((replyV o s.here).s) 2), .int .u8 (((replyV o s.here).s) 3), .int .u8 (((replyV o s.here).s) 4), .int .u8 (((replyV o s.here).s) 5), .int .u8 (((replyV o s.here).s) 6), .int .u8 (((replyV o s.here).s) 7), .int .u8 (((replyV o s.here).s) 8), .int .u8 (((replyV o s.here).s) 9), .int .u8 (((replyV o s.here).s) 10), .int .u8 (((replyV o s.here).s) 11), .int .u8 (((replyV o s.here).s) 12), .int .u8 (((replyV o s.here).s) 13), .int .u8 (((replyV o s.here).s) 14), .int .u8 (((replyV o s.here).s) 15)]) (by kernel_rfl) (by kernel_rfl) ho2 (Nat.le_of_ble_eq_true (by kernel_rfl)) ?_
        intro w28 hw7
        replace hS := Step.transNew hS hw7.step (fun _ _ _ => by omega)
        replace ho1 := ho1.step hw7.step (show ¬ b1 = b2 by omega)
        replace ho8 := ho8.step hw7.step (show ¬ b = b2 by omega)
        replace ho10 := ho10.step hw7.step (show ¬ b4 = b2 by omega)
        have ho11 : Own w28 b2 #[.int .i64 ((replyV o s.here).k), .int .u8 ((replyV o s.here).d), .bool ((replyV o s.here).a), .int .u32 ((replyV o s.here).tg), .int .u8 (((replyV o s.here).p) 0), .int .u8 (((replyV o s.here).p) 1), .int .u8 (((replyV o s.here).p) 2), .int .u8 (((replyV o s.here).p) 3), .int .u8 (((replyV o s.here).p) 4), .int .u8 (((replyV o s.here).p) 5), .int .u8 (((replyV o s.here).p) 6), .int .u8 (((replyV o s.here).p) 7), .int .u8 (((replyV o s.here).p) 8), .int .u8 (((replyV o s.here).p) 9), .int .u8 (((replyV o s.here).p) 10), .int .u8 (((replyV o s.here).p) 11), .int .u8 (((replyV o s.here).p) 12), .int .u8 (((replyV o s.here).p) 13), .int .u8 (((replyV o s.here).p) 14), .int .u8 (((replyV o s.here).p) 15), .int .u8 (((replyV o s.here).s) 0), .int .u8 (((replyV o s.here).s) 1), .int .u8 (((replyV o s.here).s) 2), .int .u8 (((replyV o s.here).s) 3), .int .u8 (((replyV o s.here).s) 4), .int .u8 (((replyV o s.here).s) 5), .int .u8 (((replyV o s.here).s) 6), .int .u8 (((replyV o s.here).s) 7), .int .u8 (((replyV o s.here).s) 8), .int .u8 (((replyV o s.here).s) 9), .int .u8 (((replyV o s.here).s) 10), .int .u8 (((replyV o s.here).s) 11), .int .u8 (((replyV o s.here).s) 12), .int .u8 (((replyV o s.here).s) 13), .int .u8 (((replyV o s.here).s) 14), .int .u8 (((replyV o s.here).s) 15)] 31 := Own.cast hw7.own (by kernel_rfl)
        have hzhw7 := hw7.same
        refine VL_pure 4 [6, 7] [(6, .pointer (some ⟨b2, 0, none⟩)), (7, .bool (replyB o s.here))] (by kernel_rfl) rfl ?_
        refine VL_end (by kernel_rfl) ?_
        refine VQ_next ?_
        refine VC_ret ?_
        refine VQ_retC1T1 (T := 31) (.agg #[.int .i64 ((replyV o s.here).k), .int .u8 ((replyV o s.here).d), .bool ((replyV o s.here).a), .int .u32 ((replyV o s.here).tg), .int .u8 (((replyV o s.here).p) 0), .int .u8 (((replyV o s.here).p) 1), .int .u8 (((replyV o s.here).p) 2), .int .u8 (((replyV o s.here).p) 3), .int .u8 (((replyV o s.here).p) 4), .int .u8 (((replyV o s.here).p) 5), .int .u8 (((replyV o s.here).p) 6), .int .u8 (((replyV o s.here).p) 7), .int .u8 (((replyV o s.here).p) 8), .int .u8 (((replyV o s.here).p) 9), .int .u8 (((replyV o s.here).p) 10), .int .u8 (((replyV o s.here).p) 11), .int .u8 (((replyV o s.here).p) 12), .int .u8 (((replyV o s.here).p) 13), .int .u8 (((replyV o s.here).p) 14), .int .u8 (((replyV o s.here).p) 15), .int .u8 (((replyV o s.here).s) 0), .int .u8 (((replyV o s.here).s) 1), .int .u8 (((replyV o s.here).s) 2), .int .u8 (((replyV o s.here).s) 3), .int .u8 (((replyV o s.here).s) 4), .int .u8 (((replyV o s.here).s) 5), .int .u8 (((replyV o s.here).s) 6), .int .u8 (((replyV o s.here).s) 7), .int .u8 (((replyV o s.here).s) 8), .int .u8 (((replyV o s.here).s) 9), .int .u8 (((replyV o s.here).s) 10), .int .u8 (((replyV o s.here).s) 11), .int .u8 (((replyV o s.here).s) 12), .int .u8 (((replyV o s.here).s) 13), .int .u8 (((replyV o s.here).s) 14), .int .u8 (((replyV o s.here).s) 15)]) (.bool (replyB o s.here)) (.inr rfl) rfl rfl rfl (Loads.ownL ho11 (n := 36) (by kernel_rfl) (by kernel_rfl) (by kernel_rfl)) ?_
        obtain ⟨e1, e2⟩ := got_yes (s := s) h1
        exact ⟨by rw [e1, e2]; rfl, Own.cast ho8 (rgotA_1 h1 (by assumption) (by assumption) hw), hS⟩
      · refine VC_seq ?_
        refine VC_region ?_
        refine VL_pure 2 [0, 5, 6, 40] [(0, .pointer (some ⟨b, 0, none⟩)), (5, .pointer (some ⟨b1, 0, none⟩)), (6, .pointer (some ⟨b2, 0, none⟩)), (40, .bool (o.k == 4))] (by kernel_rfl) rfl ?_
        refine VL_end (by kernel_rfl) ?_
        refine VQ_next ?_
        refine VC_eq o.k 4 (by kernel_rfl) (fun h4 => ?_) (fun h4 => ?_)
        · refine VC_region ?_
          refine VL_pure 3 [0, 5, 6, 44] [(0, .pointer (some ⟨b, 0, none⟩)), (5, .pointer (some ⟨b1, 0, none⟩)), (6, .pointer (some ⟨b2, 0, none⟩)), (44, .pointer (some ⟨b, 18, none⟩))] (by kernel_rfl) rfl ?_
          refine VL_store (b := b) (o := 18) (vs := [.int .i64 0]) (by kernel_rfl) (by kernel_rfl) ht (Nat.le_of_ble_eq_true (by kernel_rfl)) ?_
          intro w29 hw8
          replace hS := Step.trans hS (Step.mono hw8.step (by intro i hi; first | exact hi | simp_all))
          replace ho1 := ho1.step hw8.step (show ¬ b1 = b by omega)
          replace ho2 := ho2.step hw8.step (show ¬ b2 = b by omega)
          have ho12 : Own w29 b #[.int .u8 (s.here 0), .int .u8 (s.here 1), .int .u8 (s.here 2), .int .u8 (s.here 3), .int .u8 (s.here 4), .int .u8 (s.here 5), .int .u8 (s.here 6), .int .u8 (s.here 7), .int .u8 (s.here 8), .int .u8 (s.here 9), .int .u8 (s.here 10), .int .u8 (s.here 11), .int .u8 (s.here 12), .int .u8 (s.here 13), .int .u8 (s.here 14), .int .u8 (s.here 15), .int .i64 s.wt, .bool s.dn, .int .i64 0, .int .i64 s.bh] 41 := Own.cast hw8.own (by kernel_rfl)
          have hzhw8 := hw8.same
          refine VL_end (by kernel_rfl) ?_
          refine VQ_block_normal ?_
          refine VQ_next ?_
          refine VC_seq ?_
          have hs11 := drew_step w29
          have hs11z : w29.heap.size = w29.drew.heap.size := rfl
          refine VC_text [[], [], [1], [1, 2], [1, 2, 3], [0, 1, 2, 3, 4], [0, 1, 2, 3, 4, 5], [0, 1, 2, 3, 4, 5, 6], [0, 1, 2, 3, 4, 5, 6], [], [0, 1, 2, 3, 4, 5, 6, 7, 9], [0, 1, 2, 3, 4, 5, 6, 7, 8, 9, 10]] 11 (fun x y => Step (fun k => w29.heap.size ≤ k) x y) [9, 10] [0, 1, 2, 3, 4, 5, 6, 7, 8, 9, 10] (by kernel_rfl) (by kernel_rfl) (by kernel_rfl) (by kernel_rfl) (fun x => Step.refl _ x) (fun h k => Step.trans h k) Step.weak ?_
          have hzs8 := hS.size
          have hzl19 := ho1.lt
          have hzl20 := ho2.lt
          have hzl21 := ho12.lt
          generalize w29.drew = w30 at hs11 hs11z ⊢
          replace hS := Step.trans hS (Step.weak hs11)
          replace ho1 := ho1.no hs11
          replace ho2 := ho2.no hs11
          replace ho12 := ho12.no hs11
          refine VT_load (d := 46) (t := 31) (a := ⟨b1, 0, none⟩) (v := .agg #[.int .i64 o.k, .int .u8 o.d, .bool o.a, .int .u32 o.tg, .int .u8 (o.p 0), .int .u8 (o.p 1), .int .u8 (o.p 2), .int .u8 (o.p 3), .int .u8 (o.p 4), .int .u8 (o.p 5), .int .u8 (o.p 6), .int .u8 (o.p 7), .int .u8 (o.p 8), .int .u8 (o.p 9), .int .u8 (o.p 10), .int .u8 (o.p 11), .int .u8 (o.p 12), .int .u8 (o.p 13), .int .u8 (o.p 14), .int .u8 (o.p 15), .int .u8 (o.s 0), .int .u8 (o.s 1), .int .u8 (o.s 2), .int .u8 (o.s 3), .int .u8 (o.s 4), .int .u8 (o.s 5), .int .u8 (o.s 6), .int .u8 (o.s 7), .int .u8 (o.s 8), .int .u8 (o.s 9), .int .u8 (o.s 10), .int .u8 (o.s 11), .int .u8 (o.s 12), .int .u8 (o.s 13), .int .u8 (o.s 14), .int .u8 (o.s 15)]) (by kernel_rfl) (by kernel_rfl) ?_ ?_
          · intro w31 hr7
            replace hS := Step.transNew hS hr7 (fun i hi hG => by (try simp only at hG); show _ = _; omega)
            replace ho1 := ho1.step hr7 (by (try simp only); omega)
            replace ho2 := ho2.step hr7 (by (try simp only); omega)
            replace ho12 := ho12.step hr7 (by (try simp only); omega)
            exact (Loads.ownL ho1 (n := 36) (by kernel_rfl) (by kernel_rfl) (by kernel_rfl))
          refine VT_pures 3 (kn' := [(3, .pointer (some ⟨b, 0, none⟩)), (2, .pointer (some ⟨b, 0, none⟩)), (1, .pointer (some ⟨b, 0, none⟩)), (0, .agg #[.int .i64 o.k, .int .u8 o.d, .bool o.a, .int .u32 o.tg, .int .u8 (o.p 0), .int .u8 (o.p 1), .int .u8 (o.p 2), .int .u8 (o.p 3), .int .u8 (o.p 4), .int .u8 (o.p 5), .int .u8 (o.p 6), .int .u8 (o.p 7), .int .u8 (o.p 8), .int .u8 (o.p 9), .int .u8 (o.p 10), .int .u8 (o.p 11), .int .u8 (o.p 12), .int .u8 (o.p 13), .int .u8 (o.p 14), .int .u8 (o.p 15), .int .u8 (o.s 0), .int .u8 (o.s 1), .int .u8 (o.s 2), .int .u8 (o.s 3), .int .u8 (o.s 4), .int .u8 (o.s 5), .int .u8 (o.s 6), .int .u8 (o.s 7), .int .u8 (o.s 8), .int .u8 (o.s 9), .int .u8 (o.s 10), .int .u8 (o.s 11), .int .u8 (o.s 12), .int .u8 (o.s 13), .int .u8 (o.s 14), .int .u8 (o.s 15)])]) (by kernel_rfl) ?_
          refine VT_load (d := 50) (t := 22) (a := ⟨b, 0, none⟩) (v := .agg #[.int .u8 (s.here 0), .int .u8 (s.here 1), .int .u8 (s.here 2), .int .u8 (s.here 3), .int .u8 (s.here 4), .int .u8 (s.here 5), .int .u8 (s.here 6), .int .u8 (s.here 7), .int .u8 (s.here 8), .int .u8 (s.here 9), .int .u8 (s.here 10), .int .u8 (s.here 11), .int .u8 (s.here 12), .int .u8 (s.here 13), .int .u8 (s.here 14), .int .u8 (s.here 15)]) (by kernel_rfl) (by kernel_rfl) ?_ ?_
          · intro w32 hr8
            replace hS := Step.transNew hS hr8 (fun i hi hG => by (try simp only at hG); show _ = _; omega)
            replace ho1 := ho1.step hr8 (by (try simp only); omega)
            replace ho2 := ho2.step hr8 (by (try simp only); omega)
            replace ho12 := ho12.step hr8 (by (try simp only); omega)
            exact (Loads.ownL ho12 (n := 16) (by kernel_rfl) (by kernel_rfl) (by kernel_rfl))
          refine VT_fcall (d := 51) (f := 29) (args := #[.agg (omL o).toArray, .agg (pl s.here).toArray]) (v := .tuple #[.agg (omL (replyV o s.here)).toArray, .bool (replyB o s.here)]) (by kernel_rfl) (by kernel_rfl) (by kernel_rfl) Try.call29 ?_ ?_
          · intro w33 hr9
            replace hS := Step.transNew hS hr9 (fun i hi hG => by (try simp only at hG); show _ = _; omega)
            replace ho1 := ho1.step hr9 (by (try simp only); omega)
            replace ho2 := ho2.step hr9 (by (try simp only); omega)
            replace ho12 := ho12.step hr9 (by (try simp only); omega)
            exact reply14_any o s.here _
          refine VT_pures 3 (kn' := [(8, .bool (replyB o s.here)), (7, .agg #[.int .i64 ((replyV o s.here).k), .int .u8 ((replyV o s.here).d), .bool ((replyV o s.here).a), .int .u32 ((replyV o s.here).tg), .int .u8 (((replyV o s.here).p) 0), .int .u8 (((replyV o s.here).p) 1), .int .u8 (((replyV o s.here).p) 2), .int .u8 (((replyV o s.here).p) 3), .int .u8 (((replyV o s.here).p) 4), .int .u8 (((replyV o s.here).p) 5), .int .u8 (((replyV o s.here).p) 6), .int .u8 (((replyV o s.here).p) 7), .int .u8 (((replyV o s.here).p) 8), .int .u8 (((replyV o s.here).p) 9), .int .u8 (((replyV o s.here).p) 10), .int .u8 (((replyV o s.here).p) 11), .int .u8 (((replyV o s.here).p) 12), .int .u8 (((replyV o s.here).p) 13), .int .u8 (((replyV o s.here).p) 14), .int .u8 (((replyV o s.here).p) 15), .int .u8 (((replyV o s.here).s) 0), .int .u8 (((replyV o s.here).s) 1), .int .u8 (((replyV o s.here).s) 2), .int .u8 (((replyV o s.here).s) 3), .int .u8 (((replyV o s.here).s) 4), .int .u8 (((replyV o s.here).s) 5), .int .u8 (((replyV o s.here).s) 6), .int .u8 (((replyV o s.here).s) 7), .int .u8 (((replyV o s.here).s) 8), .int .u8 (((replyV o s.here).s) 9), .int .u8 (((replyV o s.here).s) 10), .int .u8 (((replyV o s.here).s) 11), .int .u8 (((replyV o s.here).s) 12), .int .u8 (((replyV o s.here).s) 13), .int .u8 (((replyV o s.here).s) 14), .int .u8 (((replyV o s.here).s) 15)]), (6, .tuple #[.agg #[.int .i64 ((replyV o s.here).k), .int .u8 ((replyV o s.here).d), .bool ((replyV o s.here).a), .int .u32 ((replyV o s.here).tg), .int .u8 (((replyV o s.here).p) 0), .int .u8 (((replyV o s.here).p) 1), .int .u8 (((replyV o s.here).p) 2), .int .u8 (((replyV o s.here).p) 3), .int .u8 (((replyV o s.here).p) 4), .int .u8 (((replyV o s.here).p) 5), .int .u8 (((replyV o s.here).p) 6), .int .u8 (((replyV o s.here).p) 7), .int .u8 (((replyV o s.here).p) 8), .int .u8 (((replyV o s.here).p) 9), .int .u8 (((replyV o s.here).p) 10), .int .u8 (((replyV o s.here).p) 11), .int .u8 (((replyV o s.here).p) 12), .int .u8 (((replyV o s.here).p) 13), .int .u8 (((replyV o s.here).p) 14), .int .u8 (((replyV o s.here).p) 15), .int .u8 (((replyV o s.here).s) 0), .int .u8 (((replyV o s.here).s) 1), .int .u8 (((replyV o s.here).s) 2), .int .u8 (((replyV o s.here).s) 3), .int .u8 (((replyV o s.here).s) 4), .int .u8 (((replyV o s.here).s) 5), .int .u8 (((replyV o s.here).s) 6), .int .u8 (((replyV o s.here).s) 7), .int .u8 (((replyV o s.here).s) 8), .int .u8 (((replyV o s.here).s) 9), .int .u8 (((replyV o s.here).s) 10), .int .u8 (((replyV o s.here).s) 11), .int .u8 (((replyV o s.here).s) 12), .int .u8 (((replyV o s.here).s) 13), .int .u8 (((replyV o s.here).s) 14), .int .u8 (((replyV o s.here).s) 15)], .bool (replyB o s.here)]), (5, .tuple #[.agg #[.int .i64 ((replyV o s.here).k), .int .u8 ((replyV o s.here).d), .bool ((replyV o s.here).a), .int .u32 ((replyV o s.here).tg), .int .u8 (((replyV o s.here).p) 0), .int .u8 (((replyV o s.here).p) 1), .int .u8 (((replyV o s.here).p) 2), .int .u8 (((replyV o s.here).p) 3), .int .u8 (((replyV o s.here).p) 4), .int .u8 (((replyV o s.here).p) 5), .int .u8 (((replyV o s.here).p) 6), .int .u8 (((replyV o s.here).p) 7), .int .u8 (((replyV o s.here).p) 8), .int .u8 (((replyV o s.here).p) 9), .int .u8 (((replyV o s.here).p) 10), .int .u8 (((replyV o s.here).p) 11), .int .u8 (((replyV o s.here).p) 12), .int .u8 (((replyV o s.here).p) 13), .int .u8 (((replyV o s.here).p) 14), .int .u8 (((replyV o s.here).p) 15), .int .u8 (((replyV o s.here).s) 0), .int .u8 (((replyV o s.here).s) 1), .int .u8 (((replyV o s.here).s) 2), .int .u8 (((replyV o s.here).s) 3), .int .u8 (((replyV o s.here).s) 4), .int .u8 (((replyV o s.here).s) 5), .int .u8 (((replyV o s.here).s) 6), .int .u8 (((replyV o s.here).s) 7), .int .u8 (((replyV o s.here).s) 8), .int .u8 (((replyV o s.here).s) 9), .int .u8 (((replyV o s.here).s) 10), .int .u8 (((replyV o s.here).s) 11), .int .u8 (((replyV o s.here).s) 12), .int .u8 (((replyV o s.here).s) 13), .int .u8 (((replyV o s.here).s) 14), .int .u8 (((replyV o s.here).s) 15)], .bool (replyB o s.here)]), (4, .agg #[.int .u8 (s.here 0), .int .u8 (s.here 1), .int .u8 (s.here 2), .int .u8 (s.here 3), .int .u8 (s.here 4), .int .u8 (s.here 5), .int .u8 (s.here 6), .int .u8 (s.here 7), .int .u8 (s.here 8), .int .u8 (s.here 9), .int .u8 (s.here 10), .int .u8 (s.here 11), .int .u8 (s.here 12), .int .u8 (s.here 13), .int .u8 (s.here 14), .int .u8 (s.here 15)]), (3, .pointer (some ⟨b, 0, none⟩)), (2, .pointer (some ⟨b, 0, none⟩)), (1, .pointer (some ⟨b, 0, none⟩)), (0, .agg #[.int .i64 o.k, .int .u8 o.d, .bool o.a, .int .u32 o.tg, .int .u8 (o.p 0), .int .u8 (o.p 1), .int .u8 (o.p 2), .int .u8 (o.p 3), .int .u8 (o.p 4), .int .u8 (o.p 5), .int .u8 (o.p 6), .int .u8 (o.p 7), .int .u8 (o.p 8), .int .u8 (o.p 9), .int .u8 (o.p 10), .int .u8 (o.p 11), .int .u8 (o.p 12), .int .u8 (o.p 13), .int .u8 (o.p 14), .int .u8 (o.p 15), .int .u8 (o.s 0), .int .u8 (o.s 1), .int .u8 (o.s 2), .int .u8 (o.s 3), .int .u8 (o.s 4), .int .u8 (o.s 5), .int .u8 (o.s 6), .int .u8 (o.s 7), .int .u8 (o.s 8), .int .u8 (o.s 9), .int .u8 (o.s 10), .int .u8 (o.s 11), .int .u8 (o.s 12), .int .u8 (o.s 13), .int .u8 (o.s 14), .int .u8 (o.s 15)])]) (by kernel_rfl) ?_
          refine VT_chain (by kernel_rfl) ?_
          intro w34 hs12
          have hzhs12 := hs12.size
          replace hS := Step.trans hS (Step.weak hs12)
          replace ho1 := ho1.no hs12
          replace ho2 := ho2.no hs12
          replace ho12 := ho12.no hs12
          have hzs9 := hS.size
          have hzl22 := ho1.lt
          have hzl23 := ho2.lt
          have hzl24 := ho12.lt
          refine VTc_box (d := 8) (t := 31) (c := #[.int .i64 0, .int .u8 0, .bool false, .int .u32 0, .int .u8 0, .int .u8 0, .int .u8 0, .int .u8 0, .int .u8 0, .int .u8 0, .int .u8 0, .int .u8 0, .int .u8 0, .int .u8 0, .int .u8 0, .int .u8 0, .int .u8 0, .int .u8 0, .int .u8 0, .int .u8 0, .int .u8 0, .int .u8 0, .int .u8 0, .int .u8 0, .int .u8 0, .int .u8 0, .int .u8 0, .int .u8 0, .int .u8 0, .int .u8 0, .int .u8 0, .int .u8 0, .int .u8 0, .int .u8 0, .int .u8 0, .int .u8 0]) (by kernel_rfl) (by kernel_rfl) (fun b w1 hn => hn.step _) ?_
          intro b5 w35 hn5
          replace hS := Step.trans hS (Step.weak (hn5.step No))
          replace ho1 := ho1.no (hn5.step No)
          replace ho2 := ho2.no (hn5.step No)
          replace ho12 := ho12.no (hn5.step No)
          have ho13 := hn5.own
          have hzhn5 := hn5.size
          have hqhn5 := hn5.eqb
          refine VT_chain (by kernel_rfl) ?_
          intro w36 hs13
          have hzhs13 := hs13.size
          replace hS := Step.trans hS (Step.weak hs13)
          replace ho1 := ho1.no hs13
          replace ho2 := ho2.no hs13
          replace ho12 := ho12.no hs13
          replace ho13 := ho13.no hs13
          refine VTc_store (b := b5) (o := 0) (vs := [.int .i64 ((replyV o s.here).k), .int .u8 ((replyV o s.here).d), .bool ((replyV o s.here).a), .int .u32 ((replyV o s.here).tg), .int .u8 (((replyV o s.here).p) 0), .int .u8 (((replyV o s.here).p) 1), .int .u8 (((replyV o s.here).p) 2), .int .u8 (((replyV o s.here).p) 3), .int .u8 (((replyV o s.here).p) 4), .int .u8 (((replyV o s.here).p) 5), .int .u8 (((replyV o s.here).p) 6), .int .u8 (((replyV o s.here).p) 7), .int .u8 (((replyV o s.here).p) 8), .int .u8 (((replyV o s.here).p) 9), .int .u8 (((replyV o s.here).p) 10), .int .u8 (((replyV o s.here).p) 11), .int .u8 (((replyV o s.here).p) 12), .int .u8 (((replyV o s.here).p) 13), .int .u8 (((replyV o s.here).p) 14), .int .u8 (((replyV o s.here).p) 15), .int .u8 (((replyV o s.here).s) 0), .int .u8 (((replyV o s.here).s) 1), .int .u8 (((replyV o s.here).s) 2), .int .u8 (((replyV o s.here).s) 3), .int .u8 (((replyV o s.here).s) 4), .int .u8 (((replyV o s.here).s) 5), .int .u8 (((replyV o s.here).s) 6), .int .u8 (((replyV o s.here).s) 7), .int .u8 (((replyV o s.here).s) 8), .int .u8 (((replyV o s.here).s) 9), .int .u8 (((replyV o s.here).s) 10), .int .u8 (((replyV o s.here).s) 11), .int .u8 (((replyV o s.here).s) 12), .int .u8 (((replyV o s.here).s) 13), .int .u8 (((replyV o s.here).s) 14), .int .u8 (((replyV o s.here).s) 15)]) (by kernel_rfl) (by kernel_rfl) ho13 (Nat.le_of_ble_eq_true (by kernel_rfl)) (fun w1 hw => Step.mono hw.step (by intro i hi; (try simp only at hi ⊢); omega)) ?_
          intro w37 hw9
          replace hS := Step.transNew hS hw9.step (fun _ _ _ => by omega)
          replace ho1 := ho1.step hw9.step (show ¬ b1 = b5 by omega)
          replace ho2 := ho2.step hw9.step (show ¬ b2 = b5 by omega)
          replace ho12 := ho12.step hw9.step (show ¬ b = b5 by omega)
          have ho14 : Own w37 b5 #[.int .i64 ((replyV o s.here).k), .int .u8 ((replyV o s.here).d), .bool ((replyV o s.here).a), .int .u32 ((replyV o s.here).tg), .int .u8 (((replyV o s.here).p) 0), .int .u8 (((replyV o s.here).p) 1), .int .u8 (((replyV o s.here).p) 2), .int .u8 (((replyV o s.here).p) 3), .int .u8 (((replyV o s.here).p) 4), .int .u8 (((replyV o s.here).p) 5), .int .u8 (((replyV o s.here).p) 6), .int .u8 (((replyV o s.here).p) 7), .int .u8 (((replyV o s.here).p) 8), .int .u8 (((replyV o s.here).p) 9), .int .u8 (((replyV o s.here).p) 10), .int .u8 (((replyV o s.here).p) 11), .int .u8 (((replyV o s.here).p) 12), .int .u8 (((replyV o s.here).p) 13), .int .u8 (((replyV o s.here).p) 14), .int .u8 (((replyV o s.here).p) 15), .int .u8 (((replyV o s.here).s) 0), .int .u8 (((replyV o s.here).s) 1), .int .u8 (((replyV o s.here).s) 2), .int .u8 (((replyV o s.here).s) 3), .int .u8 (((replyV o s.here).s) 4), .int .u8 (((replyV o s.here).s) 5), .int .u8 (((replyV o s.here).s) 6), .int .u8 (((replyV o s.here).s) 7), .int .u8 (((replyV o s.here).s) 8), .int .u8 (((replyV o s.here).s) 9), .int .u8 (((replyV o s.here).s) 10), .int .u8 (((replyV o s.here).s) 11), .int .u8 (((replyV o s.here).s) 12), .int .u8 (((replyV o s.here).s) 13), .int .u8 (((replyV o s.here).s) 14), .int .u8 (((replyV o s.here).s) 15)] 31 := Own.cast hw9.own (by kernel_rfl)
          have hzhw9 := hw9.same
          refine VT_end ?_
          intro w38 hs14
          replace hS := Step.trans hS (Step.weak hs14)
          replace ho1 := ho1.no hs14
          replace ho2 := ho2.no hs14
          replace ho12 := ho12.no hs14
          replace ho14 := ho14.no hs14
          refine VL_keep [6, 53, 8] [(6, .pointer (some ⟨b2, 0, none⟩)), (53, .bool (replyB o s.here)), (8, .pointer (some ⟨b5, 0, none⟩))] (by kernel_rfl) ?_
          refine VL_pure 12 [6, 8, 9] [(6, .pointer (some ⟨b2, 0, none⟩)), (8, .pointer (some ⟨b5, 0, none⟩)), (9, .bool (replyB o s.here))] (by kernel_rfl) rfl ?_
          refine VL_end (by kernel_rfl) ?_
          refine VQ_next ?_
          refine VC_seq ?_
          refine VC_region ?_
          refine VL_load (d := 54) (t := 31) (a := ⟨b5, 0, none⟩) (v := .agg #[.int .i64 ((replyV o s.here).k), .int .u8 ((replyV o s.here).d), .bool ((replyV o s.here).a), .int .u32 ((replyV o s.here).tg), .int .u8 (((replyV o s.here).p) 0), .int .u8 (((replyV o s.here).p) 1), .int .u8 (((replyV o s.here).p) 2), .int .u8 (((replyV o s.here).p) 3), .int .u8 (((replyV o s.here).p) 4), .int .u8 (((replyV o s.here).p) 5), .int .u8 (((replyV o s.here).p) 6), .int .u8 (((replyV o s.here).p) 7), .int .u8 (((replyV o s.here).p) 8), .int .u8 (((replyV o s.here).p) 9), .int .u8 (((replyV o s.here).p) 10), .int .u8 (((replyV o s.here).p) 11), .int .u8 (((replyV o s.here).p) 12), .int .u8 (((replyV o s.here).p) 13), .int .u8 (((replyV o s.here).p) 14), .int .u8 (((replyV o s.here).p) 15), .int .u8 (((replyV o s.here).s) 0), .int .u8 (((replyV o s.here).s) 1), .int .u8 (((replyV o s.here).s) 2), .int .u8 (((replyV o s.here).s) 3), .int .u8 (((replyV o s.here).s) 4), .int .u8 (((replyV o s.here).s) 5), .int .u8 (((replyV o s.here).s) 6), .int .u8 (((replyV o s.here).s) 7), .int .u8 (((replyV o s.here).s) 8), .int .u8 (((replyV o s.here).s) 9), .int .u8 (((replyV o s.here).s) 10), .int .u8 (((replyV o s.here).s) 11), .int .u8 (((replyV o s.here).s) 12), .int .u8 (((replyV o s.here).s) 13), .int .u8 (((replyV o s.here).s) 14), .int .u8 (((replyV o s.here).s) 15)]) (by kernel_rfl) (by kernel_rfl) (Loads.ownL ho14 (n := 36) (by kernel_rfl) (by kernel_rfl) (by kernel_rfl)) ?_
          refine VL_pure 2 [6, 54, 55] [(6, .pointer (some ⟨b2, 0, none⟩)), (54, .agg #[.int .i64 ((replyV o s.here).k), .int .u8 ((replyV o s.here).d), .bool ((replyV o s.here).a), .int .u32 ((replyV o s.here).tg), .int .u8 (((replyV o s.here).p) 0), .int .u8 (((replyV o s.here).p) 1), .int .u8 (((replyV o s.here).p) 2), .int .u8 (((replyV o s.here).p) 3), .int .u8 (((replyV o s.here).p) 4), .int .u8 (((replyV o s.here).p) 5), .int .u8 (((replyV o s.here).p) 6), .int .u8 (((replyV o s.here).p) 7), .int .u8 (((replyV o s.here).p) 8), .int .u8 (((replyV o s.here).p) 9), .int .u8 (((replyV o s.here).p) 10), .int .u8 (((replyV o s.here).p) 11), .int .u8 (((replyV o s.here).p) 12), .int .u8 (((replyV o s.here).p) 13), .int .u8 (((replyV o s.here).p) 14), .int .u8 (((replyV o s.here).p) 15), .int .u8 (((replyV o s.here).s) 0), .int .u8 (((replyV o s.here).s) 1), .int .u8 (((replyV o s.here).s) 2), .int .u8 (((replyV o s.here).s) 3), .int .u8 (((replyV o s.here).s) 4), .int .u8 (((replyV o s.here).s) 5), .int .u8 (((replyV o s.here).s) 6), .int .u8 (((replyV o s.here).s) 7), .int .u8 (((replyV o s.here).s) 8), .int .u8 (((replyV o s.here).s) 9), .int .u8 (((replyV o s.here).s) 10), .int .u8 (((replyV o s.here).s) 11), .int .u8 (((replyV o s.here).s) 12), .int .u8 (((replyV o s.here).s) 13), .int .u8 (((replyV o s.here).s) 14), .int .u8 (((replyV o s.here).s) 15)]), (55, .bool (replyB o s.here))] (by kernel_rfl) rfl ?_
          refine VL_store (b := b2) (o := 0) (vs := [.int .i64 ((replyV o s.here).k), .int .u8 ((replyV o s.here).d), .bool ((replyV o s.here).a), .int .u32 ((replyV o s.here).tg), .int .u8 (((replyV o s.here).p) 0), .int .u8 (((replyV o s.here).p) 1), .int .u8 (((replyV o s.here).p) 2), .int .u8 (((replyV o s.here).p) 3), .int .u8 (((replyV o s.here).p) 4), .int .u8 (((replyV o s.here).p) 5), .int .u8 (((replyV o s.here).p) 6), .int .u8 (((replyV o s.here).p) 7), .int .u8 (((replyV o s.here).p) 8), .int .u8 (((replyV o s.here).p) 9), .int .u8 (((replyV o s.here).p) 10), .int .u8 (((replyV o s.here).p) 11), .int .u8 (((replyV o s.here).p) 12), .int .u8 (((replyV o s.here).p) 13), .int .u8 (((replyV o s.here).p) 14), .int .u8 (((replyV o s.here).p) 15), .int .u8 (((replyV o s.here).s) 0), .int .u8 (((replyV o s.here).s) 1), .int .u8 (((replyV o s.here).s) 2), .int .u8 (((replyV o s.here).s) 3), .int .u8 (((replyV o s.here).s) 4), .int .u8 (((replyV o s.here).s) 5), .int .u8 (((replyV o s.here).s) 6), .int .u8 (((replyV o s.here).s) 7), .int .u8 (((replyV o s.here).s) 8), .int .u8 (((replyV o s.here).s) 9), .int .u8 (((replyV o s.here).s) 10), .int .u8 (((replyV o s.here).s) 11), .int .u8 (((replyV o s.here).s) 12), .int .u8 (((replyV o s.here).s) 13), .int .u8 (((replyV o s.here).s) 14), .int .u8 (((replyV o s.here).s) 15)]) (by kernel_rfl) (by kernel_rfl) ho2 (Nat.le_of_ble_eq_true (by kernel_rfl)) ?_
          intro w39 hw10
          replace hS := Step.transNew hS hw10.step (fun _ _ _ => by omega)
          replace ho1 := ho1.step hw10.step (show ¬ b1 = b2 by omega)
          replace ho12 := ho12.step hw10.step (show ¬ b = b2 by omega)
          replace ho14 := ho14.step hw10.step (show ¬ b5 = b2 by omega)
          have ho15 : Own w39 b2 #[.int .i64 ((replyV o s.here).k), .int .u8 ((replyV o s.here).d), .bool ((replyV o s.here).a), .int .u32 ((replyV o s.here).tg), .int .u8 (((replyV o s.here).p) 0), .int .u8 (((replyV o s.here).p) 1), .int .u8 (((replyV o s.here).p) 2), .int .u8 (((replyV o s.here).p) 3), .int .u8 (((replyV o s.here).p) 4), .int .u8 (((replyV o s.here).p) 5), .int .u8 (((replyV o s.here).p) 6), .int .u8 (((replyV o s.here).p) 7), .int .u8 (((replyV o s.here).p) 8), .int .u8 (((replyV o s.here).p) 9), .int .u8 (((replyV o s.here).p) 10), .int .u8 (((replyV o s.here).p) 11), .int .u8 (((replyV o s.here).p) 12), .int .u8 (((replyV o s.here).p) 13), .int .u8 (((replyV o s.here).p) 14), .int .u8 (((replyV o s.here).p) 15), .int .u8 (((replyV o s.here).s) 0), .int .u8 (((replyV o s.here).s) 1), .int .u8 (((replyV o s.here).s) 2), .int .u8 (((replyV o s.here).s) 3), .int .u8 (((replyV o s.here).s) 4), .int .u8 (((replyV o s.here).s) 5), .int .u8 (((replyV o s.here).s) 6), .int .u8 (((replyV o s.here).s) 7), .int .u8 (((replyV o s.here).s) 8), .int .u8 (((replyV o s.here).s) 9), .int .u8 (((replyV o s.here).s) 10), .int .u8 (((replyV o s.here).s) 11), .int .u8 (((replyV o s.here).s) 12), .int .u8 (((replyV o s.here).s) 13), .int .u8 (((replyV o s.here).s) 14), .int .u8 (((replyV o s.here).s) 15)] 31 := Own.cast hw10.own (by kernel_rfl)
          have hzhw10 := hw10.same
          refine VL_pure 4 [6, 7] [(6, .pointer (some ⟨b2, 0, none⟩)), (7, .bool (replyB o s.here))] (by kernel_rfl) rfl ?_
          refine VL_end (by kernel_rfl) ?_
          refine VQ_next ?_
          refine VC_ret ?_
          refine VQ_retC1T1 (T := 31) (.agg #[.int .i64 ((replyV o s.here).k), .int .u8 ((replyV o s.here).d), .bool ((replyV o s.here).a), .int .u32 ((replyV o s.here).tg), .int .u8 (((replyV o s.here).p) 0), .int .u8 (((replyV o s.here).p) 1), .int .u8 (((replyV o s.here).p) 2), .int .u8 (((replyV o s.here).p) 3), .int .u8 (((replyV o s.here).p) 4), .int .u8 (((replyV o s.here).p) 5), .int .u8 (((replyV o s.here).p) 6), .int .u8 (((replyV o s.here).p) 7), .int .u8 (((replyV o s.here).p) 8), .int .u8 (((replyV o s.here).p) 9), .int .u8 (((replyV o s.here).p) 10), .int .u8 (((replyV o s.here).p) 11), .int .u8 (((replyV o s.here).p) 12), .int .u8 (((replyV o s.here).p) 13), .int .u8 (((replyV o s.here).p) 14), .int .u8 (((replyV o s.here).p) 15), .int .u8 (((replyV o s.here).s) 0), .int .u8 (((replyV o s.here).s) 1), .int .u8 (((replyV o s.here).s) 2), .int .u8 (((replyV o s.here).s) 3), .int .u8 (((replyV o s.here).s) 4), .int .u8 (((replyV o s.here).s) 5), .int .u8 (((replyV o s.here).s) 6), .int .u8 (((replyV o s.here).s) 7), .int .u8 (((replyV o s.here).s) 8), .int .u8 (((replyV o s.here).s) 9), .int .u8 (((replyV o s.here).s) 10), .int .u8 (((replyV o s.here).s) 11), .int .u8 (((replyV o s.here).s) 12), .int .u8 (((replyV o s.here).s) 13), .int .u8 (((replyV o s.here).s) 14), .int .u8 (((replyV o s.here).s) 15)]) (.bool (replyB o s.here)) (.inr rfl) rfl rfl rfl (Loads.ownL ho15 (n := 36) (by kernel_rfl) (by kernel_rfl) (by kernel_rfl)) ?_
          obtain ⟨e1, e2⟩ := got_yes (s := s) h1
          exact ⟨by rw [e1, e2]; rfl, Own.cast ho12 (rgotA_4 h1 (by assumption) (by assumption) (by assumption)), hS⟩
        · refine VC_skip ?_
          refine VQ_block_normal ?_
          refine VQ_next ?_
          refine VC_seq ?_
          have hs15 := drew_step w3
          have hs15z : w3.heap.size = w3.drew.heap.size := rfl
          refine VC_text [[], [], [1], [1, 2], [1, 2, 3], [0, 1, 2, 3, 4], [0, 1, 2, 3, 4, 5], [0, 1, 2, 3, 4, 5, 6], [0, 1, 2, 3, 4, 5, 6], [], [0, 1, 2, 3, 4, 5, 6, 7, 9], [0, 1, 2, 3, 4, 5, 6, 7, 8, 9, 10]] 11 (fun x y => Step (fun k => w3.heap.size ≤ k) x y) [9, 10] [0, 1, 2, 3, 4, 5, 6, 7, 8, 9, 10] (by kernel_rfl) (by kernel_rfl) (by kernel_rfl) (by kernel_rfl) (fun x => Step.refl _ x) (fun h k => Step.trans h k) Step.weak ?_
          have hzs10 := hS.size
          have hzl25 := ht.lt
          have hzl26 := ho1.lt
          have hzl27 := ho2.lt
          generalize w3.drew = w40 at hs15 hs15z ⊢
          replace hS := Step.trans hS (Step.weak hs15)
          replace ht := ht.no hs15
          replace ho1 := ho1.no hs15
          replace ho2 := ho2.no hs15
          refine VT_load (d := 46) (t := 31) (a := ⟨b1, 0, none⟩) (v := .agg #[.int .i64 o.k, .int .u8 o.d, .bool o.a, .int .u32 o.tg, .int .u8 (o.p 0), .int .u8 (o.p 1), .int .u8 (o.p 2), .int .u8 (o.p 3), .int .u8 (o.p 4), .int .u8 (o.p 5), .int .u8 (o.p 6), .int .u8 (o.p 7), .int .u8 (o.p 8), .int .u8 (o.p 9), .int .u8 (o.p 10), .int .u8 (o.p 11), .int .u8 (o.p 12), .int .u8 (o.p 13), .int .u8 (o.p 14), .int .u8 (o.p 15), .int .u8 (o.s 0), .int .u8 (o.s 1), .int .u8 (o.s 2), .int .u8 (o.s 3), .int .u8 (o.s 4), .int .u8 (o.s 5), .int .u8 (o.s 6), .int .u8 (o.s 7), .int .u8 (o.s 8), .int .u8 (o.s 9), .int .u8 (o.s 10), .int .u8 (o.s 11), .int .u8 (o.s 12), .int .u8 (o.s 13), .int .u8 (o.s 14), .int .u8 (o.s 15)]) (by kernel_rfl) (by kernel_rfl) ?_ ?_
          · intro w41 hr10
            replace hS := Step.transNew hS hr10 (fun i hi hG => by (try simp only at hG); show _ = _; omega)
            replace ht := ht.step hr10 (by (try simp only); omega)
            replace ho1 := ho1.step hr10 (by (try simp only); omega)
            replace ho2 := ho2.step hr10 (by (try simp only); omega)
            exact (Loads.ownL ho1 (n := 36) (by kernel_rfl) (by kernel_rfl) (by kernel_rfl))
          refine VT_pures 3 (kn' := [(3, .pointer (some ⟨b, 0, none⟩)), (2, .pointer (some ⟨b, 0, none⟩)), (1, .pointer (some ⟨b, 0, none⟩)), (0, .agg #[.int .i64 o.k, .int .u8 o.d, .bool o.a, .int .u32 o.tg, .int .u8 (o.p 0), .int .u8 (o.p 1), .int .u8 (o.p 2), .int .u8 (o.p 3), .int .u8 (o.p 4), .int .u8 (o.p 5), .int .u8 (o.p 6), .int .u8 (o.p 7), .int .u8 (o.p 8), .int .u8 (o.p 9), .int .u8 (o.p 10), .int .u8 (o.p 11), .int .u8 (o.p 12), .int .u8 (o.p 13), .int .u8 (o.p 14), .int .u8 (o.p 15), .int .u8 (o.s 0), .int .u8 (o.s 1), .int .u8 (o.s 2), .int .u8 (o.s 3), .int .u8 (o.s 4), .int .u8 (o.s 5), .int .u8 (o.s 6), .int .u8 (o.s 7), .int .u8 (o.s 8), .int .u8 (o.s 9), .int .u8 (o.s 10), .int .u8 (o.s 11), .int .u8 (o.s 12), .int .u8 (o.s 13), .int .u8 (o.s 14), .int .u8 (o.s 15)])]) (by kernel_rfl) ?_
          refine VT_load (d := 50) (t := 22) (a := ⟨b, 0, none⟩) (v := .agg #[.int .u8 (s.here 0), .int .u8 (s.here 1), .int .u8 (s.here 2), .int .u8 (s.here 3), .int .u8 (s.here 4), .int .u8 (s.here 5), .int .u8 (s.here 6), .int .u8 (s.here 7), .int .u8 (s.here 8), .int .u8 (s.here 9), .int .u8 (s.here 10), .int .u8 (s.here 11), .int .u8 (s.here 12), .int .u8 (s.here 13), .int .u8 (s.here 14), .int .u8 (s.here 15)]) (by kernel_rfl) (by kernel_rfl) ?_ ?_
          · intro w42 hr11
            replace hS := Step.transNew hS hr11 (fun i hi hG => by (try simp only at hG); show _ = _; omega)
            replace ht := ht.step hr11 (by (try simp only); omega)
            replace ho1 := ho1.step hr11 (by (try simp only); omega)
            replace ho2 := ho2.step hr11 (by (try simp only); omega)
            exact (Loads.ownL ht (n := 16) (by kernel_rfl) (by kernel_rfl) (by kernel_rfl))
          refine VT_fcall (d := 51) (f := 29) (args := #[.agg (omL o).toArray, .agg (pl s.here).toArray]) (v := .tuple #[.agg (omL (replyV o s.here)).toArray, .bool (replyB o s.here)]) (by kernel_rfl) (by kernel_rfl) (by kernel_rfl) Try.call29 ?_ ?_
          · intro w43 hr12
            replace hS := Step.transNew hS hr12 (fun i hi hG => by (try simp only at hG); show _ = _; omega)
            replace ht := ht.step hr12 (by (try simp only); omega)
            replace ho1 := ho1.step hr12 (by (try simp only); omega)
            replace ho2 := ho2.step hr12 (by (try simp only); omega)
            exact reply14_any o s.here _
          refine VT_pures 3 (kn' := [(8, .bool (replyB o s.here)), (7, .agg #[.int .i64 ((replyV o s.here).k), .int .u8 ((replyV o s.here).d), .bool ((replyV o s.here).a), .int .u32 ((replyV o s.here).tg), .int .u8 (((replyV o s.here).p) 0), .int .u8 (((replyV o s.here).p) 1), .int .u8 (((replyV o s.here).p) 2), .int .u8 (((replyV o s.here).p) 3), .int .u8 (((replyV o s.here).p) 4), .int .u8 (((replyV o s.here).p) 5), .int .u8 (((replyV o s.here).p) 6), .int .u8 (((replyV o s.here).p) 7), .int .u8 (((replyV o s.here).p) 8), .int .u8 (((replyV o s.here).p) 9), .int .u8 (((replyV o s.here).p) 10), .int .u8 (((replyV o s.here).p) 11), .int .u8 (((replyV o s.here).p) 12), .int .u8 (((replyV o s.here).p) 13), .int .u8 (((replyV o s.here).p) 14), .int .u8 (((replyV o s.here).p) 15), .int .u8 (((replyV o s.here).s) 0), .int .u8 (((replyV o s.here).s) 1), .int .u8 (((replyV o s.here).s) 2), .int .u8 (((replyV o s.here).s) 3), .int .u8 (((replyV o s.here).s) 4), .int .u8 (((replyV o s.here).s) 5), .int .u8 (((replyV o s.here).s) 6), .int .u8 (((replyV o s.here).s) 7), .int .u8 (((replyV o s.here).s) 8), .int .u8 (((replyV o s.here).s) 9), .int .u8 (((replyV o s.here).s) 10), .int .u8 (((replyV o s.here).s) 11), .int .u8 (((replyV o s.here).s) 12), .int .u8 (((replyV o s.here).s) 13), .int .u8 (((replyV o s.here).s) 14), .int .u8 (((replyV o s.here).s) 15)]), (6, .tuple #[.agg #[.int .i64 ((replyV o s.here).k), .int .u8 ((replyV o s.here).d), .bool ((replyV o s.here).a), .int .u32 ((replyV o s.here).tg), .int .u8 (((replyV o s.here).p) 0), .int .u8 (((replyV o s.here).p) 1), .int .u8 (((replyV o s.here).p) 2), .int .u8 (((replyV o s.here).p) 3), .int .u8 (((replyV o s.here).p) 4), .int .u8 (((replyV o s.here).p) 5), .int .u8 (((replyV o s.here).p) 6), .int .u8 (((replyV o s.here).p) 7), .int .u8 (((replyV o s.here).p) 8), .int .u8 (((replyV o s.here).p) 9), .int .u8 (((replyV o s.here).p) 10), .int .u8 (((replyV o s.here).p) 11), .int .u8 (((replyV o s.here).p) 12), .int .u8 (((replyV o s.here).p) 13), .int .u8 (((replyV o s.here).p) 14), .int .u8 (((replyV o s.here).p) 15), .int .u8 (((replyV o s.here).s) 0), .int .u8 (((replyV o s.here).s) 1), .int .u8 (((replyV o s.here).s) 2), .int .u8 (((replyV o s.here).s) 3), .int .u8 (((replyV o s.here).s) 4), .int .u8 (((replyV o s.here).s) 5), .int .u8 (((replyV o s.here).s) 6), .int .u8 (((replyV o s.here).s) 7), .int .u8 (((replyV o s.here).s) 8), .int .u8 (((replyV o s.here).s) 9), .int .u8 (((replyV o s.here).s) 10), .int .u8 (((replyV o s.here).s) 11), .int .u8 (((replyV o s.here).s) 12), .int .u8 (((replyV o s.here).s) 13), .int .u8 (((replyV o s.here).s) 14), .int .u8 (((replyV o s.here).s) 15)], .bool (replyB o s.here)]), (5, .tuple #[.agg #[.int .i64 ((replyV o s.here).k), .int .u8 ((replyV o s.here).d), .bool ((replyV o s.here).a), .int .u32 ((replyV o s.here).tg), .int .u8 (((replyV o s.here).p) 0), .int .u8 (((replyV o s.here).p) 1), .int .u8 (((replyV o s.here).p) 2), .int .u8 (((replyV o s.here).p) 3), .int .u8 (((replyV o s.here).p) 4), .int .u8 (((replyV o s.here).p) 5), .int .u8 (((replyV o s.here).p) 6), .int .u8 (((replyV o s.here).p) 7), .int .u8 (((replyV o s.here).p) 8), .int .u8 (((replyV o s.here).p) 9), .int .u8 (((replyV o s.here).p) 10), .int .u8 (((replyV o s.here).p) 11), .int .u8 (((replyV o s.here).p) 12), .int .u8 (((replyV o s.here).p) 13), .int .u8 (((replyV o s.here).p) 14), .int .u8 (((replyV o s.here).p) 15), .int .u8 (((replyV o s.here).s) 0), .int .u8 (((replyV o s.here).s) 1), .int .u8 (((replyV o s.here).s) 2), .int .u8 (((replyV o s.here).s) 3), .int .u8 (((replyV o s.here).s) 4), .int .u8 (((replyV o s.here).s) 5), .int .u8 (((replyV o s.here).s) 6), .int .u8 (((replyV o s.here).s) 7), .int .u8 (((replyV o s.here).s) 8), .int .u8 (((replyV o s.here).s) 9), .int .u8 (((replyV o s.here).s) 10), .int .u8 (((replyV o s.here).s) 11), .int .u8 (((replyV o s.here).s) 12), .int .u8 (((replyV o s.here).s) 13), .int .u8 (((replyV o s.here).s) 14), .int .u8 (((replyV o s.here).s) 15)], .bool (replyB o s.here)]), (4, .agg #[.int .u8 (s.here 0), .int .u8 (s.here 1), .int .u8 (s.here 2), .int .u8 (s.here 3), .int .u8 (s.here 4), .int .u8 (s.here 5), .int .u8 (s.here 6), .int .u8 (s.here 7), .int .u8 (s.here 8), .int .u8 (s.here 9), .int .u8 (s.here 10), .int .u8 (s.here 11), .int .u8 (s.here 12), .int .u8 (s.here 13), .int .u8 (s.here 14), .int .u8 (s.here 15)]), (3, .pointer (some ⟨b, 0, none⟩)), (2, .pointer (some ⟨b, 0, none⟩)), (1, .pointer (some ⟨b, 0, none⟩)), (0, .agg #[.int .i64 o.k, .int .u8 o.d, .bool o.a, .int .u32 o.tg, .int .u8 (o.p 0), .int .u8 (o.p 1), .int .u8 (o.p 2), .int .u8 (o.p 3), .int .u8 (o.p 4), .int .u8 (o.p 5), .int .u8 (o.p 6), .int .u8 (o.p 7), .int .u8 (o.p 8), .int .u8 (o.p 9), .int .u8 (o.p 10), .int .u8 (o.p 11), .int .u8 (o.p 12), .int .u8 (o.p 13), .int .u8 (o.p 14), .int .u8 (o.p 15), .int .u8 (o.s 0), .int .u8 (o.s 1), .int .u8 (o.s 2), .int .u8 (o.s 3), .int .u8 (o.s 4), .int .u8 (o.s 5), .int .u8 (o.s 6), .int .u8 (o.s 7), .int .u8 (o.s 8), .int .u8 (o.s 9), .int .u8 (o.s 10), .int .u8 (o.s 11), .int .u8 (o.s 12), .int .u8 (o.s 13), .int .u8 (o.s 14), .int .u8 (o.s 15)])]) (by kernel_rfl) ?_
          refine VT_chain (by kernel_rfl) ?_
          intro w44 hs16
          have hzhs16 := hs16.size
          replace hS := Step.trans hS (Step.weak hs16)
          replace ht := ht.no hs16
          replace ho1 := ho1.no hs16
          replace ho2 := ho2.no hs16
          have hzs11 := hS.size
          have hzl28 := ht.lt
          have hzl29 := ho1.lt
          have hzl30 := ho2.lt
          refine VTc_box (d := 8) (t := 31) (c := #[.int .i64 0, .int .u8 0, .bool false, .int .u32 0, .int .u8 0, .int .u8 0, .int .u8 0, .int .u8 0, .int .u8 0, .int .u8 0, .int .u8 0, .int .u8 0, .int .u8 0, .int .u8 0, .int .u8 0, .int .u8 0, .int .u8 0, .int .u8 0, .int .u8 0, .int .u8 0, .int .u8 0, .int .u8 0, .int .u8 0, .int .u8 0, .int .u8 0, .int .u8 0, .int .u8 0, .int .u8 0, .int .u8 0, .int .u8 0, .int .u8 0, .int .u8 0, .int .u8 0, .int .u8 0, .int .u8 0, .int .u8 0]) (by kernel_rfl) (by kernel_rfl) (fun b w1 hn => hn.step _) ?_
          intro b6 w45 hn6
          replace hS := Step.trans hS (Step.weak (hn6.step No))
          replace ht := ht.no (hn6.step No)
          replace ho1 := ho1.no (hn6.step No)
          replace ho2 := ho2.no (hn6.step No)
          have ho16 := hn6.own
          have hzhn6 := hn6.size
          have hqhn6 := hn6.eqb
          refine VT_chain (by kernel_rfl) ?_
          intro w46 hs17
          have hzhs17 := hs17.size
          replace hS := Step.trans hS (Step.weak hs17)
          replace ht := ht.no hs17
          replace ho1 := ho1.no hs17
          replace ho2 := ho2.no hs17
          replace ho16 := ho16.no hs17
          refine VTc_store (b := b6) (o := 0) (vs := [.int .i64 ((replyV o s.here).k), .int .u8 ((replyV o s.here).d), .bool ((replyV o s.here).a), .int .u32 ((replyV o s.here).tg), .int .u8 (((replyV o s.here).p) 0), .int .u8 (((replyV o s.here).p) 1), .int .u8 (((replyV o s.here).p) 2), .int .u8 (((replyV o s.here).p) 3), .int .u8 (((replyV o s.here).p) 4), .int .u8 (((replyV o s.here).p) 5), .int .u8 (((replyV o s.here).p) 6), .int .u8 (((replyV o s.here).p) 7), .int .u8 (((replyV o s.here).p) 8), .int .u8 (((replyV o s.here).p) 9), .int .u8 (((replyV o s.here).p) 10), .int .u8 (((replyV o s.here).p) 11), .int .u8 (((replyV o s.here).p) 12), .int .u8 (((replyV o s.here).p) 13), .int .u8 (((replyV o s.here).p) 14), .int .u8 (((replyV o s.here).p) 15), .int .u8 (((replyV o s.here).s) 0), .int .u8 (((replyV o s.here).s) 1), .int .u8 (((replyV o s.here).s) 2), .int .u8 (((replyV o s.here).s) 3), .int .u8 (((replyV o s.here).s) 4), .int .u8 (((replyV o s.here).s) 5), .int .u8 (((replyV o s.here).s) 6), .int .u8 (((replyV o s.here).s) 7), .int .u8 (((replyV o s.here).s) 8), .int .u8 (((replyV o s.here).s) 9), .int .u8 (((replyV o s.here).s) 10), .int .u8 (((replyV o s.here).s) 11), .int .u8 (((replyV o s.here).s) 12), .int .u8 (((replyV o s.here).s) 13), .int .u8 (((replyV o s.here).s) 14), .int .u8 (((replyV o s.here).s) 15)]) (by kernel_rfl) (by kernel_rfl) ho16 (Nat.le_of_ble_eq_true (by kernel_rfl)) (fun w1 hw => Step.mono hw.step (by intro i hi; (try simp only at hi ⊢); omega)) ?_
          intro w47 hw11
          replace hS := Step.transNew hS hw11.step (fun _ _ _ => by omega)
          replace ht := ht.step hw11.step (show ¬ b = b6 by omega)
          replace ho1 := ho1.step hw11.step (show ¬ b1 = b6 by omega)
          replace ho2 := ho2.step hw11.step (show ¬ b2 = b6 by omega)
          have ho17 : Own w47 b6 #[.int .i64 ((replyV o s.here).k), .int .u8 ((replyV o s.here).d), .bool ((replyV o s.here).a), .int .u32 ((replyV o s.here).tg), .int .u8 (((replyV o s.here).p) 0), .int .u8 (((replyV o s.here).p) 1), .int .u8 (((replyV o s.here).p) 2), .int .u8 (((replyV o s.here).p) 3), .int .u8 (((replyV o s.here).p) 4), .int .u8 (((replyV o s.here).p) 5), .int .u8 (((replyV o s.here).p) 6), .int .u8 (((replyV o s.here).p) 7), .int .u8 (((replyV o s.here).p) 8), .int .u8 (((replyV o s.here).p) 9), .int .u8 (((replyV o s.here).p) 10), .int .u8 (((replyV o s.here).p) 11), .int .u8 (((replyV o s.here).p) 12), .int .u8 (((replyV o s.here).p) 13), .int .u8 (((replyV o s.here).p) 14), .int .u8 (((replyV o s.here).p) 15), .int .u8 (((replyV o s.here).s) 0), .int .u8 (((replyV o s.here).s) 1), .int .u8 (((replyV o s.here).s) 2), .int .u8 (((replyV o s.here).s) 3), .int .u8 (((replyV o s.here).s) 4), .int .u8 (((replyV o s.here).s) 5), .int .u8 (((replyV o s.here).s) 6), .int .u8 (((replyV o s.here).s) 7), .int .u8 (((replyV o s.here).s) 8), .int .u8 (((replyV o s.here).s) 9), .int .u8 (((replyV o s.here).s) 10), .int .u8 (((replyV o s.here).s) 11), .int .u8 (((replyV o s.here).s) 12), .int .u8 (((replyV o s.here).s) 13), .int .u8 (((replyV o s.here).s) 14), .int .u8 (((replyV o s.here).s) 15)] 31 := Own.cast hw11.own (by kernel_rfl)
          have hzhw11 := hw11.same
          refine VT_end ?_
          intro w48 hs18
          replace hS := Step.trans hS (Step.weak hs18)
          replace ht := ht.no hs18
          replace ho1 := ho1.no hs18
          replace ho2 := ho2.no hs18
          replace ho17 := ho17.no hs18
          refine VL_keep [6, 53, 8] [(6, .pointer (some ⟨b2, 0, none⟩)), (53, .bool (replyB o s.here)), (8, .pointer (some ⟨b6, 0, none⟩))] (by kernel_rfl) ?_
          refine VL_pure 12 [6, 8, 9] [(6, .pointer (some ⟨b2, 0, none⟩)), (8, .pointer (some ⟨b6, 0, none⟩)), (9, .bool (replyB o s.here))] (by kernel_rfl) rfl ?_
          refine VL_end (by kernel_rfl) ?_
          refine VQ_next ?_
          refine VC_seq ?_
          refine VC_region ?_
          refine VL_load (d := 54) (t := 31) (a := ⟨b6, 0, none⟩) (v := .agg #[.int .i64 ((replyV o s.here).k), .int .u8 ((replyV o s.here).d), .bool ((replyV o s.here).a), .int .u32 ((replyV o s.here).tg), .int .u8 (((replyV o s.here).p) 0), .int .u8 (((replyV o s.here).p) 1), .int .u8 (((replyV o s.here).p) 2), .int .u8 (((replyV o s.here).p) 3), .int .u8 (((replyV o s.here).p) 4), .int .u8 (((replyV o s.here).p) 5), .int .u8 (((replyV o s.here).p) 6), .int .u8 (((replyV o s.here).p) 7), .int .u8 (((replyV o s.here).p) 8), .int .u8 (((replyV o s.here).p) 9), .int .u8 (((replyV o s.here).p) 10), .int .u8 (((replyV o s.here).p) 11), .int .u8 (((replyV o s.here).p) 12), .int .u8 (((replyV o s.here).p) 13), .int .u8 (((replyV o s.here).p) 14), .int .u8 (((replyV o s.here).p) 15), .int .u8 (((replyV o s.here).s) 0), .int .u8 (((replyV o s.here).s) 1), .int .u8 (((replyV o s.here).s) 2), .int .u8 (((replyV o s.here).s) 3), .int .u8 (((replyV o s.here).s) 4), .int .u8 (((replyV o s.here).s) 5), .int .u8 (((replyV o s.here).s) 6), .int .u8 (((replyV o s.here).s) 7), .int .u8 (((replyV o s.here).s) 8), .int .u8 (((replyV o s.here).s) 9), .int .u8 (((replyV o s.here).s) 10), .int .u8 (((replyV o s.here).s) 11), .int .u8 (((replyV o s.here).s) 12), .int .u8 (((replyV o s.here).s) 13), .int .u8 (((replyV o s.here).s) 14), .int .u8 (((replyV o s.here).s) 15)]) (by kernel_rfl) (by kernel_rfl) (Loads.ownL ho17 (n := 36) (by kernel_rfl) (by kernel_rfl) (by kernel_rfl)) ?_
          refine VL_pure 2 [6, 54, 55] [(6, .pointer (some ⟨b2, 0, none⟩)), (54, .agg #[.int .i64 ((replyV o s.here).k), .int .u8 ((replyV o s.here).d), .bool ((replyV o s.here).a), .int .u32 ((replyV o s.here).tg), .int .u8 (((replyV o s.here).p) 0), .int .u8 (((replyV o s.here).p) 1), .int .u8 (((replyV o s.here).p) 2), .int .u8 (((replyV o s.here).p) 3), .int .u8 (((replyV o s.here).p) 4), .int .u8 (((replyV o s.here).p) 5), .int .u8 (((replyV o s.here).p) 6), .int .u8 (((replyV o s.here).p) 7), .int .u8 (((replyV o s.here).p) 8), .int .u8 (((replyV o s.here).p) 9), .int .u8 (((replyV o s.here).p) 10), .int .u8 (((replyV o s.here).p) 11), .int .u8 (((replyV o s.here).p) 12), .int .u8 (((replyV o s.here).p) 13), .int .u8 (((replyV o s.here).p) 14), .int .u8 (((replyV o s.here).p) 15), .int .u8 (((replyV o s.here).s) 0), .int .u8 (((replyV o s.here).s) 1), .int .u8 (((replyV o s.here).s) 2), .int .u8 (((replyV o s.here).s) 3), .int .u8 (((replyV o s.here).s) 4), .int .u8 (((replyV o s.here).s) 5), .int .u8 (((replyV o s.here).s) 6), .int .u8 (((replyV o s.here).s) 7), .int .u8 (((replyV o s.here).s) 8), .int .u8 (((replyV o s.here).s) 9), .int .u8 (((replyV o s.here).s) 10), .int .u8 (((replyV o s.here).s) 11), .int .u8 (((replyV o s.here).s) 12), .int .u8 (((replyV o s.here).s) 13), .int .u8 (((replyV o s.here).s) 14), .int .u8 (((replyV o s.here).s) 15)]), (55, .bool (replyB o s.here))] (by kernel_rfl) rfl ?_
          refine VL_store (b := b2) (o := 0) (vs := [.int .i64 ((replyV o s.here).k), .int .u8 ((replyV o s.here).d), .bool ((replyV o s.here).a), .int .u32 ((replyV o s.here).tg), .int .u8 (((replyV o s.here).p) 0), .int .u8 (((replyV o s.here).p) 1), .int .u8 (((replyV o s.here).p) 2), .int .u8 (((replyV o s.here).p) 3), .int .u8 (((replyV o s.here).p) 4), .int .u8 (((replyV o s.here).p) 5), .int .u8 (((replyV o s.here).p) 6), .int .u8 (((replyV o s.here).p) 7), .int .u8 (((replyV o s.here).p) 8), .int .u8 (((replyV o s.here).p) 9), .int .u8 (((replyV o s.here).p) 10), .int .u8 (((replyV o s.here).p) 11), .int .u8 (((replyV o s.here).p) 12), .int .u8 (((replyV o s.here).p) 13), .int .u8 (((replyV o s.here).p) 14), .int .u8 (((replyV o s.here).p) 15), .int .u8 (((replyV o s.here).s) 0), .int .u8 (((replyV o s.here).s) 1), .int .u8 (((replyV o s.here).s) 2), .int .u8 (((replyV o s.here).s) 3), .int .u8 (((replyV o s.here).s) 4), .int .u8 (((replyV o s.here).s) 5), .int .u8 (((replyV o s.here).s) 6), .int .u8 (((replyV o s.here).s) 7), .int .u8 (((replyV o s.here).s) 8), .int .u8 (((replyV o s.here).s) 9), .int .u8 (((replyV o s.here).s) 10), .int .u8 (((replyV o s.here).s) 11), .int .u8 (((replyV o s.here).s) 12), .int .u8 (((replyV o s.here).s) 13), .int .u8 (((replyV o s.here).s) 14), .int .u8 (((replyV o s.here).s) 15)]) (by kernel_rfl) (by kernel_rfl) ho2 (Nat.le_of_ble_eq_true (by kernel_rfl)) ?_
          intro w49 hw12
          replace hS := Step.transNew hS hw12.step (fun _ _ _ => by omega)
          replace ht := ht.step hw12.step (show ¬ b = b2 by omega)
          replace ho1 := ho1.step hw12.step (show ¬ b1 = b2 by omega)
          replace ho17 := ho17.step hw12.step (show ¬ b6 = b2 by omega)
          have ho18 : Own w49 b2 #[.int .i64 ((replyV o s.here).k), .int .u8 ((replyV o s.here).d), .bool ((replyV o s.here).a), .int .u32 ((replyV o s.here).tg), .int .u8 (((replyV o s.here).p) 0), .int .u8 (((replyV o s.here).p) 1), .int .u8 (((replyV o s.here).p) 2), .int .u8 (((replyV o s.here).p) 3), .int .u8 (((replyV o s.here).p) 4), .int .u8 (((replyV o s.here).p) 5), .int .u8 (((replyV o s.here).p) 6), .int .u8 (((replyV o s.here).p) 7), .int .u8 (((replyV o s.here).p) 8), .int .u8 (((replyV o s.here).p) 9), .int .u8 (((replyV o s.here).p) 10), .int .u8 (((replyV o s.here).p) 11), .int .u8 (((replyV o s.here).p) 12), .int .u8 (((replyV o s.here).p) 13), .int .u8 (((replyV o s.here).p) 14), .int .u8 (((replyV o s.here).p) 15), .int .u8 (((replyV o s.here).s) 0), .int .u8 (((replyV o s.here).s) 1), .int .u8 (((replyV o s.here).s) 2), .int .u8 (((replyV o s.here).s) 3), .int .u8 (((replyV o s.here).s) 4), .int .u8 (((replyV o s.here).s) 5), .int .u8 (((replyV o s.here).s) 6), .int .u8 (((replyV o s.here).s) 7), .int .u8 (((replyV o s.here).s) 8), .int .u8 (((replyV o s.here).s) 9), .int .u8 (((replyV o s.here).s) 10), .int .u8 (((replyV o s.here).s) 11), .int .u8 (((replyV o s.here).s) 12), .int .u8 (((replyV o s.here).s) 13), .int .u8 (((replyV o s.here).s) 14), .int .u8 (((replyV o s.here).s) 15)] 31 := Own.cast hw12.own (by kernel_rfl)
          have hzhw12 := hw12.same
          refine VL_pure 4 [6, 7] [(6, .pointer (some ⟨b2, 0, none⟩)), (7, .bool (replyB o s.here))] (by kernel_rfl) rfl ?_
          refine VL_end (by kernel_rfl) ?_
          refine VQ_next ?_
          refine VC_ret ?_
          refine VQ_retC1T1 (T := 31) (.agg #[.int .i64 ((replyV o s.here).k), .int .u8 ((replyV o s.here).d), .bool ((replyV o s.here).a), .int .u32 ((replyV o s.here).tg), .int .u8 (((replyV o s.here).p) 0), .int .u8 (((replyV o s.here).p) 1), .int .u8 (((replyV o s.here).p) 2), .int .u8 (((replyV o s.here).p) 3), .int .u8 (((replyV o s.here).p) 4), .int .u8 (((replyV o s.here).p) 5), .int .u8 (((replyV o s.here).p) 6), .int .u8 (((replyV o s.here).p) 7), .int .u8 (((replyV o s.here).p) 8), .int .u8 (((replyV o s.here).p) 9), .int .u8 (((replyV o s.here).p) 10), .int .u8 (((replyV o s.here).p) 11), .int .u8 (((replyV o s.here).p) 12), .int .u8 (((replyV o s.here).p) 13), .int .u8 (((replyV o s.here).p) 14), .int .u8 (((replyV o s.here).p) 15), .int .u8 (((replyV o s.here).s) 0), .int .u8 (((replyV o s.here).s) 1), .int .u8 (((replyV o s.here).s) 2), .int .u8 (((replyV o s.here).s) 3), .int .u8 (((replyV o s.here).s) 4), .int .u8 (((replyV o s.here).s) 5), .int .u8 (((replyV o s.here).s) 6), .int .u8 (((replyV o s.here).s) 7), .int .u8 (((replyV o s.here).s) 8), .int .u8 (((replyV o s.here).s) 9), .int .u8 (((replyV o s.here).s) 10), .int .u8 (((replyV o s.here).s) 11), .int .u8 (((replyV o s.here).s) 12), .int .u8 (((replyV o s.here).s) 13), .int .u8 (((replyV o s.here).s) 14), .int .u8 (((replyV o s.here).s) 15)]) (.bool (replyB o s.here)) (.inr rfl) rfl rfl rfl (Loads.ownL ho18 (n := 36) (by kernel_rfl) (by kernel_rfl) (by kernel_rfl)) ?_
          obtain ⟨e1, e2⟩ := got_yes (s := s) h1
          exact ⟨by rw [e1, e2]; rfl, Own.cast ht (rgotA_no' h1 (by assumption) (by assumption) (by assumption)), hS⟩

end Go.Proofs.Ytkimbomnbaogjaa
