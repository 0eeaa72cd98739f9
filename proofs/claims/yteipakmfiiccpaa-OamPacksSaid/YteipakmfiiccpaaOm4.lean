/- Layer 14, the document's. -/
import Derived.Test.YteipakmfiiccpaaProg
import Derived.Test.YteipakmfiiccpaaOm3
set_option linter.unusedVariables false
set_option linter.unusedSimpArgs false
namespace Go.Proofs.Yteipakmfiiccpaa
open Go.Vc Go.RowKit

set_option maxRecDepth 100000 in
set_option maxHeartbeats 4000000 in
theorem right14_any (o : Om) (w : World) :
    CV Try.prog 22 #[.agg #[.int .i64 o.k, .int .u8 o.d, .bool o.a, .int .u32 o.tg, .int .u8 (o.p 0), .int .u8 (o.p 1), .int .u8 (o.p 2), .int .u8 (o.p 3), .int .u8 (o.p 4), .int .u8 (o.p 5), .int .u8 (o.p 6), .int .u8 (o.p 7), .int .u8 (o.p 8), .int .u8 (o.p 9), .int .u8 (o.p 10), .int .u8 (o.p 11), .int .u8 (o.p 12), .int .u8 (o.p 13), .int .u8 (o.p 14), .int .u8 (o.p 15), .int .u8 (o.s 0), .int .u8 (o.s 1), .int .u8 (o.s 2), .int .u8 (o.s 3), .int .u8 (o.s 4), .int .u8 (o.s 5), .int .u8 (o.s 6), .int .u8 (o.s 7), .int .u8 (o.s 8), .int .u8 (o.s 9), .int .u8 (o.s 10), .int .u8 (o.s 11), .int .u8 (o.s 12), .int .u8 (o.s 13), .int .u8 (o.s 14), .int .u8 (o.s 15)]] w (fun x w1 => x = .bool (rightO o) ∧ Step No w w1) := by
  have hS : Step No w w := Step.refl _ _
  refine CV_enter Try.f22 _ 37 [(0, .agg #[.int .i64 o.k, .int .u8 o.d, .bool o.a, .int .u32 o.tg, .int .u8 (o.p 0), .int .u8 (o.p 1), .int .u8 (o.p 2), .int .u8 (o.p 3), .int .u8 (o.p 4), .int .u8 (o.p 5), .int .u8 (o.p 6), .int .u8 (o.p 7), .int .u8 (o.p 8), .int .u8 (o.p 9), .int .u8 (o.p 10), .int .u8 (o.p 11), .int .u8 (o.p 12), .int .u8 (o.p 13), .int .u8 (o.p 14), .int .u8 (o.p 15), .int .u8 (o.s 0), .int .u8 (o.s 1), .int .u8 (o.s 2), .int .u8 (o.s 3), .int .u8 (o.s 4), .int .u8 (o.s 5), .int .u8 (o.s 6), .int .u8 (o.s 7), .int .u8 (o.s 8), .int .u8 (o.s 9), .int .u8 (o.s 10), .int .u8 (o.s 11), .int .u8 (o.s 12), .int .u8 (o.s 13), .int .u8 (o.s 14), .int .u8 (o.s 15)])] Try.func22 rfl rfl (by kernel_rfl) rfl ?_
  refine VC_seq ?_
  refine VC_region ?_
  have hzs1 := hS.size
  refine VL_box (d := 1) (t := 25) (c := #[.int .i64 o.k, .int .u8 o.d, .bool o.a, .int .u32 o.tg, .int .u8 (o.p 0), .int .u8 (o.p 1), .int .u8 (o.p 2), .int .u8 (o.p 3), .int .u8 (o.p 4), .int .u8 (o.p 5), .int .u8 (o.p 6), .int .u8 (o.p 7), .int .u8 (o.p 8), .int .u8 (o.p 9), .int .u8 (o.p 10), .int .u8 (o.p 11), .int .u8 (o.p 12), .int .u8 (o.p 13), .int .u8 (o.p 14), .int .u8 (o.p 15), .int .u8 (o.s 0), .int .u8 (o.s 1), .int .u8 (o.s 2), .int .u8 (o.s 3), .int .u8 (o.s 4), .int .u8 (o.s 5), .int .u8 (o.s 6), .int .u8 (o.s 7), .int .u8 (o.s 8), .int .u8 (o.s 9), .int .u8 (o.s 10), .int .u8 (o.s 11), .int .u8 (o.s 12), .int .u8 (o.s 13), .int .u8 (o.s 14), .int .u8 (o.s 15)]) (by kernel_rfl) (by kernel_rfl) ?_
  intro b1 w1 hn1
  replace hS := Step.trans hS (hn1.step No)
  have ho1 := hn1.own
  have hzhn1 := hn1.size
  have hqhn1 := hn1.eqb
  refine VL_pure 2 [1] [(1, .pointer (some ⟨b1, 0, none⟩))] (by kernel_rfl) rfl ?_
  refine VL_end (by kernel_rfl) ?_
  refine VQ_next ?_
  refine VC_seq ?_
  refine VC_region ?_
  refine VL_pure 1 [1, 4] [(1, .pointer (some ⟨b1, 0, none⟩)), (4, .pointer (some ⟨b1, 0, none⟩))] (by kernel_rfl) rfl ?_
  refine VL_load (d := 5) (t := 3) (a := ⟨b1, 0, none⟩) (v := .int .i64 o.k) (by kernel_rfl) (by kernel_rfl) (Loads.own1 ho1 (by kernel_rfl) (by rfl)) ?_
  refine VL_pure 3 [1, 6] [(1, .pointer (some ⟨b1, 0, none⟩)), (6, .agg #[.int .i64 o.k, .int .u8 0, .bool false, .int .u32 0, .int .u8 0, .int .u8 0, .int .u8 0, .int .u8 0, .int .u8 0, .int .u8 0, .int .u8 0, .int .u8 0, .int .u8 0, .int .u8 0, .int .u8 0, .int .u8 0, .int .u8 0, .int .u8 0, .int .u8 0, .int .u8 0, .int .u8 0, .int .u8 0, .int .u8 0, .int .u8 0, .int .u8 0, .int .u8 0, .int .u8 0, .int .u8 0, .int .u8 0, .int .u8 0, .int .u8 0, .int .u8 0, .int .u8 0, .int .u8 0, .int .u8 0, .int .u8 0])] (by kernel_rfl) rfl ?_
  have hzs2 := hS.size
  have hzl1 := ho1.lt
  refine VL_box (d := 3) (t := 25) (c := #[.int .i64 0, .int .u8 0, .bool false, .int .u32 0, .int .u8 0, .int .u8 0, .int .u8 0, .int .u8 0, .int .u8 0, .int .u8 0, .int .u8 0, .int .u8 0, .int .u8 0, .int .u8 0, .int .u8 0, .int .u8 0, .int .u8 0, .int .u8 0, .int .u8 0, .int .u8 0, .int .u8 0, .int .u8 0, .int .u8 0, .int .u8 0, .int .u8 0, .int .u8 0, .int .u8 0, .int .u8 0, .int .u8 0, .int .u8 0, .int .u8 0, .int .u8 0, .int .u8 0, .int .u8 0, .int .u8 0, .int .u8 0]) (by kernel_rfl) (by kernel_rfl) ?_
  intro b2 w2 hn2
  replace hS := Step.trans hS (hn2.step No)
  replace ho1 := ho1.no (hn2.step No)
  have ho2 := hn2.own
  have hzhn2 := hn2.size
  have hqhn2 := hn2.eqb
  refine VL_store (b := b2) (o := 0) (vs := [.int .i64 o.k, .int .u8 0, .bool false, .int .u32 0, .int .u8 0, .int .u8 0, .int .u8 0, .int .u8 0, .int .u8 0, .int .u8 0, .int .u8 0, .int .u8 0, .int .u8 0, .int .u8 0, .int .u8 0, .int .u8 0, .int .u8 0, .int .u8 0, .int .u8 0, .int .u8 0, .int .u8 0, .int .u8 0, .int .u8 0, .int .u8 0, .int .u8 0, .int .u8 0, .int .u8 0, .int .u8 0, .int .u8 0, .int .u8 0, .int .u8 0, .int .u8 0, .int .u8 0, .int .u8 0, .int .u8 0, .int .u8 0]) (by kernel_rfl) (by kernel_rfl) ho2 (Nat.le_of_ble_eq_true (by kernel_rfl)) ?_
  intro w3 hw1
  replace hS := Step.transNew hS hw1.step (fun _ _ _ => by omega)
  replace ho1 := ho1.step hw1.step (show ¬ b1 = b2 by omega)
  have ho3 : Own w3 b2 #[.int .i64 o.k, .int .u8 0, .bool false, .int .u32 0, .int .u8 0, .int .u8 0, .int .u8 0, .int .u8 0, .int .u8 0, .int .u8 0, .int .u8 0, .int .u8 0, .int .u8 0, .int .u8 0, .int .u8 0, .int .u8 0, .int .u8 0, .int .u8 0, .int .u8 0, .int .u8 0, .int .u8 0, .int .u8 0, .int .u8 0, .int .u8 0, .int .u8 0, .int .u8 0, .int .u8 0, .int .u8 0, .int .u8 0, .int .u8 0, .int .u8 0, .int .u8 0, .int .u8 0, .int .u8 0, .int .u8 0, .int .u8 0] 25 := Own.cast hw1.own (by kernel_rfl)
  have hzhw1 := hw1.same
  refine VL_end (by kernel_rfl) ?_
  refine VQ_next ?_
  refine VC_seq ?_
  refine VC_seq ?_
  refine VC_region ?_
  refine VL_pure 1 [1, 3, 7] [(1, .pointer (some ⟨b1, 0, none⟩)), (3, .pointer (some ⟨b2, 0, none⟩)), (7, .pointer (some ⟨b1, 0, none⟩))] (by kernel_rfl) rfl ?_
  refine VL_load (d := 8) (t := 3) (a := ⟨b1, 0, none⟩) (v := .int .i64 o.k) (by kernel_rfl) (by kernel_rfl) (Loads.own1 ho1 (by kernel_rfl) (by rfl)) ?_
  refine VL_end (by kernel_rfl) ?_
  refine VQ_next ?_
  refine VC_block ?_
  refine VC_seq ?_
  refine VC_seq ?_
  refine VC_region ?_
  refine VL_pure 2 [1, 3, 8, 9] [(1, .pointer (some ⟨b1, 0, none⟩)), (3, .pointer (some ⟨b2, 0, none⟩)), (8, .int .i64 o.k), (9, .bool (o.k == 0))] (by kernel_rfl) rfl ?_
  refine VL_end (by kernel_rfl) ?_
  refine VQ_next ?_
  refine VC_eq o.k 0 (by kernel_rfl) (fun h1 => ?_) (fun h1 => ?_)
  · refine VC_skip ?_
    refine VQ_next ?_
    refine VC_eq o.k 0 (by kernel_rfl) (fun h2 => ?_) (fun h2 => ?_)
    · refine VC_eff [[], [0], [], [2], [0, 1], [0, 1, 4], [0, 1, 2, 3, 4, 5], [0, 1, 2, 3, 4, 5, 6]] 6 [.pointer (some ⟨b1, 1, none⟩), .int .u8 o.d, .pointer (some ⟨b1, 4, none⟩), .agg #[.int .u8 (o.p 0), .int .u8 (o.p 1), .int .u8 (o.p 2), .int .u8 (o.p 3), .int .u8 (o.p 4), .int .u8 (o.p 5), .int .u8 (o.p 6), .int .u8 (o.p 7), .int .u8 (o.p 8), .int .u8 (o.p 9), .int .u8 (o.p 10), .int .u8 (o.p 11), .int .u8 (o.p 12), .int .u8 (o.p 13), .int .u8 (o.p 14), .int .u8 (o.p 15)], .pointer (some ⟨b2, 1, none⟩), undef] [0, 2, 4] [1, 3, 5] (ROwn b2 25 #[.int .i64 o.k, .int .u8 0, .bool false, .int .u32 0, .int .u8 0, .int .u8 0, .int .u8 0, .int .u8 0, .int .u8 0, .int .u8 0, .int .u8 0, .int .u8 0, .int .u8 0, .int .u8 0, .int .u8 0, .int .u8 0, .int .u8 0, .int .u8 0, .int .u8 0, .int .u8 0, .int .u8 0, .int .u8 0, .int .u8 0, .int .u8 0, .int .u8 0, .int .u8 0, .int .u8 0, .int .u8 0, .int .u8 0, .int .u8 0, .int .u8 0, .int .u8 0, .int .u8 0, .int .u8 0, .int .u8 0, .int .u8 0] #[.int .i64 o.k, .int .u8 o.d, .bool false, .int .u32 0, .int .u8 0, .int .u8 0, .int .u8 0, .int .u8 0, .int .u8 0, .int .u8 0, .int .u8 0, .int .u8 0, .int .u8 0, .int .u8 0, .int .u8 0, .int .u8 0, .int .u8 0, .int .u8 0, .int .u8 0, .int .u8 0, .int .u8 0, .int .u8 0, .int .u8 0, .int .u8 0, .int .u8 0, .int .u8 0, .int .u8 0, .int .u8 0, .int .u8 0, .int .u8 0, .int .u8 0, .int .u8 0, .int .u8 0, .int .u8 0, .int .u8 0, .int .u8 0]) (fun j x => j = 5 → Own x b2 #[.int .i64 o.k, .int .u8 o.d, .bool false, .int .u32 0, .int .u8 0, .int .u8 0, .int .u8 0, .int .u8 0, .int .u8 0, .int .u8 0, .int .u8 0, .int .u8 0, .int .u8 0, .int .u8 0, .int .u8 0, .int .u8 0, .int .u8 0, .int .u8 0, .int .u8 0, .int .u8 0, .int .u8 0, .int .u8 0, .int .u8 0, .int .u8 0, .int .u8 0, .int .u8 0, .int .u8 0, .int .u8 0, .int .u8 0, .int .u8 0, .int .u8 0, .int .u8 0, .int .u8 0, .int .u8 0, .int .u8 0, .int .u8 0] 25) (by kernel_rfl) (by kernel_rfl) (by kernel_rfl) (ROwn.refl _ _ _ _) ROwn.trans (ROwn.no (drew_step _)) (fun _ _ _ h hr e => hr.2.1 (h e)) (by kernel_rfl) (by intro k hk x e; subst e; simp at hk) ?_ ?_
      · intro w6 hr1
        have hI := hr1.1 (.inl ho3)
        replace hS := Step.transNew hS hr1.2.2 (fun _ _ _ => by omega)
        replace ho1 := ho1.step hr1.2.2 (show ¬ b1 = b2 by omega)
        exact ⟨fun _ => Eff1_no (Det1_load (d := 13) (t := 5) (a := ⟨b1, 1, none⟩) (by kernel_rfl) (by kernel_rfl) (Loads.own1 ho1 (by kernel_rfl) (by rfl))) (fun x e => absurd e (by decide)), fun _ => Eff1_no (Det1_load (d := 15) (t := 23) (a := ⟨b1, 4, none⟩) (by kernel_rfl) (by kernel_rfl) (Loads.ownL ho1 (n := 16) (by kernel_rfl) (by kernel_rfl) (by kernel_rfl))) (fun x e => absurd e (by decide)), fun _ => Eff1_store (b := b2) (o := 1) (T := 25) (c0 := #[.int .i64 o.k, .int .u8 0, .bool false, .int .u32 0, .int .u8 0, .int .u8 0, .int .u8 0, .int .u8 0, .int .u8 0, .int .u8 0, .int .u8 0, .int .u8 0, .int .u8 0, .int .u8 0, .int .u8 0, .int .u8 0, .int .u8 0, .int .u8 0, .int .u8 0, .int .u8 0, .int .u8 0, .int .u8 0, .int .u8 0, .int .u8 0, .int .u8 0, .int .u8 0, .int .u8 0, .int .u8 0, .int .u8 0, .int .u8 0, .int .u8 0, .int .u8 0, .int .u8 0, .int .u8 0, .int .u8 0, .int .u8 0]) (c1 := #[.int .i64 o.k, .int .u8 o.d, .bool false, .int .u32 0, .int .u8 0, .int .u8 0, .int .u8 0, .int .u8 0, .int .u8 0, .int .u8 0, .int .u8 0, .int .u8 0, .int .u8 0, .int .u8 0, .int .u8 0, .int .u8 0, .int .u8 0, .int .u8 0, .int .u8 0, .int .u8 0, .int .u8 0, .int .u8 0, .int .u8 0, .int .u8 0, .int .u8 0, .int .u8 0, .int .u8 0, .int .u8 0, .int .u8 0, .int .u8 0, .int .u8 0, .int .u8 0, .int .u8 0, .int .u8 0, .int .u8 0, .int .u8 0]) (vs := [.int .u8 o.d]) (by kernel_rfl) (by kernel_rfl) hI (Nat.le_of_ble_eq_true (by kernel_rfl)) (Nat.le_of_ble_eq_true (by kernel_rfl)) (by kernel_rfl) (by kernel_rfl), trivial⟩
      intro w5 hr2 hB1
      have ho4 := hB1 5 (by decide) rfl
      replace hS := Step.transNew hS hr2.2.2 (fun _ _ _ => by omega)
      replace ho1 := ho1.step hr2.2.2 (show ¬ b1 = b2 by omega)
      refine VL_keep [1, 3, 15] [(1, .pointer (some ⟨b1, 0, none⟩)), (3, .pointer (some ⟨b2, 0, none⟩)), (15, .agg #[.int .u8 (o.p 0), .int .u8 (o.p 1), .int .u8 (o.p 2), .int .u8 (o.p 3), .int .u8 (o.p 4), .int .u8 (o.p 5), .int .u8 (o.p 6), .int .u8 (o.p 7), .int .u8 (o.p 8), .int .u8 (o.p 9), .int .u8 (o.p 10), .int .u8 (o.p 11), .int .u8 (o.p 12), .int .u8 (o.p 13), .int .u8 (o.p 14), .int .u8 (o.p 15)])] (by kernel_rfl) ?_
      refine VL_pure 7 [1, 3, 15, 17] [(1, .pointer (some ⟨b1, 0, none⟩)), (3, .pointer (some ⟨b2, 0, none⟩)), (15, .agg #[.int .u8 (o.p 0), .int .u8 (o.p 1), .int .u8 (o.p 2), .int .u8 (o.p 3), .int .u8 (o.p 4), .int .u8 (o.p 5), .int .u8 (o.p 6), .int .u8 (o.p 7), .int .u8 (o.p 8), .int .u8 (o.p 9), .int .u8 (o.p 10), .int .u8 (o.p 11), .int .u8 (o.p 12), .int .u8 (o.p 13), .int .u8 (o.p 14), .int .u8 (o.p 15)]), (17, .pointer (some ⟨b2, 4, none⟩))] (by kernel_rfl) rfl ?_
      refine VL_store (b := b2) (o := 4) (vs := [.int .u8 (o.p 0), .int .u8 (o.p 1), .int .u8 (o.p 2), .int .u8 (o.p 3), .int .u8 (o.p 4), .int .u8 (o.p 5), .int .u8 (o.p 6), .int .u8 (o.p 7), .int .u8 (o.p 8), .int .u8 (o.p 9), .int .u8 (o.p 10), .int .u8 (o.p 11), .int .u8 (o.p 12), .int .u8 (o.p 13), .int .u8 (o.p 14), .int .u8 (o.p 15)]) (by kernel_rfl) (by kernel_rfl) ho4 (Nat.le_of_ble_eq_true (by kernel_rfl)) ?_
      intro w7 hw2
      replace hS := Step.transNew hS hw2.step (fun _ _ _ => by omega)
      replace ho1 := ho1.step hw2.step (show ¬ b1 = b2 by omega)
      have ho5 : Own w7 b2 #[.int .i64 o.k, .int .u8 o.d, .bool false, .int .u32 0, .int .u8 (o.p 0), .int .u8 (o.p 1), .int .u8 (o.p 2), .int .u8 (o.p 3), .int .u8 (o.p 4), .int .u8 (o.p 5), .int .u8 (o.p 6), .int .u8 (o.p 7), .int .u8 (o.p 8), .int .u8 (o.p 9), .int .u8 (o.p 10), .int .u8 (o.p 11), .int .u8 (o.p 12), .int .u8 (o.p 13), .int .u8 (o.p 14), .int .u8 (o.p 15), .int .u8 0, .int .u8 0, .int .u8 0, .int .u8 0, .int .u8 0, .int .u8 0, .int .u8 0, .int .u8 0, .int .u8 0, .int .u8 0, .int .u8 0, .int .u8 0, .int .u8 0, .int .u8 0, .int .u8 0, .int .u8 0] 25 := Own.cast hw2.own (by kernel_rfl)
      have hzhw2 := hw2.same
      refine VL_end (by kernel_rfl) ?_
      refine VQ_block_normal ?_
      refine VQ_next ?_
      refine VC_seq ?_
      refine VC_region ?_
      refine VL_load (d := 34) (t := 25) (a := ⟨b2, 0, none⟩) (v := .agg #[.int .i64 o.k, .int .u8 o.d, .bool false, .int .u32 0, .int .u8 (o.p 0), .int .u8 (o.p 1), .int .u8 (o.p 2), .int .u8 (o.p 3), .int .u8 (o.p 4), .int .u8 (o.p 5), .int .u8 (o.p 6), .int .u8 (o.p 7), .int .u8 (o.p 8), .int .u8 (o.p 9), .int .u8 (o.p 10), .int .u8 (o.p 11), .int .u8 (o.p 12), .int .u8 (o.p 13), .int .u8 (o.p 14), .int .u8 (o.p 15), .int .u8 0, .int .u8 0, .int .u8 0, .int .u8 0, .int .u8 0, .int .u8 0, .int .u8 0, .int .u8 0, .int .u8 0, .int .u8 0, .int .u8 0, .int .u8 0, .int .u8 0, .int .u8 0, .int .u8 0, .int .u8 0]) (by kernel_rfl) (by kernel_rfl) (Loads.ownL ho5 (n := 36) (by kernel_rfl) (by kernel_rfl) (by kernel_rfl)) ?_
      refine VL_load (d := 35) (t := 25) (a := ⟨b1, 0, none⟩) (v := .agg #[.int .i64 o.k, .int .u8 o.d, .bool o.a, .int .u32 o.tg, .int .u8 (o.p 0), .int .u8 (o.p 1), .int .u8 (o.p 2), .int .u8 (o.p 3), .int .u8 (o.p 4), .int .u8 (o.p 5), .int .u8 (o.p 6), .int .u8 (o.p 7), .int .u8 (o.p 8), .int .u8 (o.p 9), .int .u8 (o.p 10), .int .u8 (o.p 11), .int .u8 (o.p 12), .int .u8 (o.p 13), .int .u8 (o.p 14), .int .u8 (o.p 15), .int .u8 (o.s 0), .int .u8 (o.s 1), .int .u8 (o.s 2), .int .u8 (o.s 3), .int .u8 (o.s 4), .int .u8 (o.s 5), .int .u8 (o.s 6), .int .u8 (o.s 7), .int .u8 (o.s 8), .int .u8 (o.s 9), .int .u8 (o.s 10), .int .u8 (o.s 11), .int .u8 (o.s 12), .int .u8 (o.s 13), .int .u8 (o.s 14), .int .u8 (o.s 15)]) (by kernel_rfl) (by kernel_rfl) (Loads.ownL ho1 (n := 36) (by kernel_rfl) (by kernel_rfl) (by kernel_rfl)) ?_
      refine VL_agEq (d := 36) (dd := 9) (ls := ([.int .i64] ++ [.int .u8] ++ [.bool] ++ [.int .u32] ++ (rep 16 [.int .u8]) ++ (rep 16 [.int .u8]) ++ [])) (pos := true) (t := 25) (xs := #[.int .i64 o.k, .int .u8 o.d, .bool false, .int .u32 0, .int .u8 (o.p 0), .int .u8 (o.p 1), .int .u8 (o.p 2), .int .u8 (o.p 3), .int .u8 (o.p 4), .int .u8 (o.p 5), .int .u8 (o.p 6), .int .u8 (o.p 7), .int .u8 (o.p 8), .int .u8 (o.p 9), .int .u8 (o.p 10), .int .u8 (o.p 11), .int .u8 (o.p 12), .int .u8 (o.p 13), .int .u8 (o.p 14), .int .u8 (o.p 15), .int .u8 0, .int .u8 0, .int .u8 0, .int .u8 0, .int .u8 0, .int .u8 0, .int .u8 0, .int .u8 0, .int .u8 0, .int .u8 0, .int .u8 0, .int .u8 0, .int .u8 0, .int .u8 0, .int .u8 0, .int .u8 0]) (ys := #[.int .i64 o.k, .int .u8 o.d, .bool o.a, .int .u32 o.tg, .int .u8 (o.p 0), .int .u8 (o.p 1), .int .u8 (o.p 2), .int .u8 (o.p 3), .int .u8 (o.p 4), .int .u8 (o.p 5), .int .u8 (o.p 6), .int .u8 (o.p 7), .int .u8 (o.p 8), .int .u8 (o.p 9), .int .u8 (o.p 10), .int .u8 (o.p 11), .int .u8 (o.p 12), .int .u8 (o.p 13), .int .u8 (o.p 14), .int .u8 (o.p 15), .int .u8 (o.s 0), .int .u8 (o.s 1), .int .u8 (o.s 2), .int .u8 (o.s 3), .int .u8 (o.s 4), .int .u8 (o.s 5), .int .u8 (o.s 6), .int .u8 (o.s 7), .int .u8 (o.s 8), .int .u8 (o.s 9), .int .u8 (o.s 10), .int .u8 (o.s 11), .int .u8 (o.s 12), .int .u8 (o.s 13), .int .u8 (o.s 14), .int .u8 (o.s 15)]) (by kernel_rfl) (by kernel_rfl) (by kernel_rfl) (by kernel_rfl) (by first | exact ⟨⟨_, rfl⟩, ⟨_, rfl⟩, ⟨_, rfl⟩, ⟨_, rfl⟩, ⟨_, rfl⟩, ⟨_, rfl⟩, ⟨_, rfl⟩, ⟨_, rfl⟩, ⟨_, rfl⟩, ⟨_, rfl⟩, ⟨_, rfl⟩, ⟨_, rfl⟩, ⟨_, rfl⟩, ⟨_, rfl⟩, ⟨_, rfl⟩, ⟨_, rfl⟩, ⟨_, rfl⟩, ⟨_, rfl⟩, ⟨_, rfl⟩, ⟨_, rfl⟩, ⟨_, rfl⟩, ⟨_, rfl⟩, ⟨_, rfl⟩, ⟨_, rfl⟩, ⟨_, rfl⟩, ⟨_, rfl⟩, ⟨_, rfl⟩, ⟨_, rfl⟩, ⟨_, rfl⟩, ⟨_, rfl⟩, ⟨_, rfl⟩, ⟨_, rfl⟩, ⟨_, rfl⟩, ⟨_, rfl⟩, ⟨_, rfl⟩, ⟨_, rfl⟩, trivial⟩ | trivial) (by first | exact ⟨⟨_, rfl⟩, ⟨_, rfl⟩, ⟨_, rfl⟩, ⟨_, rfl⟩, ⟨_, rfl⟩, ⟨_, rfl⟩, ⟨_, rfl⟩, ⟨_, rfl⟩, ⟨_, rfl⟩, ⟨_, rfl⟩, ⟨_, rfl⟩, ⟨_, rfl⟩, ⟨_, rfl⟩, ⟨_, rfl⟩, ⟨_, rfl⟩, ⟨_, rfl⟩, ⟨_, rfl⟩, ⟨_, rfl⟩, ⟨_, rfl⟩, ⟨_, rfl⟩, ⟨_, rfl⟩, ⟨_, rfl⟩, ⟨_, rfl⟩, ⟨_, rfl⟩, ⟨_, rfl⟩, ⟨_, rfl⟩, ⟨_, rfl⟩, ⟨_, rfl⟩, ⟨_, rfl⟩, ⟨_, rfl⟩, ⟨_, rfl⟩, ⟨_, rfl⟩, ⟨_, rfl⟩, ⟨_, rfl⟩, ⟨_, rfl⟩, ⟨_, rfl⟩, trivial⟩ | trivial) (cellsEq #[.int .i64 o.k, .int .u8 o.d, .bool false, .int .u32 0, .int .u8 (o.p 0), .int .u8 (o.p 1), .int .u8 (o.p 2), .int .u8 (o.p 3), .int .u8 (o.p 4), .int .u8 (o.p 5), .int .u8 (o.p 6), .int .u8 (o.p 7), .int .u8 (o.p 8), .int .u8 (o.p 9), .int .u8 (o.p 10), .int .u8 (o.p 11), .int .u8 (o.p 12), .int .u8 (o.p 13), .int .u8 (o.p 14), .int .u8 (o.p 15), .int .u8 0, .int .u8 0, .int .u8 0, .int .u8 0, .int .u8 0, .int .u8 0, .int .u8 0, .int .u8 0, .int .u8 0, .int .u8 0, .int .u8 0, .int .u8 0, .int .u8 0, .int .u8 0, .int .u8 0, .int .u8 0].toList #[.int .i64 o.k, .int .u8 o.d, .bool o.a, .int .u32 o.tg, .int .u8 (o.p 0), .int .u8 (o.p 1), .int .u8 (o.p 2), .int .u8 (o.p 3), .int .u8 (o.p 4), .int .u8 (o.p 5), .int .u8 (o.p 6), .int .u8 (o.p 7), .int .u8 (o.p 8), .int .u8 (o.p 9), .int .u8 (o.p 10), .int .u8 (o.p 11), .int .u8 (o.p 12), .int .u8 (o.p 13), .int .u8 (o.p 14), .int .u8 (o.p 15), .int .u8 (o.s 0), .int .u8 (o.s 1), .int .u8 (o.s 2), .int .u8 (o.s 3), .int .u8 (o.s 4), .int .u8 (o.s 5), .int .u8 (o.s 6), .int .u8 (o.s 7), .int .u8 (o.s 8), .int .u8 (o.s 9), .int .u8 (o.s 10), .int .u8 (o.s 11), .int .u8 (o.s 12), .int .u8 (o.s 13), .int .u8 (o.s 14), .int .u8 (o.s 15)].toList) (by rfl) ?_
      refine VL_pure 4 [2] [(2, .bool (cellsEq #[.int .i64 o.k, .int .u8 o.d, .bool false, .int .u32 0, .int .u8 (o.p 0), .int .u8 (o.p 1), .int .u8 (o.p 2), .int .u8 (o.p 3), .int .u8 (o.p 4), .int .u8 (o.p 5), .int .u8 (o.p 6), .int .u8 (o.p 7), .int .u8 (o.p 8), .int .u8 (o.p 9), .int .u8 (o.p 10), .int .u8 (o.p 11), .int .u8 (o.p 12), .int .u8 (o.p 13), .int .u8 (o.p 14), .int .u8 (o.p 15), .int .u8 0, .int .u8 0, .int .u8 0, .int .u8 0, .int .u8 0, .int .u8 0, .int .u8 0, .int .u8 0, .int .u8 0, .int .u8 0, .int .u8 0, .int .u8 0, .int .u8 0, .int .u8 0, .int .u8 0, .int .u8 0].toList #[.int .i64 o.k, .int .u8 o.d, .bool o.a, .int .u32 o.tg, .int .u8 (o.p 0), .int .u8 (o.p 1), .int .u8 (o.p 2), .int .u8 (o.p 3), .int .u8 (o.p 4), .int .u8 (o.p 5), .int .u8 (o.p 6), .int .u8 (o.p 7), .int .u8 (o.p 8), .int .u8 (o.p 9), .int .u8 (o.p 10), .int .u8 (o.p 11), .int .u8 (o.p 12), .int .u8 (o.p 13), .int .u8 (o.p 14), .int .u8 (o.p 15), .int .u8 (o.s 0), .int .u8 (o.s 1), .int .u8 (o.s 2), .int .u8 (o.s 3), .int .u8 (o.s 4), .int .u8 (o.s 5), .int .u8 (o.s 6), .int .u8 (o.s 7), .int .u8 (o.s 8), .int .u8 (o.s 9), .int .u8 (o.s 10), .int .u8 (o.s 11), .int .u8 (o.s 12), .int .u8 (o.s 13), .int .u8 (o.s 14), .int .u8 (o.s 15)].toList))] (by kernel_rfl) rfl ?_
      refine VL_end (by kernel_rfl) ?_
      refine VQ_next ?_
      refine VC_ret ?_
      refine VQ_ret1 (.bool (cellsEq #[.int .i64 o.k, .int .u8 o.d, .bool false, .int .u32 0, .int .u8 (o.p 0), .int .u8 (o.p 1), .int .u8 (o.p 2), .int .u8 (o.p 3), .int .u8 (o.p 4), .int .u8 (o.p 5), .int .u8 (o.p 6), .int .u8 (o.p 7), .int .u8 (o.p 8), .int .u8 (o.p 9), .int .u8 (o.p 10), .int .u8 (o.p 11), .int .u8 (o.p 12), .int .u8 (o.p 13), .int .u8 (o.p 14), .int .u8 (o.p 15), .int .u8 0, .int .u8 0, .int .u8 0, .int .u8 0, .int .u8 0, .int .u8 0, .int .u8 0, .int .u8 0, .int .u8 0, .int .u8 0, .int .u8 0, .int .u8 0, .int .u8 0, .int .u8 0, .int .u8 0, .int .u8 0].toList #[.int .i64 o.k, .int .u8 o.d, .bool o.a, .int .u32 o.tg, .int .u8 (o.p 0), .int .u8 (o.p 1), .int .u8 (o.p 2), .int .u8 (o.p 3), .int .u8 (o.p 4), .int .u8 (o.p 5), .int .u8 (o.p 6), .int .u8 (o.p 7), .int .u8 (o.p 8), .int .u8 (o.p 9), .int .u8 (o.p 10), .int .u8 (o.p 11), .int .u8 (o.p 12), .int .u8 (o.p 13), .int .u8 (o.p 14), .int .u8 (o.p 15), .int .u8 (o.s 0), .int .u8 (o.s 1), .int .u8 (o.s 2), .int .u8 (o.s 3), .int .u8 (o.s 4), .int .u8 (o.s 5), .int .u8 (o.s 6), .int .u8 (o.s 7), .int .u8 (o.s 8), .int .u8 (o.s 9), .int .u8 (o.s 10), .int .u8 (o.s 11), .int .u8 (o.s 12), .int .u8 (o.s 13), .int .u8 (o.s 14), .int .u8 (o.s 15)].toList)) (.inr rfl) rfl rfl ?_
      exact ⟨congrArg Value.bool (Eq.symm (rightO_01 (by omega))), hS⟩
    · refine VC_seq ?_
      refine VC_region ?_
      refine VL_pure 2 [1, 3, 8, 18] [(1, .pointer (some ⟨b1, 0, none⟩)), (3, .pointer (some ⟨b2, 0, none⟩)), (8, .int .i64 o.k), (18, .bool (o.k == 4))] (by kernel_rfl) rfl ?_
      refine VL_end (by kernel_rfl) ?_
      refine VQ_next ?_
      refine VC_eq o.k 4 (by kernel_rfl) (fun h3 => ?_) (fun h3 => ?_)
      · refine VC_skip ?_
        refine VQ_block_normal ?_
        refine VQ_next ?_
        refine VC_seq ?_
        refine VC_region ?_
        refine VL_load (d := 34) (t := 25) (a := ⟨b2, 0, none⟩) (v := .agg #[.int .i64 o.k, .int .u8 0, .bool false, .int .u32 0, .int .u8 0, .int .u8 0, .int .u8 0, .int .u8 0, .int .u8 0, .int .u8 0, .int .u8 0, .int .u8 0, .int .u8 0, .int .u8 0, .int .u8 0, .int .u8 0, .int .u8 0, .int .u8 0, .int .u8 0, .int .u8 0, .int .u8 0, .int .u8 0, .int .u8 0, .int .u8 0, .int .u8 0, .int .u8 0, .int .u8 0, .int .u8 0, .int .u8 0, .int .u8 0, .int .u8 0, .int .u8 0, .int .u8 0, .int .u8 0, .int .u8 0, .int .u8 0]) (by kernel_rfl) (by kernel_rfl) (Loads.ownL ho3 (n := 36) (by kernel_rfl) (by kernel_rfl) (by kernel_rfl)) ?_
        refine VL_load (d := 35) (t := 25) (a := ⟨b1, 0, none⟩) (v := .agg #[.int .i64 o.k, .int .u8 o.d, .bool o.a, .int .u32 o.tg, .int .u8 (o.p 0), .int .u8 (o.p 1), .int .u8 (o.p 2), .int .u8 (o.p 3), .int .u8 (o.p 4), .int .u8 (o.p 5), .int .u8 (o.p 6), .int .u8 (o.p 7), .int .u8 (o.p 8), .int .u8 (o.p 9), .int .u8 (o.p 10), .int .u8 (o.p 11), .int .u8 (o.p 12), .int .u8 (o.p 13), .int .u8 (o.p 14), .int .u8 (o.p 15), .int .u8 (o.s 0), .int .u8 (o.s 1), .int .u8 (o.s 2), .int .u8 (o.s 3), .int .u8 (o.s 4), .int .u8 (o.s 5), .int .u8 (o.s 6), .int .u8 (o.s 7), .int .u8 (o.s 8), .int .u8 (o.s 9), .int .u8 (o.s 10), .int .u8 (o.s 11), .int .u8 (o.s 12), .int .u8 (o.s 13), .int .u8 (o.s 14), .int .u8 (o.s 15)]) (by kernel_rfl) (by kernel_rfl) (Loads.ownL ho1 (n := 36) (by kernel_rfl) (by kernel_rfl) (by kernel_rfl)) ?_
        refine VL_agEq (d := 36) (dd := 9) (ls := ([.int .i64] ++ [.int .u8] ++ [.bool] ++ [.int .u32] ++ (rep 16 [.int .u8]) ++ (rep 16 [.int .u8]) ++ [])) (pos := true) (t := 25) (xs := #[.int .i64 o.k, .int .u8 0, .bool false, .int .u32 0, .int .u8 0, .int .u8 0, .int .u8 0, .int .u8 0, .int .u8 0, .int .u8 0, .int .u8 0, .int .u8 0, .int .u8 0, .int .u8 0, .int .u8 0, .int .u8 0, .int .u8 0, .int .u8 0, .int .u8 0, .int .u8 0, .int .u8 0, .int .u8 0, .int .u8 0, .int .u8 0, .int .u8 0, .int .u8 0, .int .u8 0, .int .u8 0, .int .u8 0, .int .u8 0, .int .u8 0, .int .u8 0, .int .u8 0, .int .u8 0, .int .u8 0, .int .u8 0]) (ys := #[.int .i64 o.k, .int .u8 o.d, .bool o.a, .int .u32 o.tg, .int .u8 (o.p 0), .int .u8 (o.p 1), .int .u8 (o.p 2), .int .u8 (o.p 3), .int .u8 (o.p 4), .int .u8 (o.p 5), .int .u8 (o.p 6), .int .u8 (o.p 7), .int .u8 (o.p 8), .int .u8 (o.p 9), .int .u8 (o.p 10), .int .u8 (o.p 11), .int .u8 (o.p 12), .int .u8 (o.p 13), .int .u8 (o.p 14), .int .u8 (o.p 15), .int .u8 (o.s 0), .int .u8 (o.s 1), .int .u8 (o.s 2), .int .u8 (o.s 3), .int .u8 (o.s 4), .int .u8 (o.s 5), .int .u8 (o.s 6), .int .u8 (o.s 7), .int .u8 (o.s 8), .int .u8 (o.s 9), .int .u8 (o.s 10), .int .u8 (o.s 11), .int .u8 (o.s 12), .int .u8 (o.s 13), .int .u8 (o.s 14), .int .u8 (o.s 15)]) (by kernel_rfl) (by kernel_rfl) (by kernel_rfl) (by kernel_rfl) (by first | exact ⟨⟨_, rfl⟩, ⟨_, rfl⟩, ⟨_, rfl⟩, ⟨_, rfl⟩, ⟨_, rfl⟩, ⟨_, rfl⟩, ⟨_, rfl⟩, ⟨_, rfl⟩, ⟨_, rfl⟩, ⟨_, rfl⟩, ⟨_, rfl⟩, ⟨_, rfl⟩, ⟨_, rfl⟩, ⟨_, rfl⟩, ⟨_, rfl⟩, ⟨_, rfl⟩, ⟨_, rfl⟩, ⟨_, rfl⟩, ⟨_, rfl⟩, ⟨_, rfl⟩, ⟨_, rfl⟩, ⟨_, rfl⟩, ⟨_, rfl⟩, ⟨_, rfl⟩, ⟨_, rfl⟩, ⟨_, rfl⟩, ⟨_, rfl⟩, ⟨_, rfl⟩, ⟨_, rfl⟩, ⟨_, rfl⟩, ⟨_, rfl⟩, ⟨_, rfl⟩, ⟨_, rfl⟩, ⟨_, rfl⟩, ⟨_, rfl⟩, ⟨_, rfl⟩, trivial⟩ | trivial) (by first | exact ⟨⟨_, rfl⟩, ⟨_, rfl⟩, ⟨_, rfl⟩, ⟨_, rfl⟩, ⟨_, rfl⟩, ⟨_, rfl⟩, ⟨_, rfl⟩, ⟨_, rfl⟩, ⟨_, rfl⟩, ⟨_, rfl⟩, ⟨_, rfl⟩, ⟨_, rfl⟩, ⟨_, rfl⟩, ⟨_, rfl⟩, ⟨_, rfl⟩, ⟨_, rfl⟩, ⟨_, rfl⟩, ⟨_, rfl⟩, ⟨_, rfl⟩, ⟨_, rfl⟩, ⟨_, rfl⟩, ⟨_, rfl⟩, ⟨_, rfl⟩, ⟨_, rfl⟩, ⟨_, rfl⟩, ⟨_, rfl⟩, ⟨_, rfl⟩, ⟨_, rfl⟩, ⟨_, rfl⟩, ⟨_, rfl⟩, ⟨_, rfl⟩, ⟨_, rfl⟩, ⟨_, rfl⟩, ⟨_, rfl⟩, ⟨_, rfl⟩, ⟨_, rfl⟩, trivial⟩ | trivial) (cellsEq #[.int .i64 o.k, .int .u8 0, .bool false, .int .u32 0, .int .u8 0, .int .u8 0, .int .u8 0, .int .u8 0, .int .u8 0, .int .u8 0, .int .u8 0, .int .u8 0, .int .u8 0, .int .u8 0, .int .u8 0, .int .u8 0, .int .u8 0, .int .u8 0, .int .u8 0, .int .u8 0, .int .u8 0, .int .u8 0, .int .u8 0, .int .u8 0, .int .u8 0, .int .u8 0, .int .u8 0, .int .u8 0, .int .u8 0, .int .u8 0, .int .u8 0, .int .u8 0, .int .u8 0, .int .u8 0, .int .u8 0, .int .u8 0].toList #[.int .i64 o.k, .int .u8 o.d, .bool o.a, .int .u32 o.tg, .int .u8 (o.p 0), .int .u8 (o.p 1), .int .u8 (o.p 2), .int .u8 (o.p 3), .int .u8 (o.p 4), .int .u8 (o.p 5), .int .u8 (o.p 6), .int .u8 (o.p 7), .int .u8 (o.p 8), .int .u8 (o.p 9), .int .u8 (o.p 10), .int .u8 (o.p 11), .int .u8 (o.p 12), .int .u8 (o.p 13), .int .u8 (o.p 14), .int .u8 (o.p 15), .int .u8 (o.s 0), .int .u8 (o.s 1), .int .u8 (o.s 2), .int .u8 (o.s 3), .int .u8 (o.s 4), .int .u8 (o.s 5), .int .u8 (o.s 6), .int .u8 (o.s 7), .int .u8 (o.s 8), .int .u8 (o.s 9), .int .u8 (o.s 10), .int .u8 (o.s 11), .int .u8 (o.s 12), .int .u8 (o.s 13), .int .u8 (o.s 14), .int .u8 (o.s 15)].toList) (by rfl) ?_
        refine VL_pure 4 [2] [(2, .bool (cellsEq #[.int .i64 o.k, .int .u8 0, .bool false, .int .u32 0, .int .u8 0, .int .u8 0, .int .u8 0, .int .u8 0, .int .u8 0, .int .u8 0, .int .u8 0, .int .u8 0, .int .u8 0, .int .u8 0, .int .u8 0, .int .u8 0, .int .u8 0, .int .u8 0, .int .u8 0, .int .u8 0, .int .u8 0, .int .u8 0, .int .u8 0, .int .u8 0, .int .u8 0, .int .u8 0, .int .u8 0, .int .u8 0, .int .u8 0, .int .u8 0, .int .u8 0, .int .u8 0, .int .u8 0, .int .u8 0, .int .u8 0, .int .u8 0].toList #[.int .i64 o.k, .int .u8 o.d, .bool o.a, .int .u32 o.tg, .int .u8 (o.p 0), .int .u8 (o.p 1), .int .u8 (o.p 2), .int .u8 (o.p 3), .int .u8 (o.p 4), .int .u8 (o.p 5), .int .u8 (o.p 6), .int .u8 (o.p 7), .int .u8 (o.p 8), .int .u8 (o.p 9), .int .u8 (o.p 10), .int .u8 (o.p 11), .int .u8 (o.p 12), .int .u8 (o.p 13), .int .u8 (o.p 14), .int .u8 (o.p 15), .int .u8 (o.s 0), .int .u8 (o.s 1), .int .u8 (o.s 2), .int .u8 (o.s 3), .int .u8 (o.s 4), .int .u8 (o.s 5), .int .u8 (o.s 6), .int .u8 (o.s 7), .int .u8 (o.s 8), .int .u8 (o.s 9), .int .u8 (o.s 10), .int .u8 (o.s 11), .int .u8 (o.s 12), .int .u8 (o.s 13), .int .u8 (o.s 14), .int .u8 (o.s 15)].toList))] (by kernel_rfl) rfl ?_
        refine VL_end (by kernel_rfl) ?_
        refine VQ_next ?_
        refine VC_ret ?_
        refine VQ_ret1 (.bool (cellsEq #[.int .i64 o.k, .int .u8 0, .bool false, .int .u32 0, .int .u8 0, .int .u8 0, .int .u8 0, .int .u8 0, .int .u8 0, .int .u8 0, .int .u8 0, .int .u8 0, .int .u8 0, .int .u8 0, .int .u8 0, .int .u8 0, .int .u8 0, .int .u8 0, .int .u8 0, .int .u8 0, .int .u8 0, .int .u8 0, .int .u8 0, .int .u8 0, .int .u8 0, .int .u8 0, .int .u8 0, .int .u8 0, .int .u8 0, .int .u8 0, .int .u8 0, .int .u8 0, .int .u8 0, .int .u8 0, .int .u8 0, .int .u8 0].toList #[.int .i64 o.k, .int .u8 o.d, .bool o.a, .int .u32 o.tg, .int .u8 (o.p 0), .int .u8 (o.p 1), .int .u8 (o.p 2), .int .u8 (o.p 3), .int .u8 (o.p 4), .int .u8 (o.p 5), .int .u8 (o.p 6), .int .u8 (o.p 7), .int .u8 (o.p 8), .int .u8 (o.p 9), .int .u8 (o.p 10), .int .u8 (o.p 11), .int .u8 (o.p 12), .int .u8 (o.p 13), .int .u8 (o.p 14), .int .u8 (o.p 15), .int .u8 (o.s 0), .int .u8 (o.s 1), .int .u8 (o.s 2), .int .u8 (o.s 3), .int .u8 (o.s 4), .int .u8 (o.s 5), .int .u8 (o.s 6), .int .u8 (o.s 7), .int .u8 (o.s 8), .int .u8 (o.s 9), .int .u8 (o.s 10), .int .u8 (o.s 11), .int .u8 (o.s 12), .int .u8 (o.s 13), .int .u8 (o.s 14), .int .u8 (o.s 15)].toList)) (.inr rfl) rfl rfl ?_
        exact ⟨congrArg Value.bool (Eq.symm (rightO_4 (by omega))), hS⟩
      · refine VC_seq ?_
        refine VC_region ?_
        refine VL_pure 2 [1, 3, 20] [(1, .pointer (some ⟨b1, 0, none⟩)), (3, .pointer (some ⟨b2, 0, none⟩)), (20, .bool (o.k == 8))] (by kernel_rfl) rfl ?_
        refine VL_end (by kernel_rfl) ?_
        refine VQ_next ?_
        refine VC_eq o.k 8 (by kernel_rfl) (fun h4 => ?_) (fun h4 => ?_)
        · have hs2 := drew_step w3
          have hs2z : w3.heap.size = w3.drew.heap.size := rfl
          refine VC_text [[], [0], [], [2], [], [4], [], [6], [0, 1], [0, 1, 8], [0, 1, 2, 3, 8, 9], [0, 1, 2, 3, 8, 9, 10], [0, 1, 2, 3, 4, 5, 8, 9, 10, 11], [0, 1, 2, 3, 4, 5, 8, 9, 10, 11, 12], [0, 1, 2, 3, 4, 5, 6, 7, 8, 9, 10, 11, 12, 13], [0, 1, 2, 3, 4, 5, 6, 7, 8, 9, 10, 11, 12, 13, 14]] 14 (fun x y => Step (fun k => k = b2 ∨ w3.heap.size ≤ k) x y) [9, 11, 13] [0, 1, 2, 3, 4, 5, 6, 7, 8, 9, 10, 11, 12, 13] (by kernel_rfl) (by kernel_rfl) (by kernel_rfl) (by kernel_rfl) (fun x => Step.refl _ x) (fun h k => Step.trans h k) Step.weak ?_
          have hzs3 := hS.size
          have hzl2 := ho1.lt
          have hzl3 := ho3.lt
          generalize w3.drew = w8 at hs2 hs2z ⊢
          replace hS := Step.trans hS hs2
          replace ho1 := ho1.no hs2
          replace ho3 := ho3.no hs2
          refine VT_pures 1 (kn' := [(0, .pointer (some ⟨b1, 2, none⟩))]) (by kernel_rfl) ?_
          refine VT_load (d := 23) (t := 4) (a := ⟨b1, 2, none⟩) (v := .bool o.a) (by kernel_rfl) (by kernel_rfl) ?_ ?_
          · intro w9 hr3
            replace hS := Step.transNew hS hr3 (fun i hi hG => by (try simp only at hG); omega)
            replace ho1 := ho1.step hr3 (by (try simp only); omega)
            exact (Loads.own1 ho1 (by kernel_rfl) (by rfl))
          refine VT_pures 1 (kn' := [(2, .pointer (some ⟨b1, 3, none⟩)), (1, .bool o.a), (0, .pointer (some ⟨b1, 2, none⟩))]) (by kernel_rfl) ?_
          refine VT_load (d := 25) (t := 22) (a := ⟨b1, 3, none⟩) (v := .int .u32 o.tg) (by kernel_rfl) (by kernel_rfl) ?_ ?_
          · intro w10 hr4
            replace hS := Step.transNew hS hr4 (fun i hi hG => by (try simp only at hG); omega)
            replace ho1 := ho1.step hr4 (by (try simp only); omega)
            exact (Loads.own1 ho1 (by kernel_rfl) (by rfl))
          refine VT_pures 1 (kn' := [(4, .pointer (some ⟨b1, 4, none⟩)), (3, .int .u32 o.tg), (2, .pointer (some ⟨b1, 3, none⟩)), (1, .bool o.a), (0, .pointer (some ⟨b1, 2, none⟩))]) (by kernel_rfl) ?_
          refine VT_load (d := 27) (t := 23) (a := ⟨b1, 4, none⟩) (v := .agg #[.int .u8 (o.p 0), .int .u8 (o.p 1), .int .u8 (o.p 2), .int .u8 (o.p 3), .int .u8 (o.p 4), .int .u8 (o.p 5), .int .u8 (o.p 6), .int .u8 (o.p 7), .int .u8 (o.p 8), .int .u8 (o.p 9), .int .u8 (o.p 10), .int .u8 (o.p 11), .int .u8 (o.p 12), .int .u8 (o.p 13), .int .u8 (o.p 14), .int .u8 (o.p 15)]) (by kernel_rfl) (by kernel_rfl) ?_ ?_
          · intro w11 hr5
            replace hS := Step.transNew hS hr5 (fun i hi hG => by (try simp only at hG); omega)
            replace ho1 := ho1.step hr5 (by (try simp only); omega)
            exact (Loads.ownL ho1 (n := 16) (by kernel_rfl) (by kernel_rfl) (by kernel_rfl))
          refine VT_pures 1 (kn' := [(6, .pointer (some ⟨b1, 20, none⟩)), (5, .agg #[.int .u8 (o.p 0), .int .u8 (o.p 1), .int .u8 (o.p 2), .int .u8 (o.p 3), .int .u8 (o.p 4), .int .u8 (o.p 5), .int .u8 (o.p 6), .int .u8 (o.p 7), .int .u8 (o.p 8), .int .u8 (o.p 9), .int .u8 (o.p 10), .int .u8 (o.p 11), .int .u8 (o.p 12), .int .u8 (o.p 13), .int .u8 (o.p 14), .int .u8 (o.p 15)]), (4, .pointer (some ⟨b1, 4, none⟩)), (3, .int .u32 o.tg), (2, .pointer (some ⟨b1, 3, none⟩)), (1, .bool o.a), (0, .pointer (some ⟨b1, 2, none⟩))]) (by kernel_rfl) ?_
          refine VT_load (d := 29) (t := 23) (a := ⟨b1, 20, none⟩) (v := .agg #[.int .u8 (o.s 0), .int .u8 (o.s 1), .int .u8 (o.s 2), .int .u8 (o.s 3), .int .u8 (o.s 4), .int .u8 (o.s 5), .int .u8 (o.s 6), .int .u8 (o.s 7), .int .u8 (o.s 8), .int .u8 (o.s 9), .int .u8 (o.s 10), .int .u8 (o.s 11), .int .u8 (o.s 12), .int .u8 (o.s 13), .int .u8 (o.s 14), .int .u8 (o.s 15)]) (by kernel_rfl) (by kernel_rfl) ?_ ?_
          · intro w12 hr6
            replace hS := Step.transNew hS hr6 (fun i hi hG => by (try simp only at hG); omega)
            replace ho1 := ho1.step hr6 (by (try simp only); omega)
            exact (Loads.ownL ho1 (n := 16) (by kernel_rfl) (by kernel_rfl) (by kernel_rfl))
          refine VT_pures 1 (kn' := [(8, .pointer (some ⟨b2, 2, none⟩)), (7, .agg #[.int .u8 (o.s 0), .int .u8 (o.s 1), .int .u8 (o.s 2), .int .u8 (o.s 3), .int .u8 (o.s 4), .int .u8 (o.s 5), .int .u8 (o.s 6), .int .u8 (o.s 7), .int .u8 (o.s 8), .int .u8 (o.s 9), .int .u8 (o.s 10), .int .u8 (o.s 11), .int .u8 (o.s 12), .int .u8 (o.s 13), .int .u8 (o.s 14), .int .u8 (o.s 15)]), (6, .pointer (some ⟨b1, 20, none⟩)), (5, .agg #[.int .u8 (o.p 0), .int .u8 (o.p 1), .int .u8 (o.p 2), .int .u8 (o.p 3), .int .u8 (o.p 4), .int .u8 (o.p 5), .int .u8 (o.p 6), .int .u8 (o.p 7), .int .u8 (o.p 8), .int .u8 (o.p 9), .int .u8 (o.p 10), .int .u8 (o.p 11), .int .u8 (o.p 12), .int .u8 (o.p 13), .int .u8 (o.p 14), .int .u8 (o.p 15)]), (4, .pointer (some ⟨b1, 4, none⟩)), (3, .int .u32 o.tg), (2, .pointer (some ⟨b1, 3, none⟩)), (1, .bool o.a), (0, .pointer (some ⟨b1, 2, none⟩))]) (by kernel_rfl) ?_
          refine VT_chain (by kernel_rfl) ?_
          intro w13 hs3
          have hzhs3 := hs3.size
          replace hS := Step.trans hS hs3
          replace ho1 := ho1.no hs3
          replace ho3 := ho3.no hs3
          refine VTc_store (b := b2) (o := 2) (vs := [.bool o.a]) (by kernel_rfl) (by kernel_rfl) ho3 (Nat.le_of_ble_eq_true (by kernel_rfl)) (fun w1 hw => Step.mono hw.step (by intro i hi; (try simp only at hi ⊢); omega)) ?_
          intro w14 hw3
          replace hS := Step.transNew hS hw3.step (fun _ _ _ => by omega)
          replace ho1 := ho1.step hw3.step (show ¬ b1 = b2 by omega)
          have ho6 : Own w14 b2 #[.int .i64 o.k, .int .u8 0, .bool o.a, .int .u32 0, .int .u8 0, .int .u8 0, .int .u8 0, .int .u8 0, .int .u8 0, .int .u8 0, .int .u8 0, .int .u8 0, .int .u8 0, .int .u8 0, .int .u8 0, .int .u8 0, .int .u8 0, .int .u8 0, .int .u8 0, .int .u8 0, .int .u8 0, .int .u8 0, .int .u8 0, .int .u8 0, .int .u8 0, .int .u8 0, .int .u8 0, .int .u8 0, .int .u8 0, .int .u8 0, .int .u8 0, .int .u8 0, .int .u8 0, .int .u8 0, .int .u8 0, .int .u8 0] 25 := Own.cast hw3.own (by kernel_rfl)
          have hzhw3 := hw3.same
          refine VT_pures 1 (kn' := [(10, .pointer (some ⟨b2, 3, none⟩)), (8, .pointer (some ⟨b2, 2, none⟩)), (7, .agg #[.int .u8 (o.s 0), .int .u8 (o.s 1), .int .u8 (o.s 2), .int .u8 (o.s 3), .int .u8 (o.s 4), .int .u8 (o.s 5), .int .u8 (o.s 6), .int .u8 (o.s 7), .int .u8 (o.s 8), .int .u8 (o.s 9), .int .u8 (o.s 10), .int .u8 (o.s 11), .int .u8 (o.s 12), .int .u8 (o.s 13), .int .u8 (o.s 14), .int .u8 (o.s 15)]), (6, .pointer (some ⟨b1, 20, none⟩)), (5, .agg #[.int .u8 (o.p 0), .int .u8 (o.p 1), .int .u8 (o.p 2), .int .u8 (o.p 3), .int .u8 (o.p 4), .int .u8 (o.p 5), .int .u8 (o.p 6), .int .u8 (o.p 7), .int .u8 (o.p 8), .int .u8 (o.p 9), .int .u8 (o.p 10), .int .u8 (o.p 11), .int .u8 (o.p 12), .int .u8 (o.p 13), .int .u8 (o.p 14), .int .u8 (o.p 15)]), (4, .pointer (some ⟨b1, 4, none⟩)), (3, .int .u32 o.tg), (2, .pointer (some ⟨b1, 3, none⟩)), (1, .bool o.a), (0, .pointer (some ⟨b1, 2, none⟩))]) (by kernel_rfl) ?_
          refine VT_chain (by kernel_rfl) ?_
          intro w15 hs4
          have hzhs4 := hs4.size
          replace hS := Step.trans hS hs4
          replace ho1 := ho1.no hs4
          replace ho6 := ho6.no hs4
          refine VTc_store (b := b2) (o := 3) (vs := [.int .u32 o.tg]) (by kernel_rfl) (by kernel_rfl) ho6 (Nat.le_of_ble_eq_true (by kernel_rfl)) (fun w1 hw => Step.mono hw.step (by intro i hi; (try simp only at hi ⊢); omega)) ?_
          intro w16 hw4
          replace hS := Step.transNew hS hw4.step (fun _ _ _ => by omega)
          replace ho1 := ho1.step hw4.step (show ¬ b1 = b2 by omega)
          have ho7 : Own w16 b2 #[.int .i64 o.k, .int .u8 0, .bool o.a, .int .u32 o.tg, .int .u8 0, .int .u8 0, .int .u8 0, .int .u8 0, .int .u8 0, .int .u8 0, .int .u8 0, .int .u8 0, .int .u8 0, .int .u8 0, .int .u8 0, .int .u8 0, .int .u8 0, .int .u8 0, .int .u8 0, .int .u8 0, .int .u8 0, .int .u8 0, .int .u8 0, .int .u8 0, .int .u8 0, .int .u8 0, .int .u8 0, .int .u8 0, .int .u8 0, .int .u8 0, .int .u8 0, .int .u8 0, .int .u8 0, .int .u8 0, .int .u8 0, .int .u8 0] 25 := Own.cast hw4.own (by kernel_rfl)
          have hzhw4 := hw4.same
          refine VT_pures 1 (kn' := [(12, .pointer (some ⟨b2, 4, none⟩)), (10, .pointer (some ⟨b2, 3, none⟩)), (8, .pointer (some ⟨b2, 2, none⟩)), (7, .agg #[.int .u8 (o.s 0), .int .u8 (o.s 1), .int .u8 (o.s 2), .int .u8 (o.s 3), .int .u8 (o.s 4), .int .u8 (o.s 5), .int .u8 (o.s 6), .int .u8 (o.s 7), .int .u8 (o.s 8), .int .u8 (o.s 9), .int .u8 (o.s 10), .int .u8 (o.s 11), .int .u8 (o.s 12), .int .u8 (o.s 13), .int .u8 (o.s 14), .int .u8 (o.s 15)]), (6, .pointer (some ⟨b1, 20, none⟩)), (5, .agg #[.int .u8 (o.p 0), .int .u8 (o.p 1), .int .u8 (o.p 2), .int .u8 (o.p 3), .int .u8 (o.p 4), .int .u8 (o.p 5), .int .u8 (o.p 6), .int .u8 (o.p 7), .int .u8 (o.p 8), .int .u8 (o.p 9), .int .u8 (o.p 10), .int .u8 (o.p 11), .int .u8 (o.p 12), .int .u8 (o.p 13), .int .u8 (o.p 14), .int .u8 (o.p 15)]), (4, .pointer (some ⟨b1, 4, none⟩)), (3, .int .u32 o.tg), (2, .pointer (some ⟨b1, 3, none⟩)), (1, .bool o.a), (0, .pointer (some ⟨b1, 2, none⟩))]) (by kernel_rfl) ?_
          refine VT_chain (by kernel_rfl) ?_
          intro w17 hs5
          have hzhs5 := hs5.size
          replace hS := Step.trans hS hs5
          replace ho1 := ho1.no hs5
          replace ho7 := ho7.no hs5
          refine VTc_store (b := b2) (o := 4) (vs := [.int .u8 (o.p 0), .int .u8 (o.p 1), .int .u8 (o.p 2), .int .u8 (o.p 3), .int .u8 (o.p 4), .int .u8 (o.p 5), .int .u8 (o.p 6), .int .u8 (o.p 7), .int .u8 (o.p 8), .int .u8 (o.p 9), .int .u8 (o.p 10), .int .u8 (o.p 11), .int .u8 (o.p 12), .int .u8 (o.p 13), .int .u8 (o.p 14), .int .u8 (o.p 15)]) (by kernel_rfl) (by kernel_rfl) ho7 (Nat.le_of_ble_eq_true (by kernel_rfl)) (fun w1 hw => Step.mono hw.step (by intro i hi; (try simp only at hi ⊢); omega)) ?_
          intro w18 hw5
          replace hS := Step.transNew hS hw5.step (fun _ _ _ => by omega)
          replace ho1 := ho1.step hw5.step (show ¬ b1 = b2 by omega)
          have ho8 : Own w18 b2 #[.int .i64 o.k, .int .u8 0, .bool o.a, .int .u32 o.tg, .int .u8 (o.p 0), .int .u8 (o.p 1), .int .u8 (o.p 2), .int .u8 (o.p 3), .int .u8 (o.p 4), .int .u8 (o.p 5), .int .u8 (o.p 6), .int .u8 (o.p 7), .int .u8 (o.p 8), .int .u8 (o.p 9), .int .u8 (o.p 10), .int .u8 (o.p 11), .int .u8 (o.p 12), .int .u8 (o.p 13), .int .u8 (o.p 14), .int .u8 (o.p 15), .int .u8 0, .int .u8 0, .int .u8 0, .int .u8 0, .int .u8 0, .int .u8 0, .int .u8 0, .int .u8 0, .int .u8 0, .int .u8 0, .int .u8 0, .int .u8 0, .int .u8 0, .int .u8 0, .int .u8 0, .int .u8 0] 25 := Own.cast hw5.own (by kernel_rfl)
          have hzhw5 := hw5.same
          refine VT_end ?_
          intro w19 hs6
          replace hS := Step.trans hS hs6
          replace ho1 := ho1.no hs6
          replace ho8 := ho8.no hs6
          refine VL_keep [1, 3, 29] [(1, .pointer (some ⟨b1, 0, none⟩)), (3, .pointer (some ⟨b2, 0, none⟩)), (29, .agg #[.int .u8 (o.s 0), .int .u8 (o.s 1), .int .u8 (o.s 2), .int .u8 (o.s 3), .int .u8 (o.s 4), .int .u8 (o.s 5), .int .u8 (o.s 6), .int .u8 (o.s 7), .int .u8 (o.s 8), .int .u8 (o.s 9), .int .u8 (o.s 10), .int .u8 (o.s 11), .int .u8 (o.s 12), .int .u8 (o.s 13), .int .u8 (o.s 14), .int .u8 (o.s 15)])] (by kernel_rfl) ?_
          refine VL_pure 15 [1, 3, 29, 33] [(1, .pointer (some ⟨b1, 0, none⟩)), (3, .pointer (some ⟨b2, 0, none⟩)), (29, .agg #[.int .u8 (o.s 0), .int .u8 (o.s 1), .int .u8 (o.s 2), .int .u8 (o.s 3), .int .u8 (o.s 4), .int .u8 (o.s 5), .int .u8 (o.s 6), .int .u8 (o.s 7), .int .u8 (o.s 8), .int .u8 (o.s 9), .int .u8 (o.s 10), .int .u8 (o.s 11), .int .u8 (o.s 12), .int .u8 (o.s 13), .int .u8 (o.s 14), .int .u8 (o.s 15)]), (33, .pointer (some ⟨b2, 20, none⟩))] (by kernel_rfl) rfl ?_
          refine VL_store (b := b2) (o := 20) (vs := [.int .u8 (o.s 0), .int .u8 (o.s 1), .int .u8 (o.s 2), .int .u8 (o.s 3), .int .u8 (o.s 4), .int .u8 (o.s 5), .int .u8 (o.s 6), .int .u8 (o.s 7), .int .u8 (o.s 8), .int .u8 (o.s 9), .int .u8 (o.s 10), .int .u8 (o.s 11), .int .u8 (o.s 12), .int .u8 (o.s 13), .int .u8 (o.s 14), .int .u8 (o.s 15)]) (by kernel_rfl) (by kernel_rfl) ho8 (Nat.le_of_ble_eq_true (by kernel_rfl)) ?_
          intro w20 hw6
          replace hS := Step.transNew hS hw6.step (fun _ _ _ => by omega)
          replace ho1 := ho1.step hw6.step (show ¬ b1 = b2 by omega)
          have ho9 : Own w20 b2 #[.int .i64 o.k, .int .u8 0, .bool o.a, .int .u32 o.tg, .int .u8 (o.p 0), .int .u8 (o.p 1), .int .u8 (o.p 2), .int .u8 (o.p 3), .int .u8 (o.p 4), .int .u8 (o.p 5), .int .u8 (o.p 6), .int .u8 (o.p 7), .int .u8 (o.p 8), .int .u8 (o.p 9), .int .u8 (o.p 10), .int .u8 (o.p 11), .int .u8 (o.p 12), .int .u8 (o.p 13), .int .u8 (o.p 14), .int .u8 (o.p 15), .int .u8 (o.s 0), .int .u8 (o.s 1), .int .u8 (o.s 2), .int .u8 (o.s 3), .int .u8 (o.s 4), .int .u8 (o.s 5), .int .u8 (o.s 6), .int .u8 (o.s 7), .int .u8 (o.s 8), .int .u8 (o.s 9), .int .u8 (o.s 10), .int .u8 (o.s 11), .int .u8 (o.s 12), .int .u8 (o.s 13), .int .u8 (o.s 14), .int .u8 (o.s 15)] 25 := Own.cast hw6.own (by kernel_rfl)
          have hzhw6 := hw6.same
          refine VL_end (by kernel_rfl) ?_
          refine VQ_block_normal ?_
          refine VQ_next ?_
          refine VC_seq ?_
          refine VC_region ?_
          refine VL_load (d := 34) (t := 25) (a := ⟨b2, 0, none⟩) (v := .agg #[.int .i64 o.k, .int .u8 0, .bool o.a, .int .u32 o.tg, .int .u8 (o.p 0), .int .u8 (o.p 1), .int .u8 (o.p 2), .int .u8 (o.p 3), .int .u8 (o.p 4), .int .u8 (o.p 5), .int .u8 (o.p 6), .int .u8 (o.p 7), .int .u8 (o.p 8), .int .u8 (o.p 9), .int .u8 (o.p 10), .int .u8 (o.p 11), .int .u8 (o.p 12), .int .u8 (o.p 13), .int .u8 (o.p 14), .int .u8 (o.p 15), .int .u8 (o.s 0), .int .u8 (o.s 1), .int .u8 (o.s 2), .int .u8 (o.s 3), .int .u8 (o.s 4), .int .u8 (o.s 5), .int .u8 (o.s 6), .int .u8 (o.s 7), .int .u8 (o.s 8), .int .u8 (o.s 9), .int .u8 (o.s 10), .int .u8 (o.s 11), .int .u8 (o.s 12), .int .u8 (o.s 13), .int .u8 (o.s 14), .int .u8 (o.s 15)]) (by kernel_rfl) (by kernel_rfl) (Loads.ownL ho9 (n := 36) (by kernel_rfl) (by kernel_rfl) (by kernel_rfl)) ?_
          refine VL_load (d := 35) (t := 25) (a := ⟨b1, 0, none⟩) (v := .agg #[.int .i64 o.k, .int .u8 o.d, .bool o.a, .int .u32 o.tg, .int .u8 (o.p 0), .int .u8 (o.p 1), .int .u8 (o.p 2), .int .u8 (o.p 3), .int .u8 (o.p 4), .int .u8 (o.p 5), .int .u8 (o.p 6), .int .u8 (o.p 7), .int .u8 (o.p 8), .int .u8 (o.p 9), .int .u8 (o.p 10), .int .u8 (o.p 11), .int .u8 (o.p 12), .int .u8 (o.p 13), .int .u8 (o.p 14), .int .u8 (o.p 15), .int .u8 (o.s 0), .int .u8 (o.s 1), .int .u8 (o.s 2), .int .u8 (o.s 3), .int .u8 (o.s 4), .int .u8 (o.s 5), .int .u8 (o.s 6), .int .u8 (o.s 7), .int .u8 (o.s 8), .int .u8 (o.s 9), .int .u8 (o.s 10), .int .u8 (o.s 11), .int .u8 (o.s 12), .int .u8 (o.s 13), .int .u8 (o.s 14), .int .u8 (o.s 15)]) (by kernel_rfl) (by kernel_rfl) (Loads.ownL ho1 (n := 36) (by kernel_rfl) (by kernel_rfl) (by kernel_rfl)) ?_
          refine VL_agEq (d := 36) (dd := 9) (ls := ([.int .i64] ++ [.int .u8] ++ [.bool] ++ [.int .u32] ++ (rep 16 [.int .u8]) ++ (rep 16 [.int .u8]) ++ [])) (pos := true) (t := 25) (xs := #[.int .i64 o.k, .int .u8 0, .bool o.a, .int .u32 o.tg, .int .u8 (o.p 0), .int .u8 (o.p 1), .int .u8 (o.p 2), .int .u8 (o.p 3), .int .u8 (o.p 4), .int .u8 (o.p 5), .int .u8 (o.p 6), .int .u8 (o.p 7), .int .u8 (o.p 8), .int .u8 (o.p 9), .int .u8 (o.p 10), .int .u8 (o.p 11), .int .u8 (o.p 12), .int .u8 (o.p 13), .int .u8 (o.p 14), .int .u8 (o.p 15), .int .u8 (o.s 0), .int .u8 (o.s 1), .int .u8 (o.s 2), .int .u8 (o.s 3), .int .u8 (o.s 4), .int .u8 (o.s 5), .int .u8 (o.s 6), .int .u8 (o.s 7), .int .u8 (o.s 8), .int .u8 (o.s 9), .int .u8 (o.s 10), .int .u8 (o.s 11), .int .u8 (o.s 12), .int .u8 (o.s 13), .int .u8 (o.s 14), .int .u8 (o.s 15)]) (ys := #[.int .i64 o.k, .int .u8 o.d, .bool o.a, .int .u32 o.tg, .int .u8 (o.p 0), .int .u8 (o.p 1), .int .u8 (o.p 2), .int .u8 (o.p 3), .int .u8 (o.p 4), .int .u8 (o.p 5), .int .u8 (o.p 6), .int .u8 (o.p 7), .int .u8 (o.p 8), .int .u8 (o.p 9), .int .u8 (o.p 10), .int .u8 (o.p 11), .int .u8 (o.p 12), .int .u8 (o.p 13), .int .u8 (o.p 14), .int .u8 (o.p 15), .int .u8 (o.s 0), .int .u8 (o.s 1), .int .u8 (o.s 2), .int .u8 (o.s 3), .int .u8 (o.s 4), .int .u8 (o.s 5), .int .u8 (o.s 6), .int .u8 (o.s 7), .int .u8 (o.s 8), .int .u8 (o.s 9), .int .u8 (o.s 10), .int .u8 (o.s 11), .int .u8 (o.s 12), .int .u8 (o.s 13), .int .u8 (o.s 14), .int .u8 (o.s 15)]) (by kernel_rfl) (by kernel_rfl) (by kernel_rfl) (by kernel_rfl) (by first | exact ⟨⟨_, rfl⟩, ⟨_, rfl⟩, ⟨_, rfl⟩, ⟨_, rfl⟩, ⟨_, rfl⟩, ⟨_, rfl⟩, ⟨_, rfl⟩, ⟨_, rfl⟩, ⟨_, rfl⟩, ⟨_, rfl⟩, ⟨_, rfl⟩, ⟨_, rfl⟩, ⟨_, rfl⟩, ⟨_, rfl⟩, ⟨_, rfl⟩, ⟨_, rfl⟩, ⟨_, rfl⟩, ⟨_, rfl⟩, ⟨_, rfl⟩, ⟨_, rfl⟩, ⟨_, rfl⟩, ⟨_, rfl⟩, ⟨_, rfl⟩, ⟨_, rfl⟩, ⟨_, rfl⟩, ⟨_, rfl⟩, ⟨_, rfl⟩, ⟨_, rfl⟩, ⟨_, rfl⟩, ⟨_, rfl⟩, ⟨_, rfl⟩, ⟨_, rfl⟩, ⟨_, rfl⟩, ⟨_, rfl⟩, ⟨_, rfl⟩, ⟨_, rfl⟩, trivial⟩ | trivial) (by first | exact ⟨⟨_, rfl⟩, ⟨_, rfl⟩, ⟨_, rfl⟩, ⟨_, rfl⟩, ⟨_, rfl⟩, ⟨_, rfl⟩, ⟨_, rfl⟩, ⟨_, rfl⟩, ⟨_, rfl⟩, ⟨_, rfl⟩, ⟨_, rfl⟩, ⟨_, rfl⟩, ⟨_, rfl⟩, ⟨_, rfl⟩, ⟨_, rfl⟩, ⟨_, rfl⟩, ⟨_, rfl⟩, ⟨_, rfl⟩, ⟨_, rfl⟩, ⟨_, rfl⟩, ⟨_, rfl⟩, ⟨_, rfl⟩, ⟨_, rfl⟩, ⟨_, rfl⟩, ⟨_, rfl⟩, ⟨_, rfl⟩, ⟨_, rfl⟩, ⟨_, rfl⟩, ⟨_, rfl⟩, ⟨_, rfl⟩, ⟨_, rfl⟩, ⟨_, rfl⟩, ⟨_, rfl⟩, ⟨_, rfl⟩, ⟨_, rfl⟩, ⟨_, rfl⟩, trivial⟩ | trivial) (cellsEq #[.int .i64 o.k, .int .u8 0, .bool o.a, .int .u32 o.tg, .int .u8 (o.p 0), .int .u8 (o.p 1), .int .u8 (o.p 2), .int .u8 (o.p 3), .int .u8 (o.p 4), .int .u8 (o.p 5), .int .u8 (o.p 6), .int .u8 (o.p 7), .int .u8 (o.p 8), .int .u8 (o.p 9), .int .u8 (o.p 10), .int .u8 (o.p 11), .int .u8 (o.p 12), .int .u8 (o.p 13), .int .u8 (o.p 14), .int .u8 (o.p 15), .int .u8 (o.s 0), .int .u8 (o.s 1), .int .u8 (o.s 2), .int .u8 (o.s 3), .int .u8 (o.s 4), .int .u8 (o.s 5), .int .u8 (o.s 6), .int .u8 (o.s 7), .int .u8 (o.s 8), .int .u8 (o.s 9), .int .u8 (o.s 10), .int .u8 (o.s 11), .int .u8 (o.s 12), .int .u8 (o.s 13), .int .u8 (o.s 14), .int .u8 (o.s 15)].toList #[.int .i64 o.k, .int .u8 o.d, .bool o.a, .int .u32 o.tg, .int .u8 (o.p 0), .int .u8 (o.p 1), .int .u8 (o.p 2), .int .u8 (o.p 3), .int .u8 (o.p 4), .int .u8 (o.p 5), .int .u8 (o.p 6), .int .u8 (o.p 7), .int .u8 (o.p 8), .int .u8 (o.p 9), .int .u8 (o.p 10), .int .u8 (o.p 11), .int .u8 (o.p 12), .int .u8 (o.p 13), .int .u8 (o.p 14), .int .u8 (o.p 15), .int .u8 (o.s 0), .int .u8 (o.s 1), .int .u8 (o.s 2), .int .u8 (o.s 3), .int .u8 (o.s 4), .int .u8 (o.s 5), .int .u8 (o.s 6), .int .u8 (o.s 7), .int .u8 (o.s 8), .int .u8 (o.s 9), .int .u8 (o.s 10), .int .u8 (o.s 11), .int .u8 (o.s 12), .int .u8 (o.s 13), .int .u8 (o.s 14), .int .u8 (o.s 15)].toList) (by rfl) ?_
          refine VL_pure 4 [2] [(2, .bool (cellsEq #[.int .i64 o.k, .int .u8 0, .bool o.a, .int .u32 o.tg, .int .u8 (o.p 0), .int .u8 (o.p 1), .int .u8 (o.p 2), .int .u8 (o.p 3), .int .u8 (o.p 4), .int .u8 (o.p 5), .int .u8 (o.p 6), .int .u8 (o.p 7), .int .u8 (o.p 8), .int .u8 (o.p 9), .int .u8 (o.p 10), .int .u8 (o.p 11), .int .u8 (o.p 12), .int .u8 (o.p 13), .int .u8 (o.p 14), .int .u8 (o.p 15), .int .u8 (o.s 0), .int .u8 (o.s 1), .int .u8 (o.s 2), .int .u8 (o.s 3), .int .u8 (o.s 4), .int .u8 (o.s 5), .int .u8 (o.s 6), .int .u8 (o.s 7), .int .u8 (o.s 8), .int .u8 (o.s 9), .int .u8 (o.s 10), .int .u8 (o.s 11), .int .u8 (o.s 12), .int .u8 (o.s 13), .int .u8 (o.s 14), .int .u8 (o.s 15)].toList #[.int .i64 o.k, .int .u8 o.d, .bool o.a, .int .u32 o.tg, .int .u8 (o.p 0), .int .u8 (o.p 1), .int .u8 (o.p 2), .int .u8 (o.p 3), .int .u8 (o.p 4), .int .u8 (o.p 5), .int .u8 (o.p 6), .int .u8 (o.p 7), .int .u8 (o.p 8), .int .u8 (o.p 9), .int .u8 (o.p 10), .int .u8 (o.p 11), .int .u8 (o.p 12), .int .u8 (o.p 13), .int .u8 (o.p 14), .int .u8 (o.p 15), .int .u8 (o.s 0), .int .u8 (o.s 1), .int .u8 (o.s 2), .int .u8 (o.s 3), .int .u8 (o.s 4), .int .u8 (o.s 5), .int .u8 (o.s 6), .int .u8 (o.s 7), .int .u8 (o.s 8), .int .u8 (o.s 9), .int .u8 (o.s 10), .int .u8 (o.s 11), .int .u8 (o.s 12), .int .u8 (o.s 13), .int .u8 (o.s 14), .int .u8 (o.s 15)].toList))] (by kernel_rfl) rfl ?_
          refine VL_end (by kernel_rfl) ?_
          refine VQ_next ?_
          refine VC_ret ?_
          refine VQ_ret1 (.bool (cellsEq #[.int .i64 o.k, .int .u8 0, .bool o.a, .int .u32 o.tg, .int .u8 (o.p 0), .int .u8 (o.p 1), .int .u8 (o.p 2), .int .u8 (o.p 3), .int .u8 (o.p 4), .int .u8 (o.p 5), .int .u8 (o.p 6), .int .u8 (o.p 7), .int .u8 (o.p 8), .int .u8 (o.p 9), .int .u8 (o.p 10), .int .u8 (o.p 11), .int .u8 (o.p 12), .int .u8 (o.p 13), .int .u8 (o.p 14), .int .u8 (o.p 15), .int .u8 (o.s 0), .int .u8 (o.s 1), .int .u8 (o.s 2), .int .u8 (o.s 3), .int .u8 (o.s 4), .int .u8 (o.s 5), .int .u8 (o.s 6), .int .u8 (o.s 7), .int .u8 (o.s 8), .int .u8 (o.s 9), .int .u8 (o.s 10), .int .u8 (o.s 11), .int .u8 (o.s 12), .int .u8 (o.s 13), .int .u8 (o.s 14), .int .u8 (o.s 15)].toList #[.int .i64 o.k, .int .u8 o.d, .bool o.a, .int .u32 o.tg, .int .u8 (o.p 0), .int .u8 (o.p 1), .int .u8 (o.p 2), .int .u8 (o.p 3), .int .u8 (o.p 4), .int .u8 (o.p 5), .int .u8 (o.p 6), .int .u8 (o.p 7), .int .u8 (o.p 8), .int .u8 (o.p 9), .int .u8 (o.p 10), .int .u8 (o.p 11), .int .u8 (o.p 12), .int .u8 (o.p 13), .int .u8 (o.p 14), .int .u8 (o.p 15), .int .u8 (o.s 0), .int .u8 (o.s 1), .int .u8 (o.s 2), .int .u8 (o.s 3), .int .u8 (o.s 4), .int .u8 (o.s 5), .int .u8 (o.s 6), .int .u8 (o.s 7), .int .u8 (o.s 8), .int .u8 (o.s 9), .int .u8 (o.s 10), .int .u8 (o.s 11), .int .u8 (o.s 12), .int .u8 (o.s 13), .int .u8 (o.s 14), .int .u8 (o.s 15)].toList)) (.inr rfl) rfl rfl ?_
          exact ⟨congrArg Value.bool (Eq.symm (rightO_8 (by omega))), hS⟩
        · refine VC_seq ?_
          refine VC_region ?_
          refine VL_pure 1 [2] [(2, .bool false)] (by kernel_rfl) rfl ?_
          refine VL_end (by kernel_rfl) ?_
          refine VQ_next ?_
          refine VC_ret ?_
          refine VQ_block_ret ?_
          refine VQ_then_ret ?_
          refine VQ_ret1 (.bool false) (.inr rfl) rfl rfl ?_
          exact ⟨congrArg Value.bool (Eq.symm (rightO_no (by omega) (by omega) (by omega) (by omega))), hS⟩
  · refine VC_region ?_
    refine VL_pure 2 [1, 3, 8, 9] [(1, .pointer (some ⟨b1, 0, none⟩)), (3, .pointer (some ⟨b2, 0, none⟩)), (8, .int .i64 o.k), (9, .bool (o.k == 1))] (by kernel_rfl) rfl ?_
    refine VL_end (by kernel_rfl) ?_
    refine VQ_next ?_
    refine VC_eq o.k 1 (by kernel_rfl) (fun h5 => ?_) (fun h5 => ?_)
    · refine VC_eff [[], [0], [], [2], [0, 1], [0, 1, 4], [0, 1, 2, 3, 4, 5], [0, 1, 2, 3, 4, 5, 6]] 6 [.pointer (some ⟨b1, 1, none⟩), .int .u8 o.d, .pointer (some ⟨b1, 4, none⟩), .agg #[.int .u8 (o.p 0), .int .u8 (o.p 1), .int .u8 (o.p 2), .int .u8 (o.p 3), .int .u8 (o.p 4), .int .u8 (o.p 5), .int .u8 (o.p 6), .int .u8 (o.p 7), .int .u8 (o.p 8), .int .u8 (o.p 9), .int .u8 (o.p 10), .int .u8 (o.p 11), .int .u8 (o.p 12), .int .u8 (o.p 13), .int .u8 (o.p 14), .int .u8 (o.p 15)], .pointer (some ⟨b2, 1, none⟩), undef] [0, 2, 4] [1, 3, 5] (ROwn b2 25 #[.int .i64 o.k, .int .u8 0, .bool false, .int .u32 0, .int .u8 0, .int .u8 0, .int .u8 0, .int .u8 0, .int .u8 0, .int .u8 0, .int .u8 0, .int .u8 0, .int .u8 0, .int .u8 0, .int .u8 0, .int .u8 0, .int .u8 0, .int .u8 0, .int .u8 0, .int .u8 0, .int .u8 0, .int .u8 0, .int .u8 0, .int .u8 0, .int .u8 0, .int .u8 0, .int .u8 0, .int .u8 0, .int .u8 0, .int .u8 0, .int .u8 0, .int .u8 0, .int .u8 0, .int .u8 0, .int .u8 0, .int .u8 0] #[.int .i64 o.k, .int .u8 o.d, .bool false, .int .u32 0, .int .u8 0, .int .u8 0, .int .u8 0, .int .u8 0, .int .u8 0, .int .u8 0, .int .u8 0, .int .u8 0, .int .u8 0, .int .u8 0, .int .u8 0, .int .u8 0, .int .u8 0, .int .u8 0, .int .u8 0, .int .u8 0, .int .u8 0, .int .u8 0, .int .u8 0, .int .u8 0, .int .u8 0, .int .u8 0, .int .u8 0, .int .u8 0, .int .u8 0, .int .u8 0, .int .u8 0, .int .u8 0, .int .u8 0, .int .u8 0, .int .u8 0, .int .u8 0]) (fun j x => j = 5 → Own x b2 #[.int .i64 o.k, .int .u8 o.d, .bool false, .int .u32 0, .int .u8 0, .int .u8 0, .int .u8 0, .int .u8 0, .int .u8 0, .int .u8 0, .int .u8 0, .int .u8 0, .int .u8 0, .int .u8 0, .int .u8 0, .int .u8 0, .int .u8 0, .int .u8 0, .int .u8 0, .int .u8 0, .int .u8 0, .int .u8 0, .int .u8 0, .int .u8 0, .int .u8 0, .int .u8 0, .int .u8 0, .int .u8 0, .int .u8 0, .int .u8 0, .int .u8 0, .int .u8 0, .int .u8 0, .int .u8 0, .int .u8 0, .int .u8 0] 25) (by kernel_rfl) (by kernel_rfl) (by kernel_rfl) (ROwn.refl _ _ _ _) ROwn.trans (ROwn.no (drew_step _)) (fun _ _ _ h hr e => hr.2.1 (h e)) (by kernel_rfl) (by intro k hk x e; subst e; simp at hk) ?_ ?_
      · intro w23 hr7
        have hI := hr7.1 (.inl ho3)
        replace hS := Step.transNew hS hr7.2.2 (fun _ _ _ => by omega)
        replace ho1 := ho1.step hr7.2.2 (show ¬ b1 = b2 by omega)
        exact ⟨fun _ => Eff1_no (Det1_load (d := 13) (t := 5) (a := ⟨b1, 1, none⟩) (by kernel_rfl) (by kernel_rfl) (Loads.own1 ho1 (by kernel_rfl) (by rfl))) (fun x e => absurd e (by decide)), fun _ => Eff1_no (Det1_load (d := 15) (t := 23) (a := ⟨b1, 4, none⟩) (by kernel_rfl) (by kernel_rfl) (Loads.ownL ho1 (n := 16) (by kernel_rfl) (by kernel_rfl) (by kernel_rfl))) (fun x e => absurd e (by decide)), fun _ => Eff1_store (b := b2) (o := 1) (T := 25) (c0 := #[.int .i64 o.k, .int .u8 0, .bool false, .int .u32 0, .int .u8 0, .int .u8 0, .int .u8 0, .int .u8 0, .int .u8 0, .int .u8 0, .int .u8 0, .int .u8 0, .int .u8 0, .int .u8 0, .int .u8 0, .int .u8 0, .int .u8 0, .int .u8 0, .int .u8 0, .int .u8 0, .int .u8 0, .int .u8 0, .int .u8 0, .int .u8 0, .int .u8 0, .int .u8 0, .int .u8 0, .int .u8 0, .int .u8 0, .int .u8 0, .int .u8 0, .int .u8 0, .int .u8 0, .int .u8 0, .int .u8 0, .int .u8 0]) (c1 := #[.int .i64 o.k, .int .u8 o.d, .bool false, .int .u32 0, .int .u8 0, .int .u8 0, .int .u8 0, .int .u8 0, .int .u8 0, .int .u8 0, .int .u8 0, .int .u8 0, .int .u8 0, .int .u8 0, .int .u8 0, .int .u8 0, .int .u8 0, .int .u8 0, .int .u8 0, .int .u8 0, .int .u8 0, .int .u8 0, .int .u8 0, .int .u8 0, .int .u8 0, .int .u8 0, .int .u8 0, .int .u8 0, .int .u8 0, .int .u8 0, .int .u8 0, .int .u8 0, .int .u8 0, .int .u8 0, .int .u8 0, .int .u8 0]) (vs := [.int .u8 o.d]) (by kernel_rfl) (by kernel_rfl) hI (Nat.le_of_ble_eq_true (by kernel_rfl)) (Nat.le_of_ble_eq_true (by kernel_rfl)) (by kernel_rfl) (by kernel_rfl), trivial⟩
      intro w22 hr8 hB2
      have ho10 := hB2 5 (by decide) rfl
      replace hS := Step.transNew hS hr8.2.2 (fun _ _ _ => by omega)
      replace ho1 := ho1.step hr8.2.2 (show ¬ b1 = b2 by omega)
      refine VL_keep [1, 3, 15] [(1, .pointer (some ⟨b1, 0, none⟩)), (3, .pointer (some ⟨b2, 0, none⟩)), (15, .agg #[.int .u8 (o.p 0), .int .u8 (o.p 1), .int .u8 (o.p 2), .int .u8 (o.p 3), .int .u8 (o.p 4), .int .u8 (o.p 5), .int .u8 (o.p 6), .int .u8 (o.p 7), .int .u8 (o.p 8), .int .u8 (o.p 9), .int .u8 (o.p 10), .int .u8 (o.p 11), .int .u8 (o.p 12), .int .u8 (o.p 13), .int .u8 (o.p 14), .int .u8 (o.p 15)])] (by kernel_rfl) ?_
      refine VL_pure 7 [1, 3, 15, 17] [(1, .pointer (some ⟨b1, 0, none⟩)), (3, .pointer (some ⟨b2, 0, none⟩)), (15, .agg #[.int .u8 (o.p 0), .int .u8 (o.p 1), .int .u8 (o.p 2), .int .u8 (o.p 3), .int .u8 (o.p 4), .int .u8 (o.p 5), .int .u8 (o.p 6), .int .u8 (o.p 7), .int .u8 (o.p 8), .int .u8 (o.p 9), .int .u8 (o.p 10), .int .u8 (o.p 11), .int .u8 (o.p 12), .int .u8 (o.p 13), .int .u8 (o.p 14), .int .u8 (o.p 15)]), (17, .pointer (some ⟨b2, 4, none⟩))] (by kernel_rfl) rfl ?_
      refine VL_store (b := b2) (o := 4) (vs := [.int .u8 (o.p 0), .int .u8 (o.p 1), .int .u8 (o.p 2), .int .u8 (o.p 3), .int .u8 (o.p 4), .int .u8 (o.p 5), .int .u8 (o.p 6), .int .u8 (o.p 7), .int .u8 (o.p 8), .int .u8 (o.p 9), .int .u8 (o.p 10), .int .u8 (o.p 11), .int .u8 (o.p 12), .int .u8 (o.p 13), .int .u8 (o.p 14), .int .u8 (o.p 15)]) (by kernel_rfl) (by kernel_rfl) ho10 (Nat.le_of_ble_eq_true (by kernel_rfl)) ?_
      intro w24 hw7
      replace hS := Step.transNew hS hw7.step (fun _ _ _ => by omega)
      replace ho1 := ho1.step hw7.step (show ¬ b1 = b2 by omega)
      have ho11 : Own w24 b2 #[.int .i64 o.k, .int .u8 o.d, .bool false, .int .u32 0, .int .u8 (o.p 0), .int .u8 (o.p 1), .int .u8 (o.p 2), .int .u8 (o.p 3), .int .u8 (o.p 4), .int .u8 (o.p 5), .int .u8 (o.p 6), .int .u8 (o.p 7), .int .u8 (o.p 8), .int .u8 (o.p 9), .int .u8 (o.p 10), .int .u8 (o.p 11), .int .u8 (o.p 12), .int .u8 (o.p 13), .int .u8 (o.p 14), .int .u8 (o.p 15), .int .u8 0, .int .u8 0, .int .u8 0, .int .u8 0, .int .u8 0, .int .u8 0, .int .u8 0, .int .u8 0, .int .u8 0, .int .u8 0, .int .u8 0, .int .u8 0, .int .u8 0, .int .u8 0, .int .u8 0, .int .u8 0] 25 := Own.cast hw7.own (by kernel_rfl)
      have hzhw7 := hw7.same
      refine VL_end (by kernel_rfl) ?_
      refine VQ_block_normal ?_
      refine VQ_next ?_
      refine VC_seq ?_
      refine VC_region ?_
      refine VL_load (d := 34) (t := 25) (a := ⟨b2, 0, none⟩) (v := .agg #[.int .i64 o.k, .int .u8 o.d, .bool false, .int .u32 0, .int .u8 (o.p 0), .int .u8 (o.p 1), .int .u8 (o.p 2), .int .u8 (o.p 3), .int .u8 (o.p 4), .int .u8 (o.p 5), .int .u8 (o.p 6), .int .u8 (o.p 7), .int .u8 (o.p 8), .int .u8 (o.p 9), .int .u8 (o.p 10), .int .u8 (o.p 11), .int .u8 (o.p 12), .int .u8 (o.p 13), .int .u8 (o.p 14), .int .u8 (o.p 15), .int .u8 0, .int .u8 0, .int .u8 0, .int .u8 0, .int .u8 0, .int .u8 0, .int .u8 0, .int .u8 0, .int .u8 0, .int .u8 0, .int .u8 0, .int .u8 0, .int .u8 0, .int .u8 0, .int .u8 0, .int .u8 0]) (by kernel_rfl) (by kernel_rfl) (Loads.ownL ho11 (n := 36) (by kernel_rfl) (by kernel_rfl) (by kernel_rfl)) ?_
      refine VL_load (d := 35) (t := 25) (a := ⟨b1, 0, none⟩) (v := .agg #[.int .i64 o.k, .int .u8 o.d, .bool o.a, .int .u32 o.tg, .int .u8 (o.p 0), .int .u8 (o.p 1), .int .u8 (o.p 2), .int .u8 (o.p 3), .int .u8 (o.p 4), .int .u8 (o.p 5), .int .u8 (o.p 6), .int .u8 (o.p 7), .int .u8 (o.p 8), .int .u8 (o.p 9), .int .u8 (o.p 10), .int .u8 (o.p 11), .int .u8 (o.p 12), .int .u8 (o.p 13), .int .u8 (o.p 14), .int .u8 (o.p 15), .int .u8 (o.s 0), .int .u8 (o.s 1), .int .u8 (o.s 2), .int .u8 (o.s 3), .int .u8 (o.s 4), .int .u8 (o.s 5), .int .u8 (o.s 6), .int .u8 (o.s 7), .int .u8 (o.s 8), .int .u8 (o.s 9), .int .u8 (o.s 10), .int .u8 (o.s 11), .int .u8 (o.s 12), .int .u8 (o.s 13), .int .u8 (o.s 14), .int .u8 (o.s 15)]) (by kernel_rfl) (by kernel_rfl) (Loads.ownL ho1 (n := 36) (by kernel_rfl) (by kernel_rfl) (by kernel_rfl)) ?_
      refine VL_agEq (d := 36) (dd := 9) (ls := ([.int .i64] ++ [.int .u8] ++ [.bool] ++ [.int .u32] ++ (rep 16 [.int .u8]) ++ (rep 16 [.int .u8]) ++ [])) (pos := true) (t := 25) (xs := #[.int .i64 o.k, .int .u8 o.d, .bool false, .int .u32 0, .int .u8 (o.p 0), .int .u8 (o.p 1), .int .u8 (o.p 2), .int .u8 (o.p 3), .int .u8 (o.p 4), .int .u8 (o.p 5), .int .u8 (o.p 6), .int .u8 (o.p 7), .int .u8 (o.p 8), .int .u8 (o.p 9), .int .u8 (o.p 10), .int .u8 (o.p 11), .int .u8 (o.p 12), .int .u8 (o.p 13), .int .u8 (o.p 14), .int .u8 (o.p 15), .int .u8 0, .int .u8 0, .int .u8 0, .int .u8 0, .int .u8 0, .int .u8 0, .int .u8 0, .int .u8 0, .int .u8 0, .int .u8 0, .int .u8 0, .int .u8 0, .int .u8 0, .int .u8 0, .int .u8 0, .int .u8 0]) (ys := #[.int .i64 o.k, .int .u8 o.d, .bool o.a, .int .u32 o.tg, .int .u8 (o.p 0), .int .u8 (o.p 1), .int .u8 (o.p 2), .int .u8 (o.p 3), .int .u8 (o.p 4), .int .u8 (o.p 5), .int .u8 (o.p 6), .int .u8 (o.p 7), .int .u8 (o.p 8), .int .u8 (o.p 9), .int .u8 (o.p 10), .int .u8 (o.p 11), .int .u8 (o.p 12), .int .u8 (o.p 13), .int .u8 (o.p 14), .int .u8 (o.p 15), .int .u8 (o.s 0), .int .u8 (o.s 1), .int .u8 (o.s 2), .int .u8 (o.s 3), .int .u8 (o.s 4), .int .u8 (o.s 5), .int .u8 (o.s 6), .int .u8 (o.s 7), .int .u8 (o.s 8), .int .u8 (o.s 9), .int .u8 (o.s 10), .int .u8 (o.s 11), .int .u8 (o.s 12), .int .u8 (o.s 13), .int .u8 (o.s 14), .int .u8 (o.s 15)]) (by kernel_rfl) (by kernel_rfl) (by kernel_rfl) (by kernel_rfl) (by first | exact ⟨⟨_, rfl⟩, ⟨_, rfl⟩, ⟨_, rfl⟩, ⟨_, rfl⟩, ⟨_, rfl⟩, ⟨_, rfl⟩, ⟨_, rfl⟩, ⟨_, rfl⟩, ⟨_, rfl⟩, ⟨_, rfl⟩, ⟨_, rfl⟩, ⟨_, rfl⟩, ⟨_, rfl⟩, ⟨_, rfl⟩, ⟨_, rfl⟩, ⟨_, rfl⟩, ⟨_, rfl⟩, ⟨_, rfl⟩, ⟨_, rfl⟩, ⟨_, rfl⟩, ⟨_, rfl⟩, ⟨_, rfl⟩, ⟨_, rfl⟩, ⟨_, rfl⟩, ⟨_, rfl⟩, ⟨_, rfl⟩, ⟨_, rfl⟩, ⟨_, rfl⟩, ⟨_, rfl⟩, ⟨_, rfl⟩, ⟨_, rfl⟩, ⟨_, rfl⟩, ⟨_, rfl⟩, ⟨_, rfl⟩, ⟨_, rfl⟩, ⟨_, rfl⟩, trivial⟩ | trivial) (by first | exact ⟨⟨_, rfl⟩, ⟨_, rfl⟩, ⟨_, rfl⟩, ⟨_, rfl⟩, ⟨_, rfl⟩, ⟨_, rfl⟩, ⟨_, rfl⟩, ⟨_, rfl⟩, ⟨_, rfl⟩, ⟨_, rfl⟩, ⟨_, rfl⟩, ⟨_, rfl⟩, ⟨_, rfl⟩, ⟨_, rfl⟩, ⟨_, rfl⟩, ⟨_, rfl⟩, ⟨_, rfl⟩, ⟨_, rfl⟩, ⟨_, rfl⟩, ⟨_, rfl⟩, ⟨_, rfl⟩, ⟨_, rfl⟩, ⟨_, rfl⟩, ⟨_, rfl⟩, ⟨_, rfl⟩, ⟨_, rfl⟩, ⟨_, rfl⟩, ⟨_, rfl⟩, ⟨_, rfl⟩, ⟨_, rfl⟩, ⟨_, rfl⟩, ⟨_, rfl⟩, ⟨_, rfl⟩, ⟨_, rfl⟩, ⟨_, rfl⟩, ⟨_, rfl⟩, trivial⟩ | trivial) (cellsEq #[.int .i64 o.k, .int .u8 o.d, .bool false, .int .u32 0, .int .u8 (o.p 0), .int .u8 (o.p 1), .int .u8 (o.p 2), .int .u8 (o.p 3), .int .u8 (o.p 4), .int .u8 (o.p 5), .int .u8 (o.p 6), .int .u8 (o.p 7), .int .u8 (o.p 8), .int .u8 (o.p 9), .int .u8 (o.p 10), .int .u8 (o.p 11), .int .u8 (o.p 12), .int .u8 (o.p 13), .int .u8 (o.p 14), .int .u8 (o.p 15), .int .u8 0, .int .u8 0, .int .u8 0, .int .u8 0, .int .u8 0, .int .u8 0, .int .u8 0, .int .u8 0, .int .u8 0, .int .u8 0, .int .u8 0, .int .u8 0, .int .u8 0, .int .u8 0, .int .u8 0, .int .u8 0].toList #[.int .i64 o.k, .int .u8 o.d, .bool o.a, .int .u32 o.tg, .int .u8 (o.p 0), .int .u8 (o.p 1), .int .u8 (o.p 2), .int .u8 (o.p 3), .int .u8 (o.p 4), .int .u8 (o.p 5), .int .u8 (o.p 6), .int .u8 (o.p 7), .int .u8 (o.p 8), .int .u8 (o.p 9), .int .u8 (o.p 10), .int .u8 (o.p 11), .int .u8 (o.p 12), .int .u8 (o.p 13), .int .u8 (o.p 14), .int .u8 (o.p 15), .int .u8 (o.s 0), .int .u8 (o.s 1), .int .u8 (o.s 2), .int .u8 (o.s 3), .int .u8 (o.s 4), .int .u8 (o.s 5), .int .u8 (o.s 6), .int .u8 (o.s 7), .int .u8 (o.s 8), .int .u8 (o.s 9), .int .u8 (o.s 10), .int .u8 (o.s 11), .int .u8 (o.s 12), .int .u8 (o.s 13), .int .u8 (o.s 14), .int .u8 (o.s 15)].toList) (by rfl) ?_
      refine VL_pure 4 [2] [(2, .bool (cellsEq #[.int .i64 o.k, .int .u8 o.d, .bool false, .int .u32 0, .int .u8 (o.p 0), .int .u8 (o.p 1), .int .u8 (o.p 2), .int .u8 (o.p 3), .int .u8 (o.p 4), .int .u8 (o.p 5), .int .u8 (o.p 6), .int .u8 (o.p 7), .int .u8 (o.p 8), .int .u8 (o.p 9), .int .u8 (o.p 10), .int .u8 (o.p 11), .int .u8 (o.p 12), .int .u8 (o.p 13), .int .u8 (o.p 14), .int .u8 (o.p 15), .int .u8 0, .int .u8 0, .int .u8 0, .int .u8 0, .int .u8 0, .int .u8 0, .int .u8 0, .int .u8 0, .int .u8 0, .int .u8 0, .int .u8 0, .int .u8 0, .int .u8 0, .int .u8 0, .int .u8 0, .int .u8 0].toList #[.int .i64 o.k, .int .u8 o.d, .bool o.a, .int .u32 o.tg, .int .u8 (o.p 0), .int .u8 (o.p 1), .int .u8 (o.p 2), .int .u8 (o.p 3), .int .u8 (o.p 4), .int .u8 (o.p 5), .int .u8 (o.p 6), .int .u8 (o.p 7), .int .u8 (o.p 8), .int .u8 (o.p 9), .int .u8 (o.p 10), .int .u8 (o.p 11), .int .u8 (o.p 12), .int .u8 (o.p 13), .int .u8 (o.p 14), .int .u8 (o.p 15), .int .u8 (o.s 0), .int .u8 (o.s 1), .int .u8 (o.s 2), .int .u8 (o.s 3), .int .u8 (o.s 4), .int .u8 (o.s 5), .int .u8 (o.s 6), .int .u8 (o.s 7), .int .u8 (o.s 8), .int .u8 (o.s 9), .int .u8 (o.s 10), .int .u8 (o.s 11), .int .u8 (o.s 12), .int .u8 (o.s 13), .int .u8 (o.s 14), .int .u8 (o.s 15)].toList))] (by kernel_rfl) rfl ?_
      refine VL_end (by kernel_rfl) ?_
      refine VQ_next ?_
      refine VC_ret ?_
      refine VQ_ret1 (.bool (cellsEq #[.int .i64 o.k, .int .u8 o.d, .bool false, .int .u32 0, .int .u8 (o.p 0), .int .u8 (o.p 1), .int .u8 (o.p 2), .int .u8 (o.p 3), .int .u8 (o.p 4), .int .u8 (o.p 5), .int .u8 (o.p 6), .int .u8 (o.p 7), .int .u8 (o.p 8), .int .u8 (o.p 9), .int .u8 (o.p 10), .int .u8 (o.p 11), .int .u8 (o.p 12), .int .u8 (o.p 13), .int .u8 (o.p 14), .int .u8 (o.p 15), .int .u8 0, .int .u8 0, .int .u8 0, .int .u8 0, .int .u8 0, .int .u8 0, .int .u8 0, .int .u8 0, .int .u8 0, .int .u8 0, .int .u8 0, .int .u8 0, .int .u8 0, .int .u8 0, .int .u8 0, .int .u8 0].toList #[.int .i64 o.k, .int .u8 o.d, .bool o.a, .int .u32 o.tg, .int .u8 (o.p 0), .int .u8 (o.p 1), .int .u8 (o.p 2), .int .u8 (o.p 3), .int .u8 (o.p 4), .int .u8 (o.p 5), .int .u8 (o.p 6), .int .u8 (o.p 7), .int .u8 (o.p 8), .int .u8 (o.p 9), .int .u8 (o.p 10), .int .u8 (o.p 11), .int .u8 (o.p 12), .int .u8 (o.p 13), .int .u8 (o.p 14), .int .u8 (o.p 15), .int .u8 (o.s 0), .int .u8 (o.s 1), .int .u8 (o.s 2), .int .u8 (o.s 3), .int .u8 (o.s 4), .int .u8 (o.s 5), .int .u8 (o.s 6), .int .u8 (o.s 7), .int .u8 (o.s 8), .int .u8 (o.s 9), .int .u8 (o.s 10), .int .u8 (o.s 11), .int .u8 (o.s 12), .int .u8 (o.s 13), .int .u8 (o.s 14), .int .u8 (o.s 15)].toList)) (.inr rfl) rfl rfl ?_
      exact ⟨congrArg Value.bool (Eq.symm (rightO_01 (by omega))), hS⟩
    · refine VC_seq ?_
      refine VC_region ?_
      refine VL_pure 2 [1, 3, 8, 18] [(1, .pointer (some ⟨b1, 0, none⟩)), (3, .pointer (some ⟨b2, 0, none⟩)), (8, .int .i64 o.k), (18, .bool (o.k == 4))] (by kernel_rfl) rfl ?_
      refine VL_end (by kernel_rfl) ?_
      refine VQ_next ?_
      refine VC_eq o.k 4 (by kernel_rfl) (fun h6 => ?_) (fun h6 => ?_)
      · refine VC_skip ?_
        refine VQ_block_normal ?_
        refine VQ_next ?_
        refine VC_seq ?_
        refine VC_region ?_
        refine VL_load (d := 34) (t := 25) (a := ⟨b2, 0, none⟩) (v := .agg #[.int .i64 o.k, .int .u8 0, .bool false, .int .u32 0, .int .u8 0, .int .u8 0, .int .u8 0, .int .u8 0, .int .u8 0, .int .u8 0, .int .u8 0, .int .u8 0, .int .u8 0, .int .u8 0, .int .u8 0, .int .u8 0, .int .u8 0, .int .u8 0, .int .u8 0, .int .u8 0, .int .u8 0, .int .u8 0, .int .u8 0, .int .u8 0, .int .u8 0, .int .u8 0, .int .u8 0, .int .u8 0, .int .u8 0, .int .u8 0, .int .u8 0, .int .u8 0, .int .u8 0, .int .u8 0, .int .u8 0, .int .u8 0]) (by kernel_rfl) (by kernel_rfl) (Loads.ownL ho3 (n := 36) (by kernel_rfl) (by kernel_rfl) (by kernel_rfl)) ?_
        refine VL_load (d := 35) (t := 25) (a := ⟨b1, 0, none⟩) (v := .agg #[.int .i64 o.k, .int .u8 o.d, .bool o.a, .int .u32 o.tg, .int .u8 (o.p 0), .int .u8 (o.p 1), .int .u8 (o.p 2), .int .u8 (o.p 3), .int .u8 (o.p 4), .int .u8 (o.p 5), .int .u8 (o.p 6), .int .u8 (o.p 7), .int .u8 (o.p 8), .int .u8 (o.p 9), .int .u8 (o.p 10), .int .u8 (o.p 11), .int .u8 (o.p 12), .int .u8 (o.p 13), .int .u8 (o.p 14), .int .u8 (o.p 15), .int .u8 (o.s 0), .int .u8 (o.s 1), .int .u8 (o.s 2), .int .u8 (o.s 3), .int .u8 (o.s 4), .int .u8 (o.s 5), .int .u8 (o.s 6), .int .u8 (o.s 7), .int .u8 (o.s 8), .int .u8 (o.s 9), .int .u8 (o.s 10), .int .u8 (o.s 11), .int .u8 (o.s 12), .int .u8 (o.s 13), .int .u8 (o.s 14), .int .u8 (o.s 15)]) (by kernel_rfl) (by kernel_rfl) (Loads.ownL ho1 (n := 36) (by kernel_rfl) (by kernel_rfl) (by kernel_rfl)) ?_
        refine VL_agEq (d := 36) (dd := 9) (ls := ([.int .i64] ++ [.int .u8] ++ [.bool] ++ [.int .u32] ++ (rep 16 [.int .u8]) ++ (rep 16 [.int .u8]) ++ [])) (pos := true) (t := 25) (xs := #[.int .i64 o.k, .int .u8 0, .bool false, .int .u32 0, .int .u8 0, .int .u8 0, .int .u8 0, .int .u8 0, .int .u8 0, .int .u8 0, .int .u8 0, .int .u8 0, .int .u8 0, .int .u8 0, .int .u8 0, .int .u8 0, .int .u8 0, .int .u8 0, .int .u8 0, .int .u8 0, .int .u8 0, .int .u8 0, .int .u8 0, .int .u8 0, .int .u8 0, .int .u8 0, .int .u8 0, .int .u8 0, .int .u8 0, .int .u8 0, .int .u8 0, .int .u8 0, .int .u8 0, .int .u8 0, .int .u8 0, .int .u8 0]) (ys := #[.int .i64 o.k, .int .u8 o.d, .bool o.a, .int .u32 o.tg, .int .u8 (o.p 0), .int .u8 (o.p 1), .int .u8 (o.p 2), .int .u8 (o.p 3), .int .u8 (o.p 4), .int .u8 (o.p 5), .int .u8 (o.p 6), .int .u8 (o.p 7), .int .u8 (o.p 8), .int .u8 (o.p 9), .int .u8 (o.p 10), .int .u8 (o.p 11), .int .u8 (o.p 12), .int .u8 (o.p 13), .int .u8 (o.p 14), .int .u8 (o.p 15), .int .u8 (o.s 0), .int .u8 (o.s 1), .int .u8 (o.s 2), .int .u8 (o.s 3), .int .u8 (o.s 4), .int .u8 (o.s 5), .int .u8 (o.s 6), .int .u8 (o.s 7), .int .u8 (o.s 8), .int .u8 (o.s 9), .int .u8 (o.s 10), .int .u8 (o.s 11), .int .u8 (o.s 12), .int .u8 (o.s 13), .int .u8 (o.s 14), .int .u8 (o.s 15)]) (by kernel_rfl) (by kernel_rfl) (by kernel_rfl) (by kernel_rfl) (by first | exact ⟨⟨_, rfl⟩, ⟨_, rfl⟩, ⟨_, rfl⟩, ⟨_, rfl⟩, ⟨_, rfl⟩, ⟨_, rfl⟩, ⟨_, rfl⟩, ⟨_, rfl⟩, ⟨_, rfl⟩, ⟨_, rfl⟩, ⟨_, rfl⟩, ⟨_, rfl⟩, ⟨_, rfl⟩, ⟨_, rfl⟩, ⟨_, rfl⟩, ⟨_, rfl⟩, ⟨_, rfl⟩, ⟨_, rfl⟩, ⟨_, rfl⟩, ⟨_, rfl⟩, ⟨_, rfl⟩, ⟨_, rfl⟩, ⟨_, rfl⟩, ⟨_, rfl⟩, ⟨_, rfl⟩, ⟨_, rfl⟩, ⟨_, rfl⟩, ⟨_, rfl⟩, ⟨_, rfl⟩, ⟨_, rfl⟩, ⟨_, rfl⟩, ⟨_, rfl⟩, ⟨_, rfl⟩, ⟨_, rfl⟩, ⟨_, rfl⟩, ⟨_, rfl⟩, trivial⟩ | trivial) (by first | exact ⟨⟨_, rfl⟩, ⟨_, rfl⟩, ⟨_, rfl⟩, ⟨_, rfl⟩, ⟨_, rfl⟩, ⟨_, rfl⟩, ⟨_, rfl⟩, ⟨_, rfl⟩, ⟨_, rfl⟩, ⟨_, rfl⟩, ⟨_, rfl⟩, ⟨_, rfl⟩, ⟨_, rfl⟩, ⟨_, rfl⟩, ⟨_, rfl⟩, ⟨_, rfl⟩, ⟨_, rfl⟩, ⟨_, rfl⟩, ⟨_, rfl⟩, ⟨_, rfl⟩, ⟨_, rfl⟩, ⟨_, rfl⟩, ⟨_, rfl⟩, ⟨_, rfl⟩, ⟨_, rfl⟩, ⟨_, rfl⟩, ⟨_, rfl⟩, ⟨_, rfl⟩, ⟨_, rfl⟩, ⟨_, rfl⟩, ⟨_, rfl⟩, ⟨_, rfl⟩, ⟨_, rfl⟩, ⟨_, rfl⟩, ⟨_, rfl⟩, ⟨_, rfl⟩, trivial⟩ | trivial) (cellsEq #[.int .i64 o.k, .int .u8 0, .bool false, .int .u32 0, .int .u8 0, .int .u8 0, .int .u8 0, .int .u8 0, .int .u8 0, .int .u8 0, .int .u8 0, .int .u8 0, .int .u8 0, .int .u8 0, .int .u8 0, .int .u8 0, .int .u8 0, .int .u8 0, .int .u8 0, .int .u8 0, .int .u8 0, .int .u8 0, .int .u8 0, .int .u8 0, .int .u8 0, .int .u8 0, .int .u8 0, .int .u8 0, .int .u8 0, .int .u8 0, .int .u8 0, .int .u8 0, .int .u8 0, .int .u8 0, .int .u8 0, .int .u8 0].toList #[.int .i64 o.k, .int .u8 o.d, .bool o.a, .int .u32 o.tg, .int .u8 (o.p 0), .int .u8 (o.p 1), .int .u8 (o.p 2), .int .u8 (o.p 3), .int .u8 (o.p 4), .int .u8 (o.p 5), .int .u8 (o.p 6), .int .u8 (o.p 7), .int .u8 (o.p 8), .int .u8 (o.p 9), .int .u8 (o.p 10), .int .u8 (o.p 11), .int .u8 (o.p 12), .int .u8 (o.p 13), .int .u8 (o.p 14), .int .u8 (o.p 15), .int .u8 (o.s 0), .int .u8 (o.s 1), .int .u8 (o.s 2), .int .u8 (o.s 3), .int .u8 (o.s 4), .int .u8 (o.s 5), .int .u8 (o.s 6), .int .u8 (o.s 7), .int .u8 (o.s 8), .int .u8 (o.s 9), .int .u8 (o.s 10), .int .u8 (o.s 11), .int .u8 (o.s 12), .int .u8 (o.s 13), .int .u8 (o.s 14), .int .u8 (o.s 15)].toList) (by rfl) ?_
        refine VL_pure 4 [2] [(2, .bool (cellsEq #[.int .i64 o.k, .int .u8 0, .bool false, .int .u32 0, .int .u8 0, .int .u8 0, .int .u8 0, .int .u8 0, .int .u8 0, .int .u8 0, .int .u8 0, .int .u8 0, .int .u8 0, .int .u8 0, .int .u8 0, .int .u8 0, .int .u8 0, .int .u8 0, .int .u8 0, .int .u8 0, .int .u8 0, .int .u8 0, .int .u8 0, .int .u8 0, .int .u8 0, .int .u8 0, .int .u8 0, .int .u8 0, .int .u8 0, .int .u8 0, .int .u8 0, .int .u8 0, .int .u8 0, .int .u8 0, .int .u8 0, .int .u8 0].toList #[.int .i64 o.k, .int .u8 o.d, .bool o.a, .int .u32 o.tg, .int .u8 (o.p 0), .int .u8 (o.p 1), .int .u8 (o.p 2), .int .u8 (o.p 3), .int .u8 (o.p 4), .int .u8 (o.p 5), .int .u8 (o.p 6), .int .u8 (o.p 7), .int .u8 (o.p 8), .int .u8 (o.p 9), .int .u8 (o.p 10), .int .u8 (o.p 11), .int .u8 (o.p 12), .int .u8 (o.p 13), .int .u8 (o.p 14), .int .u8 (o.p 15), .int .u8 (o.s 0), .int .u8 (o.s 1), .int .u8 (o.s 2), .int .u8 (o.s 3), .int .u8 (o.s 4), .int .u8 (o.s 5), .int .u8 (o.s 6), .int .u8 (o.s 7), .int .u8 (o.s 8), .int .u8 (o.s 9), .int .u8 (o.s 10), .int .u8 (o.s 11), .int .u8 (o.s 12), .int .u8 (o.s 13), .int .u8 (o.s 14), .int .u8 (o.s 15)].toList))] (by kernel_rfl) rfl ?_
        refine VL_end (by kernel_rfl) ?_
        refine VQ_next ?_
        refine VC_ret ?_
        refine VQ_ret1 (.bool (cellsEq #[.int .i64 o.k, .int .u8 0, .bool false, .int .u32 0, .int .u8 0, .int .u8 0, .int .u8 0, .int .u8 0, .int .u8 0, .int .u8 0, .int .u8 0, .int .u8 0, .int .u8 0, .int .u8 0, .int .u8 0, .int .u8 0, .int .u8 0, .int .u8 0, .int .u8 0, .int .u8 0, .int .u8 0, .int .u8 0, .int .u8 0, .int .u8 0, .int .u8 0, .int .u8 0, .int .u8 0, .int .u8 0, .int .u8 0, .int .u8 0, .int .u8 0, .int .u8 0, .int .u8 0, .int .u8 0, .int .u8 0, .int .u8 0].toList #[.int .i64 o.k, .int .u8 o.d, .bool o.a, .int .u32 o.tg, .int .u8 (o.p 0), .int .u8 (o.p 1), .int .u8 (o.p 2), .int .u8 (o.p 3), .int .u8 (o.p 4), .int .u8 (o.p 5), .int .u8 (o.p 6), .int .u8 (o.p 7), .int .u8 (o.p 8), .int .u8 (o.p 9), .int .u8 (o.p 10), .int .u8 (o.p 11), .int .u8 (o.p 12), .int .u8 (o.p 13), .int .u8 (o.p 14), .int .u8 (o.p 15), .int .u8 (o.s 0), .int .u8 (o.s 1), .int .u8 (o.s 2), .int .u8 (o.s 3), .int .u8 (o.s 4), .int .u8 (o.s 5), .int .u8 (o.s 6), .int .u8 (o.s 7), .int .u8 (o.s 8), .int .u8 (o.s 9), .int .u8 (o.s 10), .int .u8 (o.s 11), .int .u8 (o.s 12), .int .u8 (o.s 13), .int .u8 (o.s 14), .int .u8 (o.s 15)].toList)) (.inr rfl) rfl rfl ?_
        exact ⟨congrArg Value.bool (Eq.symm (rightO_4 (by omega))), hS⟩
      · refine VC_seq ?_
        refine VC_region ?_
        refine VL_pure 2 [1, 3, 20] [(1, .pointer (some ⟨b1, 0, none⟩)), (3, .pointer (some ⟨b2, 0, none⟩)), (20, .bool (o.k == 8))] (by kernel_rfl) rfl ?_
        refine VL_end (by kernel_rfl) ?_
        refine VQ_next ?_
        refine VC_eq o.k 8 (by kernel_rfl) (fun h7 => ?_) (fun h7 => ?_)
        · have hs8 := drew_step w3
          have hs8z : w3.heap.size = w3.drew.heap.size := rfl
          refine VC_text [[], [0], [], [2], [], [4], [], [6], [0, 1], [0, 1, 8], [0, 1, 2, 3, 8, 9], [0, 1, 2, 3, 8, 9, 10], [0, 1, 2, 3, 4, 5, 8, 9, 10, 11], [0, 1, 2, 3, 4, 5, 8, 9, 10, 11, 12], [0, 1, 2, 3, 4, 5, 6, 7, 8, 9, 10, 11, 12, 13], [0, 1, 2, 3, 4, 5, 6, 7, 8, 9, 10, 11, 12, 13, 14]] 14 (fun x y => Step (fun k => k = b2 ∨ w3.heap.size ≤ k) x y) [9, 11, 13] [0, 1, 2, 3, 4, 5, 6, 7, 8, 9, 10, 11, 12, 13] (by kernel_rfl) (by kernel_rfl) (by kernel_rfl) (by kernel_rfl) (fun x => Step.refl _ x) (fun h k => Step.trans h k) Step.weak ?_
          have hzs4 := hS.size
          have hzl4 := ho1.lt
          have hzl5 := ho3.lt
          generalize w3.drew = w25 at hs8 hs8z ⊢
          replace hS := Step.trans hS hs8
          replace ho1 := ho1.no hs8
          replace ho3 := ho3.no hs8
          refine VT_pures 1 (kn' := [(0, .pointer (some ⟨b1, 2, none⟩))]) (by kernel_rfl) ?_
          refine VT_load (d := 23) (t := 4) (a := ⟨b1, 2, none⟩) (v := .bool o.a) (by kernel_rfl) (by kernel_rfl) ?_ ?_
          · intro w26 hr9
            replace hS := Step.transNew hS hr9 (fun i hi hG => by (try simp only at hG); omega)
            replace ho1 := ho1.step hr9 (by (try simp only); omega)
            exact (Loads.own1 ho1 (by kernel_rfl) (by rfl))
          refine VT_pures 1 (kn' := [(2, .pointer (some ⟨b1, 3, none⟩)), (1, .bool o.a), (0, .pointer (some ⟨b1, 2, none⟩))]) (by kernel_rfl) ?_
          refine VT_load (d := 25) (t := 22) (a := ⟨b1, 3, none⟩) (v := .int .u32 o.tg) (by kernel_rfl) (by kernel_rfl) ?_ ?_
          · intro w27 hr10
            replace hS := Step.transNew hS hr10 (fun i hi hG => by (try simp only at hG); omega)
            replace ho1 := ho1.step hr10 (by (try simp only); omega)
            exact (Loads.own1 ho1 (by kernel_rfl) (by rfl))
          refine VT_pures 1 (kn' := [(4, .pointer (some ⟨b1, 4, none⟩)), (3, .int .u32 o.tg), (2, .pointer (some ⟨b1, 3, none⟩)), (1, .bool o.a), (0, .pointer (some ⟨b1, 2, none⟩))]) (by kernel_rfl) ?_
          refine VT_load (d := 27) (t := 23) (a := ⟨b1, 4, none⟩) (v := .agg #[.int .u8 (o.p 0), .int .u8 (o.p 1), .int .u8 (o.p 2), .int .u8 (o.p 3), .int .u8 (o.p 4), .int .u8 (o.p 5), .int .u8 (o.p 6), .int .u8 (o.p 7), .int .u8 (o.p 8), .int .u8 (o.p 9), .int .u8 (o.p 10), .int .u8 (o.p 11), .int .u8 (o.p 12), .int .u8 (o.p 13), .int .u8 (o.p 14), .int .u8 (o.p 15)]) (by kernel_rfl) (by kernel_rfl) ?_ ?_
          · intro w28 hr11
            replace hS := Step.transNew hS hr11 (fun i hi hG => by (try simp only at hG); omega)
            replace ho1 := ho1.step hr11 (by (try simp only); omega)
            exact (Loads.ownL ho1 (n := 16) (by kernel_rfl) (by kernel_rfl) (by kernel_rfl))
          refine VT_pures 1 (kn' := [(6, .pointer (some ⟨b1, 20, none⟩)), (5, .agg #[.int .u8 (o.p 0), .int .u8 (o.p 1), .int .u8 (o.p 2), .int .u8 (o.p 3), .int .u8 (o.p 4), .int .u8 (o.p 5), .int .u8 (o.p 6), .int .u8 (o.p 7), .int .u8 (o.p 8), .int .u8 (o.p 9), .int .u8 (o.p 10), .int .u8 (o.p 11), .int .u8 (o.p 12), .int .u8 (o.p 13), .int .u8 (o.p 14), .int .u8 (o.p 15)]), (4, .pointer (some ⟨b1, 4, none⟩)), (3, .int .u32 o.tg), (2, .pointer (some ⟨b1, 3, none⟩)), (1, .bool o.a), (0, .pointer (some ⟨b1, 2, none⟩))]) (by kernel_rfl) ?_
          refine VT_load (d := 29) (t := 23) (a := ⟨b1, 20, none⟩) (v := .agg #[.int .u8 (o.s 0), .int .u8 (o.s 1), .int .u8 (o.s 2), .int .u8 (o.s 3), .int .u8 (o.s 4), .int .u8 (o.s 5), .int .u8 (o.s 6), .int .u8 (o.s 7), .int .u8 (o.s 8), .int .u8 (o.s 9), .int .u8 (o.s 10), .int .u8 (o.s 11), .int .u8 (o.s 12), .int .u8 (o.s 13), .int .u8 (o.s 14), .int .u8 (o.s 15)]) (by kernel_rfl) (by kernel_rfl) ?_ ?_
          · intro w29 hr12
            replace hS := Step.transNew hS hr12 (fun i hi hG => by (try simp only at hG); omega)
            replace ho1 := ho1.step hr12 (by (try simp only); omega)
            exact (Loads.ownL ho1 (n := 16) (by kernel_rfl) (by kernel_rfl) (by kernel_rfl))
          refine VT_pures 1 (kn' := [(8, .pointer (some ⟨b2, 2, none⟩)), (7, .agg #[.int .u8 (o.s 0), .int .u8 (o.s 1), .int .u8 (o.s 2), .int .u8 (o.s 3), .int .u8 (o.s 4), .int .u8 (o.s 5), .int .u8 (o.s 6), .int .u8 (o.s 7), .int .u8 (o.s 8), .int .u8 (o.s 9), .int .u8 (o.s 10), .int .u8 (o.s 11), .int .u8 (o.s 12), .int .u8 (o.s 13), .int .u8 (o.s 14), .int .u8 (o.s 15)]), (6, .pointer (some ⟨b1, 20, none⟩)), (5, .agg #[.int .u8 (o.p 0), .int .u8 (o.p 1), .int .u8 (o.p 2), .int .u8 (o.p 3), .int .u8 (o.p 4), .int .u8 (o.p 5), .int .u8 (o.p 6), .int .u8 (o.p 7), .int .u8 (o.p 8), .int .u8 (o.p 9), .int .u8 (o.p 10), .int .u8 (o.p 11), .int .u8 (o.p 12), .int .u8 (o.p 13), .int .u8 (o.p 14), .int .u8 (o.p 15)]), (4, .pointer (some ⟨b1, 4, none⟩)), (3, .int .u32 o.tg), (2, .pointer (some ⟨b1, 3, none⟩)), (1, .bool o.a), (0, .pointer (some ⟨b1, 2, none⟩))]) (by kernel_rfl) ?_
          refine VT_chain (by kernel_rfl) ?_
          intro w30 hs9
          have hzhs9 := hs9.size
          replace hS := Step.trans hS hs9
          replace ho1 := ho1.no hs9
          replace ho3 := ho3.no hs9
          refine VTc_store (b := b2) (o := 2) (vs := [.bool o.a]) (by kernel_rfl) (by kernel_rfl) ho3 (Nat.le_of_ble_eq_true (by kernel_rfl)) (fun w1 hw => Step.mono hw.step (by intro i hi; (try simp only at hi ⊢); omega)) ?_
          intro w31 hw8
          replace hS := Step.transNew hS hw8.step (fun _ _ _ => by omega)
          replace ho1 := ho1.step hw8.step (show ¬ b1 = b2 by omega)
          have ho12 : Own w31 b2 #[.int .i64 o.k, .int .u8 0, .bool o.a, .int .u32 0, .int .u8 0, .int .u8 0, .int .u8 0, .int .u8 0, .int .u8 0, .int .u8 0, .int .u8 0, .int .u8 0, .int .u8 0, .int .u8 0, .int .u8 0, .int .u8 0, .int .u8 0, .int .u8 0, .int .u8 0, .int .u8 0, .int .u8 0, .int .u8 0, .int .u8 0, .int .u8 0, .int .u8 0, .int .u8 0, .int .u8 0, .int .u8 0, .int .u8 0, .int .u8 0, .int .u8 0, .int .u8 0, .int .u8 0, .int .u8 0, .int .u8 0, .int .u8 0] 25 := Own.cast hw8.own (by kernel_rfl)
          have hzhw8 := hw8.same
          refine VT_pures 1 (kn' := [(10, .pointer (some ⟨b2, 3, none⟩)), (8, .pointer (some ⟨b2, 2, none⟩)), (7, .agg #[.int .u8 (o.s 0), .int .u8 (o.s 1), .int .u8 (o.s 2), .int .u8 (o.s 3), .int .u8 (o.s 4), .int .u8 (o.s 5), .int .u8 (o.s 6), .int .u8 (o.s 7), .int .u8 (o.s 8), .int .u8 (o.s 9), .int .u8 (o.s 10), .int .u8 (o.s 11), .int .u8 (o.s 12), .int .u8 (o.s 13), .int .u8 (o.s 14), .int .u8 (o.s 15)]), (6, .pointer (some ⟨b1, 20, none⟩)), (5, .agg #[.int .u8 (o.p 0), .int .u8 (o.p 1), .int .u8 (o.p 2), .int .u8 (o.p 3), .int .u8 (o.p 4), .int .u8 (o.p 5), .int .u8 (o.p 6), .int .u8 (o.p 7), .int .u8 (o.p 8), .int .u8 (o.p 9), .int .u8 (o.p 10), .int .u8 (o.p 11), .int .u8 (o.p 12), .int .u8 (o.p 13), .int .u8 (o.p 14), .int .u8 (o.p 15)]), (4, .pointer (some ⟨b1, 4, none⟩)), (3, .int .u32 o.tg), (2, .pointer (some ⟨b1, 3, none⟩)), (1, .bool o.a), (0, .pointer (some ⟨b1, 2, none⟩))]) (by kernel_rfl) ?_
          refine VT_chain (by kernel_rfl) ?_
          intro w32 hs10
          have hzhs10 := hs10.size
          replace hS := Step.trans hS hs10
          replace ho1 := ho1.no hs10
          replace ho12 := ho12.no hs10
          refine VTc_store (b := b2) (o := 3) (vs := [.int .u32 o.tg]) (by kernel_rfl) (by kernel_rfl) ho12 (Nat.le_of_ble_eq_true (by kernel_rfl)) (fun w1 hw => Step.mono hw.step (by intro i hi; (try simp only at hi ⊢); omega)) ?_
          intro w33 hw9
          replace hS := Step.transNew hS hw9.step (fun _ _ _ => by omega)
          replace ho1 := ho1.step hw9.step (show ¬ b1 = b2 by omega)
          have ho13 : Own w33 b2 #[.int .i64 o.k, .int .u8 0, .bool o.a, .int .u32 o.tg, .int .u8 0, .int .u8 0, .int .u8 0, .int .u8 0, .int .u8 0, .int .u8 0, .int .u8 0, .int .u8 0, .int .u8 0, .int .u8 0, .int .u8 0, .int .u8 0, .int .u8 0, .int .u8 0, .int .u8 0, .int .u8 0, .int .u8 0, .int .u8 0, .int .u8 0, .int .u8 0, .int .u8 0, .int .u8 0, .int .u8 0, .int .u8 0, .int .u8 0, .int .u8 0, .int .u8 0, .int .u8 0, .int .u8 0, .int .u8 0, .int .u8 0, .int .u8 0] 25 := Own.cast hw9.own (by kernel_rfl)
          have hzhw9 := hw9.same
          refine VT_pures 1 (kn' := [(12, .pointer (some ⟨b2, 4, none⟩)), (10, .pointer (some ⟨b2, 3, none⟩)), (8, .pointer (some ⟨b2, 2, none⟩)), (7, .agg #[.int .u8 (o.s 0), .int .u8 (o.s 1), .int .u8 (o.s 2), .int .u8 (o.s 3), .int .u8 (o.s 4), .int .u8 (o.s 5), .int .u8 (o.s 6), .int .u8 (o.s 7), .int .u8 (o.s 8), .int .u8 (o.s 9), .int .u8 (o.s 10), .int .u8 (o.s 11), .int .u8 (o.s 12), .int .u8 (o.s 13), .int .u8 (o.s 14), .int .u8 (o.s 15)]), (6, .pointer (some ⟨b1, 20, none⟩)), (5, .agg #[.int .u8 (o.p 0), .int .u8 (o.p 1), .int .u8 (o.p 2), .int .u8 (o.p 3), .int .u8 (o.p 4), .int .u8 (o.p 5), .int .u8 (o.p 6), .int .u8 (o.p 7), .int .u8 (o.p 8), .int .u8 (o.p 9), .int .u8 (o.p 10), .int .u8 (o.p 11), .int .u8 (o.p 12), .int .u8 (o.p 13), .int .u8 (o.p 14), .int .u8 (o.p 15)]), (4, .pointer (some ⟨b1, 4, none⟩)), (3, .int .u32 o.tg), (2, .pointer (some ⟨b1, 3, none⟩)), (1, .bool o.a), (0, .pointer (some ⟨b1, 2, none⟩))]) (by kernel_rfl) ?_
          refine VT_chain (by kernel_rfl) ?_
          intro w34 hs11
          have hzhs11 := hs11.size
          replace hS := Step.trans hS hs11
          replace ho1 := ho1.no hs11
          replace ho13 := ho13.no hs11
          refine VTc_store (b := b2) (o := 4) (vs := [.int .u8 (o.p 0), .int .u8 (o.p 1), .int .u8 (o.p 2), .int .u8 (o.p 3), .int .u8 (o.p 4), .int .u8 (o.p 5), .int .u8 (o.p 6), .int .u8 (o.p 7), .int .u8 (o.p 8), .int .u8 (o.p 9), .int .u8 (o.p 10), .int .u8 (o.p 11), .int .u8 (o.p 12), .int .u8 (o.p 13), .int .u8 (o.p 14), .int .u8 (o.p 15)]) (by kernel_rfl) (by kernel_rfl) ho13 (Nat.le_of_ble_eq_true (by kernel_rfl)) (fun w1 hw => Step.mono hw.step (by intro i hi; (try simp only at hi ⊢); omega)) ?_
          intro w35 hw10
          replace hS := Step.transNew hS hw10.step (fun _ _ _ => by omega)
          replace ho1 := ho1.step hw10.step (show ¬ b1 = b2 by omega)
          have ho14 : Own w35 b2 #[.int .i64 o.k, .int .u8 0, .bool o.a, .int .u32 o.tg, .int .u8 (o.p 0), .int .u8 (o.p 1), .int .u8 (o.p 2), .int .u8 (o.p 3), .int .u8 (o.p 4), .int .u8 (o.p 5), .int .u8 (o.p 6), .int .u8 (o.p 7), .int .u8 (o.p 8), .int .u8 (o.p 9), .int .u8 (o.p 10), .int .u8 (o.p 11), .int .u8 (o.p 12), .int .u8 (o.p 13), .int .u8 (o.p 14), .int .u8 (o.p 15), .int .u8 0, .int .u8 0, .int .u8 0, .int .u8 0, .int .u8 0, .int .u8 0, .int .u8 0, .int .u8 0, .int .u8 0, .int .u8 0, .int .u8 0, .int .u8 0, .int .u8 0, .int .u8 0, .int .u8 0, .int .u8 0] 25 := Own.cast hw10.own (by kernel_rfl)
          have hzhw10 := hw10.same
          refine VT_end ?_
          intro w36 hs12
          replace hS := Step.trans hS hs12
          replace ho1 := ho1.no hs12
          replace ho14 := ho14.no hs12
          refine VL_keep [1, 3, 29] [(1, .pointer (some ⟨b1, 0, none⟩)), (3, .pointer (some ⟨b2, 0, none⟩)), (29, .agg #[.int .u8 (o.s 0), .int .u8 (o.s 1), .int .u8 (o.s 2), .int .u8 (o.s 3), .int .u8 (o.s 4), .int .u8 (o.s 5), .int .u8 (o.s 6), .int .u8 (o.s 7), .int .u8 (o.s 8), .int .u8 (o.s 9), .int .u8 (o.s 10), .int .u8 (o.s 11), .int .u8 (o.s 12), .int .u8 (o.s 13), .int .u8 (o.s 14), .int .u8 (o.s 15)])] (by kernel_rfl) ?_
          refine VL_pure 15 [1, 3, 29, 33] [(1, .pointer (some ⟨b1, 0, none⟩)), (3, .pointer (some ⟨b2, 0, none⟩)), (29, .agg #[.int .u8 (o.s 0), .int .u8 (o.s 1), .int .u8 (o.s 2), .int .u8 (o.s 3), .int .u8 (o.s 4), .int .u8 (o.s 5), .int .u8 (o.s 6), .int .u8 (o.s 7), .int .u8 (o.s 8), .int .u8 (o.s 9), .int .u8 (o.s 10), .int .u8 (o.s 11), .int .u8 (o.s 12), .int .u8 (o.s 13), .int .u8 (o.s 14), .int .u8 (o.s 15)]), (33, .pointer (some ⟨b2, 20, none⟩))] (by kernel_rfl) rfl ?_
          refine VL_store (b := b2) (o := 20) (vs := [.int .u8 (o.s 0), .int .u8 (o.s 1), .int .u8 (o.s 2), .int .u8 (o.s 3), .int .u8 (o.s 4), .int .u8 (o.s 5), .int .u8 (o.s 6), .int .u8 (o.s 7), .int .u8 (o.s 8), .int .u8 (o.s 9), .int .u8 (o.s 10), .int .u8 (o.s 11), .int .u8 (o.s 12), .int .u8 (o.s 13), .int .u8 (o.s 14), .int .u8 (o.s 15)]) (by kernel_rfl) (by kernel_rfl) ho14 (Nat.le_of_ble_eq_true (by kernel_rfl)) ?_
          intro w37 hw11
          replace hS := Step.transNew hS hw11.step (fun _ _ _ => by omega)
          replace ho1 := ho1.step hw11.step (show ¬ b1 = b2 by omega)
          have ho15 : Own w37 b2 #[.int .i64 o.k, .int .u8 0, .bool o.a, .int .u32 o.tg, .int .u8 (o.p 0), .int .u8 (o.p 1), .int .u8 (o.p 2), .int .u8 (o.p 3), .int .u8 (o.p 4), .int .u8 (o.p 5), .int .u8 (o.p 6), .int .u8 (o.p 7), .int .u8 (o.p 8), .int .u8 (o.p 9), .int .u8 (o.p 10), .int .u8 (o.p 11), .int .u8 (o.p 12), .int .u8 (o.p 13), .int .u8 (o.p 14), .int .u8 (o.p 15), .int .u8 (o.s 0), .int .u8 (o.s 1), .int .u8 (o.s 2), .int .u8 (o.s 3), .int .u8 (o.s 4), .int .u8 (o.s 5), .int .u8 (o.s 6), .int .u8 (o.s 7), .int .u8 (o.s 8), .int .u8 (o.s 9), .int .u8 (o.s 10), .int .u8 (o.s 11), .int .u8 (o.s 12), .int .u8 (o.s 13), .int .u8 (o.s 14), .int .u8 (o.s 15)] 25 := Own.cast hw11.own (by kernel_rfl)
          have hzhw11 := hw11.same
          refine VL_end (by kernel_rfl) ?_
          refine VQ_block_normal ?_
          refine VQ_next ?_
          refine VC_seq ?_
          refine VC_region ?_
          refine VL_load (d := 34) (t := 25) (a := ⟨b2, 0, none⟩) (v := .agg #[.int .i64 o.k, .int .u8 0, .bool o.a, .int .u32 o.tg, .int .u8 (o.p 0), .int .u8 (o.p 1), .int .u8 (o.p 2), .int .u8 (o.p 3), .int .u8 (o.p 4), .int .u8 (o.p 5), .int .u8 (o.p 6), .int .u8 (o.p 7), .int .u8 (o.p 8), .int .u8 (o.p 9), .int .u8 (o.p 10), .int .u8 (o.p 11), .int .u8 (o.p 12), .int .u8 (o.p 13), .int .u8 (o.p 14), .int .u8 (o.p 15), .int .u8 (o.s 0), .int .u8 (o.s 1), .int .u8 (o.s 2), .int .u8 (o.s 3), .int .u8 (o.s 4), .int .u8 (o.s 5), .int .u8 (o.s 6), .int .u8 (o.s 7), .int .u8 (o.s 8), .int .u8 (o.s 9), .int .u8 (o.s 10), .int .u8 (o.s 11), .int .u8 (o.s 12), .int .u8 (o.s 13), .int .u8 (o.s 14), .int .u8 (o.s 15)]) (by kernel_rfl) (by kernel_rfl) (Loads.ownL ho15 (n := 36) (by kernel_rfl) (by kernel_rfl) (by kernel_rfl)) ?_
          refine VL_load (d := 35) (t := 25) (a := ⟨b1, 0, none⟩) (v := .agg #[.int .i64 o.k, .int .u8 o.d, .bool o.a, .int .u32 o.tg, .int .u8 (o.p 0), .int .u8 (o.p 1), .int .u8 (o.p 2), .int .u8 (o.p 3), .int .u8 (o.p 4), .int .u8 (o.p 5), .int .u8 (o.p 6), .int .u8 (o.p 7), .int .u8 (o.p 8), .int .u8 (o.p 9), .int .u8 (o.p 10), .int .u8 (o.p 11), .int .u8 (o.p 12), .int .u8 (o.p 13), .int .u8 (o.p 14), .int .u8 (o.p 15), .int .u8 (o.s 0), .int .u8 (o.s 1), .int .u8 (o.s 2), .int .u8 (o.s 3), .int .u8 (o.s 4), .int .u8 (o.s 5), .int .u8 (o.s 6), .int .u8 (o.s 7), .int .u8 (o.s 8), .int .u8 (o.s 9), .int .u8 (o.s 10), .int .u8 (o.s 11), .int .u8 (o.s 12), .int .u8 (o.s 13), .int .u8 (o.s 14), .int .u8 (o.s 15)]) (by kernel_rfl) (by kernel_rfl) (Loads.ownL ho1 (n := 36) (by kernel_rfl) (by kernel_rfl) (by kernel_rfl)) ?_
          refine VL_agEq (d := 36) (dd := 9) (ls := ([.int .i64] ++ [.int .u8] ++ [.bool] ++ [.int .u32] ++ (rep 16 [.int .u8]) ++ (rep 16 [.int .u8]) ++ [])) (pos := true) (t := 25) (xs := #[.int .i64 o.k, .int .u8 0, .bool o.a, .int .u32 o.tg, .int .u8 (o.p 0), .int .u8 (o.p 1), .int .u8 (o.p 2), .int .u8 (o.p 3), .int .u8 (o.p 4), .int .u8 (o.p 5), .int .u8 (o.p 6), .int .u8 (o.p 7), .int .u8 (o.p 8), .int .u8 (o.p 9), .int .u8 (o.p 10), .int .u8 (o.p 11), .int .u8 (o.p 12), .int .u8 (o.p 13), .int .u8 (o.p 14), .int .u8 (o.p 15), .int .u8 (o.s 0), .int .u8 (o.s 1), .int .u8 (o.s 2), .int .u8 (o.s 3), .int .u8 (o.s 4), .int .u8 (o.s 5), .int .u8 (o.s 6), .int .u8 (o.s 7), .int .u8 (o.s 8), .int .u8 (o.s 9), .int .u8 (o.s 10), .int .u8 (o.s 11), .int .u8 (o.s 12), .int .u8 (o.s 13), .int .u8 (o.s 14), .int .u8 (o.s 15)]) (ys := #[.int .i64 o.k, .int .u8 o.d, .bool o.a, .int .u32 o.tg, .int .u8 (o.p 0), .int .u8 (o.p 1), .int .u8 (o.p 2), .int .u8 (o.p 3), .int .u8 (o.p 4), .int .u8 (o.p 5), .int .u8 (o.p 6), .int .u8 (o.p 7), .int .u8 (o.p 8), .int .u8 (o.p 9), .int .u8 (o.p 10), .int .u8 (o.p 11), .int .u8 (o.p 12), .int .u8 (o.p 13), .int .u8 (o.p 14), .int .u8 (o.p 15), .int .u8 (o.s 0), .int .u8 (o.s 1), .int .u8 (o.s 2), .int .u8 (o.s 3), .int .u8 (o.s 4), .int .u8 (o.s 5), .int .u8 (o.s 6), .int .u8 (o.s 7), .int .u8 (o.s 8), .int .u8 (o.s 9), .int .u8 (o.s 10), .int .u8 (o.s 11), .int .u8 (o.s 12), .int .u8 (o.s 13), .int .u8 (o.s 14), .int .u8 (o.s 15)]) (by kernel_rfl) (by kernel_rfl) (by kernel_rfl) (by kernel_rfl) (by first | exact ⟨⟨_, rfl⟩, ⟨_, rfl⟩, ⟨_, rfl⟩, ⟨_, rfl⟩, ⟨_, rfl⟩, ⟨_, rfl⟩, ⟨_, rfl⟩, ⟨_, rfl⟩, ⟨_, rfl⟩, ⟨_, rfl⟩, ⟨_, rfl⟩, ⟨_, rfl⟩, ⟨_, rfl⟩, ⟨_, rfl⟩, ⟨_, rfl⟩, ⟨_, rfl⟩, ⟨_, rfl⟩, ⟨_, rfl⟩, ⟨_, rfl⟩, ⟨_, rfl⟩, ⟨_, rfl⟩, ⟨_, rfl⟩, ⟨_, rfl⟩, ⟨_, rfl⟩, ⟨_, rfl⟩, ⟨_, rfl⟩, ⟨_, rfl⟩, ⟨_, rfl⟩, ⟨_, rfl⟩, ⟨_, rfl⟩, ⟨_, rfl⟩, ⟨_, rfl⟩, ⟨_, rfl⟩, ⟨_, rfl⟩, ⟨_, rfl⟩, ⟨_, rfl⟩, trivial⟩ | trivial) (by first | exact ⟨⟨_, rfl⟩, ⟨_, rfl⟩, ⟨_, rfl⟩, ⟨_, rfl⟩, ⟨_, rfl⟩, ⟨_, rfl⟩, ⟨_, rfl⟩, ⟨_, rfl⟩, ⟨_, rfl⟩, ⟨_, rfl⟩, ⟨_, rfl⟩, ⟨_, rfl⟩, ⟨_, rfl⟩, ⟨_, rfl⟩, ⟨_, rfl⟩, ⟨_, rfl⟩, ⟨_, rfl⟩, ⟨_, rfl⟩, ⟨_, rfl⟩, ⟨_, rfl⟩, ⟨_, rfl⟩, ⟨_, rfl⟩, ⟨_, rfl⟩, ⟨_, rfl⟩, ⟨_, rfl⟩, ⟨_, rfl⟩, ⟨_, rfl⟩, ⟨_, rfl⟩, ⟨_, rfl⟩, ⟨_, rfl⟩, ⟨_, rfl⟩, ⟨_, rfl⟩, ⟨_, rfl⟩, ⟨_, rfl⟩, ⟨_, rfl⟩, ⟨_, rfl⟩, trivial⟩ | trivial) (cellsEq #[.int .i64 o.k, .int .u8 0, .bool o.a, .int .u32 o.tg, .int .u8 (o.p 0), .int .u8 (o.p 1), .int .u8 (o.p 2), .int .u8 (o.p 3), .int .u8 (o.p 4), .int .u8 (o.p 5), .int .u8 (o.p 6), .int .u8 (o.p 7), .int .u8 (o.p 8), .int .u8 (o.p 9), .int .u8 (o.p 10), .int .u8 (o.p 11), .int .u8 (o.p 12), .int .u8 (o.p 13), .int .u8 (o.p 14), .int .u8 (o.p 15), .int .u8 (o.s 0), .int .u8 (o.s 1), .int .u8 (o.s 2), .int .u8 (o.s 3), .int .u8 (o.s 4), .int .u8 (o.s 5), .int .u8 (o.s 6), .int .u8 (o.s 7), .int .u8 (o.s 8), .int .u8 (o.s 9), .int .u8 (o.s 10), .int .u8 (o.s 11), .int .u8 (o.s 12), .int .u8 (o.s 13), .int .u8 (o.s 14), .int .u8 (o.s 15)].toList #[.int .i64 o.k, .int .u8 o.d, .bool o.a, .int .u32 o.tg, .int .u8 (o.p 0), .int .u8 (o.p 1), .int .u8 (o.p 2), .int .u8 (o.p 3), .int .u8 (o.p 4), .int .u8 (o.p 5), .int .u8 (o.p 6), .int .u8 (o.p 7), .int .u8 (o.p 8), .int .u8 (o.p 9), .int .u8 (o.p 10), .int .u8 (o.p 11), .int .u8 (o.p 12), .int .u8 (o.p 13), .int .u8 (o.p 14), .int .u8 (o.p 15), .int .u8 (o.s 0), .int .u8 (o.s 1), .int .u8 (o.s 2), .int .u8 (o.s 3), .int .u8 (o.s 4), .int .u8 (o.s 5), .int .u8 (o.s 6), .int .u8 (o.s 7), .int .u8 (o.s 8), .int .u8 (o.s 9), .int .u8 (o.s 10), .int .u8 (o.s 11), .int .u8 (o.s 12), .int .u8 (o.s 13), .int .u8 (o.s 14), .int .u8 (o.s 15)].toList) (by rfl) ?_
          refine VL_pure 4 [2] [(2, .bool (cellsEq #[.int .i64 o.k, .int .u8 0, .bool o.a, .int .u32 o.tg, .int .u8 (o.p 0), .int .u8 (o.p 1), .int .u8 (o.p 2), .int .u8 (o.p 3), .int .u8 (o.p 4), .int .u8 (o.p 5), .int .u8 (o.p 6), .int .u8 (o.p 7), .int .u8 (o.p 8), .int .u8 (o.p 9), .int .u8 (o.p 10), .int .u8 (o.p 11), .int .u8 (o.p 12), .int .u8 (o.p 13), .int .u8 (o.p 14), .int .u8 (o.p 15), .int .u8 (o.s 0), .int .u8 (o.s 1), .int .u8 (o.s 2), .int .u8 (o.s 3), .int .u8 (o.s 4), .int .u8 (o.s 5), .int .u8 (o.s 6), .int .u8 (o.s 7), .int .u8 (o.s 8), .int .u8 (o.s 9), .int .u8 (o.s 10), .int .u8 (o.s 11), .int .u8 (o.s 12), .int .u8 (o.s 13), .int .u8 (o.s 14), .int .u8 (o.s 15)].toList #[.int .i64 o.k, .int .u8 o.d, .bool o.a, .int .u32 o.tg, .int .u8 (o.p 0), .int .u8 (o.p 1), .int .u8 (o.p 2), .int .u8 (o.p 3), .int .u8 (o.p 4), .int .u8 (o.p 5), .int .u8 (o.p 6), .int .u8 (o.p 7), .int .u8 (o.p 8), .int .u8 (o.p 9), .int .u8 (o.p 10), .int .u8 (o.p 11), .int .u8 (o.p 12), .int .u8 (o.p 13), .int .u8 (o.p 14), .int .u8 (o.p 15), .int .u8 (o.s 0), .int .u8 (o.s 1), .int .u8 (o.s 2), .int .u8 (o.s 3), .int .u8 (o.s 4), .int .u8 (o.s 5), .int .u8 (o.s 6), .int .u8 (o.s 7), .int .u8 (o.s 8), .int .u8 (o.s 9), .int .u8 (o.s 10), .int .u8 (o.s 11), .int .u8 (o.s 12), .int .u8 (o.s 13), .int .u8 (o.s 14), .int .u8 (o.s 15)].toList))] (by kernel_rfl) rfl ?_
          refine VL_end (by kernel_rfl) ?_
          refine VQ_next ?_
          refine VC_ret ?_
          refine VQ_ret1 (.bool (cellsEq #[.int .i64 o.k, .int .u8 0, .bool o.a, .int .u32 o.tg, .int .u8 (o.p 0), .int .u8 (o.p 1), .int .u8 (o.p 2), .int .u8 (o.p 3), .int .u8 (o.p 4), .int .u8 (o.p 5), .int .u8 (o.p 6), .int .u8 (o.p 7), .int .u8 (o.p 8), .int .u8 (o.p 9), .int .u8 (o.p 10), .int .u8 (o.p 11), .int .u8 (o.p 12), .int .u8 (o.p 13), .int .u8 (o.p 14), .int .u8 (o.p 15), .int .u8 (o.s 0), .int .u8 (o.s 1), .int .u8 (o.s 2), .int .u8 (o.s 3), .int .u8 (o.s 4), .int .u8 (o.s 5), .int .u8 (o.s 6), .int .u8 (o.s 7), .int .u8 (o.s 8), .int .u8 (o.s 9), .int .u8 (o.s 10), .int .u8 (o.s 11), .int .u8 (o.s 12), .int .u8 (o.s 13), .int .u8 (o.s 14), .int .u8 (o.s 15)].toList #[.int .i64 o.k, .int .u8 o.d, .bool o.a, .int .u32 o.tg, .int .u8 (o.p 0), .int .u8 (o.p 1), .int .u8 (o.p 2), .int .u8 (o.p 3), .int .u8 (o.p 4), .int .u8 (o.p 5), .int .u8 (o.p 6), .int .u8 (o.p 7), .int .u8 (o.p 8), .int .u8 (o.p 9), .int .u8 (o.p 10), .int .u8 (o.p 11), .int .u8 (o.p 12), .int .u8 (o.p 13), .int .u8 (o.p 14), .int .u8 (o.p 15), .int .u8 (o.s 0), .int .u8 (o.s 1), .int .u8 (o.s 2), .int .u8 (o.s 3), .int .u8 (o.s 4), .int .u8 (o.s 5), .int .u8 (o.s 6), .int .u8 (o.s 7), .int .u8 (o.s 8), .int .u8 (o.s 9), .int .u8 (o.s 10), .int .u8 (o.s 11), .int .u8 (o.s 12), .int .u8 (o.s 13), .int .u8 (o.s 14), .int .u8 (o.s 15)].toList)) (.inr rfl) rfl rfl ?_
          exact ⟨congrArg Value.bool (Eq.symm (rightO_8 (by omega))), hS⟩
        · refine VC_seq ?_
          refine VC_region ?_
          refine VL_pure 1 [2] [(2, .bool false)] (by kernel_rfl) rfl ?_
          refine VL_end (by kernel_rfl) ?_
          refine VQ_next ?_
          refine VC_ret ?_
          refine VQ_block_ret ?_
          refine VQ_then_ret ?_
          refine VQ_ret1 (.bool false) (.inr rfl) rfl rfl ?_
          exact ⟨congrArg Value.bool (Eq.symm (rightO_no (by omega) (by omega) (by omega) (by omega))), hS⟩

set_option maxRecDepth 100000 in
set_option maxHeartbeats 4000000 in
theorem rpack0_any (o : Om) (w : World) :
    CV Try.prog 11 #[.agg #[.int .i64 o.k, .int .u8 o.d, .bool o.a, .int .u32 o.tg, .int .u8 (o.p 0), .int .u8 (o.p 1), .int .u8 (o.p 2), .int .u8 (o.p 3), .int .u8 (o.p 4), .int .u8 (o.p 5), .int .u8 (o.p 6), .int .u8 (o.p 7), .int .u8 (o.p 8), .int .u8 (o.p 9), .int .u8 (o.p 10), .int .u8 (o.p 11), .int .u8 (o.p 12), .int .u8 (o.p 13), .int .u8 (o.p 14), .int .u8 (o.p 15), .int .u8 (o.s 0), .int .u8 (o.s 1), .int .u8 (o.s 2), .int .u8 (o.s 3), .int .u8 (o.s 4), .int .u8 (o.s 5), .int .u8 (o.s 6), .int .u8 (o.s 7), .int .u8 (o.s 8), .int .u8 (o.s 9), .int .u8 (o.s 10), .int .u8 (o.s 11), .int .u8 (o.s 12), .int .u8 (o.s 13), .int .u8 (o.s 14), .int .u8 (o.s 15)]] w (fun x w1 => ∃ A' c', x = .slice A' (rpackN o) c' ∧ Rw w1 w.heap.size 5 A' (rpackN o) c' (iL .u8 (rpackV o)) ∧ (rightO o = false → A' = none ∧ c' = 0) ∧ Step No w w1) := by
  have hS : Step No w w := Step.refl _ _
  have hle := rhead_le o
  refine CV_enter Try.f11 _ 65 [(0, .agg #[.int .i64 o.k, .int .u8 o.d, .bool o.a, .int .u32 o.tg, .int .u8 (o.p 0), .int .u8 (o.p 1), .int .u8 (o.p 2), .int .u8 (o.p 3), .int .u8 (o.p 4), .int .u8 (o.p 5), .int .u8 (o.p 6), .int .u8 (o.p 7), .int .u8 (o.p 8), .int .u8 (o.p 9), .int .u8 (o.p 10), .int .u8 (o.p 11), .int .u8 (o.p 12), .int .u8 (o.p 13), .int .u8 (o.p 14), .int .u8 (o.p 15), .int .u8 (o.s 0), .int .u8 (o.s 1), .int .u8 (o.s 2), .int .u8 (o.s 3), .int .u8 (o.s 4), .int .u8 (o.s 5), .int .u8 (o.s 6), .int .u8 (o.s 7), .int .u8 (o.s 8), .int .u8 (o.s 9), .int .u8 (o.s 10), .int .u8 (o.s 11), .int .u8 (o.s 12), .int .u8 (o.s 13), .int .u8 (o.s 14), .int .u8 (o.s 15)])] Try.func11 rfl rfl (by kernel_rfl) rfl ?_
  refine VC_seq ?_
  refine VC_region ?_
  have hzs1 := hS.size
  refine VL_box (d := 1) (t := 25) (c := #[.int .i64 o.k, .int .u8 o.d, .bool o.a, .int .u32 o.tg, .int .u8 (o.p 0), .int .u8 (o.p 1), .int .u8 (o.p 2), .int .u8 (o.p 3), .int .u8 (o.p 4), .int .u8 (o.p 5), .int .u8 (o.p 6), .int .u8 (o.p 7), .int .u8 (o.p 8), .int .u8 (o.p 9), .int .u8 (o.p 10), .int .u8 (o.p 11), .int .u8 (o.p 12), .int .u8 (o.p 13), .int .u8 (o.p 14), .int .u8 (o.p 15), .int .u8 (o.s 0), .int .u8 (o.s 1), .int .u8 (o.s 2), .int .u8 (o.s 3), .int .u8 (o.s 4), .int .u8 (o.s 5), .int .u8 (o.s 6), .int .u8 (o.s 7), .int .u8 (o.s 8), .int .u8 (o.s 9), .int .u8 (o.s 10), .int .u8 (o.s 11), .int .u8 (o.s 12), .int .u8 (o.s 13), .int .u8 (o.s 14), .int .u8 (o.s 15)]) (by kernel_rfl) (by kernel_rfl) ?_
  intro b1 w1 hn1
  replace hS := Step.trans hS (hn1.step No)
  have ho1 := hn1.own
  have hzhn1 := hn1.size
  have hqhn1 := hn1.eqb
  refine VL_pure 2 [1] [(1, .pointer (some ⟨b1, 0, none⟩))] (by kernel_rfl) rfl ?_
  refine VL_end (by kernel_rfl) ?_
  refine VQ_next ?_
  refine VC_seq ?_
  refine VC_seq ?_
  refine VC_region ?_
  refine VL_load (d := 5) (t := 25) (a := ⟨b1, 0, none⟩) (v := .agg #[.int .i64 o.k, .int .u8 o.d, .bool o.a, .int .u32 o.tg, .int .u8 (o.p 0), .int .u8 (o.p 1), .int .u8 (o.p 2), .int .u8 (o.p 3), .int .u8 (o.p 4), .int .u8 (o.p 5), .int .u8 (o.p 6), .int .u8 (o.p 7), .int .u8 (o.p 8), .int .u8 (o.p 9), .int .u8 (o.p 10), .int .u8 (o.p 11), .int .u8 (o.p 12), .int .u8 (o.p 13), .int .u8 (o.p 14), .int .u8 (o.p 15), .int .u8 (o.s 0), .int .u8 (o.s 1), .int .u8 (o.s 2), .int .u8 (o.s 3), .int .u8 (o.s 4), .int .u8 (o.s 5), .int .u8 (o.s 6), .int .u8 (o.s 7), .int .u8 (o.s 8), .int .u8 (o.s 9), .int .u8 (o.s 10), .int .u8 (o.s 11), .int .u8 (o.s 12), .int .u8 (o.s 13), .int .u8 (o.s 14), .int .u8 (o.s 15)]) (by kernel_rfl) (by kernel_rfl) (Loads.ownL ho1 (n := 36) (by kernel_rfl) (by kernel_rfl) (by kernel_rfl)) ?_
  have hzs2 := hS.size
  have hzl1 := ho1.lt
  refine VL_call (d := 6) (f := 22) (by kernel_rfl) (by kernel_rfl) (by kernel_rfl) Try.call22 (right14_any o _) ?_
  rintro _ w2 ⟨rfl, hc1⟩
  replace hS := Step.trans hS hc1
  replace ho1 := ho1.no hc1
  refine VL_pure 3 [1, 7] [(1, .pointer (some ⟨b1, 0, none⟩)), (7, .bool (!(rightO o)))] (by kernel_rfl) rfl ?_
  refine VL_end (by kernel_rfl) ?_
  refine VQ_next ?_
  refine VC_cond (!(rightO o)) (by kernel_rfl) (fun h1 => ?_) (fun h1 => ?_)
  · try simp only [Bool.and_eq_true, Bool.or_eq_true, decide_eq_true_eq, Bool.not_eq_true', decide_eq_false_iff_not, Bool.and_eq_false_iff, Bool.or_eq_false_iff, beq_iff_eq, bne_iff_ne, beq_eq_false_iff_ne, bne_eq_false_iff_eq, Bool.not_eq_eq_eq_not, Bool.not_true, Bool.not_false] at h1
    refine VC_seq ?_
    refine VC_region ?_
    refine VL_pure 1 [2] [(2, .slice none 0 0)] (by kernel_rfl) rfl ?_
    refine VL_end (by kernel_rfl) ?_
    refine VQ_next ?_
    refine VC_ret ?_
    refine VQ_then_ret ?_
    refine VQ_ret1 (.slice none 0 0) (.inr rfl) rfl rfl ?_
    exact ⟨none, 0, by unfold rpackN; rw [if_neg (by simp_all)], by unfold rpackN rpackV; rw [if_neg (by simp_all), if_neg (by simp_all)]; exact Rw.nil _ _ _, fun _ => ⟨rfl, rfl⟩, hS⟩
  · try simp only [Bool.and_eq_true, Bool.or_eq_true, decide_eq_true_eq, Bool.not_eq_true', decide_eq_false_iff_not, Bool.and_eq_false_iff, Bool.or_eq_false_iff, beq_iff_eq, bne_iff_ne, beq_eq_false_iff_ne, bne_eq_false_iff_eq, Bool.not_eq_eq_eq_not, Bool.not_true, Bool.not_false] at h1
    refine VC_skip ?_
    refine VQ_next ?_
    refine VC_seq ?_
    refine VC_region ?_
    refine VL_pure 1 [1, 8] [(1, .pointer (some ⟨b1, 0, none⟩)), (8, .pointer (some ⟨b1, 0, none⟩))] (by kernel_rfl) rfl ?_
    refine VL_load (d := 9) (t := 3) (a := ⟨b1, 0, none⟩) (v := .int .i64 o.k) (by kernel_rfl) (by kernel_rfl) (Loads.own1 ho1 (by kernel_rfl) (by rfl)) ?_
    refine VL_pure 4 [1, 11] [(1, .pointer (some ⟨b1, 0, none⟩)), (11, .int .u8 (IntKind.wrap .u8 (IntKind.wrap .i64 (16 + o.k))))] (by kernel_rfl) rfl ?_
    have hzs3 := hS.size
    have hzl2 := ho1.lt
    refine VL_bs (d := 12) (e := 5) (c := #[.int .u8 (IntKind.wrap .u8 (IntKind.wrap .i64 (16 + o.k)))]) (len := 1) (by kernel_rfl) (by kernel_rfl) ?_
    intro b2 w3 hn2
    replace hS := Step.trans hS (hn2.step No)
    replace ho1 := ho1.no (hn2.step No)
    have ho2 := hn2.own
    have hzhn2 := hn2.size
    have hqhn2 := hn2.eqb
    refine VL_pure 6 [1, 3] [(1, .pointer (some ⟨b1, 0, none⟩)), (3, .slice (some ⟨b2, 0, none⟩) 1 1)] (by kernel_rfl) rfl ?_
    refine VL_end (by kernel_rfl) ?_
    refine VQ_next ?_
    refine VC_seq ?_
    refine VC_seq ?_
    refine VC_region ?_
    refine VL_pure 1 [1, 3, 13] [(1, .pointer (some ⟨b1, 0, none⟩)), (3, .slice (some ⟨b2, 0, none⟩) 1 1), (13, .pointer (some ⟨b1, 0, none⟩))] (by kernel_rfl) rfl ?_
    refine VL_load (d := 14) (t := 3) (a := ⟨b1, 0, none⟩) (v := .int .i64 o.k) (by kernel_rfl) (by kernel_rfl) (Loads.own1 ho1 (by kernel_rfl) (by rfl)) ?_
    refine VL_pure 3 [1, 3, 15] [(1, .pointer (some ⟨b1, 0, none⟩)), (3, .slice (some ⟨b2, 0, none⟩) 1 1), (15, .bool (decide (o.k < 2)))] (by kernel_rfl) rfl ?_
    refine VL_end (by kernel_rfl) ?_
    refine VQ_next ?_
    refine VC_dec (o.k < 2) (by kernel_rfl) (fun h2 => ?_) (fun h2 => ?_)
    · have hs1 := drew_step w3
      have hs1z : w3.heap.size = w3.drew.heap.size := rfl
      refine VC_text [[], [], [1], [1, 2], [0, 1, 2, 3], [], [5], [0, 1, 2, 3, 4, 5, 6], [0, 1, 2, 3, 4, 5, 6, 7]] 7 (fun x y => Step (fun k => b2 ≤ k ∨ w3.heap.size ≤ k) x y) [3, 4] [0, 1, 2, 5, 6, 3, 4] (by kernel_rfl) (by kernel_rfl) (by kernel_rfl) (by kernel_rfl) (fun x => Step.refl _ x) (fun h k => Step.trans h k) Step.weak ?_
      have hzs4 := hS.size
      have hzl3 := ho1.lt
      have hzl4 := ho2.lt
      generalize w3.drew = w4 at hs1 hs1z ⊢
      replace hS := Step.trans hS hs1
      replace ho1 := ho1.no hs1
      replace ho2 := ho2.no hs1
      refine VT_pures 2 (kn' := [(1, .pointer (some ⟨b1, 1, none⟩)), (0, .slice (some ⟨b2, 0, none⟩) 1 1)]) (by kernel_rfl) ?_
      refine VT_load (d := 18) (t := 5) (a := ⟨b1, 1, none⟩) (v := .int .u8 o.d) (by kernel_rfl) (by kernel_rfl) ?_ ?_
      · intro w5 hr1
        replace hS := Step.transNew hS hr1 (fun i hi hG => by (try simp only at hG); omega)
        replace ho1 := ho1.step hr1 (by (try simp only); omega)
        exact (Loads.own1 ho1 (by kernel_rfl) (by rfl))
      refine VT_pures 2 (kn' := [(6, .slice (some ⟨b1, 4, none⟩) 16 16), (5, .pointer (some ⟨b1, 4, none⟩)), (2, .int .u8 o.d), (1, .pointer (some ⟨b1, 1, none⟩)), (0, .slice (some ⟨b2, 0, none⟩) 1 1)]) (by kernel_rfl) ?_
      refine VT_chain (by kernel_rfl) ?_
      intro w6 hs2
      have hzhs2 := hs2.size
      replace hS := Step.trans hS hs2
      replace ho1 := ho1.no hs2
      replace ho2 := ho2.no hs2
      have hzs5 := hS.size
      have hzl5 := ho1.lt
      have hzl6 := ho2.lt
      refine VTc_bs (d := 19) (e := 5) (c := #[.int .u8 o.d]) (len := 1) (by kernel_rfl) (by kernel_rfl) (fun b w1 hn => hn.step _) ?_
      intro b3 w7 hn3
      replace hS := Step.trans hS (hn3.step No)
      replace ho1 := ho1.no (hn3.step No)
      replace ho2 := ho2.no (hn3.step No)
      have ho3 := hn3.own
      have hzhn3 := hn3.size
      have hqhn3 := hn3.eqb
      refine VT_chain (by kernel_rfl) ?_
      intro w8 hs3
      have hzhs3 := hs3.size
      replace hS := Step.trans hS hs3
      replace ho1 := ho1.no hs3
      replace ho2 := ho2.no hs3
      replace ho3 := ho3.no hs3
      have hzs6 := hS.size
      have hzl7 := ho1.lt
      have hzl8 := ho2.lt
      have hzl9 := ho3.lt
      have hbase1 := Nat.le_of_lt ho2.lt
      refine VTc_appendS (d := 20) (e := 5) (A := (some ⟨b2, 0, none⟩)) (mm := 1) (c := 1) (A2 := (some ⟨b3, 0, none⟩)) (m2 := 1) (c2 := 1) (bytes := 1) (by kernel_rfl) (by kernel_rfl) (by kernel_rfl) b2 w8.heap.size (iL .u8 ([IntKind.wrap .u8 (IntKind.wrap .i64 (16 + o.k))])) (iL .u8 ([o.d])) (Rw.of_new ho2 (Nat.le_refl _) (Nat.le_of_ble_eq_true (by kernel_rfl))) (by rw [iL_length]; exact rfl) (Sl.mono (Own.sl ho3 ho3.lt) (by first | exact Nat.le_refl _ | omega)) iL_one 2 (by omega) (by simp only [maxLen]; omega) (by omega) (by omega) ?_ ?_
      · intro w1 hs1; exact Step.mono hs1 (by intro i hi; (try simp only at hi ⊢); omega)
      intro A1 c1 w9 hr2 hg1
      replace hr2 : Rw w9 b2 5 A1 2 c1 (iL .u8 ([IntKind.wrap .u8 (IntKind.wrap .i64 (16 + o.k)), o.d])) := Rw.cast hr2 rfl (by simp only [iL, List.map_append, List.map_cons, List.map_nil, List.append_assoc, List.cons_append, List.nil_append, List.append_nil])
      have hzhg1 := hg1.size
      replace hS := Step.transNew hS hg1 (fun i hi hG => by (try simp only at hG); omega)
      replace ho1 := ho1.step hg1 (by (try simp only); omega)
      replace hbase1 := Nat.le_trans hbase1 (hg1).size
      refine VT_end ?_
      intro w10 hs4
      replace hS := Step.trans hS hs4
      replace ho1 := ho1.no hs4
      replace hbase1 := Nat.le_trans hbase1 (hs4).size
      replace hr2 := hr2.no hs4
      refine VL_keep [1, 22, 20] [(1, .pointer (some ⟨b1, 0, none⟩)), (22, .slice (some ⟨b1, 4, none⟩) 16 16), (20, .slice A1 2 c1)] (by kernel_rfl) ?_
      have hzs7 := hS.size
      have hzl10 := ho1.lt
      have hzk1 := hbase1
      refine VL_appendS (d := 23) (e := 5) (A := A1) (m := 2) (c := c1) (A2 := (some ⟨b1, 4, none⟩)) (m2 := 16) (c2 := 16) (bytes := 1) (by kernel_rfl) (by kernel_rfl) (by kernel_rfl) b2 w10.heap.size (iL .u8 ([IntKind.wrap .u8 (IntKind.wrap .i64 (16 + o.k)), o.d])) (iL .u8 (lp o.p)) hr2 (by rw [iL_length]; exact (by rfl)) (Sl.mono (Sl.cast (Own.slSub ho1 ho1.lt 4 16) (by rfl)) (by first | exact Nat.le_refl _ | omega)) iL_one 18 (by omega) (by simp only [maxLen]; omega) (by omega) (by omega) ?_
      intro A2 c2 w11 hr3 hg2
      replace hr3 : Rw w11 b2 5 A2 18 c2 (iL .u8 (([IntKind.wrap .u8 (IntKind.wrap .i64 (16 + o.k)), o.d]) ++ (lp o.p))) := Rw.cast hr3 rfl (by simp only [iL, List.map_append, List.map_cons, List.map_nil, List.append_assoc, List.cons_append, List.nil_append, List.append_nil])
      have hzhg2 := hg2.size
      replace hS := Step.transNew hS hg2 (fun i hi hG => by (try simp only at hG); omega)
      replace ho1 := ho1.step hg2 (by (try simp only); omega)
      replace hbase1 := Nat.le_trans hbase1 (hg2).size
      refine VL_pure 9 [1, 3] [(1, .pointer (some ⟨b1, 0, none⟩)), (3, .slice A2 18 c2)] (by kernel_rfl) rfl ?_
      refine VL_end (by kernel_rfl) ?_
      refine VQ_next ?_
      refine VC_seq ?_
      refine VC_seq ?_
      refine VC_region ?_
      refine VL_pure 1 [1, 3, 24] [(1, .pointer (some ⟨b1, 0, none⟩)), (3, .slice A2 18 c2), (24, .pointer (some ⟨b1, 0, none⟩))] (by kernel_rfl) rfl ?_
      refine VL_load (d := 25) (t := 3) (a := ⟨b1, 0, none⟩) (v := .int .i64 o.k) (by kernel_rfl) (by kernel_rfl) (Loads.own1 ho1 (by kernel_rfl) (by rfl)) ?_
      refine VL_pure 3 [1, 3, 26] [(1, .pointer (some ⟨b1, 0, none⟩)), (3, .slice A2 18 c2), (26, .bool (o.k == 8))] (by kernel_rfl) rfl ?_
      refine VL_end (by kernel_rfl) ?_
      refine VQ_next ?_
      refine VC_eq o.k 8 (by kernel_rfl) (fun h3 => ?_) (fun h3 => ?_)
      · exfalso; omega
      · refine VC_skip ?_
        refine VQ_next ?_
        refine VC_seq ?_
        refine VC_block ?_
        have hnfix : (rheadL o).length + 0 = 18 := (by rw [rhead_2 (by omega)]; simp [rtagB, lp_len])
        refine VC_eqL [(1, .pointer (some ⟨b1, 0, none⟩)), (3, .slice A2 ((rheadL o).length + 0) c2), (26, .bool (o.k == 8))] (by rw [hnfix]) ?_
        replace hr3 := Rw.cast hr3 hnfix.symm rfl
        refine VC_loop (σ := Nat × (Option Addr) × Nat) (fun σs => [(3, .slice σs.2.1 ((rheadL o).length + σs.1) σs.2.2)]) (fun σs w12 => (σs.1 ≤ 46 - (rheadL o).length) ∧ (Step No w w12) ∧ (Own w12 b1 #[.int .i64 o.k, .int .u8 o.d, .bool o.a, .int .u32 o.tg, .int .u8 (o.p 0), .int .u8 (o.p 1), .int .u8 (o.p 2), .int .u8 (o.p 3), .int .u8 (o.p 4), .int .u8 (o.p 5), .int .u8 (o.p 6), .int .u8 (o.p 7), .int .u8 (o.p 8), .int .u8 (o.p 9), .int .u8 (o.p 10), .int .u8 (o.p 11), .int .u8 (o.p 12), .int .u8 (o.p 13), .int .u8 (o.p 14), .int .u8 (o.p 15), .int .u8 (o.s 0), .int .u8 (o.s 1), .int .u8 (o.s 2), .int .u8 (o.s 3), .int .u8 (o.s 4), .int .u8 (o.s 5), .int .u8 (o.s 6), .int .u8 (o.s 7), .int .u8 (o.s 8), .int .u8 (o.s 9), .int .u8 (o.s 10), .int .u8 (o.s 11), .int .u8 (o.s 12), .int .u8 (o.s 13), .int .u8 (o.s 14), .int .u8 (o.s 15)] 25) ∧ (b2 ≤ w12.heap.size) ∧ (Rw w12 b2 5 σs.2.1 ((rheadL o).length + σs.1) σs.2.2 (iL .u8 (rheadL o ++ List.replicate σs.1 106)))) (fun σs w12 => 46 - (rheadL o).length - σs.1) ⟨0, A2, c2⟩ ⟨rfl, trivial⟩ ?_ ?_
        · exact ⟨Nat.zero_le _, hS, ho1, hbase1, (Rw.cast hr3 rfl (by rw [rhead_2 (by omega)]; simp [iL, rtagB, lp_len, *]))⟩
        rintro ⟨i, A3, c3⟩ w12 ⟨hi, hS, ho1, hbase1, hr4⟩
        try dsimp only at hi hS ho1 hbase1 hr4 ⊢
        refine VC_seq ?_
        refine VC_seq ?_
        refine VC_region ?_
        refine VL_pure 3 [3, 57] [(3, .slice A3 ((rheadL o).length + i) c3), (57, .bool (decide ((((rheadL o).length + i : Nat) : Int) < 46)))] (by kernel_rfl) rfl ?_
        refine VL_end (by kernel_rfl) ?_
        refine VQ_next ?_
        refine VC_dec ((((rheadL o).length + i : Nat) : Int) < 46) (by kernel_rfl) (fun h4 => ?_) (fun h4 => ?_)
        · refine VC_skip ?_
          refine VQ_next ?_
          refine VC_block ?_
          refine VC_region ?_
          refine VL_pure 1 [58] [(58, .slice A3 ((rheadL o).length + i) c3)] (by kernel_rfl) rfl ?_
          have hzs8 := hS.size
          have hzl11 := ho1.lt
          have hzk2 := hbase1
          refine VL_bs (d := 59) (e := 5) (c := #[.int .u8 106]) (len := 1) (by kernel_rfl) (by kernel_rfl) ?_
          intro b4 w13 hn4
          replace hS := Step.trans hS (hn4.step No)
          replace ho1 := ho1.no (hn4.step No)
          replace hbase1 := Nat.le_trans hbase1 (hn4.step No).size
          replace hr4 := hr4.no (hn4.step No)
          have ho4 := hn4.own
          have hzhn4 := hn4.size
          have hqhn4 := hn4.eqb
          have hzs9 := hS.size
          have hzl12 := ho1.lt
          have hzk3 := hbase1
          have hzl13 := ho4.lt
          refine VL_appendS (d := 60) (e := 5) (A := A3) (m := ((rheadL o).length + i)) (c := c3) (A2 := (some ⟨b4, 0, none⟩)) (m2 := 1) (c2 := 1) (bytes := 1) (by kernel_rfl) (by kernel_rfl) (by kernel_rfl) b2 w13.heap.size (iL .u8 (rheadL o ++ List.replicate i 106)) (iL .u8 ([106])) hr4 (by rw [iL_length]; exact rfl) (Sl.mono (Own.sl ho4 ho4.lt) (by first | exact Nat.le_refl _ | omega)) iL_one ((rheadL o).length + i + 1) (by omega) (by simp only [maxLen]; omega) (by omega) (by omega) ?_
          intro A4 c4 w14 hr5 hg3
          replace hr5 : Rw w14 b2 5 A4 ((rheadL o).length + i + 1) c4 (iL .u8 (rheadL o ++ List.replicate i 106 ++ ([106]))) := Rw.cast hr5 rfl (by simp only [iL, List.map_append, List.map_cons, List.map_nil, List.append_assoc, List.cons_append, List.nil_append, List.append_nil])
          have hzhg3 := hg3.size
          replace hS := Step.transNew hS hg3 (fun i hi hG => by (try simp only at hG); omega)
          replace ho1 := ho1.step hg3 (by (try simp only); omega)
          replace hbase1 := Nat.le_trans hbase1 (hg3).size
          refine VL_pure 4 [3] [(3, .slice A4 ((rheadL o).length + i + 1) c4)] (by kernel_rfl) rfl ?_
          refine VL_end (by kernel_rfl) ?_
          refine VQ_block_normal ?_
          refine VQ_again ⟨i + 1, A4, c4⟩ ⟨rfl, trivial⟩ ?_ ?_
          · exact ⟨(by omega), hS, ho1, hbase1, (Rw.cast hr5 (by omega) (by rw [List.replicate_succ', List.append_assoc]))⟩
          · (try dsimp only); omega
        · refine VC_exit ?_
          refine VQ_then_exit ?_
          refine VQ_then_exit ?_
          refine VQ_block_hit ?_
          refine VQ_next ?_
          refine VC_seq ?_
          have hi2 : (rheadL o).length + i = 46 := by omega
          obtain rfl : i = 46 - (rheadL o).length := by omega
          have hr4_ := hr4
          refine VC_region ?_
          refine VL_pure 1 [61] [(61, .slice A3 ((rheadL o).length + (46 - (rheadL o).length)) c3)] (by kernel_rfl) rfl ?_
          have hzs10 := hS.size
          have hzl14 := ho1.lt
          have hzk4 := hbase1
          refine VL_bs (d := 62) (e := 5) (c := #[.int .u8 0, .int .u8 0]) (len := 2) (by kernel_rfl) (by kernel_rfl) ?_
          intro b5 w15 hn5
          replace hS := Step.trans hS (hn5.step No)
          replace ho1 := ho1.no (hn5.step No)
          replace hbase1 := Nat.le_trans hbase1 (hn5.step No).size
          replace hr4 := hr4.no (hn5.step No)
          have ho5 := hn5.own
          have hzhn5 := hn5.size
          have hqhn5 := hn5.eqb
          have hzs11 := hS.size
          have hzl15 := ho1.lt
          have hzk5 := hbase1
          have hzl16 := ho5.lt
          refine VL_appendS (d := 63) (e := 5) (A := A3) (m := ((rheadL o).length + (46 - (rheadL o).length))) (c := c3) (A2 := (some ⟨b5, 0, none⟩)) (m2 := 2) (c2 := 2) (bytes := 1) (by kernel_rfl) (by kernel_rfl) (by kernel_rfl) b2 w15.heap.size (iL .u8 (rheadL o ++ List.replicate (46 - (rheadL o).length) 106)) (iL .u8 ([0, 0])) hr4 (by rw [iL_length]; exact rfl) (Sl.mono (Own.sl ho5 ho5.lt) (by first | exact Nat.le_refl _ | omega)) iL_one (((rheadL o).length + (46 - (rheadL o).length)) + 2) (by omega) (by simp only [maxLen]; omega) (by omega) (by omega) ?_
          intro A5 c5 w16 hr6 hg4
          replace hr6 : Rw w16 b2 5 A5 (((rheadL o).length + (46 - (rheadL o).length)) + 2) c5 (iL .u8 (rheadL o ++ List.replicate (46 - (rheadL o).length) 106 ++ ([0, 0]))) := Rw.cast hr6 rfl (by simp only [iL, List.map_append, List.map_cons, List.map_nil, List.append_assoc, List.cons_append, List.nil_append, List.append_nil])
          have hzhg4 := hg4.size
          replace hS := Step.transNew hS hg4 (fun i hi hG => by (try simp only at hG); omega)
          replace ho1 := ho1.step hg4 (by (try simp only); omega)
          replace hbase1 := Nat.le_trans hbase1 (hg4).size
          have hzs12 := hS.size
          have hzl17 := ho1.lt
          refine VL_call (d := 64) (f := 23) (args := #[.slice A5 (((rheadL o).length + (46 - (rheadL o).length)) + 2) c5]) (by kernel_rfl) (by kernel_rfl) (by kernel_rfl) Try.call23 (rseal_any A5 (((rheadL o).length + (46 - (rheadL o).length)) + 2) c5 _ (rheadL o ++ List.replicate (46 - (rheadL o).length) 106 ++ ([0, 0])) _ (Rw.lenI hr6) (Rw.slI hr6) (by first | exact Nat.le_refl _ | omega) (by omega)) ?_
          rintro _ w17 ⟨A7, c7, rfl, hr8, hc2⟩
          replace hS := Step.trans hS hc2
          replace ho1 := ho1.no hc2
          replace hbase1 := Nat.le_trans hbase1 (hc2).size
          replace hr6 := hr6.no hc2
          obtain ⟨base2, hbase3E⟩ : ∃ x, x = w16.heap.size := ⟨_, rfl⟩
          rw [← hbase3E] at hr8
          have hbase3 : base2 ≤ w17.heap.size := by rw [hbase3E]; exact hc2.size
          refine VL_pure 5 [2] [(2, .slice A7 48 c7)] (by kernel_rfl) rfl ?_
          refine VL_end (by kernel_rfl) ?_
          refine VQ_next ?_
          refine VC_ret ?_
          refine VQ_ret1 (.slice A7 48 c7) (.inr rfl) rfl rfl ?_
          exact ⟨_, _, by unfold rpackN; rw [if_pos (by assumption)], Rw.low (Rw.cast hr8 (by unfold rpackN; rw [if_pos (by assumption)]) (by unfold rpackV; rw [if_pos (by assumption)]; simp only [rpreL, List.append_assoc, iL])) (by omega), fun h => by simp_all, hS⟩
    · refine VC_skip ?_
      refine VQ_next ?_
      refine VC_seq ?_
      refine VC_seq ?_
      refine VC_region ?_
      refine VL_pure 1 [1, 3, 24] [(1, .pointer (some ⟨b1, 0, none⟩)), (3, .slice (some ⟨b2, 0, none⟩) 1 1), (24, .pointer (some ⟨b1, 0, none⟩))] (by kernel_rfl) rfl ?_
      refine VL_load (d := 25) (t := 3) (a := ⟨b1, 0, none⟩) (v := .int .i64 o.k) (by kernel_rfl) (by kernel_rfl) (Loads.own1 ho1 (by kernel_rfl) (by rfl)) ?_
      refine VL_pure 3 [1, 3, 26] [(1, .pointer (some ⟨b1, 0, none⟩)), (3, .slice (some ⟨b2, 0, none⟩) 1 1), (26, .bool (o.k == 8))] (by kernel_rfl) rfl ?_
      refine VL_end (by kernel_rfl) ?_
      refine VQ_next ?_
      refine VC_eq o.k 8 (by kernel_rfl) (fun h5 => ?_) (fun h5 => ?_)
      · refine VC_seq ?_
        refine VC_region ?_
        refine VL_pure 1 [1, 3, 4] [(1, .pointer (some ⟨b1, 0, none⟩)), (3, .slice (some ⟨b2, 0, none⟩) 1 1), (4, .int .u8 0)] (by kernel_rfl) rfl ?_
        refine VL_end (by kernel_rfl) ?_
        refine VQ_next ?_
        refine VC_seq ?_
        refine VC_seq ?_
        refine VC_region ?_
        refine VL_pure 1 [1, 3, 4, 27] [(1, .pointer (some ⟨b1, 0, none⟩)), (3, .slice (some ⟨b2, 0, none⟩) 1 1), (4, .int .u8 0), (27, .pointer (some ⟨b1, 2, none⟩))] (by kernel_rfl) rfl ?_
        refine VL_load (d := 28) (t := 4) (a := ⟨b1, 2, none⟩) (v := .bool o.a) (by kernel_rfl) (by kernel_rfl) (Loads.own1 ho1 (by kernel_rfl) (by rfl)) ?_
        refine VL_end (by kernel_rfl) ?_
        refine VQ_next ?_
        refine VC_cond o.a (by kernel_rfl) (fun h6 => ?_) (fun h6 => ?_)
        · try simp only [Bool.and_eq_true, Bool.or_eq_true, decide_eq_true_eq, Bool.not_eq_true', decide_eq_false_iff_not, Bool.and_eq_false_iff, Bool.or_eq_false_iff, beq_iff_eq, bne_iff_ne, beq_eq_false_iff_ne, bne_eq_false_iff_eq, Bool.not_eq_eq_eq_not, Bool.not_true, Bool.not_false] at h6
          refine VC_region ?_
          refine VL_pure 1 [1, 3, 4] [(1, .pointer (some ⟨b1, 0, none⟩)), (3, .slice (some ⟨b2, 0, none⟩) 1 1), (4, .int .u8 1)] (by kernel_rfl) rfl ?_
          refine VL_end (by kernel_rfl) ?_
          refine VQ_next ?_
          refine VC_seq ?_
          refine VC_region ?_
          refine VL_pure 3 [1, 29, 30, 31] [(1, .pointer (some ⟨b1, 0, none⟩)), (29, .slice (some ⟨b2, 0, none⟩) 1 1), (30, .int .u8 1), (31, .pointer (some ⟨b1, 3, none⟩))] (by kernel_rfl) rfl ?_
          refine VL_load (d := 32) (t := 22) (a := ⟨b1, 3, none⟩) (v := .int .u32 o.tg) (by kernel_rfl) (by kernel_rfl) (Loads.own1 ho1 (by kernel_rfl) (by rfl)) ?_
          refine VL_pure 7 [1, 29, 30, 34, 35] [(1, .pointer (some ⟨b1, 0, none⟩)), (29, .slice (some ⟨b2, 0, none⟩) 1 1), (30, .int .u8 1), (34, .int .u8 (IntKind.wrap .u8 (IntKind.wrap .u32 (o.tg.tdiv 16777216)))), (35, .pointer (some ⟨b1, 3, none⟩))] (by kernel_rfl) rfl ?_
          refine VL_load (d := 36) (t := 22) (a := ⟨b1, 3, none⟩) (v := .int .u32 o.tg) (by kernel_rfl) (by kernel_rfl) (Loads.own1 ho1 (by kernel_rfl) (by rfl)) ?_
          refine VL_pure 11 [1, 29, 30, 34, 38, 39] [(1, .pointer (some ⟨b1, 0, none⟩)), (29, .slice (some ⟨b2, 0, none⟩) 1 1), (30, .int .u8 1), (34, .int .u8 (IntKind.wrap .u8 (IntKind.wrap .u32 (o.tg.tdiv 16777216)))), (38, .int .u8 (IntKind.wrap .u8 (IntKind.wrap .u32 (o.tg.tdiv 65536)))), (39, .pointer (some ⟨b1, 3, none⟩))] (by kernel_rfl) rfl ?_
          refine VL_load (d := 40) (t := 22) (a := ⟨b1, 3, none⟩) (v := .int .u32 o.tg) (by kernel_rfl) (by kernel_rfl) (Loads.own1 ho1 (by kernel_rfl) (by rfl)) ?_
          refine VL_pure 15 [1, 29, 30, 34, 38, 42, 43] [(1, .pointer (some ⟨b1, 0, none⟩)), (29, .slice (some ⟨b2, 0, none⟩) 1 1), (30, .int .u8 1), (34, .int .u8 (IntKind.wrap .u8 (IntKind.wrap .u32 (o.tg.tdiv 16777216)))), (38, .int .u8 (IntKind.wrap .u8 (IntKind.wrap .u32 (o.tg.tdiv 65536)))), (42, .int .u8 (IntKind.wrap .u8 (IntKind.wrap .u32 (o.tg.tdiv 256)))), (43, .pointer (some ⟨b1, 3, none⟩))] (by kernel_rfl) rfl ?_
          refine VL_load (d := 44) (t := 22) (a := ⟨b1, 3, none⟩) (v := .int .u32 o.tg) (by kernel_rfl) (by kernel_rfl) (Loads.own1 ho1 (by kernel_rfl) (by rfl)) ?_
          refine VL_pure 17 [1, 29, 30, 34, 38, 42, 45] [(1, .pointer (some ⟨b1, 0, none⟩)), (29, .slice (some ⟨b2, 0, none⟩) 1 1), (30, .int .u8 1), (34, .int .u8 (IntKind.wrap .u8 (IntKind.wrap .u32 (o.tg.tdiv 16777216)))), (38, .int .u8 (IntKind.wrap .u8 (IntKind.wrap .u32 (o.tg.tdiv 65536)))), (42, .int .u8 (IntKind.wrap .u8 (IntKind.wrap .u32 (o.tg.tdiv 256)))), (45, .int .u8 (IntKind.wrap .u8 o.tg))] (by kernel_rfl) rfl ?_
          have hzs13 := hS.size
          have hzl18 := ho1.lt
          have hzl19 := ho2.lt
          refine VL_bs (d := 46) (e := 5) (c := #[.int .u8 1, .int .u8 (IntKind.wrap .u8 (IntKind.wrap .u32 (o.tg.tdiv 16777216))), .int .u8 (IntKind.wrap .u8 (IntKind.wrap .u32 (o.tg.tdiv 65536))), .int .u8 (IntKind.wrap .u8 (IntKind.wrap .u32 (o.tg.tdiv 256))), .int .u8 (IntKind.wrap .u8 o.tg)]) (len := 5) (by kernel_rfl) (by kernel_rfl) ?_
          intro b6 w18 hn6
          replace hS := Step.trans hS (hn6.step No)
          replace ho1 := ho1.no (hn6.step No)
          replace ho2 := ho2.no (hn6.step No)
          have ho6 := hn6.own
          have hzhn6 := hn6.size
          have hqhn6 := hn6.eqb
          have hzs14 := hS.size
          have hzl20 := ho1.lt
          have hzl21 := ho2.lt
          have hzl22 := ho6.lt
          have hbase4 := Nat.le_of_lt ho2.lt
          refine VL_appendS (d := 47) (e := 5) (A := (some ⟨b2, 0, none⟩)) (m := 1) (c := 1) (A2 := (some ⟨b6, 0, none⟩)) (m2 := 5) (c2 := 5) (bytes := 1) (by kernel_rfl) (by kernel_rfl) (by kernel_rfl) b2 w18.heap.size (iL .u8 ([IntKind.wrap .u8 (IntKind.wrap .i64 (16 + o.k))])) (iL .u8 ([1, IntKind.wrap .u8 (IntKind.wrap .u32 (o.tg.tdiv 16777216)), IntKind.wrap .u8 (IntKind.wrap .u32 (o.tg.tdiv 65536)), IntKind.wrap .u8 (IntKind.wrap .u32 (o.tg.tdiv 256)), IntKind.wrap .u8 o.tg])) (Rw.of_new ho2 (Nat.le_refl _) (Nat.le_of_ble_eq_true (by kernel_rfl))) (by rw [iL_length]; exact rfl) (Sl.mono (Own.sl ho6 ho6.lt) (by first | exact Nat.le_refl _ | omega)) iL_one 6 (by omega) (by simp only [maxLen]; omega) (by omega) (by omega) ?_
          intro A8 c8 w19 hr9 hg5
          replace hr9 : Rw w19 b2 5 A8 6 c8 (iL .u8 ([IntKind.wrap .u8 (IntKind.wrap .i64 (16 + o.k)), 1, IntKind.wrap .u8 (IntKind.wrap .u32 (o.tg.tdiv 16777216)), IntKind.wrap .u8 (IntKind.wrap .u32 (o.tg.tdiv 65536)), IntKind.wrap .u8 (IntKind.wrap .u32 (o.tg.tdiv 256)), IntKind.wrap .u8 o.tg])) := Rw.cast hr9 rfl (by simp only [iL, List.map_append, List.map_cons, List.map_nil, List.append_assoc, List.cons_append, List.nil_append, List.append_nil])
          have hzhg5 := hg5.size
          replace hS := Step.transNew hS hg5 (fun i hi hG => by (try simp only at hG); omega)
          replace ho1 := ho1.step hg5 (by (try simp only); omega)
          replace hbase4 := Nat.le_trans hbase4 (hg5).size
          refine VL_pure 20 [1, 3] [(1, .pointer (some ⟨b1, 0, none⟩)), (3, .slice A8 6 c8)] (by kernel_rfl) rfl ?_
          refine VL_end (by kernel_rfl) ?_
          refine VQ_next ?_
          have hs5 := drew_step w19
          have hs5z : w19.heap.size = w19.drew.heap.size := rfl
          refine VC_text [[], [], [1], [0, 1, 2], [], [4], [0, 1, 2, 3, 4, 5], [0, 1, 2, 3, 4, 5, 6]] 6 (fun x y => Step (fun k => b2 ≤ k ∨ w19.heap.size ≤ k) x y) [3] [0, 1, 2, 4, 5, 3] (by kernel_rfl) (by kernel_rfl) (by kernel_rfl) (by kernel_rfl) (fun x => Step.refl _ x) (fun h k => Step.trans h k) Step.weak ?_
          have hzs15 := hS.size
          have hzl23 := ho1.lt
          generalize w19.drew = w20 at hs5 hs5z ⊢
          replace hS := Step.trans hS hs5
          replace ho1 := ho1.no hs5
          replace hbase4 := Nat.le_trans hbase4 (hs5).size
          replace hr9 := hr9.no hs5
          refine VT_pures 5 (kn' := [(5, .slice (some ⟨b1, 20, none⟩) 16 16), (4, .pointer (some ⟨b1, 20, none⟩)), (2, .slice (some ⟨b1, 4, none⟩) 16 16), (1, .pointer (some ⟨b1, 4, none⟩)), (0, .slice A8 6 c8)]) (by kernel_rfl) ?_
          refine VT_chain (by kernel_rfl) ?_
          intro w21 hs6
          have hzhs6 := hs6.size
          replace hS := Step.trans hS hs6
          replace ho1 := ho1.no hs6
          replace hbase4 := Nat.le_trans hbase4 (hs6).size
          replace hr9 := hr9.no hs6
          have hzs16 := hS.size
          have hzl24 := ho1.lt
          have hzk6 := hbase4
          refine VTc_appendS (d := 51) (e := 5) (A := A8) (mm := 6) (c := c8) (A2 := (some ⟨b1, 4, none⟩)) (m2 := 16) (c2 := 16) (bytes := 1) (by kernel_rfl) (by kernel_rfl) (by kernel_rfl) b2 w21.heap.size (iL .u8 ([IntKind.wrap .u8 (IntKind.wrap .i64 (16 + o.k)), 1, IntKind.wrap .u8 (IntKind.wrap .u32 (o.tg.tdiv 16777216)), IntKind.wrap .u8 (IntKind.wrap .u32 (o.tg.tdiv 65536)), IntKind.wrap .u8 (IntKind.wrap .u32 (o.tg.tdiv 256)), IntKind.wrap .u8 o.tg])) (iL .u8 (lp o.p)) hr9 (by rw [iL_length]; exact (by rfl)) (Sl.mono (Sl.cast (Own.slSub ho1 ho1.lt 4 16) (by rfl)) (by first | exact Nat.le_refl _ | omega)) iL_one 22 (by omega) (by simp only [maxLen]; omega) (by omega) (by omega) ?_ ?_
          · intro w1 hs1; exact Step.mono hs1 (by intro i hi; (try simp only at hi ⊢); omega)
          intro A9 c9 w22 hr10 hg6
          replace hr10 : Rw w22 b2 5 A9 22 c9 (iL .u8 (([IntKind.wrap .u8 (IntKind.wrap .i64 (16 + o.k)), 1, IntKind.wrap .u8 (IntKind.wrap .u32 (o.tg.tdiv 16777216)), IntKind.wrap .u8 (IntKind.wrap .u32 (o.tg.tdiv 65536)), IntKind.wrap .u8 (IntKind.wrap .u32 (o.tg.tdiv 256)), IntKind.wrap .u8 o.tg]) ++ (lp o.p))) := Rw.cast hr10 rfl (by simp only [iL, List.map_append, List.map_cons, List.map_nil, List.append_assoc, List.cons_append, List.nil_append, List.append_nil])
          have hzhg6 := hg6.size
          replace hS := Step.transNew hS hg6 (fun i hi hG => by (try simp only at hG); omega)
          replace ho1 := ho1.step hg6 (by (try simp only); omega)
          replace hbase4 := Nat.le_trans hbase4 (hg6).size
          refine VT_end ?_
          intro w23 hs7
          replace hS := Step.trans hS hs7
          replace ho1 := ho1.no hs7
          replace hbase4 := Nat.le_trans hbase4 (hs7).size
          replace hr10 := hr10.no hs7
          refine VL_keep [53, 51] [(53, .slice (some ⟨b1, 20, none⟩) 16 16), (51, .slice A9 22 c9)] (by kernel_rfl) ?_
          have hzs17 := hS.size
          have hzl25 := ho1.lt
          have hzk7 := hbase4
          refine VL_appendS (d := 54) (e := 5) (A := A9) (m := 22) (c := c9) (A2 := (some ⟨b1, 20, none⟩)) (m2 := 16) (c2 := 16) (bytes := 1) (by kernel_rfl) (by kernel_rfl) (by kernel_rfl) b2 w23.heap.size (iL .u8 (([IntKind.wrap .u8 (IntKind.wrap .i64 (16 + o.k)), 1, IntKind.wrap .u8 (IntKind.wrap .u32 (o.tg.tdiv 16777216)), IntKind.wrap .u8 (IntKind.wrap .u32 (o.tg.tdiv 65536)), IntKind.wrap .u8 (IntKind.wrap .u32 (o.tg.tdiv 256)), IntKind.wrap .u8 o.tg]) ++ (lp o.p))) (iL .u8 (lp o.s)) hr10 (by rw [iL_length]; exact (by rfl)) (Sl.mono (Sl.cast (Own.slSub ho1 ho1.lt 20 16) (by rfl)) (by first | exact Nat.le_refl _ | omega)) iL_one 38 (by omega) (by simp only [maxLen]; omega) (by omega) (by omega) ?_
          intro A10 c10 w24 hr11 hg7
          replace hr11 : Rw w24 b2 5 A10 38 c10 (iL .u8 (([IntKind.wrap .u8 (IntKind.wrap .i64 (16 + o.k)), 1, IntKind.wrap .u8 (IntKind.wrap .u32 (o.tg.tdiv 16777216)), IntKind.wrap .u8 (IntKind.wrap .u32 (o.tg.tdiv 65536)), IntKind.wrap .u8 (IntKind.wrap .u32 (o.tg.tdiv 256)), IntKind.wrap .u8 o.tg]) ++ (lp o.p) ++ (lp o.s))) := Rw.cast hr11 rfl (by simp only [iL, List.map_append, List.map_cons, List.map_nil, List.append_assoc, List.cons_append, List.nil_append, List.append_nil])
          have hzhg7 := hg7.size
          replace hS := Step.transNew hS hg7 (fun i hi hG => by (try simp only at hG); omega)
          replace ho1 := ho1.step hg7 (by (try simp only); omega)
          replace hbase4 := Nat.le_trans hbase4 (hg7).size
          refine VL_pure 8 [3] [(3, .slice A10 38 c10)] (by kernel_rfl) rfl ?_
          refine VL_end (by kernel_rfl) ?_
          refine VQ_next ?_
          refine VC_seq ?_
          refine VC_block ?_
          have hnfix : (rheadL o).length + 0 = 38 := (by rw [rhead_8 (by omega)]; simp [rtagB, lp_len])
          refine VC_eqL [(3, .slice A10 ((rheadL o).length + 0) c10)] (by rw [hnfix]) ?_
          replace hr11 := Rw.cast hr11 hnfix.symm rfl
          refine VC_loop (σ := Nat × (Option Addr) × Nat) (fun σs => [(3, .slice σs.2.1 ((rheadL o).length + σs.1) σs.2.2)]) (fun σs w25 => (σs.1 ≤ 46 - (rheadL o).length) ∧ (Step No w w25) ∧ (Own w25 b1 #[.int .i64 o.k, .int .u8 o.d, .bool o.a, .int .u32 o.tg, .int .u8 (o.p 0), .int .u8 (o.p 1), .int .u8 (o.p 2), .int .u8 (o.p 3), .int .u8 (o.p 4), .int .u8 (o.p 5), .int .u8 (o.p 6), .int .u8 (o.p 7), .int .u8 (o.p 8), .int .u8 (o.p 9), .int .u8 (o.p 10), .int .u8 (o.p 11), .int .u8 (o.p 12), .int .u8 (o.p 13), .int .u8 (o.p 14), .int .u8 (o.p 15), .int .u8 (o.s 0), .int .u8 (o.s 1), .int .u8 (o.s 2), .int .u8 (o.s 3), .int .u8 (o.s 4), .int .u8 (o.s 5), .int .u8 (o.s 6), .int .u8 (o.s 7), .int .u8 (o.s 8), .int .u8 (o.s 9), .int .u8 (o.s 10), .int .u8 (o.s 11), .int .u8 (o.s 12), .int .u8 (o.s 13), .int .u8 (o.s 14), .int .u8 (o.s 15)] 25) ∧ (b2 ≤ w25.heap.size) ∧ (Rw w25 b2 5 σs.2.1 ((rheadL o).length + σs.1) σs.2.2 (iL .u8 (rheadL o ++ List.replicate σs.1 106)))) (fun σs w25 => 46 - (rheadL o).length - σs.1) ⟨0, A10, c10⟩ ⟨rfl, trivial⟩ ?_ ?_
          · exact ⟨Nat.zero_le _, hS, ho1, hbase4, (Rw.cast hr11 rfl (by rw [rhead_8 (by omega)]; simp [iL, rtagB, lp_len, *]))⟩
          rintro ⟨i, A11, c11⟩ w25 ⟨hi, hS, ho1, hbase4, hr12⟩
          try dsimp only at hi hS ho1 hbase4 hr12 ⊢
          refine VC_seq ?_
          refine VC_seq ?_
          refine VC_region ?_
          refine VL_pure 3 [3, 57] [(3, .slice A11 ((rheadL o).length + i) c11), (57, .bool (decide ((((rheadL o).length + i : Nat) : Int) < 46)))] (by kernel_rfl) rfl ?_
          refine VL_end (by kernel_rfl) ?_
          refine VQ_next ?_
          refine VC_dec ((((rheadL o).length + i : Nat) : Int) < 46) (by kernel_rfl) (fun h7 => ?_) (fun h7 => ?_)
          · refine VC_skip ?_
            refine VQ_next ?_
            refine VC_block ?_
            refine VC_region ?_
            refine VL_pure 1 [58] [(58, .slice A11 ((rheadL o).length + i) c11)] (by kernel_rfl) rfl ?_
            have hzs18 := hS.size
            have hzl26 := ho1.lt
            have hzk8 := hbase4
            refine VL_bs (d := 59) (e := 5) (c := #[.int .u8 106]) (len := 1) (by kernel_rfl) (by kernel_rfl) ?_
            intro b7 w26 hn7
            replace hS := Step.trans hS (hn7.step No)
            replace ho1 := ho1.no (hn7.step No)
            replace hbase4 := Nat.le_trans hbase4 (hn7.step No).size
            replace hr12 := hr12.no (hn7.step No)
            have ho7 := hn7.own
            have hzhn7 := hn7.size
            have hqhn7 := hn7.eqb
            have hzs19 := hS.size
            have hzl27 := ho1.lt
            have hzk9 := hbase4
            have hzl28 := ho7.lt
            refine VL_appendS (d := 60) (e := 5) (A := A11) (m := ((rheadL o).length + i)) (c := c11) (A2 := (some ⟨b7, 0, none⟩)) (m2 := 1) (c2 := 1) (bytes := 1) (by kernel_rfl) (by kernel_rfl) (by kernel_rfl) b2 w26.heap.size (iL .u8 (rheadL o ++ List.replicate i 106)) (iL .u8 ([106])) hr12 (by rw [iL_length]; exact rfl) (Sl.mono (Own.sl ho7 ho7.lt) (by first | exact Nat.le_refl _ | omega)) iL_one ((rheadL o).length + i + 1) (by omega) (by simp only [maxLen]; omega) (by omega) (by omega) ?_
            intro A12 c12 w27 hr13 hg8
            replace hr13 : Rw w27 b2 5 A12 ((rheadL o).length + i + 1) c12 (iL .u8 (rheadL o ++ List.replicate i 106 ++ ([106]))) := Rw.cast hr13 rfl (by simp only [iL, List.map_append, List.map_cons, List.map_nil, List.append_assoc, List.cons_append, List.nil_append, List.append_nil])
            have hzhg8 := hg8.size
            replace hS := Step.transNew hS hg8 (fun i hi hG => by (try simp only at hG); omega)
            replace ho1 := ho1.step hg8 (by (try simp only); omega)
            replace hbase4 := Nat.le_trans hbase4 (hg8).size
            refine VL_pure 4 [3] [(3, .slice A12 ((rheadL o).length + i + 1) c12)] (by kernel_rfl) rfl ?_
            refine VL_end (by kernel_rfl) ?_
            refine VQ_block_normal ?_
            refine VQ_again ⟨i + 1, A12, c12⟩ ⟨rfl, trivial⟩ ?_ ?_
            · exact ⟨(by omega), hS, ho1, hbase4, (Rw.cast hr13 (by omega) (by rw [List.replicate_succ', List.append_assoc]))⟩
            · (try dsimp only); omega
          · refine VC_exit ?_
            refine VQ_then_exit ?_
            refine VQ_then_exit ?_
            refine VQ_block_hit ?_
            refine VQ_next ?_
            refine VC_seq ?_
            have hi2 : (rheadL o).length + i = 46 := by omega
            obtain rfl : i = 46 - (rheadL o).length := by omega
            have hr12_ := hr12
            refine VC_region ?_
            refine VL_pure 1 [61] [(61, .slice A11 ((rheadL o).length + (46 - (rheadL o).length)) c11)] (by kernel_rfl) rfl ?_
            have hzs20 := hS.size
            have hzl29 := ho1.lt
            have hzk10 := hbase4
            refine VL_bs (d := 62) (e := 5) (c := #[.int .u8 0, .int .u8 0]) (len := 2) (by kernel_rfl) (by kernel_rfl) ?_
            intro b8 w28 hn8
            replace hS := Step.trans hS (hn8.step No)
            replace ho1 := ho1.no (hn8.step No)
            replace hbase4 := Nat.le_trans hbase4 (hn8.step No).size
            replace hr12 := hr12.no (hn8.step No)
            have ho8 := hn8.own
            have hzhn8 := hn8.size
            have hqhn8 := hn8.eqb
            have hzs21 := hS.size
            have hzl30 := ho1.lt
            have hzk11 := hbase4
            have hzl31 := ho8.lt
            refine VL_appendS (d := 63) (e := 5) (A := A11) (m := ((rheadL o).length + (46 - (rheadL o).length))) (c := c11) (A2 := (some ⟨b8, 0, none⟩)) (m2 := 2) (c2 := 2) (bytes := 1) (by kernel_rfl) (by kernel_rfl) (by kernel_rfl) b2 w28.heap.size (iL .u8 (rheadL o ++ List.replicate (46 - (rheadL o).length) 106)) (iL .u8 ([0, 0])) hr12 (by rw [iL_length]; exact rfl) (Sl.mono (Own.sl ho8 ho8.lt) (by first | exact Nat.le_refl _ | omega)) iL_one (((rheadL o).length + (46 - (rheadL o).length)) + 2) (by omega) (by simp only [maxLen]; omega) (by omega) (by omega) ?_
            intro A13 c13 w29 hr14 hg9
            replace hr14 : Rw w29 b2 5 A13 (((rheadL o).length + (46 - (rheadL o).length)) + 2) c13 (iL .u8 (rheadL o ++ List.replicate (46 - (rheadL o).length) 106 ++ ([0, 0]))) := Rw.cast hr14 rfl (by simp only [iL, List.map_append, List.map_cons, List.map_nil, List.append_assoc, List.cons_append, List.nil_append, List.append_nil])
            have hzhg9 := hg9.size
            replace hS := Step.transNew hS hg9 (fun i hi hG => by (try simp only at hG); omega)
            replace ho1 := ho1.step hg9 (by (try simp only); omega)
            replace hbase4 := Nat.le_trans hbase4 (hg9).size
            have hzs22 := hS.size
            have hzl32 := ho1.lt
            refine VL_call (d := 64) (f := 23) (args := #[.slice A13 (((rheadL o).length + (46 - (rheadL o).length)) + 2) c13]) (by kernel_rfl) (by kernel_rfl) (by kernel_rfl) Try.call23 (rseal_any A13 (((rheadL o).length + (46 - (rheadL o).length)) + 2) c13 _ (rheadL o ++ List.replicate (46 - (rheadL o).length) 106 ++ ([0, 0])) _ (Rw.lenI hr14) (Rw.slI hr14) (by first | exact Nat.le_refl _ | omega) (by omega)) ?_
            rintro _ w30 ⟨A15, c15, rfl, hr16, hc3⟩
            replace hS := Step.trans hS hc3
            replace ho1 := ho1.no hc3
            replace hbase4 := Nat.le_trans hbase4 (hc3).size
            replace hr14 := hr14.no hc3
            obtain ⟨base4, hbase6E⟩ : ∃ x, x = w29.heap.size := ⟨_, rfl⟩
            rw [← hbase6E] at hr16
            have hbase6 : base4 ≤ w30.heap.size := by rw [hbase6E]; exact hc3.size
            refine VL_pure 5 [2] [(2, .slice A15 48 c15)] (by kernel_rfl) rfl ?_
            refine VL_end (by kernel_rfl) ?_
            refine VQ_next ?_
            refine VC_ret ?_
            refine VQ_ret1 (.slice A15 48 c15) (.inr rfl) rfl rfl ?_
            exact ⟨_, _, by unfold rpackN; rw [if_pos (by assumption)], Rw.low (Rw.cast hr16 (by unfold rpackN; rw [if_pos (by assumption)]) (by unfold rpackV; rw [if_pos (by assumption)]; simp only [rpreL, List.append_assoc, iL])) (by omega), fun h => by simp_all, hS⟩
        · try simp only [Bool.and_eq_true, Bool.or_eq_true, decide_eq_true_eq, Bool.not_eq_true', decide_eq_false_iff_not, Bool.and_eq_false_iff, Bool.or_eq_false_iff, beq_iff_eq, bne_iff_ne, beq_eq_false_iff_ne, bne_eq_false_iff_eq, Bool.not_eq_eq_eq_not, Bool.not_true, Bool.not_false] at h6
          refine VC_skip ?_
          refine VQ_next ?_
          refine VC_seq ?_
          refine VC_region ?_
          refine VL_pure 3 [1, 29, 30, 31] [(1, .pointer (some ⟨b1, 0, none⟩)), (29, .slice (some ⟨b2, 0, none⟩) 1 1), (30, .int .u8 0), (31, .pointer (some ⟨b1, 3, none⟩))] (by kernel_rfl) rfl ?_
          refine VL_load (d := 32) (t := 22) (a := ⟨b1, 3, none⟩) (v := .int .u32 o.tg) (by kernel_rfl) (by kernel_rfl) (Loads.own1 ho1 (by kernel_rfl) (by rfl)) ?_
          refine VL_pure 7 [1, 29, 30, 34, 35] [(1, .pointer (some ⟨b1, 0, none⟩)), (29, .slice (some ⟨b2, 0, none⟩) 1 1), (30, .int .u8 0), (34, .int .u8 (IntKind.wrap .u8 (IntKind.wrap .u32 (o.tg.tdiv 16777216)))), (35, .pointer (some ⟨b1, 3, none⟩))] (by kernel_rfl) rfl ?_
          refine VL_load (d := 36) (t := 22) (a := ⟨b1, 3, none⟩) (v := .int .u32 o.tg) (by kernel_rfl) (by kernel_rfl) (Loads.own1 ho1 (by kernel_rfl) (by rfl)) ?_
          refine VL_pure 11 [1, 29, 30, 34, 38, 39] [(1, .pointer (some ⟨b1, 0, none⟩)), (29, .slice (some ⟨b2, 0, none⟩) 1 1), (30, .int .u8 0), (34, .int .u8 (IntKind.wrap .u8 (IntKind.wrap .u32 (o.tg.tdiv 16777216)))), (38, .int .u8 (IntKind.wrap .u8 (IntKind.wrap .u32 (o.tg.tdiv 65536)))), (39, .pointer (some ⟨b1, 3, none⟩))] (by kernel_rfl) rfl ?_
          refine VL_load (d := 40) (t := 22) (a := ⟨b1, 3, none⟩) (v := .int .u32 o.tg) (by kernel_rfl) (by kernel_rfl) (Loads.own1 ho1 (by kernel_rfl) (by rfl)) ?_
          refine VL_pure 15 [1, 29, 30, 34, 38, 42, 43] [(1, .pointer (some ⟨b1, 0, none⟩)), (29, .slice (some ⟨b2, 0, none⟩) 1 1), (30, .int .u8 0), (34, .int .u8 (IntKind.wrap .u8 (IntKind.wrap .u32 (o.tg.tdiv 16777216)))), (38, .int .u8 (IntKind.wrap .u8 (IntKind.wrap .u32 (o.tg.tdiv 65536)))), (42, .int .u8 (IntKind.wrap .u8 (IntKind.wrap .u32 (o.tg.tdiv 256)))), (43, .pointer (some ⟨b1, 3, none⟩))] (by kernel_rfl) rfl ?_
          refine VL_load (d := 44) (t := 22) (a := ⟨b1, 3, none⟩) (v := .int .u32 o.tg) (by kernel_rfl) (by kernel_rfl) (Loads.own1 ho1 (by kernel_rfl) (by rfl)) ?_
          refine VL_pure 17 [1, 29, 30, 34, 38, 42, 45] [(1, .pointer (some ⟨b1, 0, none⟩)), (29, .slice (some ⟨b2, 0, none⟩) 1 1), (30, .int .u8 0), (34, .int .u8 (IntKind.wrap .u8 (IntKind.wrap .u32 (o.tg.tdiv 16777216)))), (38, .int .u8 (IntKind.wrap .u8 (IntKind.wrap .u32 (o.tg.tdiv 65536)))), (42, .int .u8 (IntKind.wrap .u8 (IntKind.wrap .u32 (o.tg.tdiv 256)))), (45, .int .u8 (IntKind.wrap .u8 o.tg))] (by kernel_rfl) rfl ?_
          have hzs23 := hS.size
          have hzl33 := ho1.lt
          have hzl34 := ho2.lt
          refine VL_bs (d := 46) (e := 5) (c := #[.int .u8 0, .int .u8 (IntKind.wrap .u8 (IntKind.wrap .u32 (o.tg.tdiv 16777216))), .int .u8 (IntKind.wrap .u8 (IntKind.wrap .u32 (o.tg.tdiv 65536))), .int .u8 (IntKind.wrap .u8 (IntKind.wrap .u32 (o.tg.tdiv 256))), .int .u8 (IntKind.wrap .u8 o.tg)]) (len := 5) (by kernel_rfl) (by kernel_rfl) ?_
          intro b9 w31 hn9
          replace hS := Step.trans hS (hn9.step No)
          replace ho1 := ho1.no (hn9.step No)
          replace ho2 := ho2.no (hn9.step No)
          have ho9 := hn9.own
          have hzhn9 := hn9.size
          have hqhn9 := hn9.eqb
          have hzs24 := hS.size
          have hzl35 := ho1.lt
          have hzl36 := ho2.lt
          have hzl37 := ho9.lt
          have hbase7 := Nat.le_of_lt ho2.lt
          refine VL_appendS (d := 47) (e := 5) (A := (some ⟨b2, 0, none⟩)) (m := 1) (c := 1) (A2 := (some ⟨b9, 0, none⟩)) (m2 := 5) (c2 := 5) (bytes := 1) (by kernel_rfl) (by kernel_rfl) (by kernel_rfl) b2 w31.heap.size (iL .u8 ([IntKind.wrap .u8 (IntKind.wrap .i64 (16 + o.k))])) (iL .u8 ([0, IntKind.wrap .u8 (IntKind.wrap .u32 (o.tg.tdiv 16777216)), IntKind.wrap .u8 (IntKind.wrap .u32 (o.tg.tdiv 65536)), IntKind.wrap .u8 (IntKind.wrap .u32 (o.tg.tdiv 256)), IntKind.wrap .u8 o.tg])) (Rw.of_new ho2 (Nat.le_refl _) (Nat.le_of_ble_eq_true (by kernel_rfl))) (by rw [iL_length]; exact rfl) (Sl.mono (Own.sl ho9 ho9.lt) (by first | exact Nat.le_refl _ | omega)) iL_one 6 (by omega) (by simp only [maxLen]; omega) (by omega) (by omega) ?_
          intro A16 c16 w32 hr17 hg10
          replace hr17 : Rw w32 b2 5 A16 6 c16 (iL .u8 ([IntKind.wrap .u8 (IntKind.wrap .i64 (16 + o.k)), 0, IntKind.wrap .u8 (IntKind.wrap .u32 (o.tg.tdiv 16777216)), IntKind.wrap .u8 (IntKind.wrap .u32 (o.tg.tdiv 65536)), IntKind.wrap .u8 (IntKind.wrap .u32 (o.tg.tdiv 256)), IntKind.wrap .u8 o.tg])) := Rw.cast hr17 rfl (by simp only [iL, List.map_append, List.map_cons, List.map_nil, List.append_assoc, List.cons_append, List.nil_append, List.append_nil])
          have hzhg10 := hg10.size
          replace hS := Step.transNew hS hg10 (fun i hi hG => by (try simp only at hG); omega)
          replace ho1 := ho1.step hg10 (by (try simp only); omega)
          replace hbase7 := Nat.le_trans hbase7 (hg10).size
          refine VL_pure 20 [1, 3] [(1, .pointer (some ⟨b1, 0, none⟩)), (3, .slice A16 6 c16)] (by kernel_rfl) rfl ?_
          refine VL_end (by kernel_rfl) ?_
          refine VQ_next ?_
          have hs8 := drew_step w32
          have hs8z : w32.heap.size = w32.drew.heap.size := rfl
          refine VC_text [[], [], [1], [0, 1, 2], [], [4], [0, 1, 2, 3, 4, 5], [0, 1, 2, 3, 4, 5, 6]] 6 (fun x y => Step (fun k => b2 ≤ k ∨ w32.heap.size ≤ k) x y) [3] [0, 1, 2, 4, 5, 3] (by kernel_rfl) (by kernel_rfl) (by kernel_rfl) (by kernel_rfl) (fun x => Step.refl _ x) (fun h k => Step.trans h k) Step.weak ?_
          have hzs25 := hS.size
          have hzl38 := ho1.lt
          generalize w32.drew = w33 at hs8 hs8z ⊢
          replace hS := Step.trans hS hs8
          replace ho1 := ho1.no hs8
          replace hbase7 := Nat.le_trans hbase7 (hs8).size
          replace hr17 := hr17.no hs8
          refine VT_pures 5 (kn' := [(5, .slice (some ⟨b1, 20, none⟩) 16 16), (4, .pointer (some ⟨b1, 20, none⟩)), (2, .slice (some ⟨b1, 4, none⟩) 16 16), (1, .pointer (some ⟨b1, 4, none⟩)), (0, .slice A16 6 c16)]) (by kernel_rfl) ?_
          refine VT_chain (by kernel_rfl) ?_
          intro w34 hs9
          have hzhs9 := hs9.size
          replace hS := Step.trans hS hs9
          replace ho1 := ho1.no hs9
          replace hbase7 := Nat.le_trans hbase7 (hs9).size
          replace hr17 := hr17.no hs9
          have hzs26 := hS.size
          have hzl39 := ho1.lt
          have hzk12 := hbase7
          refine VTc_appendS (d := 51) (e := 5) (A := A16) (mm := 6) (c := c16) (A2 := (some ⟨b1, 4, none⟩)) (m2 := 16) (c2 := 16) (bytes := 1) (by kernel_rfl) (by kernel_rfl) (by kernel_rfl) b2 w34.heap.size (iL .u8 ([IntKind.wrap .u8 (IntKind.wrap .i64 (16 + o.k)), 0, IntKind.wrap .u8 (IntKind.wrap .u32 (o.tg.tdiv 16777216)), IntKind.wrap .u8 (IntKind.wrap .u32 (o.tg.tdiv 65536)), IntKind.wrap .u8 (IntKind.wrap .u32 (o.tg.tdiv 256)), IntKind.wrap .u8 o.tg])) (iL .u8 (lp o.p)) hr17 (by rw [iL_length]; exact (by rfl)) (Sl.mono (Sl.cast (Own.slSub ho1 ho1.lt 4 16) (by rfl)) (by first | exact Nat.le_refl _ | omega)) iL_one 22 (by omega) (by simp only [maxLen]; omega) (by omega) (by omega) ?_ ?_
          · intro w1 hs1; exact Step.mono hs1 (by intro i hi; (try simp only at hi ⊢); omega)
          intro A17 c17 w35 hr18 hg11
          replace hr18 : Rw w35 b2 5 A17 22 c17 (iL .u8 (([IntKind.wrap .u8 (IntKind.wrap .i64 (16 + o.k)), 0, IntKind.wrap .u8 (IntKind.wrap .u32 (o.tg.tdiv 16777216)), IntKind.wrap .u8 (IntKind.wrap .u32 (o.tg.tdiv 65536)), IntKind.wrap .u8 (IntKind.wrap .u32 (o.tg.tdiv 256)), IntKind.wrap .u8 o.tg]) ++ (lp o.p))) := Rw.cast hr18 rfl (by simp only [iL, List.map_append, List.map_cons, List.map_nil, List.append_assoc, List.cons_append, List.nil_append, List.append_nil])
          have hzhg11 := hg11.size
          replace hS := Step.transNew hS hg11 (fun i hi hG => by (try simp only at hG); omega)
          replace ho1 := ho1.step hg11 (by (try simp only); omega)
          replace hbase7 := Nat.le_trans hbase7 (hg11).size
          refine VT_end ?_
          intro w36 hs10
          replace hS := Step.trans hS hs10
          replace ho1 := ho1.no hs10
          replace hbase7 := Nat.le_trans hbase7 (hs10).size
          replace hr18 := hr18.no hs10
          refine VL_keep [53, 51] [(53, .slice (some ⟨b1, 20, none⟩) 16 16), (51, .slice A17 22 c17)] (by kernel_rfl) ?_
          have hzs27 := hS.size
          have hzl40 := ho1.lt
          have hzk13 := hbase7
          refine VL_appendS (d := 54) (e := 5) (A := A17) (m := 22) (c := c17) (A2 := (some ⟨b1, 20, none⟩)) (m2 := 16) (c2 := 16) (bytes := 1) (by kernel_rfl) (by kernel_rfl) (by kernel_rfl) b2 w36.heap.size (iL .u8 (([IntKind.wrap .u8 (IntKind.wrap .i64 (16 + o.k)), 0, IntKind.wrap .u8 (IntKind.wrap .u32 (o.tg.tdiv 16777216)), IntKind.wrap .u8 (IntKind.wrap .u32 (o.tg.tdiv 65536)), IntKind.wrap .u8 (IntKind.wrap .u32 (o.tg.tdiv 256)), IntKind.wrap .u8 o.tg]) ++ (lp o.p))) (iL .u8 (lp o.s)) hr18 (by rw [iL_length]; exact (by rfl)) (Sl.mono (Sl.cast (Own.slSub ho1 ho1.lt 20 16) (by rfl)) (by first | exact Nat.le_refl _ | omega)) iL_one 38 (by omega) (by simp only [maxLen]; omega) (by omega) (by omega) ?_
          intro A18 c18 w37 hr19 hg12
          replace hr19 : Rw w37 b2 5 A18 38 c18 (iL .u8 (([IntKind.wrap .u8 (IntKind.wrap .i64 (16 + o.k)), 0, IntKind.wrap .u8 (IntKind.wrap .u32 (o.tg.tdiv 16777216)), IntKind.wrap .u8 (IntKind.wrap .u32 (o.tg.tdiv 65536)), IntKind.wrap .u8 (IntKind.wrap .u32 (o.tg.tdiv 256)), IntKind.wrap .u8 o.tg]) ++ (lp o.p) ++ (lp o.s))) := Rw.cast hr19 rfl (by simp only [iL, List.map_append, List.map_cons, List.map_nil, List.append_assoc, List.cons_append, List.nil_append, List.append_nil])
          have hzhg12 := hg12.size
          replace hS := Step.transNew hS hg12 (fun i hi hG => by (try simp only at hG); omega)
          replace ho1 := ho1.step hg12 (by (try simp only); omega)
          replace hbase7 := Nat.le_trans hbase7 (hg12).size
          refine VL_pure 8 [3] [(3, .slice A18 38 c18)] (by kernel_rfl) rfl ?_
          refine VL_end (by kernel_rfl) ?_
          refine VQ_next ?_
          refine VC_seq ?_
          refine VC_block ?_
          have hnfix : (rheadL o).length + 0 = 38 := (by rw [rhead_8 (by omega)]; simp [rtagB, lp_len])
          refine VC_eqL [(3, .slice A18 ((rheadL o).length + 0) c18)] (by rw [hnfix]) ?_
          replace hr19 := Rw.cast hr19 hnfix.symm rfl
          refine VC_loop (σ := Nat × (Option Addr) × Nat) (fun σs => [(3, .slice σs.2.1 ((rheadL o).length + σs.1) σs.2.2)]) (fun σs w38 => (σs.1 ≤ 46 - (rheadL o).length) ∧ (Step No w w38) ∧ (Own w38 b1 #[.int .i64 o.k, .int .u8 o.d, .bool o.a, .int .u32 o.tg, .int .u8 (o.p 0), .int .u8 (o.p 1), .int .u8 (o.p 2), .int .u8 (o.p 3), .int .u8 (o.p 4), .int .u8 (o.p 5), .int .u8 (o.p 6), .int .u8 (o.p 7), .int .u8 (o.p 8), .int .u8 (o.p 9), .int .u8 (o.p 10), .int .u8 (o.p 11), .int .u8 (o.p 12), .int .u8 (o.p 13), .int .u8 (o.p 14), .int .u8 (o.p 15), .int .u8 (o.s 0), .int .u8 (o.s 1), .int .u8 (o.s 2), .int .u8 (o.s 3), .int .u8 (o.s 4), .int .u8 (o.s 5), .int .u8 (o.s 6), .int .u8 (o.s 7), .int .u8 (o.s 8), .int .u8 (o.s 9), .int .u8 (o.s 10), .int .u8 (o.s 11), .int .u8 (o.s 12), .int .u8 (o.s 13), .int .u8 (o.s 14), .int .u8 (o.s 15)] 25) ∧ (b2 ≤ w38.heap.size) ∧ (Rw w38 b2 5 σs.2.1 ((rheadL o).length + σs.1) σs.2.2 (iL .u8 (rheadL o ++ List.replicate σs.1 106)))) (fun σs w38 => 46 - (rheadL o).length - σs.1) ⟨0, A18, c18⟩ ⟨rfl, trivial⟩ ?_ ?_
          · exact ⟨Nat.zero_le _, hS, ho1, hbase7, (Rw.cast hr19 rfl (by rw [rhead_8 (by omega)]; simp [iL, rtagB, lp_len, *]))⟩
          rintro ⟨i, A19, c19⟩ w38 ⟨hi, hS, ho1, hbase7, hr20⟩
          try dsimp only at hi hS ho1 hbase7 hr20 ⊢
          refine VC_seq ?_
          refine VC_seq ?_
          refine VC_region ?_
          refine VL_pure 3 [3, 57] [(3, .slice A19 ((rheadL o).length + i) c19), (57, .bool (decide ((((rheadL o).length + i : Nat) : Int) < 46)))] (by kernel_rfl) rfl ?_
          refine VL_end (by kernel_rfl) ?_
          refine VQ_next ?_
          refine VC_dec ((((rheadL o).length + i : Nat) : Int) < 46) (by kernel_rfl) (fun h8 => ?_) (fun h8 => ?_)
          · refine VC_skip ?_
            refine VQ_next ?_
            refine VC_block ?_
            refine VC_region ?_
            refine VL_pure 1 [58] [(58, .slice A19 ((rheadL o).length + i) c19)] (by kernel_rfl) rfl ?_
            have hzs28 := hS.size
            have hzl41 := ho1.lt
            have hzk14 := hbase7
            refine VL_bs (d := 59) (e := 5) (c := #[.int .u8 106]) (len := 1) (by kernel_rfl) (by kernel_rfl) ?_
            intro b10 w39 hn10
            replace hS := Step.trans hS (hn10.step No)
            replace ho1 := ho1.no (hn10.step No)
            replace hbase7 := Nat.le_trans hbase7 (hn10.step No).size
            replace hr20 := hr20.no (hn10.step No)
            have ho10 := hn10.own
            have hzhn10 := hn10.size
            have hqhn10 := hn10.eqb
            have hzs29 := hS.size
            have hzl42 := ho1.lt
            have hzk15 := hbase7
            have hzl43 := ho10.lt
            refine VL_appendS (d := 60) (e := 5) (A := A19) (m := ((rheadL o).length + i)) (c := c19) (A2 := (some ⟨b10, 0, none⟩)) (m2 := 1) (c2 := 1) (bytes := 1) (by kernel_rfl) (by kernel_rfl) (by kernel_rfl) b2 w39.heap.size (iL .u8 (rheadL o ++ List.replicate i 106)) (iL .u8 ([106])) hr20 (by rw [iL_length]; exact rfl) (Sl.mono (Own.sl ho10 ho10.lt) (by first | exact Nat.le_refl _ | omega)) iL_one ((rheadL o).length + i + 1) (by omega) (by simp only [maxLen]; omega) (by omega) (by omega) ?_
            intro A20 c20 w40 hr21 hg13
            replace hr21 : Rw w40 b2 5 A20 ((rheadL o).length + i + 1) c20 (iL .u8 (rheadL o ++ List.replicate i 106 ++ ([106]))) := Rw.cast hr21 rfl (by simp only [iL, List.map_append, List.map_cons, List.map_nil, List.append_assoc, List.cons_append, List.nil_append, List.append_nil])
            have hzhg13 := hg13.size
            replace hS := Step.transNew hS hg13 (fun i hi hG => by (try simp only at hG); omega)
            replace ho1 := ho1.step hg13 (by (try simp only); omega)
            replace hbase7 := Nat.le_trans hbase7 (hg13).size
            refine VL_pure 4 [3] [(3, .slice A20 ((rheadL o).length + i + 1) c20)] (by kernel_rfl) rfl ?_
            refine VL_end (by kernel_rfl) ?_
            refine VQ_block_normal ?_
            refine VQ_again ⟨i + 1, A20, c20⟩ ⟨rfl, trivial⟩ ?_ ?_
            · exact ⟨(by omega), hS, ho1, hbase7, (Rw.cast hr21 (by omega) (by rw [List.replicate_succ', List.append_assoc]))⟩
            · (try dsimp only); omega
          · refine VC_exit ?_
            refine VQ_then_exit ?_
            refine VQ_then_exit ?_
            refine VQ_block_hit ?_
            refine VQ_next ?_
            refine VC_seq ?_
            have hi2 : (rheadL o).length + i = 46 := by omega
            obtain rfl : i = 46 - (rheadL o).length := by omega
            have hr20_ := hr20
            refine VC_region ?_
            refine VL_pure 1 [61] [(61, .slice A19 ((rheadL o).length + (46 - (rheadL o).length)) c19)] (by kernel_rfl) rfl ?_
            have hzs30 := hS.size
            have hzl44 := ho1.lt
            have hzk16 := hbase7
            refine VL_bs (d := 62) (e := 5) (c := #[.int .u8 0, .int .u8 0]) (len := 2) (by kernel_rfl) (by kernel_rfl) ?_
            intro b11 w41 hn11
            replace hS := Step.trans hS (hn11.step No)
            replace ho1 := ho1.no (hn11.step No)
            replace hbase7 := Nat.le_trans hbase7 (hn11.step No).size
            replace hr20 := hr20.no (hn11.step No)
            have ho11 := hn11.own
            have hzhn11 := hn11.size
            have hqhn11 := hn11.eqb
            have hzs31 := hS.size
            have hzl45 := ho1.lt
            have hzk17 := hbase7
            have hzl46 := ho11.lt
            refine VL_appendS (d := 63) (e := 5) (A := A19) (m := ((rheadL o).length + (46 - (rheadL o).length))) (c := c19) (A2 := (some ⟨b11, 0, none⟩)) (m2 := 2) (c2 := 2) (bytes := 1) (by kernel_rfl) (by kernel_rfl) (by kernel_rfl) b2 w41.heap.size (iL .u8 (rheadL o ++ List.replicate (46 - (rheadL o).length) 106)) (iL .u8 ([0, 0])) hr20 (by rw [iL_length]; exact rfl) (Sl.mono (Own.sl ho11 ho11.lt) (by first | exact Nat.le_refl _ | omega)) iL_one (((rheadL o).length + (46 - (rheadL o).length)) + 2) (by omega) (by simp only [maxLen]; omega) (by omega) (by omega) ?_
            intro A21 c21 w42 hr22 hg14
            replace hr22 : Rw w42 b2 5 A21 (((rheadL o).length + (46 - (rheadL o).length)) + 2) c21 (iL .u8 (rheadL o ++ List.replicate (46 - (rheadL o).length) 106 ++ ([0, 0]))) := Rw.cast hr22 rfl (by simp only [iL, List.map_append, List.map_cons, List.map_nil, List.append_assoc, List.cons_append, List.nil_append, List.append_nil])
            have hzhg14 := hg14.size
            replace hS := Step.transNew hS hg14 (fun i hi hG => by (try simp only at hG); omega)
            replace ho1 := ho1.step hg14 (by (try simp only); omega)
            replace hbase7 := Nat.le_trans hbase7 (hg14).size
            have hzs32 := hS.size
            have hzl47 := ho1.lt
            refine VL_call (d := 64) (f := 23) (args := #[.slice A21 (((rheadL o).length + (46 - (rheadL o).length)) + 2) c21]) (by kernel_rfl) (by kernel_rfl) (by kernel_rfl) Try.call23 (rseal_any A21 (((rheadL o).length + (46 - (rheadL o).length)) + 2) c21 _ (rheadL o ++ List.replicate (46 - (rheadL o).length) 106 ++ ([0, 0])) _ (Rw.lenI hr22) (Rw.slI hr22) (by first | exact Nat.le_refl _ | omega) (by omega)) ?_
            rintro _ w43 ⟨A23, c23, rfl, hr24, hc4⟩
            replace hS := Step.trans hS hc4
            replace ho1 := ho1.no hc4
            replace hbase7 := Nat.le_trans hbase7 (hc4).size
            replace hr22 := hr22.no hc4
            obtain ⟨base6, hbase9E⟩ : ∃ x, x = w42.heap.size := ⟨_, rfl⟩
            rw [← hbase9E] at hr24
            have hbase9 : base6 ≤ w43.heap.size := by rw [hbase9E]; exact hc4.size
            refine VL_pure 5 [2] [(2, .slice A23 48 c23)] (by kernel_rfl) rfl ?_
            refine VL_end (by kernel_rfl) ?_
            refine VQ_next ?_
            refine VC_ret ?_
            refine VQ_ret1 (.slice A23 48 c23) (.inr rfl) rfl rfl ?_
            exact ⟨_, _, by unfold rpackN; rw [if_pos (by assumption)], Rw.low (Rw.cast hr24 (by unfold rpackN; rw [if_pos (by assumption)]) (by unfold rpackV; rw [if_pos (by assumption)]; simp only [rpreL, List.append_assoc, iL])) (by omega), fun h => by simp_all, hS⟩
      · refine VC_skip ?_
        refine VQ_next ?_
        refine VC_seq ?_
        refine VC_block ?_
        have hbase10 := Nat.le_of_lt ho2.lt
        have hr25 := (Rw.of_new ho2 (Nat.le_refl _) (Nat.le_of_ble_eq_true (by kernel_rfl)))
        have hnfix : (rheadL o).length + 0 = 1 := (by rw [rhead_no (by omega) (by omega)]; simp [rtagB, lp_len])
        refine VC_eqL [(1, .pointer (some ⟨b1, 0, none⟩)), (3, .slice (some ⟨b2, 0, none⟩) ((rheadL o).length + 0) 1), (26, .bool (o.k == 8))] (by rw [hnfix]) ?_
        replace hr25 := Rw.cast hr25 hnfix.symm rfl
        refine VC_loop (σ := Nat × (Option Addr) × Nat) (fun σs => [(3, .slice σs.2.1 ((rheadL o).length + σs.1) σs.2.2)]) (fun σs w44 => (σs.1 ≤ 46 - (rheadL o).length) ∧ (Step No w w44) ∧ (Own w44 b1 #[.int .i64 o.k, .int .u8 o.d, .bool o.a, .int .u32 o.tg, .int .u8 (o.p 0), .int .u8 (o.p 1), .int .u8 (o.p 2), .int .u8 (o.p 3), .int .u8 (o.p 4), .int .u8 (o.p 5), .int .u8 (o.p 6), .int .u8 (o.p 7), .int .u8 (o.p 8), .int .u8 (o.p 9), .int .u8 (o.p 10), .int .u8 (o.p 11), .int .u8 (o.p 12), .int .u8 (o.p 13), .int .u8 (o.p 14), .int .u8 (o.p 15), .int .u8 (o.s 0), .int .u8 (o.s 1), .int .u8 (o.s 2), .int .u8 (o.s 3), .int .u8 (o.s 4), .int .u8 (o.s 5), .int .u8 (o.s 6), .int .u8 (o.s 7), .int .u8 (o.s 8), .int .u8 (o.s 9), .int .u8 (o.s 10), .int .u8 (o.s 11), .int .u8 (o.s 12), .int .u8 (o.s 13), .int .u8 (o.s 14), .int .u8 (o.s 15)] 25) ∧ (b2 ≤ w44.heap.size) ∧ (Rw w44 b2 5 σs.2.1 ((rheadL o).length + σs.1) σs.2.2 (iL .u8 (rheadL o ++ List.replicate σs.1 106)))) (fun σs w44 => 46 - (rheadL o).length - σs.1) (⟨0, (some ⟨b2, 0, none⟩), 1⟩) ⟨rfl, trivial⟩ ?_ ?_
        · exact ⟨Nat.zero_le _, hS, ho1, hbase10, (Rw.cast hr25 rfl (by rw [rhead_no (by omega) (by omega)]; simp [iL, rtagB, lp_len, *]))⟩
        rintro ⟨i, A24, c24⟩ w44 ⟨hi, hS, ho1, hbase10, hr26⟩
        try dsimp only at hi hS ho1 hbase10 hr26 ⊢
        refine VC_seq ?_
        refine VC_seq ?_
        refine VC_region ?_
        refine VL_pure 3 [3, 57] [(3, .slice A24 ((rheadL o).length + i) c24), (57, .bool (decide ((((rheadL o).length + i : Nat) : Int) < 46)))] (by kernel_rfl) rfl ?_
        refine VL_end (by kernel_rfl) ?_
        refine VQ_next ?_
        refine VC_dec ((((rheadL o).length + i : Nat) : Int) < 46) (by kernel_rfl) (fun h9 => ?_) (fun h9 => ?_)
        · refine VC_skip ?_
          refine VQ_next ?_
          refine VC_block ?_
          refine VC_region ?_
          refine VL_pure 1 [58] [(58, .slice A24 ((rheadL o).length + i) c24)] (by kernel_rfl) rfl ?_
          have hzs33 := hS.size
          have hzl48 := ho1.lt
          have hzk18 := hbase10
          refine VL_bs (d := 59) (e := 5) (c := #[.int .u8 106]) (len := 1) (by kernel_rfl) (by kernel_rfl) ?_
          intro b12 w45 hn12
          replace hS := Step.trans hS (hn12.step No)
          replace ho1 := ho1.no (hn12.step No)
          replace hbase10 := Nat.le_trans hbase10 (hn12.step No).size
          replace hr26 := hr26.no (hn12.step No)
          have ho12 := hn12.own
          have hzhn12 := hn12.size
          have hqhn12 := hn12.eqb
          have hzs34 := hS.size
          have hzl49 := ho1.lt
          have hzk19 := hbase10
          have hzl50 := ho12.lt
          refine VL_appendS (d := 60) (e := 5) (A := A24) (m := ((rheadL o).length + i)) (c := c24) (A2 := (some ⟨b12, 0, none⟩)) (m2 := 1) (c2 := 1) (bytes := 1) (by kernel_rfl) (by kernel_rfl) (by kernel_rfl) b2 w45.heap.size (iL .u8 (rheadL o ++ List.replicate i 106)) (iL .u8 ([106])) hr26 (by rw [iL_length]; exact rfl) (Sl.mono (Own.sl ho12 ho12.lt) (by first | exact Nat.le_refl _ | omega)) iL_one ((rheadL o).length + i + 1) (by omega) (by simp only [maxLen]; omega) (by omega) (by omega) ?_
          intro A25 c25 w46 hr27 hg15
          replace hr27 : Rw w46 b2 5 A25 ((rheadL o).length + i + 1) c25 (iL .u8 (rheadL o ++ List.replicate i 106 ++ ([106]))) := Rw.cast hr27 rfl (by simp only [iL, List.map_append, List.map_cons, List.map_nil, List.append_assoc, List.cons_append, List.nil_append, List.append_nil])
          have hzhg15 := hg15.size
          replace hS := Step.transNew hS hg15 (fun i hi hG => by (try simp only at hG); omega)
          replace ho1 := ho1.step hg15 (by (try simp only); omega)
          replace hbase10 := Nat.le_trans hbase10 (hg15).size
          refine VL_pure 4 [3] [(3, .slice A25 ((rheadL o).length + i + 1) c25)] (by kernel_rfl) rfl ?_
          refine VL_end (by kernel_rfl) ?_
          refine VQ_block_normal ?_
          refine VQ_again ⟨i + 1, A25, c25⟩ ⟨rfl, trivial⟩ ?_ ?_
          · exact ⟨(by omega), hS, ho1, hbase10, (Rw.cast hr27 (by omega) (by rw [List.replicate_succ', List.append_assoc]))⟩
          · (try dsimp only); omega
        · refine VC_exit ?_
          refine VQ_then_exit ?_
          refine VQ_then_exit ?_
          refine VQ_block_hit ?_
          refine VQ_next ?_
          refine VC_seq ?_
          have hi2 : (rheadL o).length + i = 46 := by omega
          obtain rfl : i = 46 - (rheadL o).length := by omega
          have hr26_ := hr26
          refine VC_region ?_
          refine VL_pure 1 [61] [(61, .slice A24 ((rheadL o).length + (46 - (rheadL o).length)) c24)] (by kernel_rfl) rfl ?_
          have hzs35 := hS.size
          have hzl51 := ho1.lt
          have hzk20 := hbase10
          refine VL_bs (d := 62) (e := 5) (c := #[.int .u8 0, .int .u8 0]) (len := 2) (by kernel_rfl) (by kernel_rfl) ?_
          intro b13 w47 hn13
          replace hS := Step.trans hS (hn13.step No)
          replace ho1 := ho1.no (hn13.step No)
          replace hbase10 := Nat.le_trans hbase10 (hn13.step No).size
          replace hr26 := hr26.no (hn13.step No)
          have ho13 := hn13.own
          have hzhn13 := hn13.size
          have hqhn13 := hn13.eqb
          have hzs36 := hS.size
          have hzl52 := ho1.lt
          have hzk21 := hbase10
          have hzl53 := ho13.lt
          refine VL_appendS (d := 63) (e := 5) (A := A24) (m := ((rheadL o).length + (46 - (rheadL o).length))) (c := c24) (A2 := (some ⟨b13, 0, none⟩)) (m2 := 2) (c2 := 2) (bytes := 1) (by kernel_rfl) (by kernel_rfl) (by kernel_rfl) b2 w47.heap.size (iL .u8 (rheadL o ++ List.replicate (46 - (rheadL o).length) 106)) (iL .u8 ([0, 0])) hr26 (by rw [iL_length]; exact rfl) (Sl.mono (Own.sl ho13 ho13.lt) (by first | exact Nat.le_refl _ | omega)) iL_one (((rheadL o).length + (46 - (rheadL o).length)) + 2) (by omega) (by simp only [maxLen]; omega) (by omega) (by omega) ?_
          intro A26 c26 w48 hr28 hg16
          replace hr28 : Rw w48 b2 5 A26 (((rheadL o).length + (46 - (rheadL o).length)) + 2) c26 (iL .u8 (rheadL o ++ List.replicate (46 - (rheadL o).length) 106 ++ ([0, 0]))) := Rw.cast hr28 rfl (by simp only [iL, List.map_append, List.map_cons, List.map_nil, List.append_assoc, List.cons_append, List.nil_append, List.append_nil])
          have hzhg16 := hg16.size
          replace hS := Step.transNew hS hg16 (fun i hi hG => by (try simp only at hG); omega)
          replace ho1 := ho1.step hg16 (by (try simp only); omega)
          replace hbase10 := Nat.le_trans hbase10 (hg16).size
          have hzs37 := hS.size
          have hzl54 := ho1.lt
          refine VL_call (d := 64) (f := 23) (args := #[.slice A26 (((rheadL o).length + (46 - (rheadL o).length)) + 2) c26]) (by kernel_rfl) (by kernel_rfl) (by kernel_rfl) Try.call23 (rseal_any A26 (((rheadL o).length + (46 - (rheadL o).length)) + 2) c26 _ (rheadL o ++ List.replicate (46 - (rheadL o).length) 106 ++ ([0, 0])) _ (Rw.lenI hr28) (Rw.slI hr28) (by first | exact Nat.le_refl _ | omega) (by omega)) ?_
          rintro _ w49 ⟨A28, c28, rfl, hr30, hc5⟩
          replace hS := Step.trans hS hc5
          replace ho1 := ho1.no hc5
          replace hbase10 := Nat.le_trans hbase10 (hc5).size
          replace hr28 := hr28.no hc5
          obtain ⟨base8, hbase12E⟩ : ∃ x, x = w48.heap.size := ⟨_, rfl⟩
          rw [← hbase12E] at hr30
          have hbase12 : base8 ≤ w49.heap.size := by rw [hbase12E]; exact hc5.size
          refine VL_pure 5 [2] [(2, .slice A28 48 c28)] (by kernel_rfl) rfl ?_
          refine VL_end (by kernel_rfl) ?_
          refine VQ_next ?_
          refine VC_ret ?_
          refine VQ_ret1 (.slice A28 48 c28) (.inr rfl) rfl rfl ?_
          exact ⟨_, _, by unfold rpackN; rw [if_pos (by assumption)], Rw.low (Rw.cast hr30 (by unfold rpackN; rw [if_pos (by assumption)]) (by unfold rpackV; rw [if_pos (by assumption)]; simp only [rpreL, List.append_assoc, iL])) (by omega), fun h => by simp_all, hS⟩

theorem rpack_any (o : Om) (w : World) : CV Try.prog 11 #[.agg (omL o).toArray] w (fun x w1 => ∃ A' c', x = .slice A' (rpackN o) c' ∧ Rw w1 w.heap.size 5 A' (rpackN o) c' (iL .u8 (rpackV o)) ∧ Step No w w1) :=
  CV.mono (rpack0_any o w) fun x w1 ⟨A, c, h1, h2, _, h4⟩ => ⟨A, c, h1, h2, h4⟩
theorem rpack_yes (o : Om) (w : World) (hr : rightO o = true) : CV Try.prog 11 #[.agg (omL o).toArray] w (fun x w1 => ∃ g c', x = .slice (some ⟨g, 0, none⟩) 48 c' ∧ w.heap.size ≤ g ∧ Rw w1 w.heap.size 5 (some ⟨g, 0, none⟩) 48 c' (iL .u8 (rpackV o)) ∧ Step No w w1) := by
  refine CV.mono (rpack0_any o w) ?_
  rintro x w1 ⟨A, c, rfl, h2, _, h4⟩
  have e : rpackN o = 48 := by unfold rpackN; rw [if_pos hr]
  rw [e] at h2 ⊢
  obtain ⟨g, cur, rfl, hg, -⟩ := h2.open (by omega)
  exact ⟨g, c, rfl, hg, h2, h4⟩
theorem rpack_no (o : Om) (w : World) (hr : rightO o = false) : CV Try.prog 11 #[.agg (omL o).toArray] w (fun x w1 => x = .slice none 0 0 ∧ Step No w w1) := by
  refine CV.mono (rpack0_any o w) ?_
  rintro x w1 ⟨A, c, rfl, h2, h3, h4⟩
  obtain ⟨rfl, rfl⟩ := h3 hr
  have e : rpackN o = 0 := by unfold rpackN; rw [if_neg (by rw [hr]; decide)]
  rw [e]
  exact ⟨rfl, h4⟩
end Go.Proofs.Yteipakmfiiccpaa
