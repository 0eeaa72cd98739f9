/- Layer 14: OamOnce. -/
import Derived.Test.YteipakmfiiccpaaProg
import Derived.Test.YteipakmfiiccpaaOm8
import Derived.Test.YteipakmfiiccpaaOm13
import Derived.Test.YteipakmfiiccpaaAl3
set_option linter.unusedVariables false
set_option linter.unusedSimpArgs false
namespace Go.Proofs.Yteipakmfiiccpaa
open Go.Vc Go.RowKit

set_option maxRecDepth 100000 in
set_option maxHeartbeats 4000000 in
theorem once_yes (o : Om) (here there : Nat → Int) (w : World) (hoA : OmOk o) (hh : inByte here) (hr : replyB o here = true) :
    CV Try.prog 8 #[.agg #[.int .i64 o.k, .int .u8 o.d, .bool o.a, .int .u32 o.tg, .int .u8 (o.p 0), .int .u8 (o.p 1), .int .u8 (o.p 2), .int .u8 (o.p 3), .int .u8 (o.p 4), .int .u8 (o.p 5), .int .u8 (o.p 6), .int .u8 (o.p 7), .int .u8 (o.p 8), .int .u8 (o.p 9), .int .u8 (o.p 10), .int .u8 (o.p 11), .int .u8 (o.p 12), .int .u8 (o.p 13), .int .u8 (o.p 14), .int .u8 (o.p 15), .int .u8 (o.s 0), .int .u8 (o.s 1), .int .u8 (o.s 2), .int .u8 (o.s 3), .int .u8 (o.s 4), .int .u8 (o.s 5), .int .u8 (o.s 6), .int .u8 (o.s 7), .int .u8 (o.s 8), .int .u8 (o.s 9), .int .u8 (o.s 10), .int .u8 (o.s 11), .int .u8 (o.s 12), .int .u8 (o.s 13), .int .u8 (o.s 14), .int .u8 (o.s 15)], .agg #[.int .u8 (here 0), .int .u8 (here 1), .int .u8 (here 2), .int .u8 (here 3), .int .u8 (here 4), .int .u8 (here 5), .int .u8 (here 6), .int .u8 (here 7), .int .u8 (here 8), .int .u8 (here 9), .int .u8 (here 10), .int .u8 (here 11), .int .u8 (here 12), .int .u8 (here 13), .int .u8 (here 14), .int .u8 (here 15)], .agg #[.int .u8 (there 0), .int .u8 (there 1), .int .u8 (there 2), .int .u8 (there 3), .int .u8 (there 4), .int .u8 (there 5), .int .u8 (there 6), .int .u8 (there 7), .int .u8 (there 8), .int .u8 (there 9), .int .u8 (there 10), .int .u8 (there 11), .int .u8 (there 12), .int .u8 (there 13), .int .u8 (there 14), .int .u8 (there 15)]] w (fun x w1 => x = .bool true ∧ Step No w w1) := by
  have hS : Step No w w := Step.refl _ _
  refine CV_enter Try.f8 _ 80 [(0, .agg #[.int .i64 o.k, .int .u8 o.d, .bool o.a, .int .u32 o.tg, .int .u8 (o.p 0), .int .u8 (o.p 1), .int .u8 (o.p 2), .int .u8 (o.p 3), .int .u8 (o.p 4), .int .u8 (o.p 5), .int .u8 (o.p 6), .int .u8 (o.p 7), .int .u8 (o.p 8), .int .u8 (o.p 9), .int .u8 (o.p 10), .int .u8 (o.p 11), .int .u8 (o.p 12), .int .u8 (o.p 13), .int .u8 (o.p 14), .int .u8 (o.p 15), .int .u8 (o.s 0), .int .u8 (o.s 1), .int .u8 (o.s 2), .int .u8 (o.s 3), .int .u8 (o.s 4), .int .u8 (o.s 5), .int .u8 (o.s 6), .int .u8 (o.s 7), .int .u8 (o.s 8), .int .u8 (o.s 9), .int .u8 (o.s 10), .int .u8 (o.s 11), .int .u8 (o.s 12), .int .u8 (o.s 13), .int .u8 (o.s 14), .int .u8 (o.s 15)]), (1, .agg #[.int .u8 (here 0), .int .u8 (here 1), .int .u8 (here 2), .int .u8 (here 3), .int .u8 (here 4), .int .u8 (here 5), .int .u8 (here 6), .int .u8 (here 7), .int .u8 (here 8), .int .u8 (here 9), .int .u8 (here 10), .int .u8 (here 11), .int .u8 (here 12), .int .u8 (here 13), .int .u8 (here 14), .int .u8 (here 15)]), (2, .agg #[.int .u8 (there 0), .int .u8 (there 1), .int .u8 (there 2), .int .u8 (there 3), .int .u8 (there 4), .int .u8 (there 5), .int .u8 (there 6), .int .u8 (there 7), .int .u8 (there 8), .int .u8 (there 9), .int .u8 (there 10), .int .u8 (there 11), .int .u8 (there 12), .int .u8 (there 13), .int .u8 (there 14), .int .u8 (there 15)])] Try.func8 rfl rfl (by kernel_rfl) rfl ?_
  refine VC_seq ?_
  refine VC_region ?_
  have hzs1 := hS.size
  refine VL_box (d := 3) (t := 25) (c := #[.int .i64 o.k, .int .u8 o.d, .bool o.a, .int .u32 o.tg, .int .u8 (o.p 0), .int .u8 (o.p 1), .int .u8 (o.p 2), .int .u8 (o.p 3), .int .u8 (o.p 4), .int .u8 (o.p 5), .int .u8 (o.p 6), .int .u8 (o.p 7), .int .u8 (o.p 8), .int .u8 (o.p 9), .int .u8 (o.p 10), .int .u8 (o.p 11), .int .u8 (o.p 12), .int .u8 (o.p 13), .int .u8 (o.p 14), .int .u8 (o.p 15), .int .u8 (o.s 0), .int .u8 (o.s 1), .int .u8 (o.s 2), .int .u8 (o.s 3), .int .u8 (o.s 4), .int .u8 (o.s 5), .int .u8 (o.s 6), .int .u8 (o.s 7), .int .u8 (o.s 8), .int .u8 (o.s 9), .int .u8 (o.s 10), .int .u8 (o.s 11), .int .u8 (o.s 12), .int .u8 (o.s 13), .int .u8 (o.s 14), .int .u8 (o.s 15)]) (by kernel_rfl) (by kernel_rfl) ?_
  intro b1 w1 hn1
  replace hS := Step.trans hS (hn1.step No)
  have ho1 := hn1.own
  have hzhn1 := hn1.size
  have hqhn1 := hn1.eqb
  have hzs2 := hS.size
  have hzl1 := ho1.lt
  refine VL_box (d := 4) (t := 23) (c := #[.int .u8 (here 0), .int .u8 (here 1), .int .u8 (here 2), .int .u8 (here 3), .int .u8 (here 4), .int .u8 (here 5), .int .u8 (here 6), .int .u8 (here 7), .int .u8 (here 8), .int .u8 (here 9), .int .u8 (here 10), .int .u8 (here 11), .int .u8 (here 12), .int .u8 (here 13), .int .u8 (here 14), .int .u8 (here 15)]) (by kernel_rfl) (by kernel_rfl) ?_
  intro b2 w2 hn2
  replace hS := Step.trans hS (hn2.step No)
  replace ho1 := ho1.no (hn2.step No)
  have ho2 := hn2.own
  have hzhn2 := hn2.size
  have hqhn2 := hn2.eqb
  have hzs3 := hS.size
  have hzl2 := ho1.lt
  have hzl3 := ho2.lt
  refine VL_box (d := 5) (t := 23) (c := #[.int .u8 (there 0), .int .u8 (there 1), .int .u8 (there 2), .int .u8 (there 3), .int .u8 (there 4), .int .u8 (there 5), .int .u8 (there 6), .int .u8 (there 7), .int .u8 (there 8), .int .u8 (there 9), .int .u8 (there 10), .int .u8 (there 11), .int .u8 (there 12), .int .u8 (there 13), .int .u8 (there 14), .int .u8 (there 15)]) (by kernel_rfl) (by kernel_rfl) ?_
  intro b3 w3 hn3
  replace hS := Step.trans hS (hn3.step No)
  replace ho1 := ho1.no (hn3.step No)
  replace ho2 := ho2.no (hn3.step No)
  have ho3 := hn3.own
  have hzhn3 := hn3.size
  have hqhn3 := hn3.eqb
  refine VL_pure 4 [3, 4, 5] [(3, .pointer (some ⟨b1, 0, none⟩)), (4, .pointer (some ⟨b2, 0, none⟩)), (5, .pointer (some ⟨b3, 0, none⟩))] (by kernel_rfl) rfl ?_
  refine VL_end (by kernel_rfl) ?_
  refine VQ_next ?_
  refine VC_seq ?_
  refine VC_seq ?_
  refine VC_region ?_
  have hzs4 := hS.size
  have hzl4 := ho1.lt
  have hzl5 := ho2.lt
  have hzl6 := ho3.lt
  refine VL_call (d := 12) (f := 9) (args := #[]) (by kernel_rfl) (by kernel_rfl) (by kernel_rfl) Try.call9 (awake_any _) ?_
  rintro _ w4 ⟨rfl, hc1⟩
  replace hS := Step.trans hS hc1
  replace ho1 := ho1.no hc1
  replace ho2 := ho2.no hc1
  replace ho3 := ho3.no hc1
  refine VL_pure 2 [3, 4, 5, 13] [(3, .pointer (some ⟨b1, 0, none⟩)), (4, .pointer (some ⟨b2, 0, none⟩)), (5, .pointer (some ⟨b3, 0, none⟩)), (13, .bool false)] (by kernel_rfl) rfl ?_
  refine VL_end (by kernel_rfl) ?_
  refine VQ_next ?_
  refine VC_false (by kernel_rfl) ?_
  refine VC_skip ?_
  refine VQ_next ?_
  refine VC_seq ?_
  refine VC_region ?_
  refine VL_load (d := 14) (t := 25) (a := ⟨b1, 0, none⟩) (v := .agg #[.int .i64 o.k, .int .u8 o.d, .bool o.a, .int .u32 o.tg, .int .u8 (o.p 0), .int .u8 (o.p 1), .int .u8 (o.p 2), .int .u8 (o.p 3), .int .u8 (o.p 4), .int .u8 (o.p 5), .int .u8 (o.p 6), .int .u8 (o.p 7), .int .u8 (o.p 8), .int .u8 (o.p 9), .int .u8 (o.p 10), .int .u8 (o.p 11), .int .u8 (o.p 12), .int .u8 (o.p 13), .int .u8 (o.p 14), .int .u8 (o.p 15), .int .u8 (o.s 0), .int .u8 (o.s 1), .int .u8 (o.s 2), .int .u8 (o.s 3), .int .u8 (o.s 4), .int .u8 (o.s 5), .int .u8 (o.s 6), .int .u8 (o.s 7), .int .u8 (o.s 8), .int .u8 (o.s 9), .int .u8 (o.s 10), .int .u8 (o.s 11), .int .u8 (o.s 12), .int .u8 (o.s 13), .int .u8 (o.s 14), .int .u8 (o.s 15)]) (by kernel_rfl) (by kernel_rfl) (Loads.ownL ho1 (n := 36) (by kernel_rfl) (by kernel_rfl) (by kernel_rfl)) ?_
  have hzs5 := hS.size
  have hzl7 := ho1.lt
  have hzl8 := ho2.lt
  have hzl9 := ho3.lt
  refine VL_box (d := 7) (t := 31) (c := #[.int .i64 0, .int .u8 0, .bool false, .int .u32 0, .int .u8 0, .int .u8 0, .int .u8 0, .int .u8 0, .int .u8 0, .int .u8 0, .int .u8 0, .int .u8 0, .int .u8 0, .int .u8 0, .int .u8 0, .int .u8 0, .int .u8 0, .int .u8 0, .int .u8 0, .int .u8 0, .int .u8 0, .int .u8 0, .int .u8 0, .int .u8 0, .int .u8 0, .int .u8 0, .int .u8 0, .int .u8 0, .int .u8 0, .int .u8 0, .int .u8 0, .int .u8 0, .int .u8 0, .int .u8 0, .int .u8 0, .int .u8 0]) (by kernel_rfl) (by kernel_rfl) ?_
  intro b4 w5 hn4
  replace hS := Step.trans hS (hn4.step No)
  replace ho1 := ho1.no (hn4.step No)
  replace ho2 := ho2.no (hn4.step No)
  replace ho3 := ho3.no (hn4.step No)
  have ho4 := hn4.own
  have hzhn4 := hn4.size
  have hqhn4 := hn4.eqb
  refine VL_store (b := b4) (o := 0) (vs := [.int .i64 o.k, .int .u8 o.d, .bool o.a, .int .u32 o.tg, .int .u8 (o.p 0), .int .u8 (o.p 1), .int .u8 (o.p 2), .int .u8 (o.p 3), .int .u8 (o.p 4), .int .u8 (o.p 5), .int .u8 (o.p 6), .int .u8 (o.p 7), .int .u8 (o.p 8), .int .u8 (o.p 9), .int .u8 (o.p 10), .int .u8 (o.p 11), .int .u8 (o.p 12), .int .u8 (o.p 13), .int .u8 (o.p 14), .int .u8 (o.p 15), .int .u8 (o.s 0), .int .u8 (o.s 1), .int .u8 (o.s 2), .int .u8 (o.s 3), .int .u8 (o.s 4), .int .u8 (o.s 5), .int .u8 (o.s 6), .int .u8 (o.s 7), .int .u8 (o.s 8), .int .u8 (o.s 9), .int .u8 (o.s 10), .int .u8 (o.s 11), .int .u8 (o.s 12), .int .u8 (o.s 13), .int .u8 (o.s 14), .int .u8 (o.s 15)]) (by kernel_rfl) (by kernel_rfl) ho4 (Nat.le_of_ble_eq_true (by kernel_rfl)) ?_
  intro w6 hw1
  replace hS := Step.transNew hS hw1.step (fun _ _ _ => by omega)
  replace ho1 := ho1.step hw1.step (show ¬ b1 = b4 by omega)
  replace ho2 := ho2.step hw1.step (show ¬ b2 = b4 by omega)
  replace ho3 := ho3.step hw1.step (show ¬ b3 = b4 by omega)
  have ho5 : Own w6 b4 #[.int .i64 o.k, .int .u8 o.d, .bool o.a, .int .u32 o.tg, .int .u8 (o.p 0), .int .u8 (o.p 1), .int .u8 (o.p 2), .int .u8 (o.p 3), .int .u8 (o.p 4), .int .u8 (o.p 5), .int .u8 (o.p 6), .int .u8 (o.p 7), .int .u8 (o.p 8), .int .u8 (o.p 9), .int .u8 (o.p 10), .int .u8 (o.p 11), .int .u8 (o.p 12), .int .u8 (o.p 13), .int .u8 (o.p 14), .int .u8 (o.p 15), .int .u8 (o.s 0), .int .u8 (o.s 1), .int .u8 (o.s 2), .int .u8 (o.s 3), .int .u8 (o.s 4), .int .u8 (o.s 5), .int .u8 (o.s 6), .int .u8 (o.s 7), .int .u8 (o.s 8), .int .u8 (o.s 9), .int .u8 (o.s 10), .int .u8 (o.s 11), .int .u8 (o.s 12), .int .u8 (o.s 13), .int .u8 (o.s 14), .int .u8 (o.s 15)] 31 := Own.cast hw1.own (by kernel_rfl)
  have hzhw1 := hw1.same
  refine VL_end (by kernel_rfl) ?_
  refine VQ_next ?_
  refine VC_seq ?_
  refine VC_region ?_
  refine VL_load (d := 16) (t := 31) (a := ⟨b4, 0, none⟩) (v := .agg #[.int .i64 o.k, .int .u8 o.d, .bool o.a, .int .u32 o.tg, .int .u8 (o.p 0), .int .u8 (o.p 1), .int .u8 (o.p 2), .int .u8 (o.p 3), .int .u8 (o.p 4), .int .u8 (o.p 5), .int .u8 (o.p 6), .int .u8 (o.p 7), .int .u8 (o.p 8), .int .u8 (o.p 9), .int .u8 (o.p 10), .int .u8 (o.p 11), .int .u8 (o.p 12), .int .u8 (o.p 13), .int .u8 (o.p 14), .int .u8 (o.p 15), .int .u8 (o.s 0), .int .u8 (o.s 1), .int .u8 (o.s 2), .int .u8 (o.s 3), .int .u8 (o.s 4), .int .u8 (o.s 5), .int .u8 (o.s 6), .int .u8 (o.s 7), .int .u8 (o.s 8), .int .u8 (o.s 9), .int .u8 (o.s 10), .int .u8 (o.s 11), .int .u8 (o.s 12), .int .u8 (o.s 13), .int .u8 (o.s 14), .int .u8 (o.s 15)]) (by kernel_rfl) (by kernel_rfl) (Loads.ownL ho5 (n := 36) (by kernel_rfl) (by kernel_rfl) (by kernel_rfl)) ?_
  refine VL_load (d := 17) (t := 23) (a := ⟨b2, 0, none⟩) (v := .agg #[.int .u8 (here 0), .int .u8 (here 1), .int .u8 (here 2), .int .u8 (here 3), .int .u8 (here 4), .int .u8 (here 5), .int .u8 (here 6), .int .u8 (here 7), .int .u8 (here 8), .int .u8 (here 9), .int .u8 (here 10), .int .u8 (here 11), .int .u8 (here 12), .int .u8 (here 13), .int .u8 (here 14), .int .u8 (here 15)]) (by kernel_rfl) (by kernel_rfl) (Loads.ownL ho2 (n := 16) (by kernel_rfl) (by kernel_rfl) (by kernel_rfl)) ?_
  have hzs6 := hS.size
  have hzl10 := ho1.lt
  have hzl11 := ho2.lt
  have hzl12 := ho3.lt
  have hzl13 := ho5.lt
  refine VL_call (d := 18) (f := 19) (by kernel_rfl) (by kernel_rfl) (by kernel_rfl) Try.call19 (CV.val (v' := .tuple #[.agg (omL (⟨o.k, o.d, false, o.tg, here, o.s⟩ : Om)).toArray, .bool true]) (reply_any o here _ hoA.p) (by rw [replyV_yes hr, hr])) ?_
  rintro _ w7 ⟨rfl, hc2⟩
  replace hS := Step.trans hS hc2
  replace ho1 := ho1.no hc2
  replace ho2 := ho2.no hc2
  replace ho3 := ho3.no hc2
  replace ho5 := ho5.no hc2
  refine VL_pure 6 [4, 5, 7, 19, 20] [(4, .pointer (some ⟨b2, 0, none⟩)), (5, .pointer (some ⟨b3, 0, none⟩)), (7, .pointer (some ⟨b4, 0, none⟩)), (19, .agg #[.int .i64 o.k, .int .u8 o.d, .bool false, .int .u32 o.tg, .int .u8 (here 0), .int .u8 (here 1), .int .u8 (here 2), .int .u8 (here 3), .int .u8 (here 4), .int .u8 (here 5), .int .u8 (here 6), .int .u8 (here 7), .int .u8 (here 8), .int .u8 (here 9), .int .u8 (here 10), .int .u8 (here 11), .int .u8 (here 12), .int .u8 (here 13), .int .u8 (here 14), .int .u8 (here 15), .int .u8 (o.s 0), .int .u8 (o.s 1), .int .u8 (o.s 2), .int .u8 (o.s 3), .int .u8 (o.s 4), .int .u8 (o.s 5), .int .u8 (o.s 6), .int .u8 (o.s 7), .int .u8 (o.s 8), .int .u8 (o.s 9), .int .u8 (o.s 10), .int .u8 (o.s 11), .int .u8 (o.s 12), .int .u8 (o.s 13), .int .u8 (o.s 14), .int .u8 (o.s 15)]), (20, .bool true)] (by kernel_rfl) rfl ?_
  have hzs7 := hS.size
  have hzl14 := ho1.lt
  have hzl15 := ho2.lt
  have hzl16 := ho3.lt
  have hzl17 := ho5.lt
  refine VL_box (d := 8) (t := 31) (c := #[.int .i64 0, .int .u8 0, .bool false, .int .u32 0, .int .u8 0, .int .u8 0, .int .u8 0, .int .u8 0, .int .u8 0, .int .u8 0, .int .u8 0, .int .u8 0, .int .u8 0, .int .u8 0, .int .u8 0, .int .u8 0, .int .u8 0, .int .u8 0, .int .u8 0, .int .u8 0, .int .u8 0, .int .u8 0, .int .u8 0, .int .u8 0, .int .u8 0, .int .u8 0, .int .u8 0, .int .u8 0, .int .u8 0, .int .u8 0, .int .u8 0, .int .u8 0, .int .u8 0, .int .u8 0, .int .u8 0, .int .u8 0]) (by kernel_rfl) (by kernel_rfl) ?_
  intro b5 w8 hn5
  replace hS := Step.trans hS (hn5.step No)
  replace ho1 := ho1.no (hn5.step No)
  replace ho2 := ho2.no (hn5.step No)
  replace ho3 := ho3.no (hn5.step No)
  replace ho5 := ho5.no (hn5.step No)
  have ho6 := hn5.own
  have hzhn5 := hn5.size
  have hqhn5 := hn5.eqb
  refine VL_store (b := b5) (o := 0) (vs := [.int .i64 o.k, .int .u8 o.d, .bool false, .int .u32 o.tg, .int .u8 (here 0), .int .u8 (here 1), .int .u8 (here 2), .int .u8 (here 3), .int .u8 (here 4), .int .u8 (here 5), .int .u8 (here 6), .int .u8 (here 7), .int .u8 (here 8), .int .u8 (here 9), .int .u8 (here 10), .int .u8 (here 11), .int .u8 (here 12), .int .u8 (here 13), .int .u8 (here 14), .int .u8 (here 15), .int .u8 (o.s 0), .int .u8 (o.s 1), .int .u8 (o.s 2), .int .u8 (o.s 3), .int .u8 (o.s 4), .int .u8 (o.s 5), .int .u8 (o.s 6), .int .u8 (o.s 7), .int .u8 (o.s 8), .int .u8 (o.s 9), .int .u8 (o.s 10), .int .u8 (o.s 11), .int .u8 (o.s 12), .int .u8 (o.s 13), .int .u8 (o.s 14), .int .u8 (o.s 15)]) (by kernel_rfl) (by kernel_rfl) ho6 (Nat.le_of_ble_eq_true (by kernel_rfl)) ?_
  intro w9 hw2
  replace hS := Step.transNew hS hw2.step (fun _ _ _ => by omega)
  replace ho1 := ho1.step hw2.step (show ¬ b1 = b5 by omega)
  replace ho2 := ho2.step hw2.step (show ¬ b2 = b5 by omega)
  replace ho3 := ho3.step hw2.step (show ¬ b3 = b5 by omega)
  replace ho5 := ho5.step hw2.step (show ¬ b4 = b5 by omega)
  have ho7 : Own w9 b5 #[.int .i64 o.k, .int .u8 o.d, .bool false, .int .u32 o.tg, .int .u8 (here 0), .int .u8 (here 1), .int .u8 (here 2), .int .u8 (here 3), .int .u8 (here 4), .int .u8 (here 5), .int .u8 (here 6), .int .u8 (here 7), .int .u8 (here 8), .int .u8 (here 9), .int .u8 (here 10), .int .u8 (here 11), .int .u8 (here 12), .int .u8 (here 13), .int .u8 (here 14), .int .u8 (here 15), .int .u8 (o.s 0), .int .u8 (o.s 1), .int .u8 (o.s 2), .int .u8 (o.s 3), .int .u8 (o.s 4), .int .u8 (o.s 5), .int .u8 (o.s 6), .int .u8 (o.s 7), .int .u8 (o.s 8), .int .u8 (o.s 9), .int .u8 (o.s 10), .int .u8 (o.s 11), .int .u8 (o.s 12), .int .u8 (o.s 13), .int .u8 (o.s 14), .int .u8 (o.s 15)] 31 := Own.cast hw2.own (by kernel_rfl)
  have hzhw2 := hw2.same
  refine VL_pure 9 [4, 5, 7, 8, 9] [(4, .pointer (some ⟨b2, 0, none⟩)), (5, .pointer (some ⟨b3, 0, none⟩)), (7, .pointer (some ⟨b4, 0, none⟩)), (8, .pointer (some ⟨b5, 0, none⟩)), (9, .bool true)] (by kernel_rfl) rfl ?_
  refine VL_end (by kernel_rfl) ?_
  refine VQ_next ?_
  refine VC_seq ?_
  refine VC_seq ?_
  refine VC_region ?_
  refine VL_pure 2 [4, 5, 7, 8, 22] [(4, .pointer (some ⟨b2, 0, none⟩)), (5, .pointer (some ⟨b3, 0, none⟩)), (7, .pointer (some ⟨b4, 0, none⟩)), (8, .pointer (some ⟨b5, 0, none⟩)), (22, .bool false)] (by kernel_rfl) rfl ?_
  refine VL_end (by kernel_rfl) ?_
  refine VQ_next ?_
  refine VC_false (by kernel_rfl) ?_
  refine VC_skip ?_
  refine VQ_next ?_
  refine VC_seq ?_
  refine VC_region ?_
  refine VL_load (d := 27) (t := 31) (a := ⟨b5, 0, none⟩) (v := .agg #[.int .i64 o.k, .int .u8 o.d, .bool false, .int .u32 o.tg, .int .u8 (here 0), .int .u8 (here 1), .int .u8 (here 2), .int .u8 (here 3), .int .u8 (here 4), .int .u8 (here 5), .int .u8 (here 6), .int .u8 (here 7), .int .u8 (here 8), .int .u8 (here 9), .int .u8 (here 10), .int .u8 (here 11), .int .u8 (here 12), .int .u8 (here 13), .int .u8 (here 14), .int .u8 (here 15), .int .u8 (o.s 0), .int .u8 (o.s 1), .int .u8 (o.s 2), .int .u8 (o.s 3), .int .u8 (o.s 4), .int .u8 (o.s 5), .int .u8 (o.s 6), .int .u8 (o.s 7), .int .u8 (o.s 8), .int .u8 (o.s 9), .int .u8 (o.s 10), .int .u8 (o.s 11), .int .u8 (o.s 12), .int .u8 (o.s 13), .int .u8 (o.s 14), .int .u8 (o.s 15)]) (by kernel_rfl) (by kernel_rfl) (Loads.ownL ho7 (n := 36) (by kernel_rfl) (by kernel_rfl) (by kernel_rfl)) ?_
  refine VL_load (d := 28) (t := 23) (a := ⟨b3, 0, none⟩) (v := .agg #[.int .u8 (there 0), .int .u8 (there 1), .int .u8 (there 2), .int .u8 (there 3), .int .u8 (there 4), .int .u8 (there 5), .int .u8 (there 6), .int .u8 (there 7), .int .u8 (there 8), .int .u8 (there 9), .int .u8 (there 10), .int .u8 (there 11), .int .u8 (there 12), .int .u8 (there 13), .int .u8 (there 14), .int .u8 (there 15)]) (by kernel_rfl) (by kernel_rfl) (Loads.ownL ho3 (n := 16) (by kernel_rfl) (by kernel_rfl) (by kernel_rfl)) ?_
  have hzs8 := hS.size
  have hzl18 := ho1.lt
  have hzl19 := ho2.lt
  have hzl20 := ho3.lt
  have hzl21 := ho5.lt
  have hzl22 := ho7.lt
  refine VL_call (d := 29) (f := 19) (by kernel_rfl) (by kernel_rfl) (by kernel_rfl) Try.call19 (CV.val (v' := .tuple #[.agg (omL zeroO).toArray, .bool false]) (reply_any (⟨o.k, o.d, false, o.tg, here, o.s⟩ : Om) there _ hh) (by rw [replyV_no (reply_again o here there), reply_again])) ?_
  rintro _ w10 ⟨rfl, hc3⟩
  replace hS := Step.trans hS hc3
  replace ho1 := ho1.no hc3
  replace ho2 := ho2.no hc3
  replace ho3 := ho3.no hc3
  replace ho5 := ho5.no hc3
  replace ho7 := ho7.no hc3
  refine VL_pure 6 [4, 7, 8, 30, 31] [(4, .pointer (some ⟨b2, 0, none⟩)), (7, .pointer (some ⟨b4, 0, none⟩)), (8, .pointer (some ⟨b5, 0, none⟩)), (30, .agg #[.int .i64 zeroO.k, .int .u8 zeroO.d, .bool zeroO.a, .int .u32 zeroO.tg, .int .u8 (zeroO.p 0), .int .u8 (zeroO.p 1), .int .u8 (zeroO.p 2), .int .u8 (zeroO.p 3), .int .u8 (zeroO.p 4), .int .u8 (zeroO.p 5), .int .u8 (zeroO.p 6), .int .u8 (zeroO.p 7), .int .u8 (zeroO.p 8), .int .u8 (zeroO.p 9), .int .u8 (zeroO.p 10), .int .u8 (zeroO.p 11), .int .u8 (zeroO.p 12), .int .u8 (zeroO.p 13), .int .u8 (zeroO.p 14), .int .u8 (zeroO.p 15), .int .u8 (zeroO.s 0), .int .u8 (zeroO.s 1), .int .u8 (zeroO.s 2), .int .u8 (zeroO.s 3), .int .u8 (zeroO.s 4), .int .u8 (zeroO.s 5), .int .u8 (zeroO.s 6), .int .u8 (zeroO.s 7), .int .u8 (zeroO.s 8), .int .u8 (zeroO.s 9), .int .u8 (zeroO.s 10), .int .u8 (zeroO.s 11), .int .u8 (zeroO.s 12), .int .u8 (zeroO.s 13), .int .u8 (zeroO.s 14), .int .u8 (zeroO.s 15)]), (31, .bool false)] (by kernel_rfl) rfl ?_
  have hzs9 := hS.size
  have hzl23 := ho1.lt
  have hzl24 := ho2.lt
  have hzl25 := ho3.lt
  have hzl26 := ho5.lt
  have hzl27 := ho7.lt
  refine VL_box (d := 10) (t := 31) (c := #[.int .i64 0, .int .u8 0, .bool false, .int .u32 0, .int .u8 0, .int .u8 0, .int .u8 0, .int .u8 0, .int .u8 0, .int .u8 0, .int .u8 0, .int .u8 0, .int .u8 0, .int .u8 0, .int .u8 0, .int .u8 0, .int .u8 0, .int .u8 0, .int .u8 0, .int .u8 0, .int .u8 0, .int .u8 0, .int .u8 0, .int .u8 0, .int .u8 0, .int .u8 0, .int .u8 0, .int .u8 0, .int .u8 0, .int .u8 0, .int .u8 0, .int .u8 0, .int .u8 0, .int .u8 0, .int .u8 0, .int .u8 0]) (by kernel_rfl) (by kernel_rfl) ?_
  intro b6 w11 hn6
  replace hS := Step.trans hS (hn6.step No)
  replace ho1 := ho1.no (hn6.step No)
  replace ho2 := ho2.no (hn6.step No)
  replace ho3 := ho3.no (hn6.step No)
  replace ho5 := ho5.no (hn6.step No)
  replace ho7 := ho7.no (hn6.step No)
  have ho8 := hn6.own
  have hzhn6 := hn6.size
  have hqhn6 := hn6.eqb
  refine VL_store (b := b6) (o := 0) (vs := [.int .i64 zeroO.k, .int .u8 zeroO.d, .bool zeroO.a, .int .u32 zeroO.tg, .int .u8 (zeroO.p 0), .int .u8 (zeroO.p 1), .int .u8 (zeroO.p 2), .int .u8 (zeroO.p 3), .int .u8 (zeroO.p 4), .int .u8 (zeroO.p 5), .int .u8 (zeroO.p 6), .int .u8 (zeroO.p 7), .int .u8 (zeroO.p 8), .int .u8 (zeroO.p 9), .int .u8 (zeroO.p 10), .int .u8 (zeroO.p 11), .int .u8 (zeroO.p 12), .int .u8 (zeroO.p 13), .int .u8 (zeroO.p 14), .int .u8 (zeroO.p 15), .int .u8 (zeroO.s 0), .int .u8 (zeroO.s 1), .int .u8 (zeroO.s 2), .int .u8 (zeroO.s 3), .int .u8 (zeroO.s 4), .int .u8 (zeroO.s 5), .int .u8 (zeroO.s 6), .int .u8 (zeroO.s 7), .int .u8 (zeroO.s 8), .int .u8 (zeroO.s 9), .int .u8 (zeroO.s 10), .int .u8 (zeroO.s 11), .int .u8 (zeroO.s 12), .int .u8 (zeroO.s 13), .int .u8 (zeroO.s 14), .int .u8 (zeroO.s 15)]) (by kernel_rfl) (by kernel_rfl) ho8 (Nat.le_of_ble_eq_true (by kernel_rfl)) ?_
  intro w12 hw3
  replace hS := Step.transNew hS hw3.step (fun _ _ _ => by omega)
  replace ho1 := ho1.step hw3.step (show ¬ b1 = b6 by omega)
  replace ho2 := ho2.step hw3.step (show ¬ b2 = b6 by omega)
  replace ho3 := ho3.step hw3.step (show ¬ b3 = b6 by omega)
  replace ho5 := ho5.step hw3.step (show ¬ b4 = b6 by omega)
  replace ho7 := ho7.step hw3.step (show ¬ b5 = b6 by omega)
  have ho9 : Own w12 b6 #[.int .i64 zeroO.k, .int .u8 zeroO.d, .bool zeroO.a, .int .u32 zeroO.tg, .int .u8 (zeroO.p 0), .int .u8 (zeroO.p 1), .int .u8 (zeroO.p 2), .int .u8 (zeroO.p 3), .int .u8 (zeroO.p 4), .int .u8 (zeroO.p 5), .int .u8 (zeroO.p 6), .int .u8 (zeroO.p 7), .int .u8 (zeroO.p 8), .int .u8 (zeroO.p 9), .int .u8 (zeroO.p 10), .int .u8 (zeroO.p 11), .int .u8 (zeroO.p 12), .int .u8 (zeroO.p 13), .int .u8 (zeroO.p 14), .int .u8 (zeroO.p 15), .int .u8 (zeroO.s 0), .int .u8 (zeroO.s 1), .int .u8 (zeroO.s 2), .int .u8 (zeroO.s 3), .int .u8 (zeroO.s 4), .int .u8 (zeroO.s 5), .int .u8 (zeroO.s 6), .int .u8 (zeroO.s 7), .int .u8 (zeroO.s 8), .int .u8 (zeroO.s 9), .int .u8 (zeroO.s 10), .int .u8 (zeroO.s 11), .int .u8 (zeroO.s 12), .int .u8 (zeroO.s 13), .int .u8 (zeroO.s 14), .int .u8 (zeroO.s 15)] 31 := Own.cast hw3.own (by kernel_rfl)
  have hzhw3 := hw3.same
  refine VL_pure 9 [4, 7, 8, 10, 11] [(4, .pointer (some ⟨b2, 0, none⟩)), (7, .pointer (some ⟨b4, 0, none⟩)), (8, .pointer (some ⟨b5, 0, none⟩)), (10, .pointer (some ⟨b6, 0, none⟩)), (11, .bool false)] (by kernel_rfl) rfl ?_
  refine VL_end (by kernel_rfl) ?_
  refine VQ_next ?_
  refine VC_seq ?_
  have hs1 := drew_step w12
  have hs1z : w12.heap.size = w12.drew.heap.size := rfl
  refine VC_text [[], [0], [0, 1], [0, 1, 2], [0, 1, 2, 3], [0, 1, 2, 3, 4], [0, 1, 2, 3, 4, 5], [0, 1, 2, 3, 4, 5, 6], [0, 1, 2, 3, 4, 5, 6, 7], [0, 1, 2, 3, 4, 5, 6, 7, 8], [0, 1, 2, 3, 4, 5, 6, 7, 8, 9], [0, 1, 2, 3, 4, 5, 6, 7, 8, 9, 10], [0, 1, 2, 3, 4, 5, 6, 7, 8, 9, 10, 11], [0, 1, 2, 3, 4, 5, 6, 7, 8, 9, 10, 11, 12], [0, 1, 2, 3, 4, 5, 6, 7, 8, 9, 10, 11, 12, 13], [0, 1, 2, 3, 4, 5, 6, 7, 8, 9, 10, 11, 12], [0, 1, 2, 3, 4, 5, 6, 7, 8, 9, 10, 11, 12, 15], [0, 1, 2, 3, 4, 5, 6, 7, 8, 9, 10, 11, 12, 13, 14, 15, 16], [0, 1, 2, 3, 4, 5, 6, 7, 8, 9, 10, 11, 12, 13, 14, 15, 16, 17], [0, 1, 2, 3, 4, 5, 6, 7, 8, 9, 10, 11, 12, 13, 14, 15, 16, 17, 18], [0, 1, 2, 3, 4, 5, 6, 7, 8, 9, 10, 11, 12, 13, 14, 15, 16, 17, 18, 19], [0, 1, 2, 3, 4, 5, 6, 7, 8, 9, 10, 11, 12, 13, 14, 15, 16, 17, 18, 19, 20], [0, 1, 2, 3, 4, 5, 6, 7, 8, 9, 10, 11, 12, 13, 14, 15, 16, 17, 18, 19], [0, 1, 2, 3, 4, 5, 6, 7, 8, 9, 10, 11, 12, 13, 14, 15, 16, 17, 18, 19, 22], [0, 1, 2, 3, 4, 5, 6, 7, 8, 9, 10, 11, 12, 13, 14, 15, 16, 17, 18, 19, 20, 21, 22, 23], [0, 1, 2, 3, 4, 5, 6, 7, 8, 9, 10, 11, 12, 13, 14, 15, 16, 17, 18, 19, 20, 21, 22, 23, 24], [0, 1, 2, 3, 4, 5, 6, 7, 8, 9, 10, 11, 12, 13, 14, 15, 16, 17, 18, 19, 20, 21, 22, 23, 24, 25], [0, 1, 2, 3, 4, 5, 6, 7, 8, 9, 10, 11, 12, 13, 14, 15, 16, 17, 18, 19, 20, 21, 22, 23, 24, 25, 26], [0, 1, 2, 3, 4, 5, 6, 7, 8, 9, 10, 11, 12, 13, 14, 15, 16, 17, 18, 19, 20, 21, 22, 23, 24, 25, 26, 27], [0, 1, 2, 3, 4, 5, 6, 7, 8, 9, 10, 11, 12, 13, 14, 15, 16, 17, 18, 19, 20, 21, 22, 23, 24, 25, 26], [0, 1, 2, 3, 4, 5, 6, 7, 8, 9, 10, 11, 12, 13, 14, 15, 16, 17, 18, 19, 20, 21, 22, 23, 24, 25, 26, 27, 28, 29], [0, 1, 2, 3, 4, 5, 6, 7, 8, 9, 10, 11, 12, 13, 14, 15, 16, 17, 18, 19, 20, 21, 22, 23, 24, 25, 26, 27, 28, 29, 30], [0, 1, 2, 3, 4, 5, 6, 7, 8, 9, 10, 11, 12, 13, 14, 15, 16, 17, 18, 19, 20, 21, 22, 23, 24, 25, 26, 27, 28, 29, 30, 31], [0, 1, 2, 3, 4, 5, 6, 7, 8, 9, 10, 11, 12, 13, 14, 15, 16, 17, 18, 19, 20, 21, 22, 23, 24, 25, 26, 27, 28, 29, 30, 31, 32], [0, 1, 2, 3, 4, 5, 6, 7, 8, 9, 10, 11, 12, 13, 14, 15, 16, 17, 18, 19, 20, 21, 22, 23, 24, 25, 26, 27, 28, 29, 30, 31, 32, 33], [0, 1, 2, 3, 4, 5, 6, 7, 8, 9, 10, 11, 12, 13, 14, 15, 16, 17, 18, 19, 20, 21, 22, 23, 24, 25, 26, 27, 28, 29, 30, 31, 32, 33, 34], [0, 1, 2, 3, 4, 5, 6, 7, 8, 9, 10, 11, 12, 13, 14, 15, 16, 17, 18, 19, 20, 21, 22, 23, 24, 25, 26, 27, 28, 29, 30, 31, 32, 33, 34, 35], [0, 1, 2, 3, 4, 5, 6, 7, 8, 9, 10, 11, 12, 13, 14, 15, 16, 17, 18, 19, 20, 21, 22, 23, 24, 25, 26, 27, 28, 29, 30, 31, 32, 33, 34, 35, 36], [0, 1, 2, 3, 4, 5, 6, 7, 8, 9, 10, 11, 12, 13, 14, 15, 16, 17, 18, 19, 20, 21, 22, 23, 24, 25, 26, 27, 28, 29, 30, 31, 32, 33, 34, 35, 36], [0, 1, 2, 3, 4, 5, 6, 7, 8, 9, 10, 11, 12, 13, 14, 15, 16, 17, 18, 19, 20, 21, 22, 23, 24, 25, 26, 27, 28, 29, 30, 31, 32, 33, 34, 35, 36, 37, 38], [0, 1, 2, 3, 4, 5, 6, 7, 8, 9, 10, 11, 12, 13, 14, 15, 16, 17, 18, 19, 20, 21, 22, 23, 24, 25, 26, 27, 28, 29, 30, 31, 32, 33, 34, 35, 36, 37, 38, 39], [0, 1, 2, 3, 4, 5, 6, 7, 8, 9, 10, 11, 12, 13, 14, 15, 16, 17, 18, 19, 20, 21, 22, 23, 24, 25, 26, 27, 28, 29, 30, 31, 32, 33, 34, 35, 36, 37, 38, 39, 40], [0, 1, 2, 3, 4, 5, 6, 7, 8, 9, 10, 11, 12, 13, 14, 15, 16, 17, 18, 19, 20, 21, 22, 23, 24, 25, 26, 27, 28, 29, 30, 31, 32, 33, 34, 35, 36, 37, 38, 39, 40, 41], [0, 1, 2, 3, 4, 5, 6, 7, 8, 9, 10, 11, 12, 13, 14, 15, 16, 17, 18, 19, 20, 21, 22, 23, 24, 25, 26, 27, 28, 29, 30, 31, 32, 33, 34, 35, 36, 37, 38, 39, 40, 41, 42], [0, 1, 2, 3, 4, 5, 6, 7, 8, 9, 10, 11, 12, 13, 14, 15, 16, 17, 18, 19, 20, 21, 22, 23, 24, 25, 26, 27, 28, 29, 30, 31, 32, 33, 34, 35, 36, 37, 38, 39, 40, 41], [0, 1, 2, 3, 4, 5, 6, 7, 8, 9, 10, 11, 12, 13, 14, 15, 16, 17, 18, 19, 20, 21, 22, 23, 24, 25, 26, 27, 28, 29, 30, 31, 32, 33, 34, 35, 36, 37, 38, 39, 40, 41, 42, 43, 44], [0, 1, 2, 3, 4, 5, 6, 7, 8, 9, 10, 11, 12, 13, 14, 15, 16, 17, 18, 19, 20, 21, 22, 23, 24, 25, 26, 27, 28, 29, 30, 31, 32, 33, 34, 35, 36, 37, 38, 39, 40, 41, 42, 43, 44, 45], [0, 1, 2, 3, 4, 5, 6, 7, 8, 9, 10, 11, 12, 13, 14, 15, 16, 17, 18, 19, 20, 21, 22, 23, 24, 25, 26, 27, 28, 29, 30, 31, 32, 33, 34, 35, 36, 37, 38, 39, 40, 41, 42, 43, 44, 45, 46], [0, 1, 2, 3, 4, 5, 6, 7, 8, 9, 10, 11, 12, 13, 14, 15, 16, 17, 18, 19, 20, 21, 22, 23, 24, 25, 26, 27, 28, 29, 30, 31, 32, 33, 34, 35, 36, 37, 38, 39, 40, 41, 42, 43, 44, 45, 46, 47]] 45 (fun x y => Step (fun k => w12.heap.size ≤ k) x y) [43] [0, 1, 2, 3, 4, 5, 6, 7, 8, 9, 10, 11, 12, 13, 14, 15, 16, 17, 18, 19, 20, 21, 22, 23, 24, 25, 26, 27, 28, 29, 30, 31, 32, 33, 34, 35, 36, 37, 38, 39, 40, 41, 42, 44, 43] (by kernel_rfl) (by kernel_rfl) (by kernel_rfl) (by kernel_rfl) (fun x => Step.refl _ x) (fun h k => Step.trans h k) Step.weak ?_
  have hzs10 := hS.size
  have hzl28 := ho1.lt
  have hzl29 := ho2.lt
  have hzl30 := ho3.lt
  have hzl31 := ho5.lt
  have hzl32 := ho7.lt
  have hzl33 := ho9.lt
  generalize w12.drew = w13 at hs1 hs1z ⊢
  replace hS := Step.trans hS hs1
  replace ho1 := ho1.no hs1
  replace ho2 := ho2.no hs1
  replace ho3 := ho3.no hs1
  replace ho5 := ho5.no hs1
  replace ho7 := ho7.no hs1
  replace ho9 := ho9.no hs1
  refine VT_pures 1 (kn' := [(0, .pointer (some ⟨b4, 0, none⟩))]) (by kernel_rfl) ?_
  refine VT_load (d := 33) (t := 3) (a := ⟨b4, 0, none⟩) (v := .int .i64 o.k) (by kernel_rfl) (by kernel_rfl) ?_ ?_
  · intro w14 hr1
    replace hS := Step.transNew hS hr1 (fun i hi hG => by (try simp only at hG); omega)
    replace ho1 := ho1.step hr1 (by (try simp only); omega)
    replace ho2 := ho2.step hr1 (by (try simp only); omega)
    replace ho3 := ho3.step hr1 (by (try simp only); omega)
    replace ho5 := ho5.step hr1 (by (try simp only); omega)
    replace ho7 := ho7.step hr1 (by (try simp only); omega)
    replace ho9 := ho9.step hr1 (by (try simp only); omega)
    exact (Loads.own1 ho5 (by kernel_rfl) (by rfl))
  refine VT_pures 2 (kn' := [(3, .bool (o.k == 8)), (2, .bool (o.k == 8)), (1, .int .i64 o.k), (0, .pointer (some ⟨b4, 0, none⟩))]) (by kernel_rfl) ?_
  have hg1 : (o.k == 8) = true := (by rw [(reply_k hr).1]; rfl)
  refine VT_eq [(3, .bool true), (2, .bool true), (1, .int .i64 o.k), (0, .pointer (some ⟨b4, 0, none⟩))] (by simp only [hg1, Bool.not_true, Bool.not_false]) ?_
  refine VT_pures 1 (kn' := [(4, .pointer (some ⟨b4, 2, none⟩)), (3, .bool true), (2, .bool true), (1, .int .i64 o.k), (0, .pointer (some ⟨b4, 0, none⟩))]) (by kernel_rfl) ?_
  refine VT_load (d := 37) (t := 4) (a := ⟨b4, 2, none⟩) (v := .bool o.a) (by kernel_rfl) (by kernel_rfl) ?_ ?_
  · intro w15 hr2
    replace hS := Step.transNew hS hr2 (fun i hi hG => by (try simp only at hG); omega)
    replace ho1 := ho1.step hr2 (by (try simp only); omega)
    replace ho2 := ho2.step hr2 (by (try simp only); omega)
    replace ho3 := ho3.step hr2 (by (try simp only); omega)
    replace ho5 := ho5.step hr2 (by (try simp only); omega)
    replace ho7 := ho7.step hr2 (by (try simp only); omega)
    replace ho9 := ho9.step hr2 (by (try simp only); omega)
    exact (Loads.own1 ho5 (by kernel_rfl) (by rfl))
  refine VT_pures 2 (kn' := [(7, .bool o.a), (6, .bool o.a), (5, .bool o.a), (4, .pointer (some ⟨b4, 2, none⟩)), (3, .bool true), (2, .bool true), (1, .int .i64 o.k), (0, .pointer (some ⟨b4, 0, none⟩))]) (by kernel_rfl) ?_
  have hg2 : o.a = true := (reply_k hr).2
  refine VT_eq [(7, .bool true), (6, .bool true), (5, .bool true), (4, .pointer (some ⟨b4, 2, none⟩)), (3, .bool true), (2, .bool true), (1, .int .i64 o.k), (0, .pointer (some ⟨b4, 0, none⟩))] (by simp only [hg2, Bool.not_true, Bool.not_false]) ?_
  refine VT_pures 1 (kn' := [(8, .pointer (some ⟨b5, 2, none⟩)), (7, .bool true), (6, .bool true), (5, .bool true), (4, .pointer (some ⟨b4, 2, none⟩)), (3, .bool true), (2, .bool true), (1, .int .i64 o.k), (0, .pointer (some ⟨b4, 0, none⟩))]) (by kernel_rfl) ?_
  refine VT_load (d := 41) (t := 4) (a := ⟨b5, 2, none⟩) (v := .bool false) (by kernel_rfl) (by kernel_rfl) ?_ ?_
  · intro w16 hr3
    replace hS := Step.transNew hS hr3 (fun i hi hG => by (try simp only at hG); omega)
    replace ho1 := ho1.step hr3 (by (try simp only); omega)
    replace ho2 := ho2.step hr3 (by (try simp only); omega)
    replace ho3 := ho3.step hr3 (by (try simp only); omega)
    replace ho5 := ho5.step hr3 (by (try simp only); omega)
    replace ho7 := ho7.step hr3 (by (try simp only); omega)
    replace ho9 := ho9.step hr3 (by (try simp only); omega)
    exact (Loads.own1 ho7 (by kernel_rfl) (by rfl))
  refine VT_pures 4 (kn' := [(13, .pointer (some ⟨b5, 3, none⟩)), (12, .bool true), (11, .bool true), (10, .bool true), (9, .bool false), (8, .pointer (some ⟨b5, 2, none⟩)), (7, .bool true), (6, .bool true), (5, .bool true), (4, .pointer (some ⟨b4, 2, none⟩)), (3, .bool true), (2, .bool true), (1, .int .i64 o.k), (0, .pointer (some ⟨b4, 0, none⟩))]) (by kernel_rfl) ?_
  refine VT_load (d := 46) (t := 22) (a := ⟨b5, 3, none⟩) (v := .int .u32 o.tg) (by kernel_rfl) (by kernel_rfl) ?_ ?_
  · intro w17 hr4
    replace hS := Step.transNew hS hr4 (fun i hi hG => by (try simp only at hG); omega)
    replace ho1 := ho1.step hr4 (by (try simp only); omega)
    replace ho2 := ho2.step hr4 (by (try simp only); omega)
    replace ho3 := ho3.step hr4 (by (try simp only); omega)
    replace ho5 := ho5.step hr4 (by (try simp only); omega)
    replace ho7 := ho7.step hr4 (by (try simp only); omega)
    replace ho9 := ho9.step hr4 (by (try simp only); omega)
    exact (Loads.own1 ho7 (by kernel_rfl) (by rfl))
  refine VT_pures 1 (kn' := [(15, .pointer (some ⟨b4, 3, none⟩)), (14, .int .u32 o.tg), (13, .pointer (some ⟨b5, 3, none⟩)), (12, .bool true), (11, .bool true), (10, .bool true), (9, .bool false), (8, .pointer (some ⟨b5, 2, none⟩)), (7, .bool true), (6, .bool true), (5, .bool true), (4, .pointer (some ⟨b4, 2, none⟩)), (3, .bool true), (2, .bool true), (1, .int .i64 o.k), (0, .pointer (some ⟨b4, 0, none⟩))]) (by kernel_rfl) ?_
  refine VT_load (d := 48) (t := 22) (a := ⟨b4, 3, none⟩) (v := .int .u32 o.tg) (by kernel_rfl) (by kernel_rfl) ?_ ?_
  · intro w18 hr5
    replace hS := Step.transNew hS hr5 (fun i hi hG => by (try simp only at hG); omega)
    replace ho1 := ho1.step hr5 (by (try simp only); omega)
    replace ho2 := ho2.step hr5 (by (try simp only); omega)
    replace ho3 := ho3.step hr5 (by (try simp only); omega)
    replace ho5 := ho5.step hr5 (by (try simp only); omega)
    replace ho7 := ho7.step hr5 (by (try simp only); omega)
    replace ho9 := ho9.step hr5 (by (try simp only); omega)
    exact (Loads.own1 ho5 (by kernel_rfl) (by rfl))
  refine VT_pures 3 (kn' := [(19, .bool (o.tg == o.tg)), (18, .bool (o.tg == o.tg)), (17, .bool (o.tg == o.tg)), (16, .int .u32 o.tg), (15, .pointer (some ⟨b4, 3, none⟩)), (14, .int .u32 o.tg), (13, .pointer (some ⟨b5, 3, none⟩)), (12, .bool true), (11, .bool true), (10, .bool true), (9, .bool false), (8, .pointer (some ⟨b5, 2, none⟩)), (7, .bool true), (6, .bool true), (5, .bool true), (4, .pointer (some ⟨b4, 2, none⟩)), (3, .bool true), (2, .bool true), (1, .int .i64 o.k), (0, .pointer (some ⟨b4, 0, none⟩))]) (by kernel_rfl) ?_
  have hg3 : (o.tg == o.tg) = true := (by simp)
  refine VT_eq [(19, .bool true), (18, .bool true), (17, .bool true), (16, .int .u32 o.tg), (15, .pointer (some ⟨b4, 3, none⟩)), (14, .int .u32 o.tg), (13, .pointer (some ⟨b5, 3, none⟩)), (12, .bool true), (11, .bool true), (10, .bool true), (9, .bool false), (8, .pointer (some ⟨b5, 2, none⟩)), (7, .bool true), (6, .bool true), (5, .bool true), (4, .pointer (some ⟨b4, 2, none⟩)), (3, .bool true), (2, .bool true), (1, .int .i64 o.k), (0, .pointer (some ⟨b4, 0, none⟩))] (by simp only [hg3, Bool.not_true, Bool.not_false]) ?_
  refine VT_pures 1 (kn' := [(20, .pointer (some ⟨b5, 20, none⟩)), (19, .bool true), (18, .bool true), (17, .bool true), (16, .int .u32 o.tg), (15, .pointer (some ⟨b4, 3, none⟩)), (14, .int .u32 o.tg), (13, .pointer (some ⟨b5, 3, none⟩)), (12, .bool true), (11, .bool true), (10, .bool true), (9, .bool false), (8, .pointer (some ⟨b5, 2, none⟩)), (7, .bool true), (6, .bool true), (5, .bool true), (4, .pointer (some ⟨b4, 2, none⟩)), (3, .bool true), (2, .bool true), (1, .int .i64 o.k), (0, .pointer (some ⟨b4, 0, none⟩))]) (by kernel_rfl) ?_
  refine VT_load (d := 53) (t := 23) (a := ⟨b5, 20, none⟩) (v := .agg #[.int .u8 (o.s 0), .int .u8 (o.s 1), .int .u8 (o.s 2), .int .u8 (o.s 3), .int .u8 (o.s 4), .int .u8 (o.s 5), .int .u8 (o.s 6), .int .u8 (o.s 7), .int .u8 (o.s 8), .int .u8 (o.s 9), .int .u8 (o.s 10), .int .u8 (o.s 11), .int .u8 (o.s 12), .int .u8 (o.s 13), .int .u8 (o.s 14), .int .u8 (o.s 15)]) (by kernel_rfl) (by kernel_rfl) ?_ ?_
  · intro w19 hr6
    replace hS := Step.transNew hS hr6 (fun i hi hG => by (try simp only at hG); omega)
    replace ho1 := ho1.step hr6 (by (try simp only); omega)
    replace ho2 := ho2.step hr6 (by (try simp only); omega)
    replace ho3 := ho3.step hr6 (by (try simp only); omega)
    replace ho5 := ho5.step hr6 (by (try simp only); omega)
    replace ho7 := ho7.step hr6 (by (try simp only); omega)
    replace ho9 := ho9.step hr6 (by (try simp only); omega)
    exact (Loads.ownL ho7 (n := 16) (by kernel_rfl) (by kernel_rfl) (by kernel_rfl))
  refine VT_pures 1 (kn' := [(22, .pointer (some ⟨b4, 20, none⟩)), (21, .agg #[.int .u8 (o.s 0), .int .u8 (o.s 1), .int .u8 (o.s 2), .int .u8 (o.s 3), .int .u8 (o.s 4), .int .u8 (o.s 5), .int .u8 (o.s 6), .int .u8 (o.s 7), .int .u8 (o.s 8), .int .u8 (o.s 9), .int .u8 (o.s 10), .int .u8 (o.s 11), .int .u8 (o.s 12), .int .u8 (o.s 13), .int .u8 (o.s 14), .int .u8 (o.s 15)]), (20, .pointer (some ⟨b5, 20, none⟩)), (19, .bool true), (18, .bool true), (17, .bool true), (16, .int .u32 o.tg), (15, .pointer (some ⟨b4, 3, none⟩)), (14, .int .u32 o.tg), (13, .pointer (some ⟨b5, 3, none⟩)), (12, .bool true), (11, .bool true), (10, .bool true), (9, .bool false), (8, .pointer (some ⟨b5, 2, none⟩)), (7, .bool true), (6, .bool true), (5, .bool true), (4, .pointer (some ⟨b4, 2, none⟩)), (3, .bool true), (2, .bool true), (1, .int .i64 o.k), (0, .pointer (some ⟨b4, 0, none⟩))]) (by kernel_rfl) ?_
  refine VT_load (d := 55) (t := 23) (a := ⟨b4, 20, none⟩) (v := .agg #[.int .u8 (o.s 0), .int .u8 (o.s 1), .int .u8 (o.s 2), .int .u8 (o.s 3), .int .u8 (o.s 4), .int .u8 (o.s 5), .int .u8 (o.s 6), .int .u8 (o.s 7), .int .u8 (o.s 8), .int .u8 (o.s 9), .int .u8 (o.s 10), .int .u8 (o.s 11), .int .u8 (o.s 12), .int .u8 (o.s 13), .int .u8 (o.s 14), .int .u8 (o.s 15)]) (by kernel_rfl) (by kernel_rfl) ?_ ?_
  · intro w20 hr7
    replace hS := Step.transNew hS hr7 (fun i hi hG => by (try simp only at hG); omega)
    replace ho1 := ho1.step hr7 (by (try simp only); omega)
    replace ho2 := ho2.step hr7 (by (try simp only); omega)
    replace ho3 := ho3.step hr7 (by (try simp only); omega)
    replace ho5 := ho5.step hr7 (by (try simp only); omega)
    replace ho7 := ho7.step hr7 (by (try simp only); omega)
    replace ho9 := ho9.step hr7 (by (try simp only); omega)
    exact (Loads.ownL ho5 (n := 16) (by kernel_rfl) (by kernel_rfl) (by kernel_rfl))
  refine VT_agEq (d := 56) (dd := 9) (ls := (rep 16 [.int .u8])) (pos := true) (t := 23) (xs := #[.int .u8 (o.s 0), .int .u8 (o.s 1), .int .u8 (o.s 2), .int .u8 (o.s 3), .int .u8 (o.s 4), .int .u8 (o.s 5), .int .u8 (o.s 6), .int .u8 (o.s 7), .int .u8 (o.s 8), .int .u8 (o.s 9), .int .u8 (o.s 10), .int .u8 (o.s 11), .int .u8 (o.s 12), .int .u8 (o.s 13), .int .u8 (o.s 14), .int .u8 (o.s 15)]) (ys := #[.int .u8 (o.s 0), .int .u8 (o.s 1), .int .u8 (o.s 2), .int .u8 (o.s 3), .int .u8 (o.s 4), .int .u8 (o.s 5), .int .u8 (o.s 6), .int .u8 (o.s 7), .int .u8 (o.s 8), .int .u8 (o.s 9), .int .u8 (o.s 10), .int .u8 (o.s 11), .int .u8 (o.s 12), .int .u8 (o.s 13), .int .u8 (o.s 14), .int .u8 (o.s 15)]) (by kernel_rfl) (by kernel_rfl) (by kernel_rfl) (by kernel_rfl) (by first | exact ⟨⟨_, rfl⟩, ⟨_, rfl⟩, ⟨_, rfl⟩, ⟨_, rfl⟩, ⟨_, rfl⟩, ⟨_, rfl⟩, ⟨_, rfl⟩, ⟨_, rfl⟩, ⟨_, rfl⟩, ⟨_, rfl⟩, ⟨_, rfl⟩, ⟨_, rfl⟩, ⟨_, rfl⟩, ⟨_, rfl⟩, ⟨_, rfl⟩, ⟨_, rfl⟩, trivial⟩ | trivial) (by first | exact ⟨⟨_, rfl⟩, ⟨_, rfl⟩, ⟨_, rfl⟩, ⟨_, rfl⟩, ⟨_, rfl⟩, ⟨_, rfl⟩, ⟨_, rfl⟩, ⟨_, rfl⟩, ⟨_, rfl⟩, ⟨_, rfl⟩, ⟨_, rfl⟩, ⟨_, rfl⟩, ⟨_, rfl⟩, ⟨_, rfl⟩, ⟨_, rfl⟩, ⟨_, rfl⟩, trivial⟩ | trivial) (plEq o.s o.s) (by rfl) ?_
  refine VT_pures 2 (kn' := [(26, .bool (plEq o.s o.s)), (25, .bool (plEq o.s o.s)), (24, .bool (plEq o.s o.s)), (23, .agg #[.int .u8 (o.s 0), .int .u8 (o.s 1), .int .u8 (o.s 2), .int .u8 (o.s 3), .int .u8 (o.s 4), .int .u8 (o.s 5), .int .u8 (o.s 6), .int .u8 (o.s 7), .int .u8 (o.s 8), .int .u8 (o.s 9), .int .u8 (o.s 10), .int .u8 (o.s 11), .int .u8 (o.s 12), .int .u8 (o.s 13), .int .u8 (o.s 14), .int .u8 (o.s 15)]), (22, .pointer (some ⟨b4, 20, none⟩)), (21, .agg #[.int .u8 (o.s 0), .int .u8 (o.s 1), .int .u8 (o.s 2), .int .u8 (o.s 3), .int .u8 (o.s 4), .int .u8 (o.s 5), .int .u8 (o.s 6), .int .u8 (o.s 7), .int .u8 (o.s 8), .int .u8 (o.s 9), .int .u8 (o.s 10), .int .u8 (o.s 11), .int .u8 (o.s 12), .int .u8 (o.s 13), .int .u8 (o.s 14), .int .u8 (o.s 15)]), (20, .pointer (some ⟨b5, 20, none⟩)), (19, .bool true), (18, .bool true), (17, .bool true), (16, .int .u32 o.tg), (15, .pointer (some ⟨b4, 3, none⟩)), (14, .int .u32 o.tg), (13, .pointer (some ⟨b5, 3, none⟩)), (12, .bool true), (11, .bool true), (10, .bool true), (9, .bool false), (8, .pointer (some ⟨b5, 2, none⟩)), (7, .bool true), (6, .bool true), (5, .bool true), (4, .pointer (some ⟨b4, 2, none⟩)), (3, .bool true), (2, .bool true), (1, .int .i64 o.k), (0, .pointer (some ⟨b4, 0, none⟩))]) (by kernel_rfl) ?_
  have hg4 : (plEq o.s o.s) = true := (plEq_refl _)
  refine VT_eq [(26, .bool true), (25, .bool true), (24, .bool true), (23, .agg #[.int .u8 (o.s 0), .int .u8 (o.s 1), .int .u8 (o.s 2), .int .u8 (o.s 3), .int .u8 (o.s 4), .int .u8 (o.s 5), .int .u8 (o.s 6), .int .u8 (o.s 7), .int .u8 (o.s 8), .int .u8 (o.s 9), .int .u8 (o.s 10), .int .u8 (o.s 11), .int .u8 (o.s 12), .int .u8 (o.s 13), .int .u8 (o.s 14), .int .u8 (o.s 15)]), (22, .pointer (some ⟨b4, 20, none⟩)), (21, .agg #[.int .u8 (o.s 0), .int .u8 (o.s 1), .int .u8 (o.s 2), .int .u8 (o.s 3), .int .u8 (o.s 4), .int .u8 (o.s 5), .int .u8 (o.s 6), .int .u8 (o.s 7), .int .u8 (o.s 8), .int .u8 (o.s 9), .int .u8 (o.s 10), .int .u8 (o.s 11), .int .u8 (o.s 12), .int .u8 (o.s 13), .int .u8 (o.s 14), .int .u8 (o.s 15)]), (20, .pointer (some ⟨b5, 20, none⟩)), (19, .bool true), (18, .bool true), (17, .bool true), (16, .int .u32 o.tg), (15, .pointer (some ⟨b4, 3, none⟩)), (14, .int .u32 o.tg), (13, .pointer (some ⟨b5, 3, none⟩)), (12, .bool true), (11, .bool true), (10, .bool true), (9, .bool false), (8, .pointer (some ⟨b5, 2, none⟩)), (7, .bool true), (6, .bool true), (5, .bool true), (4, .pointer (some ⟨b4, 2, none⟩)), (3, .bool true), (2, .bool true), (1, .int .i64 o.k), (0, .pointer (some ⟨b4, 0, none⟩))] (by simp only [hg4, Bool.not_true, Bool.not_false]) ?_
  refine VT_pures 1 (kn' := [(27, .pointer (some ⟨b5, 4, none⟩)), (26, .bool true), (25, .bool true), (24, .bool true), (23, .agg #[.int .u8 (o.s 0), .int .u8 (o.s 1), .int .u8 (o.s 2), .int .u8 (o.s 3), .int .u8 (o.s 4), .int .u8 (o.s 5), .int .u8 (o.s 6), .int .u8 (o.s 7), .int .u8 (o.s 8), .int .u8 (o.s 9), .int .u8 (o.s 10), .int .u8 (o.s 11), .int .u8 (o.s 12), .int .u8 (o.s 13), .int .u8 (o.s 14), .int .u8 (o.s 15)]), (22, .pointer (some ⟨b4, 20, none⟩)), (21, .agg #[.int .u8 (o.s 0), .int .u8 (o.s 1), .int .u8 (o.s 2), .int .u8 (o.s 3), .int .u8 (o.s 4), .int .u8 (o.s 5), .int .u8 (o.s 6), .int .u8 (o.s 7), .int .u8 (o.s 8), .int .u8 (o.s 9), .int .u8 (o.s 10), .int .u8 (o.s 11), .int .u8 (o.s 12), .int .u8 (o.s 13), .int .u8 (o.s 14), .int .u8 (o.s 15)]), (20, .pointer (some ⟨b5, 20, none⟩)), (19, .bool true), (18, .bool true), (17, .bool true), (16, .int .u32 o.tg), (15, .pointer (some ⟨b4, 3, none⟩)), (14, .int .u32 o.tg), (13, .pointer (some ⟨b5, 3, none⟩)), (12, .bool true), (11, .bool true), (10, .bool true), (9, .bool false), (8, .pointer (some ⟨b5, 2, none⟩)), (7, .bool true), (6, .bool true), (5, .bool true), (4, .pointer (some ⟨b4, 2, none⟩)), (3, .bool true), (2, .bool true), (1, .int .i64 o.k), (0, .pointer (some ⟨b4, 0, none⟩))]) (by kernel_rfl) ?_
  refine VT_load (d := 60) (t := 23) (a := ⟨b5, 4, none⟩) (v := .agg #[.int .u8 (here 0), .int .u8 (here 1), .int .u8 (here 2), .int .u8 (here 3), .int .u8 (here 4), .int .u8 (here 5), .int .u8 (here 6), .int .u8 (here 7), .int .u8 (here 8), .int .u8 (here 9), .int .u8 (here 10), .int .u8 (here 11), .int .u8 (here 12), .int .u8 (here 13), .int .u8 (here 14), .int .u8 (here 15)]) (by kernel_rfl) (by kernel_rfl) ?_ ?_
  · intro w21 hr8
    replace hS := Step.transNew hS hr8 (fun i hi hG => by (try simp only at hG); omega)
    replace ho1 := ho1.step hr8 (by (try simp only); omega)
    replace ho2 := ho2.step hr8 (by (try simp only); omega)
    replace ho3 := ho3.step hr8 (by (try simp only); omega)
    replace ho5 := ho5.step hr8 (by (try simp only); omega)
    replace ho7 := ho7.step hr8 (by (try simp only); omega)
    replace ho9 := ho9.step hr8 (by (try simp only); omega)
    exact (Loads.ownL ho7 (n := 16) (by kernel_rfl) (by kernel_rfl) (by kernel_rfl))
  refine VT_load (d := 61) (t := 23) (a := ⟨b2, 0, none⟩) (v := .agg #[.int .u8 (here 0), .int .u8 (here 1), .int .u8 (here 2), .int .u8 (here 3), .int .u8 (here 4), .int .u8 (here 5), .int .u8 (here 6), .int .u8 (here 7), .int .u8 (here 8), .int .u8 (here 9), .int .u8 (here 10), .int .u8 (here 11), .int .u8 (here 12), .int .u8 (here 13), .int .u8 (here 14), .int .u8 (here 15)]) (by kernel_rfl) (by kernel_rfl) ?_ ?_
  · intro w22 hr9
    replace hS := Step.transNew hS hr9 (fun i hi hG => by (try simp only at hG); omega)
    replace ho1 := ho1.step hr9 (by (try simp only); omega)
    replace ho2 := ho2.step hr9 (by (try simp only); omega)
    replace ho3 := ho3.step hr9 (by (try simp only); omega)
    replace ho5 := ho5.step hr9 (by (try simp only); omega)
    replace ho7 := ho7.step hr9 (by (try simp only); omega)
    replace ho9 := ho9.step hr9 (by (try simp only); omega)
    exact (Loads.ownL ho2 (n := 16) (by kernel_rfl) (by kernel_rfl) (by kernel_rfl))
  refine VT_agEq (d := 62) (dd := 9) (ls := (rep 16 [.int .u8])) (pos := true) (t := 23) (xs := #[.int .u8 (here 0), .int .u8 (here 1), .int .u8 (here 2), .int .u8 (here 3), .int .u8 (here 4), .int .u8 (here 5), .int .u8 (here 6), .int .u8 (here 7), .int .u8 (here 8), .int .u8 (here 9), .int .u8 (here 10), .int .u8 (here 11), .int .u8 (here 12), .int .u8 (here 13), .int .u8 (here 14), .int .u8 (here 15)]) (ys := #[.int .u8 (here 0), .int .u8 (here 1), .int .u8 (here 2), .int .u8 (here 3), .int .u8 (here 4), .int .u8 (here 5), .int .u8 (here 6), .int .u8 (here 7), .int .u8 (here 8), .int .u8 (here 9), .int .u8 (here 10), .int .u8 (here 11), .int .u8 (here 12), .int .u8 (here 13), .int .u8 (here 14), .int .u8 (here 15)]) (by kernel_rfl) (by kernel_rfl) (by kernel_rfl) (by kernel_rfl) (by first | exact ⟨⟨_, rfl⟩, ⟨_, rfl⟩, ⟨_, rfl⟩, ⟨_, rfl⟩, ⟨_, rfl⟩, ⟨_, rfl⟩, ⟨_, rfl⟩, ⟨_, rfl⟩, ⟨_, rfl⟩, ⟨_, rfl⟩, ⟨_, rfl⟩, ⟨_, rfl⟩, ⟨_, rfl⟩, ⟨_, rfl⟩, ⟨_, rfl⟩, ⟨_, rfl⟩, trivial⟩ | trivial) (by first | exact ⟨⟨_, rfl⟩, ⟨_, rfl⟩, ⟨_, rfl⟩, ⟨_, rfl⟩, ⟨_, rfl⟩, ⟨_, rfl⟩, ⟨_, rfl⟩, ⟨_, rfl⟩, ⟨_, rfl⟩, ⟨_, rfl⟩, ⟨_, rfl⟩, ⟨_, rfl⟩, ⟨_, rfl⟩, ⟨_, rfl⟩, ⟨_, rfl⟩, ⟨_, rfl⟩, trivial⟩ | trivial) (plEq here here) (by rfl) ?_
  refine VT_pures 2 (kn' := [(32, .bool (plEq here here)), (31, .bool (plEq here here)), (30, .bool (plEq here here)), (29, .agg #[.int .u8 (here 0), .int .u8 (here 1), .int .u8 (here 2), .int .u8 (here 3), .int .u8 (here 4), .int .u8 (here 5), .int .u8 (here 6), .int .u8 (here 7), .int .u8 (here 8), .int .u8 (here 9), .int .u8 (here 10), .int .u8 (here 11), .int .u8 (here 12), .int .u8 (here 13), .int .u8 (here 14), .int .u8 (here 15)]), (28, .agg #[.int .u8 (here 0), .int .u8 (here 1), .int .u8 (here 2), .int .u8 (here 3), .int .u8 (here 4), .int .u8 (here 5), .int .u8 (here 6), .int .u8 (here 7), .int .u8 (here 8), .int .u8 (here 9), .int .u8 (here 10), .int .u8 (here 11), .int .u8 (here 12), .int .u8 (here 13), .int .u8 (here 14), .int .u8 (here 15)]), (27, .pointer (some ⟨b5, 4, none⟩)), (26, .bool true), (25, .bool true), (24, .bool true), (23, .agg #[.int .u8 (o.s 0), .int .u8 (o.s 1), .int .u8 (o.s 2), .int .u8 (o.s 3), .int .u8 (o.s 4), .int .u8 (o.s 5), .int .u8 (o.s 6), .int .u8 (o.s 7), .int .u8 (o.s 8), .int .u8 (o.s 9), .int .u8 (o.s 10), .int .u8 (o.s 11), .int .u8 (o.s 12), .int .u8 (o.s 13), .int .u8 (o.s 14), .int .u8 (o.s 15)]), (22, .pointer (some ⟨b4, 20, none⟩)), (21, .agg #[.int .u8 (o.s 0), .int .u8 (o.s 1), .int .u8 (o.s 2), .int .u8 (o.s 3), .int .u8 (o.s 4), .int .u8 (o.s 5), .int .u8 (o.s 6), .int .u8 (o.s 7), .int .u8 (o.s 8), .int .u8 (o.s 9), .int .u8 (o.s 10), .int .u8 (o.s 11), .int .u8 (o.s 12), .int .u8 (o.s 13), .int .u8 (o.s 14), .int .u8 (o.s 15)]), (20, .pointer (some ⟨b5, 20, none⟩)), (19, .bool true), (18, .bool true), (17, .bool true), (16, .int .u32 o.tg), (15, .pointer (some ⟨b4, 3, none⟩)), (14, .int .u32 o.tg), (13, .pointer (some ⟨b5, 3, none⟩)), (12, .bool true), (11, .bool true), (10, .bool true), (9, .bool false), (8, .pointer (some ⟨b5, 2, none⟩)), (7, .bool true), (6, .bool true), (5, .bool true), (4, .pointer (some ⟨b4, 2, none⟩)), (3, .bool true), (2, .bool true), (1, .int .i64 o.k), (0, .pointer (some ⟨b4, 0, none⟩))]) (by kernel_rfl) ?_
  have hg5 : (plEq here here) = true := (plEq_refl _)
  refine VT_eq [(32, .bool true), (31, .bool true), (30, .bool true), (29, .agg #[.int .u8 (here 0), .int .u8 (here 1), .int .u8 (here 2), .int .u8 (here 3), .int .u8 (here 4), .int .u8 (here 5), .int .u8 (here 6), .int .u8 (here 7), .int .u8 (here 8), .int .u8 (here 9), .int .u8 (here 10), .int .u8 (here 11), .int .u8 (here 12), .int .u8 (here 13), .int .u8 (here 14), .int .u8 (here 15)]), (28, .agg #[.int .u8 (here 0), .int .u8 (here 1), .int .u8 (here 2), .int .u8 (here 3), .int .u8 (here 4), .int .u8 (here 5), .int .u8 (here 6), .int .u8 (here 7), .int .u8 (here 8), .int .u8 (here 9), .int .u8 (here 10), .int .u8 (here 11), .int .u8 (here 12), .int .u8 (here 13), .int .u8 (here 14), .int .u8 (here 15)]), (27, .pointer (some ⟨b5, 4, none⟩)), (26, .bool true), (25, .bool true), (24, .bool true), (23, .agg #[.int .u8 (o.s 0), .int .u8 (o.s 1), .int .u8 (o.s 2), .int .u8 (o.s 3), .int .u8 (o.s 4), .int .u8 (o.s 5), .int .u8 (o.s 6), .int .u8 (o.s 7), .int .u8 (o.s 8), .int .u8 (o.s 9), .int .u8 (o.s 10), .int .u8 (o.s 11), .int .u8 (o.s 12), .int .u8 (o.s 13), .int .u8 (o.s 14), .int .u8 (o.s 15)]), (22, .pointer (some ⟨b4, 20, none⟩)), (21, .agg #[.int .u8 (o.s 0), .int .u8 (o.s 1), .int .u8 (o.s 2), .int .u8 (o.s 3), .int .u8 (o.s 4), .int .u8 (o.s 5), .int .u8 (o.s 6), .int .u8 (o.s 7), .int .u8 (o.s 8), .int .u8 (o.s 9), .int .u8 (o.s 10), .int .u8 (o.s 11), .int .u8 (o.s 12), .int .u8 (o.s 13), .int .u8 (o.s 14), .int .u8 (o.s 15)]), (20, .pointer (some ⟨b5, 20, none⟩)), (19, .bool true), (18, .bool true), (17, .bool true), (16, .int .u32 o.tg), (15, .pointer (some ⟨b4, 3, none⟩)), (14, .int .u32 o.tg), (13, .pointer (some ⟨b5, 3, none⟩)), (12, .bool true), (11, .bool true), (10, .bool true), (9, .bool false), (8, .pointer (some ⟨b5, 2, none⟩)), (7, .bool true), (6, .bool true), (5, .bool true), (4, .pointer (some ⟨b4, 2, none⟩)), (3, .bool true), (2, .bool true), (1, .int .i64 o.k), (0, .pointer (some ⟨b4, 0, none⟩))] (by simp only [hg5, Bool.not_true, Bool.not_false]) ?_
  refine VT_pures 4 (kn' := [(36, .bool true), (35, .bool true), (34, .bool true), (33, .bool false), (32, .bool true), (31, .bool true), (30, .bool true), (29, .agg #[.int .u8 (here 0), .int .u8 (here 1), .int .u8 (here 2), .int .u8 (here 3), .int .u8 (here 4), .int .u8 (here 5), .int .u8 (here 6), .int .u8 (here 7), .int .u8 (here 8), .int .u8 (here 9), .int .u8 (here 10), .int .u8 (here 11), .int .u8 (here 12), .int .u8 (here 13), .int .u8 (here 14), .int .u8 (here 15)]), (28, .agg #[.int .u8 (here 0), .int .u8 (here 1), .int .u8 (here 2), .int .u8 (here 3), .int .u8 (here 4), .int .u8 (here 5), .int .u8 (here 6), .int .u8 (here 7), .int .u8 (here 8), .int .u8 (here 9), .int .u8 (here 10), .int .u8 (here 11), .int .u8 (here 12), .int .u8 (here 13), .int .u8 (here 14), .int .u8 (here 15)]), (27, .pointer (some ⟨b5, 4, none⟩)), (26, .bool true), (25, .bool true), (24, .bool true), (23, .agg #[.int .u8 (o.s 0), .int .u8 (o.s 1), .int .u8 (o.s 2), .int .u8 (o.s 3), .int .u8 (o.s 4), .int .u8 (o.s 5), .int .u8 (o.s 6), .int .u8 (o.s 7), .int .u8 (o.s 8), .int .u8 (o.s 9), .int .u8 (o.s 10), .int .u8 (o.s 11), .int .u8 (o.s 12), .int .u8 (o.s 13), .int .u8 (o.s 14), .int .u8 (o.s 15)]), (22, .pointer (some ⟨b4, 20, none⟩)), (21, .agg #[.int .u8 (o.s 0), .int .u8 (o.s 1), .int .u8 (o.s 2), .int .u8 (o.s 3), .int .u8 (o.s 4), .int .u8 (o.s 5), .int .u8 (o.s 6), .int .u8 (o.s 7), .int .u8 (o.s 8), .int .u8 (o.s 9), .int .u8 (o.s 10), .int .u8 (o.s 11), .int .u8 (o.s 12), .int .u8 (o.s 13), .int .u8 (o.s 14), .int .u8 (o.s 15)]), (20, .pointer (some ⟨b5, 20, none⟩)), (19, .bool true), (18, .bool true), (17, .bool true), (16, .int .u32 o.tg), (15, .pointer (some ⟨b4, 3, none⟩)), (14, .int .u32 o.tg), (13, .pointer (some ⟨b5, 3, none⟩)), (12, .bool true), (11, .bool true), (10, .bool true), (9, .bool false), (8, .pointer (some ⟨b5, 2, none⟩)), (7, .bool true), (6, .bool true), (5, .bool true), (4, .pointer (some ⟨b4, 2, none⟩)), (3, .bool true), (2, .bool true), (1, .int .i64 o.k), (0, .pointer (some ⟨b4, 0, none⟩))]) (by kernel_rfl) ?_
  refine VT_load (d := 69) (t := 31) (a := ⟨b6, 0, none⟩) (v := .agg #[.int .i64 zeroO.k, .int .u8 zeroO.d, .bool zeroO.a, .int .u32 zeroO.tg, .int .u8 (zeroO.p 0), .int .u8 (zeroO.p 1), .int .u8 (zeroO.p 2), .int .u8 (zeroO.p 3), .int .u8 (zeroO.p 4), .int .u8 (zeroO.p 5), .int .u8 (zeroO.p 6), .int .u8 (zeroO.p 7), .int .u8 (zeroO.p 8), .int .u8 (zeroO.p 9), .int .u8 (zeroO.p 10), .int .u8 (zeroO.p 11), .int .u8 (zeroO.p 12), .int .u8 (zeroO.p 13), .int .u8 (zeroO.p 14), .int .u8 (zeroO.p 15), .int .u8 (zeroO.s 0), .int .u8 (zeroO.s 1), .int .u8 (zeroO.s 2), .int .u8 (zeroO.s 3), .int .u8 (zeroO.s 4), .int .u8 (zeroO.s 5), .int .u8 (zeroO.s 6), .int .u8 (zeroO.s 7), .int .u8 (zeroO.s 8), .int .u8 (zeroO.s 9), .int .u8 (zeroO.s 10), .int .u8 (zeroO.s 11), .int .u8 (zeroO.s 12), .int .u8 (zeroO.s 13), .int .u8 (zeroO.s 14), .int .u8 (zeroO.s 15)]) (by kernel_rfl) (by kernel_rfl) ?_ ?_
  · intro w23 hr10
    replace hS := Step.transNew hS hr10 (fun i hi hG => by (try simp only at hG); omega)
    replace ho1 := ho1.step hr10 (by (try simp only); omega)
    replace ho2 := ho2.step hr10 (by (try simp only); omega)
    replace ho3 := ho3.step hr10 (by (try simp only); omega)
    replace ho5 := ho5.step hr10 (by (try simp only); omega)
    replace ho7 := ho7.step hr10 (by (try simp only); omega)
    replace ho9 := ho9.step hr10 (by (try simp only); omega)
    exact (Loads.ownL ho9 (n := 36) (by kernel_rfl) (by kernel_rfl) (by kernel_rfl))
  refine VT_pures 1 (kn' := [(38, .agg #[.int .i64 0, .int .u8 0, .bool false, .int .u32 0, .int .u8 0, .int .u8 0, .int .u8 0, .int .u8 0, .int .u8 0, .int .u8 0, .int .u8 0, .int .u8 0, .int .u8 0, .int .u8 0, .int .u8 0, .int .u8 0, .int .u8 0, .int .u8 0, .int .u8 0, .int .u8 0, .int .u8 0, .int .u8 0, .int .u8 0, .int .u8 0, .int .u8 0, .int .u8 0, .int .u8 0, .int .u8 0, .int .u8 0, .int .u8 0, .int .u8 0, .int .u8 0, .int .u8 0, .int .u8 0, .int .u8 0, .int .u8 0]), (37, .agg #[.int .i64 zeroO.k, .int .u8 zeroO.d, .bool zeroO.a, .int .u32 zeroO.tg, .int .u8 (zeroO.p 0), .int .u8 (zeroO.p 1), .int .u8 (zeroO.p 2), .int .u8 (zeroO.p 3), .int .u8 (zeroO.p 4), .int .u8 (zeroO.p 5), .int .u8 (zeroO.p 6), .int .u8 (zeroO.p 7), .int .u8 (zeroO.p 8), .int .u8 (zeroO.p 9), .int .u8 (zeroO.p 10), .int .u8 (zeroO.p 11), .int .u8 (zeroO.p 12), .int .u8 (zeroO.p 13), .int .u8 (zeroO.p 14), .int .u8 (zeroO.p 15), .int .u8 (zeroO.s 0), .int .u8 (zeroO.s 1), .int .u8 (zeroO.s 2), .int .u8 (zeroO.s 3), .int .u8 (zeroO.s 4), .int .u8 (zeroO.s 5), .int .u8 (zeroO.s 6), .int .u8 (zeroO.s 7), .int .u8 (zeroO.s 8), .int .u8 (zeroO.s 9), .int .u8 (zeroO.s 10), .int .u8 (zeroO.s 11), .int .u8 (zeroO.s 12), .int .u8 (zeroO.s 13), .int .u8 (zeroO.s 14), .int .u8 (zeroO.s 15)]), (36, .bool true), (35, .bool true), (34, .bool true), (33, .bool false), (32, .bool true), (31, .bool true), (30, .bool true), (29, .agg #[.int .u8 (here 0), .int .u8 (here 1), .int .u8 (here 2), .int .u8 (here 3), .int .u8 (here 4), .int .u8 (here 5), .int .u8 (here 6), .int .u8 (here 7), .int .u8 (here 8), .int .u8 (here 9), .int .u8 (here 10), .int .u8 (here 11), .int .u8 (here 12), .int .u8 (here 13), .int .u8 (here 14), .int .u8 (here 15)]), (28, .agg #[.int .u8 (here 0), .int .u8 (here 1), .int .u8 (here 2), .int .u8 (here 3), .int .u8 (here 4), .int .u8 (here 5), .int .u8 (here 6), .int .u8 (here 7), .int .u8 (here 8), .int .u8 (here 9), .int .u8 (here 10), .int .u8 (here 11), .int .u8 (here 12), .int .u8 (here 13), .int .u8 (here 14), .int .u8 (here 15)]), (27, .pointer (some ⟨b5, 4, none⟩)), (26, .bool true), (25, .bool true), (24, .bool true), (23, .agg #[.int .u8 (o.s 0), .int .u8 (o.s 1), .int .u8 (o.s 2), .int .u8 (o.s 3), .int .u8 (o.s 4), .int .u8 (o.s 5), .int .u8 (o.s 6), .int .u8 (o.s 7), .int .u8 (o.s 8), .int .u8 (o.s 9), .int .u8 (o.s 10), .int .u8 (o.s 11), .int .u8 (o.s 12), .int .u8 (o.s 13), .int .u8 (o.s 14), .int .u8 (o.s 15)]), (22, .pointer (some ⟨b4, 20, none⟩)), (21, .agg #[.int .u8 (o.s 0), .int .u8 (o.s 1), .int .u8 (o.s 2), .int .u8 (o.s 3), .int .u8 (o.s 4), .int .u8 (o.s 5), .int .u8 (o.s 6), .int .u8 (o.s 7), .int .u8 (o.s 8), .int .u8 (o.s 9), .int .u8 (o.s 10), .int .u8 (o.s 11), .int .u8 (o.s 12), .int .u8 (o.s 13), .int .u8 (o.s 14), .int .u8 (o.s 15)]), (20, .pointer (some ⟨b5, 20, none⟩)), (19, .bool true), (18, .bool true), (17, .bool true), (16, .int .u32 o.tg), (15, .pointer (some ⟨b4, 3, none⟩)), (14, .int .u32 o.tg), (13, .pointer (some ⟨b5, 3, none⟩)), (12, .bool true), (11, .bool true), (10, .bool true), (9, .bool false), (8, .pointer (some ⟨b5, 2, none⟩)), (7, .bool true), (6, .bool true), (5, .bool true), (4, .pointer (some ⟨b4, 2, none⟩)), (3, .bool true), (2, .bool true), (1, .int .i64 o.k), (0, .pointer (some ⟨b4, 0, none⟩))]) (by kernel_rfl) ?_
  refine VT_agEq (d := 71) (dd := 9) (ls := ([.int .i64] ++ [.int .u8] ++ [.bool] ++ [.int .u32] ++ (rep 16 [.int .u8]) ++ (rep 16 [.int .u8]) ++ [])) (pos := true) (t := 31) (xs := #[.int .i64 zeroO.k, .int .u8 zeroO.d, .bool zeroO.a, .int .u32 zeroO.tg, .int .u8 (zeroO.p 0), .int .u8 (zeroO.p 1), .int .u8 (zeroO.p 2), .int .u8 (zeroO.p 3), .int .u8 (zeroO.p 4), .int .u8 (zeroO.p 5), .int .u8 (zeroO.p 6), .int .u8 (zeroO.p 7), .int .u8 (zeroO.p 8), .int .u8 (zeroO.p 9), .int .u8 (zeroO.p 10), .int .u8 (zeroO.p 11), .int .u8 (zeroO.p 12), .int .u8 (zeroO.p 13), .int .u8 (zeroO.p 14), .int .u8 (zeroO.p 15), .int .u8 (zeroO.s 0), .int .u8 (zeroO.s 1), .int .u8 (zeroO.s 2), .int .u8 (zeroO.s 3), .int .u8 (zeroO.s 4), .int .u8 (zeroO.s 5), .int .u8 (zeroO.s 6), .int .u8 (zeroO.s 7), .int .u8 (zeroO.s 8), .int .u8 (zeroO.s 9), .int .u8 (zeroO.s 10), .int .u8 (zeroO.s 11), .int .u8 (zeroO.s 12), .int .u8 (zeroO.s 13), .int .u8 (zeroO.s 14), .int .u8 (zeroO.s 15)]) (ys := #[.int .i64 0, .int .u8 0, .bool false, .int .u32 0, .int .u8 0, .int .u8 0, .int .u8 0, .int .u8 0, .int .u8 0, .int .u8 0, .int .u8 0, .int .u8 0, .int .u8 0, .int .u8 0, .int .u8 0, .int .u8 0, .int .u8 0, .int .u8 0, .int .u8 0, .int .u8 0, .int .u8 0, .int .u8 0, .int .u8 0, .int .u8 0, .int .u8 0, .int .u8 0, .int .u8 0, .int .u8 0, .int .u8 0, .int .u8 0, .int .u8 0, .int .u8 0, .int .u8 0, .int .u8 0, .int .u8 0, .int .u8 0]) (by kernel_rfl) (by kernel_rfl) (by kernel_rfl) (by kernel_rfl) (by first | exact ⟨⟨_, rfl⟩, ⟨_, rfl⟩, ⟨_, rfl⟩, ⟨_, rfl⟩, ⟨_, rfl⟩, ⟨_, rfl⟩, ⟨_, rfl⟩, ⟨_, rfl⟩, ⟨_, rfl⟩, ⟨_, rfl⟩, ⟨_, rfl⟩, ⟨_, rfl⟩, ⟨_, rfl⟩, ⟨_, rfl⟩, ⟨_, rfl⟩, ⟨_, rfl⟩, ⟨_, rfl⟩, ⟨_, rfl⟩, ⟨_, rfl⟩, ⟨_, rfl⟩, ⟨_, rfl⟩, ⟨_, rfl⟩, ⟨_, rfl⟩, ⟨_, rfl⟩, ⟨_, rfl⟩, ⟨_, rfl⟩, ⟨_, rfl⟩, ⟨_, rfl⟩, ⟨_, rfl⟩, ⟨_, rfl⟩, ⟨_, rfl⟩, ⟨_, rfl⟩, ⟨_, rfl⟩, ⟨_, rfl⟩, ⟨_, rfl⟩, ⟨_, rfl⟩, trivial⟩ | trivial) (by first | exact ⟨⟨_, rfl⟩, ⟨_, rfl⟩, ⟨_, rfl⟩, ⟨_, rfl⟩, ⟨_, rfl⟩, ⟨_, rfl⟩, ⟨_, rfl⟩, ⟨_, rfl⟩, ⟨_, rfl⟩, ⟨_, rfl⟩, ⟨_, rfl⟩, ⟨_, rfl⟩, ⟨_, rfl⟩, ⟨_, rfl⟩, ⟨_, rfl⟩, ⟨_, rfl⟩, ⟨_, rfl⟩, ⟨_, rfl⟩, ⟨_, rfl⟩, ⟨_, rfl⟩, ⟨_, rfl⟩, ⟨_, rfl⟩, ⟨_, rfl⟩, ⟨_, rfl⟩, ⟨_, rfl⟩, ⟨_, rfl⟩, ⟨_, rfl⟩, ⟨_, rfl⟩, ⟨_, rfl⟩, ⟨_, rfl⟩, ⟨_, rfl⟩, ⟨_, rfl⟩, ⟨_, rfl⟩, ⟨_, rfl⟩, ⟨_, rfl⟩, ⟨_, rfl⟩, trivial⟩ | trivial) (omEq zeroO (⟨0, 0, false, 0, zp, zp⟩ : Om)) (by rfl) ?_
  refine VT_pures 2 (kn' := [(41, .bool (omEq zeroO (⟨0, 0, false, 0, zp, zp⟩ : Om))), (40, .bool (omEq zeroO (⟨0, 0, false, 0, zp, zp⟩ : Om))), (39, .bool (omEq zeroO (⟨0, 0, false, 0, zp, zp⟩ : Om))), (38, .agg #[.int .i64 0, .int .u8 0, .bool false, .int .u32 0, .int .u8 0, .int .u8 0, .int .u8 0, .int .u8 0, .int .u8 0, .int .u8 0, .int .u8 0, .int .u8 0, .int .u8 0, .int .u8 0, .int .u8 0, .int .u8 0, .int .u8 0, .int .u8 0, .int .u8 0, .int .u8 0, .int .u8 0, .int .u8 0, .int .u8 0, .int .u8 0, .int .u8 0, .int .u8 0, .int .u8 0, .int .u8 0, .int .u8 0, .int .u8 0, .int .u8 0, .int .u8 0, .int .u8 0, .int .u8 0, .int .u8 0, .int .u8 0]), (37, .agg #[.int .i64 zeroO.k, .int .u8 zeroO.d, .bool zeroO.a, .int .u32 zeroO.tg, .int .u8 (zeroO.p 0), .int .u8 (zeroO.p 1), .int .u8 (zeroO.p 2), .int .u8 (zeroO.p 3), .int .u8 (zeroO.p 4), .int .u8 (zeroO.p 5), .int .u8 (zeroO.p 6), .int .u8 (zeroO.p 7), .int .u8 (zeroO.p 8), .int .u8 (zeroO.p 9), .int .u8 (zeroO.p 10), .int .u8 (zeroO.p 11), .int .u8 (zeroO.p 12), .int .u8 (zeroO.p 13), .int .u8 (zeroO.p 14), .int .u8 (zeroO.p 15), .int .u8 (zeroO.s 0), .int .u8 (zeroO.s 1), .int .u8 (zeroO.s 2), .int .u8 (zeroO.s 3), .int .u8 (zeroO.s 4), .int .u8 (zeroO.s 5), .int .u8 (zeroO.s 6), .int .u8 (zeroO.s 7), .int .u8 (zeroO.s 8), .int .u8 (zeroO.s 9), .int .u8 (zeroO.s 10), .int .u8 (zeroO.s 11), .int .u8 (zeroO.s 12), .int .u8 (zeroO.s 13), .int .u8 (zeroO.s 14), .int .u8 (zeroO.s 15)]), (36, .bool true), (35, .bool true), (34, .bool true), (33, .bool false), (32, .bool true), (31, .bool true), (30, .bool true), (29, .agg #[.int .u8 (here 0), .int .u8 (here 1), .int .u8 (here 2), .int .u8 (here 3), .int .u8 (here 4), .int .u8 (here 5), .int .u8 (here 6), .int .u8 (here 7), .int .u8 (here 8), .int .u8 (here 9), .int .u8 (here 10), .int .u8 (here 11), .int .u8 (here 12), .int .u8 (here 13), .int .u8 (here 14), .int .u8 (here 15)]), (28, .agg #[.int .u8 (here 0), .int .u8 (here 1), .int .u8 (here 2), .int .u8 (here 3), .int .u8 (here 4), .int .u8 (here 5), .int .u8 (here 6), .int .u8 (here 7), .int .u8 (here 8), .int .u8 (here 9), .int .u8 (here 10), .int .u8 (here 11), .int .u8 (here 12), .int .u8 (here 13), .int .u8 (here 14), .int .u8 (here 15)]), (27, .pointer (some ⟨b5, 4, none⟩)), (26, .bool true), (25, .bool true), (24, .bool true), (23, .agg #[.int .u8 (o.s 0), .int .u8 (o.s 1), .int .u8 (o.s 2), .int .u8 (o.s 3), .int .u8 (o.s 4), .int .u8 (o.s 5), .int .u8 (o.s 6), .int .u8 (o.s 7), .int .u8 (o.s 8), .int .u8 (o.s 9), .int .u8 (o.s 10), .int .u8 (o.s 11), .int .u8 (o.s 12), .int .u8 (o.s 13), .int .u8 (o.s 14), .int .u8 (o.s 15)]), (22, .pointer (some ⟨b4, 20, none⟩)), (21, .agg #[.int .u8 (o.s 0), .int .u8 (o.s 1), .int .u8 (o.s 2), .int .u8 (o.s 3), .int .u8 (o.s 4), .int .u8 (o.s 5), .int .u8 (o.s 6), .int .u8 (o.s 7), .int .u8 (o.s 8), .int .u8 (o.s 9), .int .u8 (o.s 10), .int .u8 (o.s 11), .int .u8 (o.s 12), .int .u8 (o.s 13), .int .u8 (o.s 14), .int .u8 (o.s 15)]), (20, .pointer (some ⟨b5, 20, none⟩)), (19, .bool true), (18, .bool true), (17, .bool true), (16, .int .u32 o.tg), (15, .pointer (some ⟨b4, 3, none⟩)), (14, .int .u32 o.tg), (13, .pointer (some ⟨b5, 3, none⟩)), (12, .bool true), (11, .bool true), (10, .bool true), (9, .bool false), (8, .pointer (some ⟨b5, 2, none⟩)), (7, .bool true), (6, .bool true), (5, .bool true), (4, .pointer (some ⟨b4, 2, none⟩)), (3, .bool true), (2, .bool true), (1, .int .i64 o.k), (0, .pointer (some ⟨b4, 0, none⟩))]) (by kernel_rfl) ?_
  have hg6 : (omEq zeroO (⟨0, 0, false, 0, zp, zp⟩ : Om)) = true := (by exact (omEq_iff _ _).2 rfl)
  refine VT_eq [(41, .bool true), (40, .bool true), (39, .bool true), (38, .agg #[.int .i64 0, .int .u8 0, .bool false, .int .u32 0, .int .u8 0, .int .u8 0, .int .u8 0, .int .u8 0, .int .u8 0, .int .u8 0, .int .u8 0, .int .u8 0, .int .u8 0, .int .u8 0, .int .u8 0, .int .u8 0, .int .u8 0, .int .u8 0, .int .u8 0, .int .u8 0, .int .u8 0, .int .u8 0, .int .u8 0, .int .u8 0, .int .u8 0, .int .u8 0, .int .u8 0, .int .u8 0, .int .u8 0, .int .u8 0, .int .u8 0, .int .u8 0, .int .u8 0, .int .u8 0, .int .u8 0, .int .u8 0]), (37, .agg #[.int .i64 zeroO.k, .int .u8 zeroO.d, .bool zeroO.a, .int .u32 zeroO.tg, .int .u8 (zeroO.p 0), .int .u8 (zeroO.p 1), .int .u8 (zeroO.p 2), .int .u8 (zeroO.p 3), .int .u8 (zeroO.p 4), .int .u8 (zeroO.p 5), .int .u8 (zeroO.p 6), .int .u8 (zeroO.p 7), .int .u8 (zeroO.p 8), .int .u8 (zeroO.p 9), .int .u8 (zeroO.p 10), .int .u8 (zeroO.p 11), .int .u8 (zeroO.p 12), .int .u8 (zeroO.p 13), .int .u8 (zeroO.p 14), .int .u8 (zeroO.p 15), .int .u8 (zeroO.s 0), .int .u8 (zeroO.s 1), .int .u8 (zeroO.s 2), .int .u8 (zeroO.s 3), .int .u8 (zeroO.s 4), .int .u8 (zeroO.s 5), .int .u8 (zeroO.s 6), .int .u8 (zeroO.s 7), .int .u8 (zeroO.s 8), .int .u8 (zeroO.s 9), .int .u8 (zeroO.s 10), .int .u8 (zeroO.s 11), .int .u8 (zeroO.s 12), .int .u8 (zeroO.s 13), .int .u8 (zeroO.s 14), .int .u8 (zeroO.s 15)]), (36, .bool true), (35, .bool true), (34, .bool true), (33, .bool false), (32, .bool true), (31, .bool true), (30, .bool true), (29, .agg #[.int .u8 (here 0), .int .u8 (here 1), .int .u8 (here 2), .int .u8 (here 3), .int .u8 (here 4), .int .u8 (here 5), .int .u8 (here 6), .int .u8 (here 7), .int .u8 (here 8), .int .u8 (here 9), .int .u8 (here 10), .int .u8 (here 11), .int .u8 (here 12), .int .u8 (here 13), .int .u8 (here 14), .int .u8 (here 15)]), (28, .agg #[.int .u8 (here 0), .int .u8 (here 1), .int .u8 (here 2), .int .u8 (here 3), .int .u8 (here 4), .int .u8 (here 5), .int .u8 (here 6), .int .u8 (here 7), .int .u8 (here 8), .int .u8 (here 9), .int .u8 (here 10), .int .u8 (here 11), .int .u8 (here 12), .int .u8 (here 13), .int .u8 (here 14), .int .u8 (here 15)]), (27, .pointer (some ⟨b5, 4, none⟩)), (26, .bool true), (25, .bool true), (24, .bool true), (23, .agg #[.int .u8 (o.s 0), .int .u8 (o.s 1), .int .u8 (o.s 2), .int .u8 (o.s 3), .int .u8 (o.s 4), .int .u8 (o.s 5), .int .u8 (o.s 6), .int .u8 (o.s 7), .int .u8 (o.s 8), .int .u8 (o.s 9), .int .u8 (o.s 10), .int .u8 (o.s 11), .int .u8 (o.s 12), .int .u8 (o.s 13), .int .u8 (o.s 14), .int .u8 (o.s 15)]), (22, .pointer (some ⟨b4, 20, none⟩)), (21, .agg #[.int .u8 (o.s 0), .int .u8 (o.s 1), .int .u8 (o.s 2), .int .u8 (o.s 3), .int .u8 (o.s 4), .int .u8 (o.s 5), .int .u8 (o.s 6), .int .u8 (o.s 7), .int .u8 (o.s 8), .int .u8 (o.s 9), .int .u8 (o.s 10), .int .u8 (o.s 11), .int .u8 (o.s 12), .int .u8 (o.s 13), .int .u8 (o.s 14), .int .u8 (o.s 15)]), (20, .pointer (some ⟨b5, 20, none⟩)), (19, .bool true), (18, .bool true), (17, .bool true), (16, .int .u32 o.tg), (15, .pointer (some ⟨b4, 3, none⟩)), (14, .int .u32 o.tg), (13, .pointer (some ⟨b5, 3, none⟩)), (12, .bool true), (11, .bool true), (10, .bool true), (9, .bool false), (8, .pointer (some ⟨b5, 2, none⟩)), (7, .bool true), (6, .bool true), (5, .bool true), (4, .pointer (some ⟨b4, 2, none⟩)), (3, .bool true), (2, .bool true), (1, .int .i64 o.k), (0, .pointer (some ⟨b4, 0, none⟩))] (by simp only [hg6, Bool.not_true, Bool.not_false]) ?_
  refine VT_load (d := 74) (t := 31) (a := ⟨b5, 0, none⟩) (v := .agg #[.int .i64 o.k, .int .u8 o.d, .bool false, .int .u32 o.tg, .int .u8 (here 0), .int .u8 (here 1), .int .u8 (here 2), .int .u8 (here 3), .int .u8 (here 4), .int .u8 (here 5), .int .u8 (here 6), .int .u8 (here 7), .int .u8 (here 8), .int .u8 (here 9), .int .u8 (here 10), .int .u8 (here 11), .int .u8 (here 12), .int .u8 (here 13), .int .u8 (here 14), .int .u8 (here 15), .int .u8 (o.s 0), .int .u8 (o.s 1), .int .u8 (o.s 2), .int .u8 (o.s 3), .int .u8 (o.s 4), .int .u8 (o.s 5), .int .u8 (o.s 6), .int .u8 (o.s 7), .int .u8 (o.s 8), .int .u8 (o.s 9), .int .u8 (o.s 10), .int .u8 (o.s 11), .int .u8 (o.s 12), .int .u8 (o.s 13), .int .u8 (o.s 14), .int .u8 (o.s 15)]) (by kernel_rfl) (by kernel_rfl) ?_ ?_
  · intro w24 hr11
    replace hS := Step.transNew hS hr11 (fun i hi hG => by (try simp only at hG); omega)
    replace ho1 := ho1.step hr11 (by (try simp only); omega)
    replace ho2 := ho2.step hr11 (by (try simp only); omega)
    replace ho3 := ho3.step hr11 (by (try simp only); omega)
    replace ho5 := ho5.step hr11 (by (try simp only); omega)
    replace ho7 := ho7.step hr11 (by (try simp only); omega)
    replace ho9 := ho9.step hr11 (by (try simp only); omega)
    exact (Loads.ownL ho7 (n := 36) (by kernel_rfl) (by kernel_rfl) (by kernel_rfl))
  refine VT_load (d := 76) (t := 31) (a := ⟨b4, 0, none⟩) (v := .agg #[.int .i64 o.k, .int .u8 o.d, .bool o.a, .int .u32 o.tg, .int .u8 (o.p 0), .int .u8 (o.p 1), .int .u8 (o.p 2), .int .u8 (o.p 3), .int .u8 (o.p 4), .int .u8 (o.p 5), .int .u8 (o.p 6), .int .u8 (o.p 7), .int .u8 (o.p 8), .int .u8 (o.p 9), .int .u8 (o.p 10), .int .u8 (o.p 11), .int .u8 (o.p 12), .int .u8 (o.p 13), .int .u8 (o.p 14), .int .u8 (o.p 15), .int .u8 (o.s 0), .int .u8 (o.s 1), .int .u8 (o.s 2), .int .u8 (o.s 3), .int .u8 (o.s 4), .int .u8 (o.s 5), .int .u8 (o.s 6), .int .u8 (o.s 7), .int .u8 (o.s 8), .int .u8 (o.s 9), .int .u8 (o.s 10), .int .u8 (o.s 11), .int .u8 (o.s 12), .int .u8 (o.s 13), .int .u8 (o.s 14), .int .u8 (o.s 15)]) (by kernel_rfl) (by kernel_rfl) ?_ ?_
  · intro w25 hr12
    replace hS := Step.transNew hS hr12 (fun i hi hG => by (try simp only at hG); omega)
    replace ho1 := ho1.step hr12 (by (try simp only); omega)
    replace ho2 := ho2.step hr12 (by (try simp only); omega)
    replace ho3 := ho3.step hr12 (by (try simp only); omega)
    replace ho5 := ho5.step hr12 (by (try simp only); omega)
    replace ho7 := ho7.step hr12 (by (try simp only); omega)
    replace ho9 := ho9.step hr12 (by (try simp only); omega)
    exact (Loads.ownL ho5 (n := 36) (by kernel_rfl) (by kernel_rfl) (by kernel_rfl))
  refine VT_chain (by kernel_rfl) ?_
  intro w26 hs2
  have hzhs2 := hs2.size
  replace hS := Step.trans hS hs2
  replace ho1 := ho1.no hs2
  replace ho2 := ho2.no hs2
  replace ho3 := ho3.no hs2
  replace ho5 := ho5.no hs2
  replace ho7 := ho7.no hs2
  replace ho9 := ho9.no hs2
  have hzs11 := hS.size
  have hzl34 := ho1.lt
  have hzl35 := ho2.lt
  have hzl36 := ho3.lt
  have hzl37 := ho5.lt
  have hzl38 := ho7.lt
  have hzl39 := ho9.lt
  refine VTc_call (d := 75) (f := 14) (by kernel_rfl) (by kernel_rfl) (by kernel_rfl) Try.call14 (CV.val (v' := .bool (rightO o)) (right_any (⟨o.k, o.d, false, o.tg, here, o.s⟩ : Om) _) (by rw [right_reply (reply_k hr).1])) ?_ ?_
  · rintro _ w27 ⟨rfl, hc4⟩
    exact Step.mono hc4 (by intro i hi; first | exact hi.elim | ((try simp only at hi ⊢); omega))
  rintro _ w27 ⟨rfl, hc4⟩
  have hzhc4 := (hc4).size
  replace hS := Step.trans hS hc4
  replace ho1 := ho1.no hc4
  replace ho2 := ho2.no hc4
  replace ho3 := ho3.no hc4
  replace ho5 := ho5.no hc4
  replace ho7 := ho7.no hc4
  replace ho9 := ho9.no hc4
  refine VT_end ?_
  intro w28 hs3
  replace hS := Step.trans hS hs3
  replace ho1 := ho1.no hs3
  replace ho2 := ho2.no hs3
  replace ho3 := ho3.no hs3
  replace ho5 := ho5.no hs3
  replace ho7 := ho7.no hs3
  replace ho9 := ho9.no hs3
  refine VL_keep [73, 76, 75] [(73, .bool true), (76, .agg #[.int .i64 o.k, .int .u8 o.d, .bool o.a, .int .u32 o.tg, .int .u8 (o.p 0), .int .u8 (o.p 1), .int .u8 (o.p 2), .int .u8 (o.p 3), .int .u8 (o.p 4), .int .u8 (o.p 5), .int .u8 (o.p 6), .int .u8 (o.p 7), .int .u8 (o.p 8), .int .u8 (o.p 9), .int .u8 (o.p 10), .int .u8 (o.p 11), .int .u8 (o.p 12), .int .u8 (o.p 13), .int .u8 (o.p 14), .int .u8 (o.p 15), .int .u8 (o.s 0), .int .u8 (o.s 1), .int .u8 (o.s 2), .int .u8 (o.s 3), .int .u8 (o.s 4), .int .u8 (o.s 5), .int .u8 (o.s 6), .int .u8 (o.s 7), .int .u8 (o.s 8), .int .u8 (o.s 9), .int .u8 (o.s 10), .int .u8 (o.s 11), .int .u8 (o.s 12), .int .u8 (o.s 13), .int .u8 (o.s 14), .int .u8 (o.s 15)]), (75, .bool (rightO o))] (by kernel_rfl) ?_
  have hzs12 := hS.size
  have hzl40 := ho1.lt
  have hzl41 := ho2.lt
  have hzl42 := ho3.lt
  have hzl43 := ho5.lt
  have hzl44 := ho7.lt
  have hzl45 := ho9.lt
  refine VL_call (d := 77) (f := 14) (by kernel_rfl) (by kernel_rfl) (by kernel_rfl) Try.call14 (right_any o _) ?_
  rintro _ w29 ⟨rfl, hc5⟩
  replace hS := Step.trans hS hc5
  replace ho1 := ho1.no hc5
  replace ho2 := ho2.no hc5
  replace ho3 := ho3.no hc5
  replace ho5 := ho5.no hc5
  replace ho7 := ho7.no hc5
  replace ho9 := ho9.no hc5
  refine VL_pure 49 [6] [(6, .bool ((rightO o) == (rightO o)))] (by kernel_rfl) rfl ?_
  refine VL_end (by kernel_rfl) ?_
  refine VQ_next ?_
  refine VC_ret ?_
  refine VQ_ret1 (.bool ((rightO o) == (rightO o))) (.inr rfl) rfl rfl ?_
  exact ⟨by first | rfl | exact congrArg Value.bool ((omEq_iff _ _).2 rfl) | simp, hS⟩

set_option maxRecDepth 100000 in
set_option maxHeartbeats 4000000 in
theorem once_no (o : Om) (here there : Nat → Int) (w : World) (hoA : OmOk o) (hh : inByte here) (hr : replyB o here = false) :
    CV Try.prog 8 #[.agg #[.int .i64 o.k, .int .u8 o.d, .bool o.a, .int .u32 o.tg, .int .u8 (o.p 0), .int .u8 (o.p 1), .int .u8 (o.p 2), .int .u8 (o.p 3), .int .u8 (o.p 4), .int .u8 (o.p 5), .int .u8 (o.p 6), .int .u8 (o.p 7), .int .u8 (o.p 8), .int .u8 (o.p 9), .int .u8 (o.p 10), .int .u8 (o.p 11), .int .u8 (o.p 12), .int .u8 (o.p 13), .int .u8 (o.p 14), .int .u8 (o.p 15), .int .u8 (o.s 0), .int .u8 (o.s 1), .int .u8 (o.s 2), .int .u8 (o.s 3), .int .u8 (o.s 4), .int .u8 (o.s 5), .int .u8 (o.s 6), .int .u8 (o.s 7), .int .u8 (o.s 8), .int .u8 (o.s 9), .int .u8 (o.s 10), .int .u8 (o.s 11), .int .u8 (o.s 12), .int .u8 (o.s 13), .int .u8 (o.s 14), .int .u8 (o.s 15)], .agg #[.int .u8 (here 0), .int .u8 (here 1), .int .u8 (here 2), .int .u8 (here 3), .int .u8 (here 4), .int .u8 (here 5), .int .u8 (here 6), .int .u8 (here 7), .int .u8 (here 8), .int .u8 (here 9), .int .u8 (here 10), .int .u8 (here 11), .int .u8 (here 12), .int .u8 (here 13), .int .u8 (here 14), .int .u8 (here 15)], .agg #[.int .u8 (there 0), .int .u8 (there 1), .int .u8 (there 2), .int .u8 (there 3), .int .u8 (there 4), .int .u8 (there 5), .int .u8 (there 6), .int .u8 (there 7), .int .u8 (there 8), .int .u8 (there 9), .int .u8 (there 10), .int .u8 (there 11), .int .u8 (there 12), .int .u8 (there 13), .int .u8 (there 14), .int .u8 (there 15)]] w (fun x w1 => x = .bool true ∧ Step No w w1) := by
  have hS : Step No w w := Step.refl _ _
  refine CV_enter Try.f8 _ 80 [(0, .agg #[.int .i64 o.k, .int .u8 o.d, .bool o.a, .int .u32 o.tg, .int .u8 (o.p 0), .int .u8 (o.p 1), .int .u8 (o.p 2), .int .u8 (o.p 3), .int .u8 (o.p 4), .int .u8 (o.p 5), .int .u8 (o.p 6), .int .u8 (o.p 7), .int .u8 (o.p 8), .int .u8 (o.p 9), .int .u8 (o.p 10), .int .u8 (o.p 11), .int .u8 (o.p 12), .int .u8 (o.p 13), .int .u8 (o.p 14), .int .u8 (o.p 15), .int .u8 (o.s 0), .int .u8 (o.s 1), .int .u8 (o.s 2), .int .u8 (o.s 3), .int .u8 (o.s 4), .int .u8 (o.s 5), .int .u8 (o.s 6), .int .u8 (o.s 7), .int .u8 (o.s 8), .int .u8 (o.s 9), .int .u8 (o.s 10), .int .u8 (o.s 11), .int .u8 (o.s 12), .int .u8 (o.s 13), .int .u8 (o.s 14), .int .u8 (o.s 15)]), (1, .agg #[.int .u8 (here 0), .int .u8 (here 1), .int .u8 (here 2), .int .u8 (here 3), .int .u8 (here 4), .int .u8 (here 5), .int .u8 (here 6), .int .u8 (here 7), .int .u8 (here 8), .int .u8 (here 9), .int .u8 (here 10), .int .u8 (here 11), .int .u8 (here 12), .int .u8 (here 13), .int .u8 (here 14), .int .u8 (here 15)]), (2, .agg #[.int .u8 (there 0), .int .u8 (there 1), .int .u8 (there 2), .int .u8 (there 3), .int .u8 (there 4), .int .u8 (there 5), .int .u8 (there 6), .int .u8 (there 7), .int .u8 (there 8), .int .u8 (there 9), .int .u8 (there 10), .int .u8 (there 11), .int .u8 (there 12), .int .u8 (there 13), .int .u8 (there 14), .int .u8 (there 15)])] Try.func8 rfl rfl (by kernel_rfl) rfl ?_
  refine VC_seq ?_
  refine VC_region ?_
  have hzs1 := hS.size
  refine VL_box (d := 3) (t := 25) (c := #[.int .i64 o.k, .int .u8 o.d, .bool o.a, .int .u32 o.tg, .int .u8 (o.p 0), .int .u8 (o.p 1), .int .u8 (o.p 2), .int .u8 (o.p 3), .int .u8 (o.p 4), .int .u8 (o.p 5), .int .u8 (o.p 6), .int .u8 (o.p 7), .int .u8 (o.p 8), .int .u8 (o.p 9), .int .u8 (o.p 10), .int .u8 (o.p 11), .int .u8 (o.p 12), .int .u8 (o.p 13), .int .u8 (o.p 14), .int .u8 (o.p 15), .int .u8 (o.s 0), .int .u8 (o.s 1), .int .u8 (o.s 2), .int .u8 (o.s 3), .int .u8 (o.s 4), .int .u8 (o.s 5), .int .u8 (o.s 6), .int .u8 (o.s 7), .int .u8 (o.s 8), .int .u8 (o.s 9), .int .u8 (o.s 10), .int .u8 (o.s 11), .int .u8 (o.s 12), .int .u8 (o.s 13), .int .u8 (o.s 14), .int .u8 (o.s 15)]) (by kernel_rfl) (by kernel_rfl) ?_
  intro b1 w1 hn1
  replace hS := Step.trans hS (hn1.step No)
  have ho1 := hn1.own
  have hzhn1 := hn1.size
  have hqhn1 := hn1.eqb
  have hzs2 := hS.size
  have hzl1 := ho1.lt
  refine VL_box (d := 4) (t := 23) (c := #[.int .u8 (here 0), .int .u8 (here 1), .int .u8 (here 2), .int .u8 (here 3), .int .u8 (here 4), .int .u8 (here 5), .int .u8 (here 6), .int .u8 (here 7), .int .u8 (here 8), .int .u8 (here 9), .int .u8 (here 10), .int .u8 (here 11), .int .u8 (here 12), .int .u8 (here 13), .int .u8 (here 14), .int .u8 (here 15)]) (by kernel_rfl) (by kernel_rfl) ?_
  intro b2 w2 hn2
  replace hS := Step.trans hS (hn2.step No)
  replace ho1 := ho1.no (hn2.step No)
  have ho2 := hn2.own
  have hzhn2 := hn2.size
  have hqhn2 := hn2.eqb
  have hzs3 := hS.size
  have hzl2 := ho1.lt
  have hzl3 := ho2.lt
  refine VL_box (d := 5) (t := 23) (c := #[.int .u8 (there 0), .int .u8 (there 1), .int .u8 (there 2), .int .u8 (there 3), .int .u8 (there 4), .int .u8 (there 5), .int .u8 (there 6), .int .u8 (there 7), .int .u8 (there 8), .int .u8 (there 9), .int .u8 (there 10), .int .u8 (there 11), .int .u8 (there 12), .int .u8 (there 13), .int .u8 (there 14), .int .u8 (there 15)]) (by kernel_rfl) (by kernel_rfl) ?_
  intro b3 w3 hn3
  replace hS := Step.trans hS (hn3.step No)
  replace ho1 := ho1.no (hn3.step No)
  replace ho2 := ho2.no (hn3.step No)
  have ho3 := hn3.own
  have hzhn3 := hn3.size
  have hqhn3 := hn3.eqb
  refine VL_pure 4 [3, 4, 5] [(3, .pointer (some ⟨b1, 0, none⟩)), (4, .pointer (some ⟨b2, 0, none⟩)), (5, .pointer (some ⟨b3, 0, none⟩))] (by kernel_rfl) rfl ?_
  refine VL_end (by kernel_rfl) ?_
  refine VQ_next ?_
  refine VC_seq ?_
  refine VC_seq ?_
  refine VC_region ?_
  have hzs4 := hS.size
  have hzl4 := ho1.lt
  have hzl5 := ho2.lt
  have hzl6 := ho3.lt
  refine VL_call (d := 12) (f := 9) (args := #[]) (by kernel_rfl) (by kernel_rfl) (by kernel_rfl) Try.call9 (awake_any _) ?_
  rintro _ w4 ⟨rfl, hc1⟩
  replace hS := Step.trans hS hc1
  replace ho1 := ho1.no hc1
  replace ho2 := ho2.no hc1
  replace ho3 := ho3.no hc1
  refine VL_pure 2 [3, 4, 5, 13] [(3, .pointer (some ⟨b1, 0, none⟩)), (4, .pointer (some ⟨b2, 0, none⟩)), (5, .pointer (some ⟨b3, 0, none⟩)), (13, .bool false)] (by kernel_rfl) rfl ?_
  refine VL_end (by kernel_rfl) ?_
  refine VQ_next ?_
  refine VC_false (by kernel_rfl) ?_
  refine VC_skip ?_
  refine VQ_next ?_
  refine VC_seq ?_
  refine VC_region ?_
  refine VL_load (d := 14) (t := 25) (a := ⟨b1, 0, none⟩) (v := .agg #[.int .i64 o.k, .int .u8 o.d, .bool o.a, .int .u32 o.tg, .int .u8 (o.p 0), .int .u8 (o.p 1), .int .u8 (o.p 2), .int .u8 (o.p 3), .int .u8 (o.p 4), .int .u8 (o.p 5), .int .u8 (o.p 6), .int .u8 (o.p 7), .int .u8 (o.p 8), .int .u8 (o.p 9), .int .u8 (o.p 10), .int .u8 (o.p 11), .int .u8 (o.p 12), .int .u8 (o.p 13), .int .u8 (o.p 14), .int .u8 (o.p 15), .int .u8 (o.s 0), .int .u8 (o.s 1), .int .u8 (o.s 2), .int .u8 (o.s 3), .int .u8 (o.s 4), .int .u8 (o.s 5), .int .u8 (o.s 6), .int .u8 (o.s 7), .int .u8 (o.s 8), .int .u8 (o.s 9), .int .u8 (o.s 10), .int .u8 (o.s 11), .int .u8 (o.s 12), .int .u8 (o.s 13), .int .u8 (o.s 14), .int .u8 (o.s 15)]) (by kernel_rfl) (by kernel_rfl) (Loads.ownL ho1 (n := 36) (by kernel_rfl) (by kernel_rfl) (by kernel_rfl)) ?_
  have hzs5 := hS.size
  have hzl7 := ho1.lt
  have hzl8 := ho2.lt
  have hzl9 := ho3.lt
  refine VL_box (d := 7) (t := 31) (c := #[.int .i64 0, .int .u8 0, .bool false, .int .u32 0, .int .u8 0, .int .u8 0, .int .u8 0, .int .u8 0, .int .u8 0, .int .u8 0, .int .u8 0, .int .u8 0, .int .u8 0, .int .u8 0, .int .u8 0, .int .u8 0, .int .u8 0, .int .u8 0, .int .u8 0, .int .u8 0, .int .u8 0, .int .u8 0, .int .u8 0, .int .u8 0, .int .u8 0, .int .u8 0, .int .u8 0, .int .u8 0, .int .u8 0, .int .u8 0, .int .u8 0, .int .u8 0, .int .u8 0, .int .u8 0, .int .u8 0, .int .u8 0]) (by kernel_rfl) (by kernel_rfl) ?_
  intro b4 w5 hn4
  replace hS := Step.trans hS (hn4.step No)
  replace ho1 := ho1.no (hn4.step No)
  replace ho2 := ho2.no (hn4.step No)
  replace ho3 := ho3.no (hn4.step No)
  have ho4 := hn4.own
  have hzhn4 := hn4.size
  have hqhn4 := hn4.eqb
  refine VL_store (b := b4) (o := 0) (vs := [.int .i64 o.k, .int .u8 o.d, .bool o.a, .int .u32 o.tg, .int .u8 (o.p 0), .int .u8 (o.p 1), .int .u8 (o.p 2), .int .u8 (o.p 3), .int .u8 (o.p 4), .int .u8 (o.p 5), .int .u8 (o.p 6), .int .u8 (o.p 7), .int .u8 (o.p 8), .int .u8 (o.p 9), .int .u8 (o.p 10), .int .u8 (o.p 11), .int .u8 (o.p 12), .int .u8 (o.p 13), .int .u8 (o.p 14), .int .u8 (o.p 15), .int .u8 (o.s 0), .int .u8 (o.s 1), .int .u8 (o.s 2), .int .u8 (o.s 3), .int .u8 (o.s 4), .int .u8 (o.s 5), .int .u8 (o.s 6), .int .u8 (o.s 7), .int .u8 (o.s 8), .int .u8 (o.s 9), .int .u8 (o.s 10), .int .u8 (o.s 11), .int .u8 (o.s 12), .int .u8 (o.s 13), .int .u8 (o.s 14), .int .u8 (o.s 15)]) (by kernel_rfl) (by kernel_rfl) ho4 (Nat.le_of_ble_eq_true (by kernel_rfl)) ?_
  intro w6 hw1
  replace hS := Step.transNew hS hw1.step (fun _ _ _ => by omega)
  replace ho1 := ho1.step hw1.step (show ¬ b1 = b4 by omega)
  replace ho2 := ho2.step hw1.step (show ¬ b2 = b4 by omega)
  replace ho3 := ho3.step hw1.step (show ¬ b3 = b4 by omega)
  have ho5 : Own w6 b4 #[.int .i64 o.k, .int .u8 o.d, .bool o.a, .int .u32 o.tg, .int .u8 (o.p 0), .int .u8 (o.p 1), .int .u8 (o.p 2), .int .u8 (o.p 3), .int .u8 (o.p 4), .int .u8 (o.p 5), .int .u8 (o.p 6), .int .u8 (o.p 7), .int .u8 (o.p 8), .int .u8 (o.p 9), .int .u8 (o.p 10), .int .u8 (o.p 11), .int .u8 (o.p 12), .int .u8 (o.p 13), .int .u8 (o.p 14), .int .u8 (o.p 15), .int .u8 (o.s 0), .int .u8 (o.s 1), .int .u8 (o.s 2), .int .u8 (o.s 3), .int .u8 (o.s 4), .int .u8 (o.s 5), .int .u8 (o.s 6), .int .u8 (o.s 7), .int .u8 (o.s 8), .int .u8 (o.s 9), .int .u8 (o.s 10), .int .u8 (o.s 11), .int .u8 (o.s 12), .int .u8 (o.s 13), .int .u8 (o.s 14), .int .u8 (o.s 15)] 31 := Own.cast hw1.own (by kernel_rfl)
  have hzhw1 := hw1.same
  refine VL_end (by kernel_rfl) ?_
  refine VQ_next ?_
  refine VC_seq ?_
  refine VC_region ?_
  refine VL_load (d := 16) (t := 31) (a := ⟨b4, 0, none⟩) (v := .agg #[.int .i64 o.k, .int .u8 o.d, .bool o.a, .int .u32 o.tg, .int .u8 (o.p 0), .int .u8 (o.p 1), .int .u8 (o.p 2), .int .u8 (o.p 3), .int .u8 (o.p 4), .int .u8 (o.p 5), .int .u8 (o.p 6), .int .u8 (o.p 7), .int .u8 (o.p 8), .int .u8 (o.p 9), .int .u8 (o.p 10), .int .u8 (o.p 11), .int .u8 (o.p 12), .int .u8 (o.p 13), .int .u8 (o.p 14), .int .u8 (o.p 15), .int .u8 (o.s 0), .int .u8 (o.s 1), .int .u8 (o.s 2), .int .u8 (o.s 3), .int .u8 (o.s 4), .int .u8 (o.s 5), .int .u8 (o.s 6), .int .u8 (o.s 7), .int .u8 (o.s 8), .int .u8 (o.s 9), .int .u8 (o.s 10), .int .u8 (o.s 11), .int .u8 (o.s 12), .int .u8 (o.s 13), .int .u8 (o.s 14), .int .u8 (o.s 15)]) (by kernel_rfl) (by kernel_rfl) (Loads.ownL ho5 (n := 36) (by kernel_rfl) (by kernel_rfl) (by kernel_rfl)) ?_
  refine VL_load (d := 17) (t := 23) (a := ⟨b2, 0, none⟩) (v := .agg #[.int .u8 (here 0), .int .u8 (here 1), .int .u8 (here 2), .int .u8 (here 3), .int .u8 (here 4), .int .u8 (here 5), .int .u8 (here 6), .int .u8 (here 7), .int .u8 (here 8), .int .u8 (here 9), .int .u8 (here 10), .int .u8 (here 11), .int .u8 (here 12), .int .u8 (here 13), .int .u8 (here 14), .int .u8 (here 15)]) (by kernel_rfl) (by kernel_rfl) (Loads.ownL ho2 (n := 16) (by kernel_rfl) (by kernel_rfl) (by kernel_rfl)) ?_
  have hzs6 := hS.size
  have hzl10 := ho1.lt
  have hzl11 := ho2.lt
  have hzl12 := ho3.lt
  have hzl13 := ho5.lt
  refine VL_call (d := 18) (f := 19) (by kernel_rfl) (by kernel_rfl) (by kernel_rfl) Try.call19 (CV.val (v' := .tuple #[.agg (omL zeroO).toArray, .bool false]) (reply_any o here _ hoA.p) (by rw [replyV_no hr, hr])) ?_
  rintro _ w7 ⟨rfl, hc2⟩
  replace hS := Step.trans hS hc2
  replace ho1 := ho1.no hc2
  replace ho2 := ho2.no hc2
  replace ho3 := ho3.no hc2
  replace ho5 := ho5.no hc2
  refine VL_pure 6 [4, 5, 7, 19, 20] [(4, .pointer (some ⟨b2, 0, none⟩)), (5, .pointer (some ⟨b3, 0, none⟩)), (7, .pointer (some ⟨b4, 0, none⟩)), (19, .agg #[.int .i64 zeroO.k, .int .u8 zeroO.d, .bool zeroO.a, .int .u32 zeroO.tg, .int .u8 (zeroO.p 0), .int .u8 (zeroO.p 1), .int .u8 (zeroO.p 2), .int .u8 (zeroO.p 3), .int .u8 (zeroO.p 4), .int .u8 (zeroO.p 5), .int .u8 (zeroO.p 6), .int .u8 (zeroO.p 7), .int .u8 (zeroO.p 8), .int .u8 (zeroO.p 9), .int .u8 (zeroO.p 10), .int .u8 (zeroO.p 11), .int .u8 (zeroO.p 12), .int .u8 (zeroO.p 13), .int .u8 (zeroO.p 14), .int .u8 (zeroO.p 15), .int .u8 (zeroO.s 0), .int .u8 (zeroO.s 1), .int .u8 (zeroO.s 2), .int .u8 (zeroO.s 3), .int .u8 (zeroO.s 4), .int .u8 (zeroO.s 5), .int .u8 (zeroO.s 6), .int .u8 (zeroO.s 7), .int .u8 (zeroO.s 8), .int .u8 (zeroO.s 9), .int .u8 (zeroO.s 10), .int .u8 (zeroO.s 11), .int .u8 (zeroO.s 12), .int .u8 (zeroO.s 13), .int .u8 (zeroO.s 14), .int .u8 (zeroO.s 15)]), (20, .bool false)] (by kernel_rfl) rfl ?_
  have hzs7 := hS.size
  have hzl14 := ho1.lt
  have hzl15 := ho2.lt
  have hzl16 := ho3.lt
  have hzl17 := ho5.lt
  refine VL_box (d := 8) (t := 31) (c := #[.int .i64 0, .int .u8 0, .bool false, .int .u32 0, .int .u8 0, .int .u8 0, .int .u8 0, .int .u8 0, .int .u8 0, .int .u8 0, .int .u8 0, .int .u8 0, .int .u8 0, .int .u8 0, .int .u8 0, .int .u8 0, .int .u8 0, .int .u8 0, .int .u8 0, .int .u8 0, .int .u8 0, .int .u8 0, .int .u8 0, .int .u8 0, .int .u8 0, .int .u8 0, .int .u8 0, .int .u8 0, .int .u8 0, .int .u8 0, .int .u8 0, .int .u8 0, .int .u8 0, .int .u8 0, .int .u8 0, .int .u8 0]) (by kernel_rfl) (by kernel_rfl) ?_
  intro b5 w8 hn5
  replace hS := Step.trans hS (hn5.step No)
  replace ho1 := ho1.no (hn5.step No)
  replace ho2 := ho2.no (hn5.step No)
  replace ho3 := ho3.no (hn5.step No)
  replace ho5 := ho5.no (hn5.step No)
  have ho6 := hn5.own
  have hzhn5 := hn5.size
  have hqhn5 := hn5.eqb
  refine VL_store (b := b5) (o := 0) (vs := [.int .i64 zeroO.k, .int .u8 zeroO.d, .bool zeroO.a, .int .u32 zeroO.tg, .int .u8 (zeroO.p 0), .int .u8 (zeroO.p 1), .int .u8 (zeroO.p 2), .int .u8 (zeroO.p 3), .int .u8 (zeroO.p 4), .int .u8 (zeroO.p 5), .int .u8 (zeroO.p 6), .int .u8 (zeroO.p 7), .int .u8 (zeroO.p 8), .int .u8 (zeroO.p 9), .int .u8 (zeroO.p 10), .int .u8 (zeroO.p 11), .int .u8 (zeroO.p 12), .int .u8 (zeroO.p 13), .int .u8 (zeroO.p 14), .int .u8 (zeroO.p 15), .int .u8 (zeroO.s 0), .int .u8 (zeroO.s 1), .int .u8 (zeroO.s 2), .int .u8 (zeroO.s 3), .int .u8 (zeroO.s 4), .int .u8 (zeroO.s 5), .int .u8 (zeroO.s 6), .int .u8 (zeroO.s 7), .int .u8 (zeroO.s 8), .int .u8 (zeroO.s 9), .int .u8 (zeroO.s 10), .int .u8 (zeroO.s 11), .int .u8 (zeroO.s 12), .int .u8 (zeroO.s 13), .int .u8 (zeroO.s 14), .int .u8 (zeroO.s 15)]) (by kernel_rfl) (by kernel_rfl) ho6 (Nat.le_of_ble_eq_true (by kernel_rfl)) ?_
  intro w9 hw2
  replace hS := Step.transNew hS hw2.step (fun _ _ _ => by omega)
  replace ho1 := ho1.step hw2.step (show ¬ b1 = b5 by omega)
  replace ho2 := ho2.step hw2.step (show ¬ b2 = b5 by omega)
  replace ho3 := ho3.step hw2.step (show ¬ b3 = b5 by omega)
  replace ho5 := ho5.step hw2.step (show ¬ b4 = b5 by omega)
  have ho7 : Own w9 b5 #[.int .i64 zeroO.k, .int .u8 zeroO.d, .bool zeroO.a, .int .u32 zeroO.tg, .int .u8 (zeroO.p 0), .int .u8 (zeroO.p 1), .int .u8 (zeroO.p 2), .int .u8 (zeroO.p 3), .int .u8 (zeroO.p 4), .int .u8 (zeroO.p 5), .int .u8 (zeroO.p 6), .int .u8 (zeroO.p 7), .int .u8 (zeroO.p 8), .int .u8 (zeroO.p 9), .int .u8 (zeroO.p 10), .int .u8 (zeroO.p 11), .int .u8 (zeroO.p 12), .int .u8 (zeroO.p 13), .int .u8 (zeroO.p 14), .int .u8 (zeroO.p 15), .int .u8 (zeroO.s 0), .int .u8 (zeroO.s 1), .int .u8 (zeroO.s 2), .int .u8 (zeroO.s 3), .int .u8 (zeroO.s 4), .int .u8 (zeroO.s 5), .int .u8 (zeroO.s 6), .int .u8 (zeroO.s 7), .int .u8 (zeroO.s 8), .int .u8 (zeroO.s 9), .int .u8 (zeroO.s 10), .int .u8 (zeroO.s 11), .int .u8 (zeroO.s 12), .int .u8 (zeroO.s 13), .int .u8 (zeroO.s 14), .int .u8 (zeroO.s 15)] 31 := Own.cast hw2.own (by kernel_rfl)
  have hzhw2 := hw2.same
  refine VL_pure 9 [4, 5, 7, 8, 9] [(4, .pointer (some ⟨b2, 0, none⟩)), (5, .pointer (some ⟨b3, 0, none⟩)), (7, .pointer (some ⟨b4, 0, none⟩)), (8, .pointer (some ⟨b5, 0, none⟩)), (9, .bool false)] (by kernel_rfl) rfl ?_
  refine VL_end (by kernel_rfl) ?_
  refine VQ_next ?_
  refine VC_seq ?_
  refine VC_seq ?_
  refine VC_region ?_
  refine VL_pure 2 [4, 5, 7, 8, 22] [(4, .pointer (some ⟨b2, 0, none⟩)), (5, .pointer (some ⟨b3, 0, none⟩)), (7, .pointer (some ⟨b4, 0, none⟩)), (8, .pointer (some ⟨b5, 0, none⟩)), (22, .bool true)] (by kernel_rfl) rfl ?_
  refine VL_end (by kernel_rfl) ?_
  refine VQ_next ?_
  refine VC_true (by kernel_rfl) ?_
  refine VC_seq ?_
  refine VC_region ?_
  refine VL_load (d := 23) (t := 31) (a := ⟨b5, 0, none⟩) (v := .agg #[.int .i64 zeroO.k, .int .u8 zeroO.d, .bool zeroO.a, .int .u32 zeroO.tg, .int .u8 (zeroO.p 0), .int .u8 (zeroO.p 1), .int .u8 (zeroO.p 2), .int .u8 (zeroO.p 3), .int .u8 (zeroO.p 4), .int .u8 (zeroO.p 5), .int .u8 (zeroO.p 6), .int .u8 (zeroO.p 7), .int .u8 (zeroO.p 8), .int .u8 (zeroO.p 9), .int .u8 (zeroO.p 10), .int .u8 (zeroO.p 11), .int .u8 (zeroO.p 12), .int .u8 (zeroO.p 13), .int .u8 (zeroO.p 14), .int .u8 (zeroO.p 15), .int .u8 (zeroO.s 0), .int .u8 (zeroO.s 1), .int .u8 (zeroO.s 2), .int .u8 (zeroO.s 3), .int .u8 (zeroO.s 4), .int .u8 (zeroO.s 5), .int .u8 (zeroO.s 6), .int .u8 (zeroO.s 7), .int .u8 (zeroO.s 8), .int .u8 (zeroO.s 9), .int .u8 (zeroO.s 10), .int .u8 (zeroO.s 11), .int .u8 (zeroO.s 12), .int .u8 (zeroO.s 13), .int .u8 (zeroO.s 14), .int .u8 (zeroO.s 15)]) (by kernel_rfl) (by kernel_rfl) (Loads.ownL ho7 (n := 36) (by kernel_rfl) (by kernel_rfl) (by kernel_rfl)) ?_
  refine VL_pure 2 [23, 24] [(23, .agg #[.int .i64 zeroO.k, .int .u8 zeroO.d, .bool zeroO.a, .int .u32 zeroO.tg, .int .u8 (zeroO.p 0), .int .u8 (zeroO.p 1), .int .u8 (zeroO.p 2), .int .u8 (zeroO.p 3), .int .u8 (zeroO.p 4), .int .u8 (zeroO.p 5), .int .u8 (zeroO.p 6), .int .u8 (zeroO.p 7), .int .u8 (zeroO.p 8), .int .u8 (zeroO.p 9), .int .u8 (zeroO.p 10), .int .u8 (zeroO.p 11), .int .u8 (zeroO.p 12), .int .u8 (zeroO.p 13), .int .u8 (zeroO.p 14), .int .u8 (zeroO.p 15), .int .u8 (zeroO.s 0), .int .u8 (zeroO.s 1), .int .u8 (zeroO.s 2), .int .u8 (zeroO.s 3), .int .u8 (zeroO.s 4), .int .u8 (zeroO.s 5), .int .u8 (zeroO.s 6), .int .u8 (zeroO.s 7), .int .u8 (zeroO.s 8), .int .u8 (zeroO.s 9), .int .u8 (zeroO.s 10), .int .u8 (zeroO.s 11), .int .u8 (zeroO.s 12), .int .u8 (zeroO.s 13), .int .u8 (zeroO.s 14), .int .u8 (zeroO.s 15)]), (24, .agg #[.int .i64 0, .int .u8 0, .bool false, .int .u32 0, .int .u8 0, .int .u8 0, .int .u8 0, .int .u8 0, .int .u8 0, .int .u8 0, .int .u8 0, .int .u8 0, .int .u8 0, .int .u8 0, .int .u8 0, .int .u8 0, .int .u8 0, .int .u8 0, .int .u8 0, .int .u8 0, .int .u8 0, .int .u8 0, .int .u8 0, .int .u8 0, .int .u8 0, .int .u8 0, .int .u8 0, .int .u8 0, .int .u8 0, .int .u8 0, .int .u8 0, .int .u8 0, .int .u8 0, .int .u8 0, .int .u8 0, .int .u8 0])] (by kernel_rfl) rfl ?_
  refine VL_agEq (d := 25) (dd := 9) (ls := ([.int .i64] ++ [.int .u8] ++ [.bool] ++ [.int .u32] ++ (rep 16 [.int .u8]) ++ (rep 16 [.int .u8]) ++ [])) (pos := true) (t := 31) (xs := #[.int .i64 zeroO.k, .int .u8 zeroO.d, .bool zeroO.a, .int .u32 zeroO.tg, .int .u8 (zeroO.p 0), .int .u8 (zeroO.p 1), .int .u8 (zeroO.p 2), .int .u8 (zeroO.p 3), .int .u8 (zeroO.p 4), .int .u8 (zeroO.p 5), .int .u8 (zeroO.p 6), .int .u8 (zeroO.p 7), .int .u8 (zeroO.p 8), .int .u8 (zeroO.p 9), .int .u8 (zeroO.p 10), .int .u8 (zeroO.p 11), .int .u8 (zeroO.p 12), .int .u8 (zeroO.p 13), .int .u8 (zeroO.p 14), .int .u8 (zeroO.p 15), .int .u8 (zeroO.s 0), .int .u8 (zeroO.s 1), .int .u8 (zeroO.s 2), .int .u8 (zeroO.s 3), .int .u8 (zeroO.s 4), .int .u8 (zeroO.s 5), .int .u8 (zeroO.s 6), .int .u8 (zeroO.s 7), .int .u8 (zeroO.s 8), .int .u8 (zeroO.s 9), .int .u8 (zeroO.s 10), .int .u8 (zeroO.s 11), .int .u8 (zeroO.s 12), .int .u8 (zeroO.s 13), .int .u8 (zeroO.s 14), .int .u8 (zeroO.s 15)]) (ys := #[.int .i64 0, .int .u8 0, .bool false, .int .u32 0, .int .u8 0, .int .u8 0, .int .u8 0, .int .u8 0, .int .u8 0, .int .u8 0, .int .u8 0, .int .u8 0, .int .u8 0, .int .u8 0, .int .u8 0, .int .u8 0, .int .u8 0, .int .u8 0, .int .u8 0, .int .u8 0, .int .u8 0, .int .u8 0, .int .u8 0, .int .u8 0, .int .u8 0, .int .u8 0, .int .u8 0, .int .u8 0, .int .u8 0, .int .u8 0, .int .u8 0, .int .u8 0, .int .u8 0, .int .u8 0, .int .u8 0, .int .u8 0]) (by kernel_rfl) (by kernel_rfl) (by kernel_rfl) (by kernel_rfl) (by first | exact ⟨⟨_, rfl⟩, ⟨_, rfl⟩, ⟨_, rfl⟩, ⟨_, rfl⟩, ⟨_, rfl⟩, ⟨_, rfl⟩, ⟨_, rfl⟩, ⟨_, rfl⟩, ⟨_, rfl⟩, ⟨_, rfl⟩, ⟨_, rfl⟩, ⟨_, rfl⟩, ⟨_, rfl⟩, ⟨_, rfl⟩, ⟨_, rfl⟩, ⟨_, rfl⟩, ⟨_, rfl⟩, ⟨_, rfl⟩, ⟨_, rfl⟩, ⟨_, rfl⟩, ⟨_, rfl⟩, ⟨_, rfl⟩, ⟨_, rfl⟩, ⟨_, rfl⟩, ⟨_, rfl⟩, ⟨_, rfl⟩, ⟨_, rfl⟩, ⟨_, rfl⟩, ⟨_, rfl⟩, ⟨_, rfl⟩, ⟨_, rfl⟩, ⟨_, rfl⟩, ⟨_, rfl⟩, ⟨_, rfl⟩, ⟨_, rfl⟩, ⟨_, rfl⟩, trivial⟩ | trivial) (by first | exact ⟨⟨_, rfl⟩, ⟨_, rfl⟩, ⟨_, rfl⟩, ⟨_, rfl⟩, ⟨_, rfl⟩, ⟨_, rfl⟩, ⟨_, rfl⟩, ⟨_, rfl⟩, ⟨_, rfl⟩, ⟨_, rfl⟩, ⟨_, rfl⟩, ⟨_, rfl⟩, ⟨_, rfl⟩, ⟨_, rfl⟩, ⟨_, rfl⟩, ⟨_, rfl⟩, ⟨_, rfl⟩, ⟨_, rfl⟩, ⟨_, rfl⟩, ⟨_, rfl⟩, ⟨_, rfl⟩, ⟨_, rfl⟩, ⟨_, rfl⟩, ⟨_, rfl⟩, ⟨_, rfl⟩, ⟨_, rfl⟩, ⟨_, rfl⟩, ⟨_, rfl⟩, ⟨_, rfl⟩, ⟨_, rfl⟩, ⟨_, rfl⟩, ⟨_, rfl⟩, ⟨_, rfl⟩, ⟨_, rfl⟩, ⟨_, rfl⟩, ⟨_, rfl⟩, trivial⟩ | trivial) (omEq zeroO (⟨0, 0, false, 0, zp, zp⟩ : Om)) (by rfl) ?_
  refine VL_pure 4 [6] [(6, .bool (omEq zeroO (⟨0, 0, false, 0, zp, zp⟩ : Om)))] (by kernel_rfl) rfl ?_
  refine VL_end (by kernel_rfl) ?_
  refine VQ_next ?_
  refine VC_ret ?_
  refine VQ_then_ret ?_
  refine VQ_ret1 (.bool (omEq zeroO (⟨0, 0, false, 0, zp, zp⟩ : Om))) (.inr rfl) rfl rfl ?_
  exact ⟨by first | rfl | exact congrArg Value.bool ((omEq_iff _ _).2 rfl) | simp, hS⟩

end Go.Proofs.Yteipakmfiiccpaa
