/- Reply, Got, Sends; what layer 21 shares. -/
import Derived.Test.YtkimbomnbaogjaaProg
import Derived.Test.YtkimbomnbaogjaaAl2
set_option linter.unusedVariables false
set_option linter.unusedSimpArgs false
namespace Go.Proofs.Ytkimbomnbaogjaa
open Go.Vc Go.RowKit

set_option maxRecDepth 20000 in
set_option maxHeartbeats 1000000 in
theorem reply_any (o : Om) (here : Nat → Int) (w : World) (hp : inByte o.p) :
    CV Try.prog 27 #[.agg #[.int .i64 o.k, .int .u8 o.d, .bool o.a, .int .u32 o.tg, .int .u8 (o.p 0), .int .u8 (o.p 1), .int .u8 (o.p 2), .int .u8 (o.p 3), .int .u8 (o.p 4), .int .u8 (o.p 5), .int .u8 (o.p 6), .int .u8 (o.p 7), .int .u8 (o.p 8), .int .u8 (o.p 9), .int .u8 (o.p 10), .int .u8 (o.p 11), .int .u8 (o.p 12), .int .u8 (o.p 13), .int .u8 (o.p 14), .int .u8 (o.p 15), .int .u8 (o.s 0), .int .u8 (o.s 1), .int .u8 (o.s 2), .int .u8 (o.s 3), .int .u8 (o.s 4), .int .u8 (o.s 5), .int .u8 (o.s 6), .int .u8 (o.s 7), .int .u8 (o.s 8), .int .u8 (o.s 9), .int .u8 (o.s 10), .int .u8 (o.s 11), .int .u8 (o.s 12), .int .u8 (o.s 13), .int .u8 (o.s 14), .int .u8 (o.s 15)], .agg #[.int .u8 (here 0), .int .u8 (here 1), .int .u8 (here 2), .int .u8 (here 3), .int .u8 (here 4), .int .u8 (here 5), .int .u8 (here 6), .int .u8 (here 7), .int .u8 (here 8), .int .u8 (here 9), .int .u8 (here 10), .int .u8 (here 11), .int .u8 (here 12), .int .u8 (here 13), .int .u8 (here 14), .int .u8 (here 15)]] w (fun x w1 => x = .tuple #[.agg (omL (replyV o here)).toArray, .bool (replyB o here)] ∧ Step No w w1) := by
  have hS : Step No w w := Step.refl _ _
  refine CV_enter Try.f27 _ 35 [(0, .agg #[.int .i64 o.k, .int .u8 o.d, .bool o.a, .int .u32 o.tg, .int .u8 (o.p 0), .int .u8 (o.p 1), .int .u8 (o.p 2), .int .u8 (o.p 3), .int .u8 (o.p 4), .int .u8 (o.p 5), .int .u8 (o.p 6), .int .u8 (o.p 7), .int .u8 (o.p 8), .int .u8 (o.p 9), .int .u8 (o.p 10), .int .u8 (o.p 11), .int .u8 (o.p 12), .int .u8 (o.p 13), .int .u8 (o.p 14), .int .u8 (o.p 15), .int .u8 (o.s 0), .int .u8 (o.s 1), .int .u8 (o.s 2), .int .u8 (o.s 3), .int .u8 (o.s 4), .int .u8 (o.s 5), .int .u8 (o.s 6), .int .u8 (o.s 7), .int .u8 (o.s 8), .int .u8 (o.s 9), .int .u8 (o.s 10), .int .u8 (o.s 11), .int .u8 (o.s 12), .int .u8 (o.s 13), .int .u8 (o.s 14), .int .u8 (o.s 15)]), (1, .agg #[.int .u8 (here 0), .int .u8 (here 1), .int .u8 (here 2), .int .u8 (here 3), .int .u8 (here 4), .int .u8 (here 5), .int .u8 (here 6), .int .u8 (here 7), .int .u8 (here 8), .int .u8 (here 9), .int .u8 (here 10), .int .u8 (here 11), .int .u8 (here 12), .int .u8 (here 13), .int .u8 (here 14), .int .u8 (here 15)])] Try.func27 rfl rfl (by kernel_rfl) rfl ?_
  refine VC_seq ?_
  refine VC_region ?_
  have hzs1 := hS.size
  refine VL_box (d := 2) (t := 34) (c := #[.int .i64 o.k, .int .u8 o.d, .bool o.a, .int .u32 o.tg, .int .u8 (o.p 0), .int .u8 (o.p 1), .int .u8 (o.p 2), .int .u8 (o.p 3), .int .u8 (o.p 4), .int .u8 (o.p 5), .int .u8 (o.p 6), .int .u8 (o.p 7), .int .u8 (o.p 8), .int .u8 (o.p 9), .int .u8 (o.p 10), .int .u8 (o.p 11), .int .u8 (o.p 12), .int .u8 (o.p 13), .int .u8 (o.p 14), .int .u8 (o.p 15), .int .u8 (o.s 0), .int .u8 (o.s 1), .int .u8 (o.s 2), .int .u8 (o.s 3), .int .u8 (o.s 4), .int .u8 (o.s 5), .int .u8 (o.s 6), .int .u8 (o.s 7), .int .u8 (o.s 8), .int .u8 (o.s 9), .int .u8 (o.s 10), .int .u8 (o.s 11), .int .u8 (o.s 12), .int .u8 (o.s 13), .int .u8 (o.s 14), .int .u8 (o.s 15)]) (by kernel_rfl) (by kernel_rfl) ?_
  intro b1 w1 hn1
  replace hS := Step.trans hS (hn1.step No)
  have ho1 := hn1.own
  have hzhn1 := hn1.size
  have hqhn1 := hn1.eqb
  have hzs2 := hS.size
  have hzl1 := ho1.lt
  refine VL_box (d := 3) (t := 22) (c := #[.int .u8 (here 0), .int .u8 (here 1), .int .u8 (here 2), .int .u8 (here 3), .int .u8 (here 4), .int .u8 (here 5), .int .u8 (here 6), .int .u8 (here 7), .int .u8 (here 8), .int .u8 (here 9), .int .u8 (here 10), .int .u8 (here 11), .int .u8 (here 12), .int .u8 (here 13), .int .u8 (here 14), .int .u8 (here 15)]) (by kernel_rfl) (by kernel_rfl) ?_
  intro b2 w2 hn2
  replace hS := Step.trans hS (hn2.step No)
  replace ho1 := ho1.no (hn2.step No)
  have ho2 := hn2.own
  have hzhn2 := hn2.size
  have hqhn2 := hn2.eqb
  have hzs3 := hS.size
  have hzl2 := ho1.lt
  have hzl3 := ho2.lt
  refine VL_box (d := 4) (t := 34) (c := #[.int .i64 0, .int .u8 0, .bool false, .int .u32 0, .int .u8 0, .int .u8 0, .int .u8 0, .int .u8 0, .int .u8 0, .int .u8 0, .int .u8 0, .int .u8 0, .int .u8 0, .int .u8 0, .int .u8 0, .int .u8 0, .int .u8 0, .int .u8 0, .int .u8 0, .int .u8 0, .int .u8 0, .int .u8 0, .int .u8 0, .int .u8 0, .int .u8 0, .int .u8 0, .int .u8 0, .int .u8 0, .int .u8 0, .int .u8 0, .int .u8 0, .int .u8 0, .int .u8 0, .int .u8 0, .int .u8 0, .int .u8 0]) (by kernel_rfl) (by kernel_rfl) ?_
  intro b3 w3 hn3
  replace hS := Step.trans hS (hn3.step No)
  replace ho1 := ho1.no (hn3.step No)
  replace ho2 := ho2.no (hn3.step No)
  have ho3 := hn3.own
  have hzhn3 := hn3.size
  have hqhn3 := hn3.eqb
  refine VL_pure 4 [2, 3, 4] [(2, .pointer (some ⟨b1, 0, none⟩)), (3, .pointer (some ⟨b2, 0, none⟩)), (4, .pointer (some ⟨b3, 0, none⟩))] (by kernel_rfl) rfl ?_
  refine VL_end (by kernel_rfl) ?_
  refine VQ_next ?_
  refine VC_seq ?_
  refine VC_region ?_
  have hzs4 := hS.size
  have hzl4 := ho1.lt
  have hzl5 := ho2.lt
  have hzl6 := ho3.lt
  refine VL_bs (d := 7) (e := 5) (c := #[.int .u8 255]) (len := 1) (by kernel_rfl) (by kernel_rfl) ?_
  intro b4 w4 hn4
  replace hS := Step.trans hS (hn4.step No)
  replace ho1 := ho1.no (hn4.step No)
  replace ho2 := ho2.no (hn4.step No)
  replace ho3 := ho3.no (hn4.step No)
  have ho4 := hn4.own
  have hzhn4 := hn4.size
  have hqhn4 := hn4.eqb
  have hzs5 := hS.size
  have hzl7 := ho1.lt
  have hzl8 := ho2.lt
  have hzl9 := ho3.lt
  have hzl10 := ho4.lt
  refine VL_call (d := 8) (f := 30) (args := #[.slice (some ⟨b4, 0, none⟩) 1 1, .int .i64 16]) (by kernel_rfl) (by kernel_rfl) (by kernel_rfl) Try.call30 (repeat_16 b4 _ ho4) ?_
  rintro _ w5 ⟨rb1, rfl, hnrb1, hcrb1, hc1⟩
  replace hS := Step.trans hS hc1
  replace ho1 := ho1.no hc1
  replace ho2 := ho2.no hc1
  replace ho3 := ho3.no hc1
  replace ho4 := ho4.no hc1
  refine VL_pure 3 [2, 3, 4, 6] [(2, .pointer (some ⟨b1, 0, none⟩)), (3, .pointer (some ⟨b2, 0, none⟩)), (4, .pointer (some ⟨b3, 0, none⟩)), (6, .slice (some ⟨rb1, 0, none⟩) 16 16)] (by kernel_rfl) rfl ?_
  refine VL_end (by kernel_rfl) ?_
  refine VQ_next ?_
  refine VC_seq ?_
  refine VC_seq ?_
  refine VC_region ?_
  refine VL_pure 1 [2, 3, 4, 6, 9] [(2, .pointer (some ⟨b1, 0, none⟩)), (3, .pointer (some ⟨b2, 0, none⟩)), (4, .pointer (some ⟨b3, 0, none⟩)), (6, .slice (some ⟨rb1, 0, none⟩) 16 16), (9, .pointer (some ⟨b1, 0, none⟩))] (by kernel_rfl) rfl ?_
  refine VL_load (d := 10) (t := 3) (a := ⟨b1, 0, none⟩) (v := .int .i64 o.k) (by kernel_rfl) (by kernel_rfl) (Loads.own1 ho1 (by kernel_rfl) (by rfl)) ?_
  refine VL_pure 4 [2, 3, 4, 6, 12] [(2, .pointer (some ⟨b1, 0, none⟩)), (3, .pointer (some ⟨b2, 0, none⟩)), (4, .pointer (some ⟨b3, 0, none⟩)), (6, .slice (some ⟨rb1, 0, none⟩) 16 16), (12, .bool (o.k != 8))] (by kernel_rfl) rfl ?_
  refine VL_bne o.k 8 (fun bV => [(2, .pointer (some ⟨b1, 0, none⟩)), (3, .pointer (some ⟨b2, 0, none⟩)), (4, .pointer (some ⟨b3, 0, none⟩)), (6, .slice (some ⟨rb1, 0, none⟩) 16 16), (12, .bool bV)]) rfl (fun hg1 => ?_) (fun hg1 => ?_)
  · refine VL_pure 21 [2, 3, 4, 29] [(2, .pointer (some ⟨b1, 0, none⟩)), (3, .pointer (some ⟨b2, 0, none⟩)), (4, .pointer (some ⟨b3, 0, none⟩)), (29, .bool true)] (by kernel_rfl) rfl ?_
    refine VL_end (by kernel_rfl) ?_
    refine VQ_next ?_
    refine VC_true (by kernel_rfl) ?_
    refine VC_seq ?_
    refine VC_region ?_
    refine VL_pure 1 [4, 30] [(4, .pointer (some ⟨b3, 0, none⟩)), (30, .agg #[.int .i64 0, .int .u8 0, .bool false, .int .u32 0, .int .u8 0, .int .u8 0, .int .u8 0, .int .u8 0, .int .u8 0, .int .u8 0, .int .u8 0, .int .u8 0, .int .u8 0, .int .u8 0, .int .u8 0, .int .u8 0, .int .u8 0, .int .u8 0, .int .u8 0, .int .u8 0, .int .u8 0, .int .u8 0, .int .u8 0, .int .u8 0, .int .u8 0, .int .u8 0, .int .u8 0, .int .u8 0, .int .u8 0, .int .u8 0, .int .u8 0, .int .u8 0, .int .u8 0, .int .u8 0, .int .u8 0, .int .u8 0])] (by kernel_rfl) rfl ?_
    refine VL_store (b := b3) (o := 0) (vs := [.int .i64 0, .int .u8 0, .bool false, .int .u32 0, .int .u8 0, .int .u8 0, .int .u8 0, .int .u8 0, .int .u8 0, .int .u8 0, .int .u8 0, .int .u8 0, .int .u8 0, .int .u8 0, .int .u8 0, .int .u8 0, .int .u8 0, .int .u8 0, .int .u8 0, .int .u8 0, .int .u8 0, .int .u8 0, .int .u8 0, .int .u8 0, .int .u8 0, .int .u8 0, .int .u8 0, .int .u8 0, .int .u8 0, .int .u8 0, .int .u8 0, .int .u8 0, .int .u8 0, .int .u8 0, .int .u8 0, .int .u8 0]) (by kernel_rfl) (by kernel_rfl) ho3 (Nat.le_of_ble_eq_true (by kernel_rfl)) ?_
    intro w6 hw1
    replace hS := Step.transNew hS hw1.step (fun _ _ _ => by omega)
    replace ho1 := ho1.step hw1.step (show ¬ b1 = b3 by omega)
    replace ho2 := ho2.step hw1.step (show ¬ b2 = b3 by omega)
    replace ho4 := ho4.step hw1.step (show ¬ b4 = b3 by omega)
    have ho5 : Own w6 b3 #[.int .i64 0, .int .u8 0, .bool false, .int .u32 0, .int .u8 0, .int .u8 0, .int .u8 0, .int .u8 0, .int .u8 0, .int .u8 0, .int .u8 0, .int .u8 0, .int .u8 0, .int .u8 0, .int .u8 0, .int .u8 0, .int .u8 0, .int .u8 0, .int .u8 0, .int .u8 0, .int .u8 0, .int .u8 0, .int .u8 0, .int .u8 0, .int .u8 0, .int .u8 0, .int .u8 0, .int .u8 0, .int .u8 0, .int .u8 0, .int .u8 0, .int .u8 0, .int .u8 0, .int .u8 0, .int .u8 0, .int .u8 0] 34 := Own.cast hw1.own (by kernel_rfl)
    have hzhw1 := hw1.same
    refine VL_pure 3 [4, 5] [(4, .pointer (some ⟨b3, 0, none⟩)), (5, .bool false)] (by kernel_rfl) rfl ?_
    refine VL_end (by kernel_rfl) ?_
    refine VQ_next ?_
    refine VC_ret ?_
    refine VQ_then_ret ?_
    refine VQ_retC1T1 (T := 34) (.agg #[.int .i64 0, .int .u8 0, .bool false, .int .u32 0, .int .u8 0, .int .u8 0, .int .u8 0, .int .u8 0, .int .u8 0, .int .u8 0, .int .u8 0, .int .u8 0, .int .u8 0, .int .u8 0, .int .u8 0, .int .u8 0, .int .u8 0, .int .u8 0, .int .u8 0, .int .u8 0, .int .u8 0, .int .u8 0, .int .u8 0, .int .u8 0, .int .u8 0, .int .u8 0, .int .u8 0, .int .u8 0, .int .u8 0, .int .u8 0, .int .u8 0, .int .u8 0, .int .u8 0, .int .u8 0, .int .u8 0, .int .u8 0]) (.bool false) (.inr rfl) rfl rfl rfl (Loads.ownL ho5 (n := 36) (by kernel_rfl) (by kernel_rfl) (by kernel_rfl)) ?_
    exact ⟨reply_fin (b := false) (v := zeroO) (by simp [replyB, *]) rfl, hS⟩
  · refine VL_pure 5 [2, 3, 4, 6, 12, 13] [(2, .pointer (some ⟨b1, 0, none⟩)), (3, .pointer (some ⟨b2, 0, none⟩)), (4, .pointer (some ⟨b3, 0, none⟩)), (6, .slice (some ⟨rb1, 0, none⟩) 16 16), (12, .bool false), (13, .pointer (some ⟨b1, 2, none⟩))] (by kernel_rfl) rfl ?_
    refine VL_load (d := 14) (t := 4) (a := ⟨b1, 2, none⟩) (v := .bool o.a) (by kernel_rfl) (by kernel_rfl) (Loads.own1 ho1 (by kernel_rfl) (by rfl)) ?_
    refine VL_pure 9 [2, 3, 4, 6, 17] [(2, .pointer (some ⟨b1, 0, none⟩)), (3, .pointer (some ⟨b2, 0, none⟩)), (4, .pointer (some ⟨b3, 0, none⟩)), (6, .slice (some ⟨rb1, 0, none⟩) 16 16), (17, .bool (!o.a))] (by kernel_rfl) rfl ?_
    refine VL_bool o.a (fun bV => [(2, .pointer (some ⟨b1, 0, none⟩)), (3, .pointer (some ⟨b2, 0, none⟩)), (4, .pointer (some ⟨b3, 0, none⟩)), (6, .slice (some ⟨rb1, 0, none⟩) 16 16), (17, .bool (!bV))]) rfl (fun hg2 => ?_) (fun hg2 => ?_)
    · refine VL_pure 10 [2, 3, 4, 6, 17, 18] [(2, .pointer (some ⟨b1, 0, none⟩)), (3, .pointer (some ⟨b2, 0, none⟩)), (4, .pointer (some ⟨b3, 0, none⟩)), (6, .slice (some ⟨rb1, 0, none⟩) 16 16), (17, .bool false), (18, .pointer (some ⟨b1, 4, none⟩))] (by kernel_rfl) rfl ?_
      refine VL_load (d := 19) (t := 22) (a := ⟨b1, 4, none⟩) (v := .agg #[.int .u8 (o.p 0), .int .u8 (o.p 1), .int .u8 (o.p 2), .int .u8 (o.p 3), .int .u8 (o.p 4), .int .u8 (o.p 5), .int .u8 (o.p 6), .int .u8 (o.p 7), .int .u8 (o.p 8), .int .u8 (o.p 9), .int .u8 (o.p 10), .int .u8 (o.p 11), .int .u8 (o.p 12), .int .u8 (o.p 13), .int .u8 (o.p 14), .int .u8 (o.p 15)]) (by kernel_rfl) (by kernel_rfl) (Loads.ownL ho1 (n := 16) (by kernel_rfl) (by kernel_rfl) (by kernel_rfl)) ?_
      refine VL_load (d := 20) (t := 22) (a := ⟨b2, 0, none⟩) (v := .agg #[.int .u8 (here 0), .int .u8 (here 1), .int .u8 (here 2), .int .u8 (here 3), .int .u8 (here 4), .int .u8 (here 5), .int .u8 (here 6), .int .u8 (here 7), .int .u8 (here 8), .int .u8 (here 9), .int .u8 (here 10), .int .u8 (here 11), .int .u8 (here 12), .int .u8 (here 13), .int .u8 (here 14), .int .u8 (here 15)]) (by kernel_rfl) (by kernel_rfl) (Loads.ownL ho2 (n := 16) (by kernel_rfl) (by kernel_rfl) (by kernel_rfl)) ?_
      refine VL_agEq (d := 21) (dd := 9) (ls := (rep 16 [.int .u8])) (pos := false) (t := 22) (xs := #[.int .u8 (o.p 0), .int .u8 (o.p 1), .int .u8 (o.p 2), .int .u8 (o.p 3), .int .u8 (o.p 4), .int .u8 (o.p 5), .int .u8 (o.p 6), .int .u8 (o.p 7), .int .u8 (o.p 8), .int .u8 (o.p 9), .int .u8 (o.p 10), .int .u8 (o.p 11), .int .u8 (o.p 12), .int .u8 (o.p 13), .int .u8 (o.p 14), .int .u8 (o.p 15)]) (ys := #[.int .u8 (here 0), .int .u8 (here 1), .int .u8 (here 2), .int .u8 (here 3), .int .u8 (here 4), .int .u8 (here 5), .int .u8 (here 6), .int .u8 (here 7), .int .u8 (here 8), .int .u8 (here 9), .int .u8 (here 10), .int .u8 (here 11), .int .u8 (here 12), .int .u8 (here 13), .int .u8 (here 14), .int .u8 (here 15)]) (by kernel_rfl) (by kernel_rfl) (by kernel_rfl) (by kernel_rfl) (by first | exact ⟨⟨_, rfl⟩, ⟨_, rfl⟩, ⟨_, rfl⟩, ⟨_, rfl⟩, ⟨_, rfl⟩, ⟨_, rfl⟩, ⟨_, rfl⟩, ⟨_, rfl⟩, ⟨_, rfl⟩, ⟨_, rfl⟩, ⟨_, rfl⟩, ⟨_, rfl⟩, ⟨_, rfl⟩, ⟨_, rfl⟩, ⟨_, rfl⟩, ⟨_, rfl⟩, trivial⟩ | trivial) (by first | exact ⟨⟨_, rfl⟩, ⟨_, rfl⟩, ⟨_, rfl⟩, ⟨_, rfl⟩, ⟨_, rfl⟩, ⟨_, rfl⟩, ⟨_, rfl⟩, ⟨_, rfl⟩, ⟨_, rfl⟩, ⟨_, rfl⟩, ⟨_, rfl⟩, ⟨_, rfl⟩, ⟨_, rfl⟩, ⟨_, rfl⟩, ⟨_, rfl⟩, ⟨_, rfl⟩, trivial⟩ | trivial) (!(plEq o.p here)) (by rfl) ?_
      refine VL_pure 14 [2, 3, 4, 6, 17, 22] [(2, .pointer (some ⟨b1, 0, none⟩)), (3, .pointer (some ⟨b2, 0, none⟩)), (4, .pointer (some ⟨b3, 0, none⟩)), (6, .slice (some ⟨rb1, 0, none⟩) 16 16), (17, .bool false), (22, .bool (!(plEq o.p here)))] (by kernel_rfl) rfl ?_
      refine VL_bool (plEq o.p here) (fun bV => [(2, .pointer (some ⟨b1, 0, none⟩)), (3, .pointer (some ⟨b2, 0, none⟩)), (4, .pointer (some ⟨b3, 0, none⟩)), (6, .slice (some ⟨rb1, 0, none⟩) 16 16), (17, .bool false), (22, .bool (!bV))]) rfl (fun hg3 => ?_) (fun hg3 => ?_)
      · refine VL_pure 21 [2, 3, 4, 29] [(2, .pointer (some ⟨b1, 0, none⟩)), (3, .pointer (some ⟨b2, 0, none⟩)), (4, .pointer (some ⟨b3, 0, none⟩)), (29, .bool false)] (by kernel_rfl) rfl ?_
        refine VL_end (by kernel_rfl) ?_
        refine VQ_next ?_
        refine VC_false (by kernel_rfl) ?_
        refine VC_skip ?_
        refine VQ_next ?_
        refine VC_seq ?_
        refine VC_eff [[], [], [1], [0, 1, 2], [0, 1, 2, 3]] 3 [.agg #[.int .u8 (here 0), .int .u8 (here 1), .int .u8 (here 2), .int .u8 (here 3), .int .u8 (here 4), .int .u8 (here 5), .int .u8 (here 6), .int .u8 (here 7), .int .u8 (here 8), .int .u8 (here 9), .int .u8 (here 10), .int .u8 (here 11), .int .u8 (here 12), .int .u8 (here 13), .int .u8 (here 14), .int .u8 (here 15)], .pointer (some ⟨b1, 2, none⟩), undef] [1] [0, 2] (ROwn b1 34 #[.int .i64 o.k, .int .u8 o.d, .bool o.a, .int .u32 o.tg, .int .u8 (o.p 0), .int .u8 (o.p 1), .int .u8 (o.p 2), .int .u8 (o.p 3), .int .u8 (o.p 4), .int .u8 (o.p 5), .int .u8 (o.p 6), .int .u8 (o.p 7), .int .u8 (o.p 8), .int .u8 (o.p 9), .int .u8 (o.p 10), .int .u8 (o.p 11), .int .u8 (o.p 12), .int .u8 (o.p 13), .int .u8 (o.p 14), .int .u8 (o.p 15), .int .u8 (o.s 0), .int .u8 (o.s 1), .int .u8 (o.s 2), .int .u8 (o.s 3), .int .u8 (o.s 4), .int .u8 (o.s 5), .int .u8 (o.s 6), .int .u8 (o.s 7), .int .u8 (o.s 8), .int .u8 (o.s 9), .int .u8 (o.s 10), .int .u8 (o.s 11), .int .u8 (o.s 12), .int .u8 (o.s 13), .int .u8 (o.s 14), .int .u8 (o.s 15)] #[.int .i64 o.k, .int .u8 o.d, .bool false, .int .u32 o.tg, .int .u8 (o.p 0), .int .u8 (o.p 1), .int .u8 (o.p 2), .int .u8 (o.p 3), .int .u8 (o.p 4), .int .u8 (o.p 5), .int .u8 (o.p 6), .int .u8 (o.p 7), .int .u8 (o.p 8), .int .u8 (o.p 9), .int .u8 (o.p 10), .int .u8 (o.p 11), .int .u8 (o.p 12), .int .u8 (o.p 13), .int .u8 (o.p 14), .int .u8 (o.p 15), .int .u8 (o.s 0), .int .u8 (o.s 1), .int .u8 (o.s 2), .int .u8 (o.s 3), .int .u8 (o.s 4), .int .u8 (o.s 5), .int .u8 (o.s 6), .int .u8 (o.s 7), .int .u8 (o.s 8), .int .u8 (o.s 9), .int .u8 (o.s 10), .int .u8 (o.s 11), .int .u8 (o.s 12), .int .u8 (o.s 13), .int .u8 (o.s 14), .int .u8 (o.s 15)]) (fun j x => j = 2 → Own x b1 #[.int .i64 o.k, .int .u8 o.d, .bool false, .int .u32 o.tg, .int .u8 (o.p 0), .int .u8 (o.p 1), .int .u8 (o.p 2), .int .u8 (o.p 3), .int .u8 (o.p 4), .int .u8 (o.p 5), .int .u8 (o.p 6), .int .u8 (o.p 7), .int .u8 (o.p 8), .int .u8 (o.p 9), .int .u8 (o.p 10), .int .u8 (o.p 11), .int .u8 (o.p 12), .int .u8 (o.p 13), .int .u8 (o.p 14), .int .u8 (o.p 15), .int .u8 (o.s 0), .int .u8 (o.s 1), .int .u8 (o.s 2), .int .u8 (o.s 3), .int .u8 (o.s 4), .int .u8 (o.s 5), .int .u8 (o.s 6), .int .u8 (o.s 7), .int .u8 (o.s 8), .int .u8 (o.s 9), .int .u8 (o.s 10), .int .u8 (o.s 11), .int .u8 (o.s 12), .int .u8 (o.s 13), .int .u8 (o.s 14), .int .u8 (o.s 15)] 34) (by kernel_rfl) (by kernel_rfl) (by kernel_rfl) (ROwn.refl _ _ _ _) ROwn.trans (ROwn.no (drew_step _)) (fun _ _ _ h hr e => hr.2.1 (h e)) (by kernel_rfl) (by intro k hk x e; subst e; simp at hk) ?_ ?_
        · intro w9 hr1
          have hI := hr1.1 (.inl ho1)
          replace hS := Step.transNew hS hr1.2.2 (fun _ _ _ => by omega)
          replace ho2 := ho2.step hr1.2.2 (show ¬ b2 = b1 by omega)
          replace ho3 := ho3.step hr1.2.2 (show ¬ b3 = b1 by omega)
          replace ho4 := ho4.step hr1.2.2 (show ¬ b4 = b1 by omega)
          exact ⟨fun _ => Eff1_no (Det1_load (d := 31) (t := 22) (a := ⟨b2, 0, none⟩) (by kernel_rfl) (by kernel_rfl) (Loads.ownL ho2 (n := 16) (by kernel_rfl) (by kernel_rfl) (by kernel_rfl))) (fun x e => absurd e (by decide)), fun _ => Eff1_store (b := b1) (o := 2) (T := 34) (c0 := #[.int .i64 o.k, .int .u8 o.d, .bool o.a, .int .u32 o.tg, .int .u8 (o.p 0), .int .u8 (o.p 1), .int .u8 (o.p 2), .int .u8 (o.p 3), .int .u8 (o.p 4), .int .u8 (o.p 5), .int .u8 (o.p 6), .int .u8 (o.p 7), .int .u8 (o.p 8), .int .u8 (o.p 9), .int .u8 (o.p 10), .int .u8 (o.p 11), .int .u8 (o.p 12), .int .u8 (o.p 13), .int .u8 (o.p 14), .int .u8 (o.p 15), .int .u8 (o.s 0), .int .u8 (o.s 1), .int .u8 (o.s 2), .int .u8 (o.s 3), .int .u8 (o.s 4), .int .u8 (o.s 5), .int .u8 (o.s 6), .int .u8 (o.s 7), .int .u8 (o.s 8), .int .u8 (o.s 9), .int .u8 (o.s 10), .int .u8 (o.s 11), .int .u8 (o.s 12), .int .u8 (o.s 13), .int .u8 (o.s 14), .int .u8 (o.s 15)]) (c1 := #[.int .i64 o.k, .int .u8 o.d, .bool false, .int .u32 o.tg, .int .u8 (o.p 0), .int .u8 (o.p 1), .int .u8 (o.p 2), .int .u8 (o.p 3), .int .u8 (o.p 4), .int .u8 (o.p 5), .int .u8 (o.p 6), .int .u8 (o.p 7), .int .u8 (o.p 8), .int .u8 (o.p 9), .int .u8 (o.p 10), .int .u8 (o.p 11), .int .u8 (o.p 12), .int .u8 (o.p 13), .int .u8 (o.p 14), .int .u8 (o.p 15), .int .u8 (o.s 0), .int .u8 (o.s 1), .int .u8 (o.s 2), .int .u8 (o.s 3), .int .u8 (o.s 4), .int .u8 (o.s 5), .int .u8 (o.s 6), .int .u8 (o.s 7), .int .u8 (o.s 8), .int .u8 (o.s 9), .int .u8 (o.s 10), .int .u8 (o.s 11), .int .u8 (o.s 12), .int .u8 (o.s 13), .int .u8 (o.s 14), .int .u8 (o.s 15)]) (vs := [.bool false]) (by kernel_rfl) (by kernel_rfl) hI (Nat.le_of_ble_eq_true (by kernel_rfl)) (Nat.le_of_ble_eq_true (by kernel_rfl)) (by kernel_rfl) (by kernel_rfl), trivial⟩
        intro w8 hr2 hB1
        have ho6 := hB1 2 (by decide) rfl
        replace hS := Step.transNew hS hr2.2.2 (fun _ _ _ => by omega)
        replace ho2 := ho2.step hr2.2.2 (show ¬ b2 = b1 by omega)
        replace ho3 := ho3.step hr2.2.2 (show ¬ b3 = b1 by omega)
        replace ho4 := ho4.step hr2.2.2 (show ¬ b4 = b1 by omega)
        refine VL_keep [2, 4, 31] [(2, .pointer (some ⟨b1, 0, none⟩)), (4, .pointer (some ⟨b3, 0, none⟩)), (31, .agg #[.int .u8 (here 0), .int .u8 (here 1), .int .u8 (here 2), .int .u8 (here 3), .int .u8 (here 4), .int .u8 (here 5), .int .u8 (here 6), .int .u8 (here 7), .int .u8 (here 8), .int .u8 (here 9), .int .u8 (here 10), .int .u8 (here 11), .int .u8 (here 12), .int .u8 (here 13), .int .u8 (here 14), .int .u8 (here 15)])] (by kernel_rfl) ?_
        refine VL_pure 4 [2, 4, 31, 33] [(2, .pointer (some ⟨b1, 0, none⟩)), (4, .pointer (some ⟨b3, 0, none⟩)), (31, .agg #[.int .u8 (here 0), .int .u8 (here 1), .int .u8 (here 2), .int .u8 (here 3), .int .u8 (here 4), .int .u8 (here 5), .int .u8 (here 6), .int .u8 (here 7), .int .u8 (here 8), .int .u8 (here 9), .int .u8 (here 10), .int .u8 (here 11), .int .u8 (here 12), .int .u8 (here 13), .int .u8 (here 14), .int .u8 (here 15)]), (33, .pointer (some ⟨b1, 4, none⟩))] (by kernel_rfl) rfl ?_
        refine VL_store (b := b1) (o := 4) (vs := [.int .u8 (here 0), .int .u8 (here 1), .int .u8 (here 2), .int .u8 (here 3), .int .u8 (here 4), .int .u8 (here 5), .int .u8 (here 6), .int .u8 (here 7), .int .u8 (here 8), .int .u8 (here 9), .int .u8 (here 10), .int .u8 (here 11), .int .u8 (here 12), .int .u8 (here 13), .int .u8 (here 14), .int .u8 (here 15)]) (by kernel_rfl) (by kernel_rfl) ho6 (Nat.le_of_ble_eq_true (by kernel_rfl)) ?_
        intro w10 hw2
        replace hS := Step.transNew hS hw2.step (fun _ _ _ => by omega)
        replace ho2 := ho2.step hw2.step (show ¬ b2 = b1 by omega)
        replace ho3 := ho3.step hw2.step (show ¬ b3 = b1 by omega)
        replace ho4 := ho4.step hw2.step (show ¬ b4 = b1 by omega)
        have ho7 : Own w10 b1 #[.int .i64 o.k, .int .u8 o.d, .bool false, .int .u32 o.tg, .int .u8 (here 0), .int .u8 (here 1), .int .u8 (here 2), .int .u8 (here 3), .int .u8 (here 4), .int .u8 (here 5), .int .u8 (here 6), .int .u8 (here 7), .int .u8 (here 8), .int .u8 (here 9), .int .u8 (here 10), .int .u8 (here 11), .int .u8 (here 12), .int .u8 (here 13), .int .u8 (here 14), .int .u8 (here 15), .int .u8 (o.s 0), .int .u8 (o.s 1), .int .u8 (o.s 2), .int .u8 (o.s 3), .int .u8 (o.s 4), .int .u8 (o.s 5), .int .u8 (o.s 6), .int .u8 (o.s 7), .int .u8 (o.s 8), .int .u8 (o.s 9), .int .u8 (o.s 10), .int .u8 (o.s 11), .int .u8 (o.s 12), .int .u8 (o.s 13), .int .u8 (o.s 14), .int .u8 (o.s 15)] 34 := Own.cast hw2.own (by kernel_rfl)
        have hzhw2 := hw2.same
        refine VL_end (by kernel_rfl) ?_
        refine VQ_next ?_
        refine VC_seq ?_
        refine VC_region ?_
        refine VL_load (d := 34) (t := 34) (a := ⟨b1, 0, none⟩) (v := .agg #[.int .i64 o.k, .int .u8 o.d, .bool false, .int .u32 o.tg, .int .u8 (here 0), .int .u8 (here 1), .int .u8 (here 2), .int .u8 (here 3), .int .u8 (here 4), .int .u8 (here 5), .int .u8 (here 6), .int .u8 (here 7), .int .u8 (here 8), .int .u8 (here 9), .int .u8 (here 10), .int .u8 (here 11), .int .u8 (here 12), .int .u8 (here 13), .int .u8 (here 14), .int .u8 (here 15), .int .u8 (o.s 0), .int .u8 (o.s 1), .int .u8 (o.s 2), .int .u8 (o.s 3), .int .u8 (o.s 4), .int .u8 (o.s 5), .int .u8 (o.s 6), .int .u8 (o.s 7), .int .u8 (o.s 8), .int .u8 (o.s 9), .int .u8 (o.s 10), .int .u8 (o.s 11), .int .u8 (o.s 12), .int .u8 (o.s 13), .int .u8 (o.s 14), .int .u8 (o.s 15)]) (by kernel_rfl) (by kernel_rfl) (Loads.ownL ho7 (n := 36) (by kernel_rfl) (by kernel_rfl) (by kernel_rfl)) ?_
        refine VL_store (b := b3) (o := 0) (vs := [.int .i64 o.k, .int .u8 o.d, .bool false, .int .u32 o.tg, .int .u8 (here 0), .int .u8 (here 1), .int .u8 (here 2), .int .u8 (here 3), .int .u8 (here 4), .int .u8 (here 5), .int .u8 (here 6), .int .u8 (here 7), .int .u8 (here 8), .int .u8 (here 9), .int .u8 (here 10), .int .u8 (here 11), .int .u8 (here 12), .int .u8 (here 13), .int .u8 (here 14), .int .u8 (here 15), .int .u8 (o.s 0), .int .u8 (o.s 1), .int .u8 (o.s 2), .int .u8 (o.s 3), .int .u8 (o.s 4), .int .u8 (o.s 5), .int .u8 (o.s 6), .int .u8 (o.s 7), .int .u8 (o.s 8), .int .u8 (o.s 9), .int .u8 (o.s 10), .int .u8 (o.s 11), .int .u8 (o.s 12), .int .u8 (o.s 13), .int .u8 (o.s 14), .int .u8 (o.s 15)]) (by kernel_rfl) (by kernel_rfl) ho3 (Nat.le_of_ble_eq_true (by kernel_rfl)) ?_
        intro w11 hw3
        replace hS := Step.transNew hS hw3.step (fun _ _ _ => by omega)
        replace ho2 := ho2.step hw3.step (show ¬ b2 = b3 by omega)
        replace ho4 := ho4.step hw3.step (show ¬ b4 = b3 by omega)
        replace ho7 := ho7.step hw3.step (show ¬ b1 = b3 by omega)
        have ho8 : Own w11 b3 #[.int .i64 o.k, .int .u8 o.d, .bool false, .int .u32 o.tg, .int .u8 (here 0), .int .u8 (here 1), .int .u8 (here 2), .int .u8 (here 3), .int .u8 (here 4), .int .u8 (here 5), .int .u8 (here 6), .int .u8 (here 7), .int .u8 (here 8), .int .u8 (here 9), .int .u8 (here 10), .int .u8 (here 11), .int .u8 (here 12), .int .u8 (here 13), .int .u8 (here 14), .int .u8 (here 15), .int .u8 (o.s 0), .int .u8 (o.s 1), .int .u8 (o.s 2), .int .u8 (o.s 3), .int .u8 (o.s 4), .int .u8 (o.s 5), .int .u8 (o.s 6), .int .u8 (o.s 7), .int .u8 (o.s 8), .int .u8 (o.s 9), .int .u8 (o.s 10), .int .u8 (o.s 11), .int .u8 (o.s 12), .int .u8 (o.s 13), .int .u8 (o.s 14), .int .u8 (o.s 15)] 34 := Own.cast hw3.own (by kernel_rfl)
        have hzhw3 := hw3.same
        refine VL_pure 3 [4, 5] [(4, .pointer (some ⟨b3, 0, none⟩)), (5, .bool true)] (by kernel_rfl) rfl ?_
        refine VL_end (by kernel_rfl) ?_
        refine VQ_next ?_
        refine VC_ret ?_
        refine VQ_retC1T1 (T := 34) (.agg #[.int .i64 o.k, .int .u8 o.d, .bool false, .int .u32 o.tg, .int .u8 (here 0), .int .u8 (here 1), .int .u8 (here 2), .int .u8 (here 3), .int .u8 (here 4), .int .u8 (here 5), .int .u8 (here 6), .int .u8 (here 7), .int .u8 (here 8), .int .u8 (here 9), .int .u8 (here 10), .int .u8 (here 11), .int .u8 (here 12), .int .u8 (here 13), .int .u8 (here 14), .int .u8 (here 15), .int .u8 (o.s 0), .int .u8 (o.s 1), .int .u8 (o.s 2), .int .u8 (o.s 3), .int .u8 (o.s 4), .int .u8 (o.s 5), .int .u8 (o.s 6), .int .u8 (o.s 7), .int .u8 (o.s 8), .int .u8 (o.s 9), .int .u8 (o.s 10), .int .u8 (o.s 11), .int .u8 (o.s 12), .int .u8 (o.s 13), .int .u8 (o.s 14), .int .u8 (o.s 15)]) (.bool true) (.inr rfl) rfl rfl rfl (Loads.ownL ho8 (n := 36) (by kernel_rfl) (by kernel_rfl) (by kernel_rfl)) ?_
        exact ⟨reply_fin (b := true) (v := ⟨o.k, o.d, false, o.tg, here, o.s⟩) (by simp [replyB, *]) rfl, hS⟩
      · refine VL_pure 17 [2, 3, 4, 17, 22, 24, 25] [(2, .pointer (some ⟨b1, 0, none⟩)), (3, .pointer (some ⟨b2, 0, none⟩)), (4, .pointer (some ⟨b3, 0, none⟩)), (17, .bool false), (22, .bool true), (24, .slice (some ⟨b1, 4, none⟩) 16 16), (25, .slice (some ⟨rb1, 0, none⟩) 16 16)] (by kernel_rfl) rfl ?_
        have hzs6 := hS.size
        have hzl11 := ho1.lt
        have hzl12 := ho2.lt
        have hzl13 := ho3.lt
        have hzl14 := ho4.lt
        refine VL_call (d := 26) (f := 31) (args := #[.slice (some ⟨b1, 4, none⟩) 16 16, .slice (some ⟨rb1, 0, none⟩) 16 16]) (by kernel_rfl) (by kernel_rfl) (by kernel_rfl) Try.call31 (equal_pl b1 4 16 rb1 0 16 o.p ones _ hp inByte_ones (fun j hj => (Own.cell ho1 (4 + j)).trans (om_place o j hj)) (fun j hj => (hcrb1 j hj).trans (pl_ones j hj).symm)) ?_
        rintro _ w12 ⟨rfl, hc2⟩
        replace hS := Step.trans hS hc2
        replace ho1 := ho1.no hc2
        replace ho2 := ho2.no hc2
        replace ho3 := ho3.no hc2
        replace ho4 := ho4.no hc2
        refine VL_pure 21 [2, 3, 4, 29] [(2, .pointer (some ⟨b1, 0, none⟩)), (3, .pointer (some ⟨b2, 0, none⟩)), (4, .pointer (some ⟨b3, 0, none⟩)), (29, .bool (!(plEq o.p ones)))] (by kernel_rfl) rfl ?_
        refine VL_end (by kernel_rfl) ?_
        refine VQ_next ?_
        refine VC_cond (!(plEq o.p ones)) (by kernel_rfl) (fun h1 => ?_) (fun h1 => ?_)
        · try simp only [Bool.and_eq_true, Bool.or_eq_true, decide_eq_true_eq, Bool.not_eq_true', decide_eq_false_iff_not, Bool.and_eq_false_iff, Bool.or_eq_false_iff, beq_iff_eq, bne_iff_ne, beq_eq_false_iff_ne, bne_eq_false_iff_eq, Bool.not_eq_eq_eq_not, Bool.not_true, Bool.not_false] at h1
          refine VC_seq ?_
          refine VC_region ?_
          refine VL_pure 1 [4, 30] [(4, .pointer (some ⟨b3, 0, none⟩)), (30, .agg #[.int .i64 0, .int .u8 0, .bool false, .int .u32 0, .int .u8 0, .int .u8 0, .int .u8 0, .int .u8 0, .int .u8 0, .int .u8 0, .int .u8 0, .int .u8 0, .int .u8 0, .int .u8 0, .int .u8 0, .int .u8 0, .int .u8 0, .int .u8 0, .int .u8 0, .int .u8 0, .int .u8 0, .int .u8 0, .int .u8 0, .int .u8 0, .int .u8 0, .int .u8 0, .int .u8 0, .int .u8 0, .int .u8 0, .int .u8 0, .int .u8 0, .int .u8 0, .int .u8 0, .int .u8 0, .int .u8 0, .int .u8 0])] (by kernel_rfl) rfl ?_
          refine VL_store (b := b3) (o := 0) (vs := [.int .i64 0, .int .u8 0, .bool false, .int .u32 0, .int .u8 0, .int .u8 0, .int .u8 0, .int .u8 0, .int .u8 0, .int .u8 0, .int .u8 0, .int .u8 0, .int .u8 0, .int .u8 0, .int .u8 0, .int .u8 0, .int .u8 0, .int .u8 0, .int .u8 0, .int .u8 0, .int .u8 0, .int .u8 0, .int .u8 0, .int .u8 0, .int .u8 0, .int .u8 0, .int .u8 0, .int .u8 0, .int .u8 0, .int .u8 0, .int .u8 0, .int .u8 0, .int .u8 0, .int .u8 0, .int .u8 0, .int .u8 0]) (by kernel_rfl) (by kernel_rfl) ho3 (Nat.le_of_ble_eq_true (by kernel_rfl)) ?_
          intro w13 hw4
          replace hS := Step.transNew hS hw4.step (fun _ _ _ => by omega)
          replace ho1 := ho1.step hw4.step (show ¬ b1 = b3 by omega)
          replace ho2 := ho2.step hw4.step (show ¬ b2 = b3 by omega)
          replace ho4 := ho4.step hw4.step (show ¬ b4 = b3 by omega)
          have ho9 : Own w13 b3 #[.int .i64 0, .int .u8 0, .bool false, .int .u32 0, .int .u8 0, .int .u8 0, .int .u8 0, .int .u8 0, .int .u8 0, .int .u8 0, .int .u8 0, .int .u8 0, .int .u8 0, .int .u8 0, .int .u8 0, .int .u8 0, .int .u8 0, .int .u8 0, .int .u8 0, .int .u8 0, .int .u8 0, .int .u8 0, .int .u8 0, .int .u8 0, .int .u8 0, .int .u8 0, .int .u8 0, .int .u8 0, .int .u8 0, .int .u8 0, .int .u8 0, .int .u8 0, .int .u8 0, .int .u8 0, .int .u8 0, .int .u8 0] 34 := Own.cast hw4.own (by kernel_rfl)
          have hzhw4 := hw4.same
          refine VL_pure 3 [4, 5] [(4, .pointer (some ⟨b3, 0, none⟩)), (5, .bool false)] (by kernel_rfl) rfl ?_
          refine VL_end (by kernel_rfl) ?_
          refine VQ_next ?_
          refine VC_ret ?_
          refine VQ_then_ret ?_
          refine VQ_retC1T1 (T := 34) (.agg #[.int .i64 0, .int .u8 0, .bool false, .int .u32 0, .int .u8 0, .int .u8 0, .int .u8 0, .int .u8 0, .int .u8 0, .int .u8 0, .int .u8 0, .int .u8 0, .int .u8 0, .int .u8 0, .int .u8 0, .int .u8 0, .int .u8 0, .int .u8 0, .int .u8 0, .int .u8 0, .int .u8 0, .int .u8 0, .int .u8 0, .int .u8 0, .int .u8 0, .int .u8 0, .int .u8 0, .int .u8 0, .int .u8 0, .int .u8 0, .int .u8 0, .int .u8 0, .int .u8 0, .int .u8 0, .int .u8 0, .int .u8 0]) (.bool false) (.inr rfl) rfl rfl rfl (Loads.ownL ho9 (n := 36) (by kernel_rfl) (by kernel_rfl) (by kernel_rfl)) ?_
          exact ⟨reply_fin (b := false) (v := zeroO) (by simp [replyB, *]) rfl, hS⟩
        · try simp only [Bool.and_eq_true, Bool.or_eq_true, decide_eq_true_eq, Bool.not_eq_true', decide_eq_false_iff_not, Bool.and_eq_false_iff, Bool.or_eq_false_iff, beq_iff_eq, bne_iff_ne, beq_eq_false_iff_ne, bne_eq_false_iff_eq, Bool.not_eq_eq_eq_not, Bool.not_true, Bool.not_false] at h1
          refine VC_skip ?_
          refine VQ_next ?_
          refine VC_seq ?_
          refine VC_eff [[], [], [1], [0, 1, 2], [0, 1, 2, 3]] 3 [.agg #[.int .u8 (here 0), .int .u8 (here 1), .int .u8 (here 2), .int .u8 (here 3), .int .u8 (here 4), .int .u8 (here 5), .int .u8 (here 6), .int .u8 (here 7), .int .u8 (here 8), .int .u8 (here 9), .int .u8 (here 10), .int .u8 (here 11), .int .u8 (here 12), .int .u8 (here 13), .int .u8 (here 14), .int .u8 (here 15)], .pointer (some ⟨b1, 2, none⟩), undef] [1] [0, 2] (ROwn b1 34 #[.int .i64 o.k, .int .u8 o.d, .bool o.a, .int .u32 o.tg, .int .u8 (o.p 0), .int .u8 (o.p 1), .int .u8 (o.p 2), .int .u8 (o.p 3), .int .u8 (o.p 4), .int .u8 (o.p 5), .int .u8 (o.p 6), .int .u8 (o.p 7), .int .u8 (o.p 8), .int .u8 (o.p 9), .int .u8 (o.p 10), .int .u8 (o.p 11), .int .u8 (o.p 12), .int .u8 (o.p 13), .int .u8 (o.p 14), .int .u8 (o.p 15), .int .u8 (o.s 0), .int .u8 (o.s 1), .int .u8 (o.s 2), .int .u8 (o.s 3), .int .u8 (o.s 4), .int .u8 (o.s 5), .int .u8 (o.s 6), .int .u8 (o.s 7), .int .u8 (o.s 8), .int .u8 (o.s 9), .int .u8 (o.s 10), .int .u8 (o.s 11), .int .u8 (o.s 12), .int .u8 (o.s 13), .int .u8 (o.s 14), .int .u8 (o.s 15)] #[.int .i64 o.k, .int .u8 o.d, .bool false, .int .u32 o.tg, .int .u8 (o.p 0), .int .u8 (o.p 1), .int .u8 (o.p 2), .int .u8 (o.p 3), .int .u8 (o.p 4), .int .u8 (o.p 5), .int .u8 (o.p 6), .int .u8 (o.p 7), .int .u8 (o.p 8), .int .u8 (o.p 9), .int .u8 (o.p 10), .int .u8 (o.p 11), .int .u8 (o.p 12), .int .u8 (o.p 13), .int .u8 (o.p 14), .int .u8 (o.p 15), .int .u8 (o.s 0), .int .u8 (o.s 1), .int .u8 (o.s 2), .int .u8 (o.s 3), .int .u8 (o.s 4), .int .u8 (o.s 5), .int .u8 (o.s 6), .int .u8 (o.s 7), .int .u8 (o.s 8), .int .u8 (o.s 9), .int .u8 (o.s 10), .int .u8 (o.s 11), .int .u8 (o.s 12), .int .u8 (o.s 13), .int .u8 (o.s 14), .int .u8 (o.s 15)]) (fun j x => j = 2 → Own x b1 #[.int .i64 o.k, .int .u8 o.d, .bool false, .int .u32 o.tg, .int .u8 (o.p 0), .int .u8 (o.p 1), .int .u8 (o.p 2), .int .u8 (o.p 3), .int .u8 (o.p 4), .int .u8 (o.p 5), .int .u8 (o.p 6), .int .u8 (o.p 7), .int .u8 (o.p 8), .int .u8 (o.p 9), .int .u8 (o.p 10), .int .u8 (o.p 11), .int .u8 (o.p 12), .int .u8 (o.p 13), .int .u8 (o.p 14), .int .u8 (o.p 15), .int .u8 (o.s 0), .int .u8 (o.s 1), .int .u8 (o.s 2), .int .u8 (o.s 3), .int .u8 (o.s 4), .int .u8 (o.s 5), .int .u8 (o.s 6), .int .u8 (o.s 7), .int .u8 (o.s 8), .int .u8 (o.s 9), .int .u8 (o.s 10), .int .u8 (o.s 11), .int .u8 (o.s 12), .int .u8 (o.s 13), .int .u8 (o.s 14), .int .u8 (o.s 15)] 34) (by kernel_rfl) (by kernel_rfl) (by kernel_rfl) (ROwn.refl _ _ _ _) ROwn.trans (ROwn.no (drew_step _)) (fun _ _ _ h hr e => hr.2.1 (h e)) (by kernel_rfl) (by intro k hk x e; subst e; simp at hk) ?_ ?_
          · intro w16 hr3
            have hI := hr3.1 (.inl ho1)
            replace hS := Step.transNew hS hr3.2.2 (fun _ _ _ => by omega)
            replace ho2 := ho2.step hr3.2.2 (show ¬ b2 = b1 by omega)
            replace ho3 := ho3.step hr3.2.2 (show ¬ b3 = b1 by omega)
            replace ho4 := ho4.step hr3.2.2 (show ¬ b4 = b1 by omega)
            exact ⟨fun _ => Eff1_no (Det1_load (d := 31) (t := 22) (a := ⟨b2, 0, none⟩) (by kernel_rfl) (by kernel_rfl) (Loads.ownL ho2 (n := 16) (by kernel_rfl) (by kernel_rfl) (by kernel_rfl))) (fun x e => absurd e (by decide)), fun _ => Eff1_store (b := b1) (o := 2) (T := 34) (c0 := #[.int .i64 o.k, .int .u8 o.d, .bool o.a, .int .u32 o.tg, .int .u8 (o.p 0), .int .u8 (o.p 1), .int .u8 (o.p 2), .int .u8 (o.p 3), .int .u8 (o.p 4), .int .u8 (o.p 5), .int .u8 (o.p 6), .int .u8 (o.p 7), .int .u8 (o.p 8), .int .u8 (o.p 9), .int .u8 (o.p 10), .int .u8 (o.p 11), .int .u8 (o.p 12), .int .u8 (o.p 13), .int .u8 (o.p 14), .int .u8 (o.p 15), .int .u8 (o.s 0), .int .u8 (o.s 1), .int .u8 (o.s 2), .int .u8 (o.s 3), .int .u8 (o.s 4), .int .u8 (o.s 5), .int .u8 (o.s 6), .int .u8 (o.s 7), .int .u8 (o.s 8), .int .u8 (o.s 9), .int .u8 (o.s 10), .int .u8 (o.s 11), .int .u8 (o.s 12), .int .u8 (o.s 13), .int .u8 (o.s 14), .int .u8 (o.s 15)]) (c1 := #[.int .i64 o.k, .int .u8 o.d, .bool false, .int .u32 o.tg, .int .u8 (o.p 0), .int .u8 (o.p 1), .int .u8 (o.p 2), .int .u8 (o.p 3), .int .u8 (o.p 4), .int .u8 (o.p 5), .int .u8 (o.p 6), .int .u8 (o.p 7), .int .u8 (o.p 8), .int .u8 (o.p 9), .int .u8 (o.p 10), .int .u8 (o.p 11), .int .u8 (o.p 12), .int .u8 (o.p 13), .int .u8 (o.p 14), .int .u8 (o.p 15), .int .u8 (o.s 0), .int .u8 (o.s 1), .int .u8 (o.s 2), .int .u8 (o.s 3), .int .u8 (o.s 4), .int .u8 (o.s 5), .int .u8 (o.s 6), .int .u8 (o.s 7), .int .u8 (o.s 8), .int .u8 (o.s 9), .int .u8 (o.s 10), .int .u8 (o.s 11), .int .u8 (o.s 12), .int .u8 (o.s 13), .int .u8 (o.s 14), .int .u8 (o.s 15)]) (vs := [.bool false]) (by kernel_rfl) (by kernel_rfl) hI (Nat.le_of_ble_eq_true (by kernel_rfl)) (Nat.le_of_ble_eq_true (by kernel_rfl)) (by kernel_rfl) (by kernel_rfl), trivial⟩
          intro w15 hr4 hB2
          have ho10 := hB2 2 (by decide) rfl
          replace hS := Step.transNew hS hr4.2.2 (fun _ _ _ => by omega)
          replace ho2 := ho2.step hr4.2.2 (show ¬ b2 = b1 by omega)
          replace ho3 := ho3.step hr4.2.2 (show ¬ b3 = b1 by omega)
          replace ho4 := ho4.step hr4.2.2 (show ¬ b4 = b1 by omega)
          refine VL_keep [2, 4, 31] [(2, .pointer (some ⟨b1, 0, none⟩)), (4, .pointer (some ⟨b3, 0, none⟩)), (31, .agg #[.int .u8 (here 0), .int .u8 (here 1), .int .u8 (here 2), .int .u8 (here 3), .int .u8 (here 4), .int .u8 (here 5), .int .u8 (here 6), .int .u8 (here 7), .int .u8 (here 8), .int .u8 (here 9), .int .u8 (here 10), .int .u8 (here 11), .int .u8 (here 12), .int .u8 (here 13), .int .u8 (here 14), .int .u8 (here 15)])] (by kernel_rfl) ?_
          refine VL_pure 4 [2, 4, 31, 33] [(2, .pointer (some ⟨b1, 0, none⟩)), (4, .pointer (some ⟨b3, 0, none⟩)), (31, .agg #[.int .u8 (here 0), .int .u8 (here 1), .int .u8 (here 2), .int .u8 (here 3), .int .u8 (here 4), .int .u8 (here 5), .int .u8 (here 6), .int .u8 (here 7), .int .u8 (here 8), .int .u8 (here 9), .int .u8 (here 10), .int .u8 (here 11), .int .u8 (here 12), .int .u8 (here 13), .int .u8 (here 14), .int .u8 (here 15)]), (33, .pointer (some ⟨b1, 4, none⟩))] (by kernel_rfl) rfl ?_
          refine VL_store (b := b1) (o := 4) (vs := [.int .u8 (here 0), .int .u8 (here 1), .int .u8 (here 2), .int .u8 (here 3), .int .u8 (here 4), .int .u8 (here 5), .int .u8 (here 6), .int .u8 (here 7), .int .u8 (here 8), .int .u8 (here 9), .int .u8 (here 10), .int .u8 (here 11), .int .u8 (here 12), .int .u8 (here 13), .int .u8 (here 14), .int .u8 (here 15)]) (by kernel_rfl) (by kernel_rfl) ho10 (Nat.le_of_ble_eq_true (by kernel_rfl)) ?_
          intro w17 hw5
          replace hS := Step.transNew hS hw5.step (fun _ _ _ => by omega)
          replace ho2 := ho2.step hw5.step (show ¬ b2 = b1 by omega)
          replace ho3 := ho3.step hw5.step (show ¬ b3 = b1 by omega)
          replace ho4 := ho4.step hw5.step (show ¬ b4 = b1 by omega)
          have ho11 : Own w17 b1 #[.int .i64 o.k, .int .u8 o.d, .bool false, .int .u32 o.tg, .int .u8 (here 0), .int .u8 (here 1), .int .u8 (here 2), .int .u8 (here 3), .int .u8 (here 4), .int .u8 (here 5), .int .u8 (here 6), .int .u8 (here 7), .int .u8 (here 8), .int .u8 (here 9), .int .u8 (here 10), .int .u8 (here 11), .int .u8 (here 12), .int .u8 (here 13), .int .u8 (here 14), .int .u8 (here 15), .int .u8 (o.s 0), .int .u8 (o.s 1), .int .u8 (o.s 2), .int .u8 (o.s 3), .int .u8 (o.s 4), .int .u8 (o.s 5), .int .u8 (o.s 6), .int .u8 (o.s 7), .int .u8 (o.s 8), .int .u8 (o.s 9), .int .u8 (o.s 10), .int .u8 (o.s 11), .int .u8 (o.s 12), .int .u8 (o.s 13), .int .u8 (o.s 14), .int .u8 (o.s 15)] 34 := Own.cast hw5.own (by kernel_rfl)
          have hzhw5 := hw5.same
          refine VL_end (by kernel_rfl) ?_
          refine VQ_next ?_
          refine VC_seq ?_
          refine VC_region ?_
          refine VL_load (d := 34) (t := 34) (a := ⟨b1, 0, none⟩) (v := .agg #[.int .i64 o.k, .int .u8 o.d, .bool false, .int .u32 o.tg, .int .u8 (here 0), .int .u8 (here 1), .int .u8 (here 2), .int .u8 (here 3), .int .u8 (here 4), .int .u8 (here 5), .int .u8 (here 6), .int .u8 (here 7), .int .u8 (here 8), .int .u8 (here 9), .int .u8 (here 10), .int .u8 (here 11), .int .u8 (here 12), .int .u8 (here 13), .int .u8 (here 14), .int .u8 (here 15), .int .u8 (o.s 0), .int .u8 (o.s 1), .int .u8 (o.s 2), .int .u8 (o.s 3), .int .u8 (o.s 4), .int .u8 (o.s 5), .int .u8 (o.s 6), .int .u8 (o.s 7), .int .u8 (o.s 8), .int .u8 (o.s 9), .int .u8 (o.s 10), .int .u8 (o.s 11), .int .u8 (o.s 12), .int .u8 (o.s 13), .int .u8 (o.s 14), .int .u8 (o.s 15)]) (by kernel_rfl) (by kernel_rfl) (Loads.ownL ho11 (n := 36) (by kernel_rfl) (by kernel_rfl) (by kernel_rfl)) ?_
          refine VL_store (b := b3) (o := 0) (vs := [.int .i64 o.k, .int .u8 o.d, .bool false, .int .u32 o.tg, .int .u8 (here 0), .int .u8 (here 1), .int .u8 (here 2), .int .u8 (here 3), .int .u8 (here 4), .int .u8 (here 5), .int .u8 (here 6), .int .u8 (here 7), .int .u8 (here 8), .int .u8 (here 9), .int .u8 (here 10), .int .u8 (here 11), .int .u8 (here 12), .int .u8 (here 13), .int .u8 (here 14), .int .u8 (here 15), .int .u8 (o.s 0), .int .u8 (o.s 1), .int .u8 (o.s 2), .int .u8 (o.s 3), .int .u8 (o.s 4), .int .u8 (o.s 5), .int .u8 (o.s 6), .int .u8 (o.s 7), .int .u8 (o.s 8), .int .u8 (o.s 9), .int .u8 (o.s 10), .int .u8 (o.s 11), .int .u8 (o.s 12), .int .u8 (o.s 13), .int .u8 (o.s 14), .int .u8 (o.s 15)]) (by kernel_rfl) (by kernel_rfl) ho3 (Nat.le_of_ble_eq_true (by kernel_rfl)) ?_
          intro w18 hw6
          replace hS := Step.transNew hS hw6.step (fun _ _ _ => by omega)
          replace ho2 := ho2.step hw6.step (show ¬ b2 = b3 by omega)
          replace ho4 := ho4.step hw6.step (show ¬ b4 = b3 by omega)
          replace ho11 := ho11.step hw6.step (show ¬ b1 = b3 by omega)
          have ho12 : Own w18 b3 #[.int .i64 o.k, .int .u8 o.d, .bool false, .int .u32 o.tg, .int .u8 (here 0), .int .u8 (here 1), .int .u8 (here 2), .int .u8 (here 3), .int .u8 (here 4), .int .u8 (here 5), .int .u8 (here 6), .int .u8 (here 7), .int .u8 (here 8), .int .u8 (here 9), .int .u8 (here 10), .int .u8 (here 11), .int .u8 (here 12), .int .u8 (here 13), .int .u8 (here 14), .int .u8 (here 15), .int .u8 (o.s 0), .int .u8 (o.s 1), .int .u8 (o.s 2), .int .u8 (o.s 3), .int .u8 (o.s 4), .int .u8 (o.s 5), .int .u8 (o.s 6), .int .u8 (o.s 7), .int .u8 (o.s 8), .int .u8 (o.s 9), .int .u8 (o.s 10), .int .u8 (o.s 11), .int .u8 (o.s 12), .int .u8 (o.s 13), .int .u8 (o.s 14), .int .u8 (o.s 15)] 34 := Own.cast hw6.own (by kernel_rfl)
          have hzhw6 := hw6.same
          refine VL_pure 3 [4, 5] [(4, .pointer (some ⟨b3, 0, none⟩)), (5, .bool true)] (by kernel_rfl) rfl ?_
          refine VL_end (by kernel_rfl) ?_
          refine VQ_next ?_
          refine VC_ret ?_
          refine VQ_retC1T1 (T := 34) (.agg #[.int .i64 o.k, .int .u8 o.d, .bool false, .int .u32 o.tg, .int .u8 (here 0), .int .u8 (here 1), .int .u8 (here 2), .int .u8 (here 3), .int .u8 (here 4), .int .u8 (here 5), .int .u8 (here 6), .int .u8 (here 7), .int .u8 (here 8), .int .u8 (here 9), .int .u8 (here 10), .int .u8 (here 11), .int .u8 (here 12), .int .u8 (here 13), .int .u8 (here 14), .int .u8 (here 15), .int .u8 (o.s 0), .int .u8 (o.s 1), .int .u8 (o.s 2), .int .u8 (o.s 3), .int .u8 (o.s 4), .int .u8 (o.s 5), .int .u8 (o.s 6), .int .u8 (o.s 7), .int .u8 (o.s 8), .int .u8 (o.s 9), .int .u8 (o.s 10), .int .u8 (o.s 11), .int .u8 (o.s 12), .int .u8 (o.s 13), .int .u8 (o.s 14), .int .u8 (o.s 15)]) (.bool true) (.inr rfl) rfl rfl rfl (Loads.ownL ho12 (n := 36) (by kernel_rfl) (by kernel_rfl) (by kernel_rfl)) ?_
          exact ⟨reply_fin (b := true) (v := ⟨o.k, o.d, false, o.tg, here, o.s⟩) (by simp [replyB, *]) rfl, hS⟩
    · refine VL_pure 21 [2, 3, 4, 29] [(2, .pointer (some ⟨b1, 0, none⟩)), (3, .pointer (some ⟨b2, 0, none⟩)), (4, .pointer (some ⟨b3, 0, none⟩)), (29, .bool true)] (by kernel_rfl) rfl ?_
      refine VL_end (by kernel_rfl) ?_
      refine VQ_next ?_
      refine VC_true (by kernel_rfl) ?_
      refine VC_seq ?_
      refine VC_region ?_
      refine VL_pure 1 [4, 30] [(4, .pointer (some ⟨b3, 0, none⟩)), (30, .agg #[.int .i64 0, .int .u8 0, .bool false, .int .u32 0, .int .u8 0, .int .u8 0, .int .u8 0, .int .u8 0, .int .u8 0, .int .u8 0, .int .u8 0, .int .u8 0, .int .u8 0, .int .u8 0, .int .u8 0, .int .u8 0, .int .u8 0, .int .u8 0, .int .u8 0, .int .u8 0, .int .u8 0, .int .u8 0, .int .u8 0, .int .u8 0, .int .u8 0, .int .u8 0, .int .u8 0, .int .u8 0, .int .u8 0, .int .u8 0, .int .u8 0, .int .u8 0, .int .u8 0, .int .u8 0, .int .u8 0, .int .u8 0])] (by kernel_rfl) rfl ?_
      refine VL_store (b := b3) (o := 0) (vs := [.int .i64 0, .int .u8 0, .bool false, .int .u32 0, .int .u8 0, .int .u8 0, .int .u8 0, .int .u8 0, .int .u8 0, .int .u8 0, .int .u8 0, .int .u8 0, .int .u8 0, .int .u8 0, .int .u8 0, .int .u8 0, .int .u8 0, .int .u8 0, .int .u8 0, .int .u8 0, .int .u8 0, .int .u8 0, .int .u8 0, .int .u8 0, .int .u8 0, .int .u8 0, .int .u8 0, .int .u8 0, .int .u8 0, .int .u8 0, .int .u8 0, .int .u8 0, .int .u8 0, .int .u8 0, .int .u8 0, .int .u8 0]) (by kernel_rfl) (by kernel_rfl) ho3 (Nat.le_of_ble_eq_true (by kernel_rfl)) ?_
      intro w19 hw7
      replace hS := Step.transNew hS hw7.step (fun _ _ _ => by omega)
      replace ho1 := ho1.step hw7.step (show ¬ b1 = b3 by omega)
      replace ho2 := ho2.step hw7.step (show ¬ b2 = b3 by omega)
      replace ho4 := ho4.step hw7.step (show ¬ b4 = b3 by omega)
      have ho13 : Own w19 b3 #[.int .i64 0, .int .u8 0, .bool false, .int .u32 0, .int .u8 0, .int .u8 0, .int .u8 0, .int .u8 0, .int .u8 0, .int .u8 0, .int .u8 0, .int .u8 0, .int .u8 0, .int .u8 0, .int .u8 0, .int .u8 0, .int .u8 0, .int .u8 0, .int .u8 0, .int .u8 0, .int .u8 0, .int .u8 0, .int .u8 0, .int .u8 0, .int .u8 0, .int .u8 0, .int .u8 0, .int .u8 0, .int .u8 0, .int .u8 0, .int .u8 0, .int .u8 0, .int .u8 0, .int .u8 0, .int .u8 0, .int .u8 0] 34 := Own.cast hw7.own (by kernel_rfl)
      have hzhw7 := hw7.same
      refine VL_pure 3 [4, 5] [(4, .pointer (some ⟨b3, 0, none⟩)), (5, .bool false)] (by kernel_rfl) rfl ?_
      refine VL_end (by kernel_rfl) ?_
      refine VQ_next ?_
      refine VC_ret ?_
      refine VQ_then_ret ?_
      refine VQ_retC1T1 (T := 34) (.agg #[.int .i64 0, .int .u8 0, .bool false, .int .u32 0, .int .u8 0, .int .u8 0, .int .u8 0, .int .u8 0, .int .u8 0, .int .u8 0, .int .u8 0, .int .u8 0, .int .u8 0, .int .u8 0, .int .u8 0, .int .u8 0, .int .u8 0, .int .u8 0, .int .u8 0, .int .u8 0, .int .u8 0, .int .u8 0, .int .u8 0, .int .u8 0, .int .u8 0, .int .u8 0, .int .u8 0, .int .u8 0, .int .u8 0, .int .u8 0, .int .u8 0, .int .u8 0, .int .u8 0, .int .u8 0, .int .u8 0, .int .u8 0]) (.bool false) (.inr rfl) rfl rfl rfl (Loads.ownL ho13 (n := 36) (by kernel_rfl) (by kernel_rfl) (by kernel_rfl)) ?_
      exact ⟨reply_fin (b := false) (v := zeroO) (by simp [replyB, *]) rfl, hS⟩

set_option maxRecDepth 20000 in
set_option maxHeartbeats 1000000 in
theorem got_any (b : Nat) (s : Al) (w : World) (ht : Own w b (alC s) 62) (t : Int) (o : Om) (hw : waits s) (hp : inByte o.p) :
    CV Try.prog 12 #[.pointer (some ⟨b, 0, none⟩), .int .i64 t, .agg #[.int .i64 o.k, .int .u8 o.d, .bool o.a, .int .u32 o.tg, .int .u8 (o.p 0), .int .u8 (o.p 1), .int .u8 (o.p 2), .int .u8 (o.p 3), .int .u8 (o.p 4), .int .u8 (o.p 5), .int .u8 (o.p 6), .int .u8 (o.p 7), .int .u8 (o.p 8), .int .u8 (o.p 9), .int .u8 (o.p 10), .int .u8 (o.p 11), .int .u8 (o.p 12), .int .u8 (o.p 13), .int .u8 (o.p 14), .int .u8 (o.p 15), .int .u8 (o.s 0), .int .u8 (o.s 1), .int .u8 (o.s 2), .int .u8 (o.s 3), .int .u8 (o.s 4), .int .u8 (o.s 5), .int .u8 (o.s 6), .int .u8 (o.s 7), .int .u8 (o.s 8), .int .u8 (o.s 9), .int .u8 (o.s 10), .int .u8 (o.s 11), .int .u8 (o.s 12), .int .u8 (o.s 13), .int .u8 (o.s 14), .int .u8 (o.s 15)]] w (fun x w1 => x = .tuple #[.agg (omL (gotV s o)).toArray, .bool (gotB s o)] ∧ Own w1 b (alC (gotA s t o)) 62 ∧ Step (Just b) w w1) := by
  have hS : Step (Just b) w w := Step.refl _ _
  have hbl := ht.lt
  refine CV_enter Try.f12 _ 58 [(0, .pointer (some ⟨b, 0, none⟩)), (1, .int .i64 t), (2, .agg #[.int .i64 o.k, .int .u8 o.d, .bool o.a, .int .u32 o.tg, .int .u8 (o.p 0), .int .u8 (o.p 1), .int .u8 (o.p 2), .int .u8 (o.p 3), .int .u8 (o.p 4), .int .u8 (o.p 5), .int .u8 (o.p 6), .int .u8 (o.p 7), .int .u8 (o.p 8), .int .u8 (o.p 9), .int .u8 (o.p 10), .int .u8 (o.p 11), .int .u8 (o.p 12), .int .u8 (o.p 13), .int .u8 (o.p 14), .int .u8 (o.p 15), .int .u8 (o.s 0), .int .u8 (o.s 1), .int .u8 (o.s 2), .int .u8 (o.s 3), .int .u8 (o.s 4), .int .u8 (o.s 5), .int .u8 (o.s 6), .int .u8 (o.s 7), .int .u8 (o.s 8), .int .u8 (o.s 9), .int .u8 (o.s 10), .int .u8 (o.s 11), .int .u8 (o.s 12), .int .u8 (o.s 13), .int .u8 (o.s 14), .int .u8 (o.s 15)])] Try.func12 rfl rfl (by kernel_rfl) rfl ?_
  refine VC_seq ?_
  refine VC_region ?_
  have hzs1 := hS.size
  have hzl1 := ht.lt
  refine VL_box (d := 5) (t := 34) (c := #[.int .i64 o.k, .int .u8 o.d, .bool o.a, .int .u32 o.tg, .int .u8 (o.p 0), .int .u8 (o.p 1), .int .u8 (o.p 2), .int .u8 (o.p 3), .int .u8 (o.p 4), .int .u8 (o.p 5), .int .u8 (o.p 6), .int .u8 (o.p 7), .int .u8 (o.p 8), .int .u8 (o.p 9), .int .u8 (o.p 10), .int .u8 (o.p 11), .int .u8 (o.p 12), .int .u8 (o.p 13), .int .u8 (o.p 14), .int .u8 (o.p 15), .int .u8 (o.s 0), .int .u8 (o.s 1), .int .u8 (o.s 2), .int .u8 (o.s 3), .int .u8 (o.s 4), .int .u8 (o.s 5), .int .u8 (o.s 6), .int .u8 (o.s 7), .int .u8 (o.s 8), .int .u8 (o.s 9), .int .u8 (o.s 10), .int .u8 (o.s 11), .int .u8 (o.s 12), .int .u8 (o.s 13), .int .u8 (o.s 14), .int .u8 (o.s 15)]) (by kernel_rfl) (by kernel_rfl) ?_
  intro b1 w1 hn1
  replace hS := Step.trans hS (Step.weak (hn1.step No))
  replace ht := ht.no (hn1.step No)
  have ho1 := hn1.own
  have hzhn1 := hn1.size
  have hqhn1 := hn1.eqb
  have hzs2 := hS.size
  have hzl2 := ht.lt
  have hzl3 := ho1.lt
  refine VL_box (d := 6) (t := 34) (c := #[.int .i64 0, .int .u8 0, .bool false, .int .u32 0, .int .u8 0, .int .u8 0, .int .u8 0, .int .u8 0, .int .u8 0, .int .u8 0, .int .u8 0, .int .u8 0, .int .u8 0, .int .u8 0, .int .u8 0, .int .u8 0, .int .u8 0, .int .u8 0, .int .u8 0, .int .u8 0, .int .u8 0, .int .u8 0, .int .u8 0, .int .u8 0, .int .u8 0, .int .u8 0, .int .u8 0, .int .u8 0, .int .u8 0, .int .u8 0, .int .u8 0, .int .u8 0, .int .u8 0, .int .u8 0, .int .u8 0, .int .u8 0]) (by kernel_rfl) (by kernel_rfl) ?_
  intro b2 w2 hn2
  replace hS := Step.trans hS (Step.weak (hn2.step No))
  replace ht := ht.no (hn2.step No)
  replace ho1 := ho1.no (hn2.step No)
  have ho2 := hn2.own
  have hzhn2 := hn2.size
  have hqhn2 := hn2.eqb
  refine VL_pure 3 [0, 1, 5, 6] [(0, .pointer (some ⟨b, 0, none⟩)), (1, .int .i64 t), (5, .pointer (some ⟨b1, 0, none⟩)), (6, .pointer (some ⟨b2, 0, none⟩))] (by kernel_rfl) rfl ?_
  refine VL_end (by kernel_rfl) ?_
  refine VQ_next ?_
  refine VC_seq ?_
  refine VC_seq ?_
  refine VC_region ?_
  refine VL_pure 3 [0, 1, 5, 6, 10] [(0, .pointer (some ⟨b, 0, none⟩)), (1, .int .i64 t), (5, .pointer (some ⟨b1, 0, none⟩)), (6, .pointer (some ⟨b2, 0, none⟩)), (10, .bool false)] (by kernel_rfl) rfl ?_
  refine VL_load (d := 11) (t := 34) (a := ⟨b1, 0, none⟩) (v := .agg #[.int .i64 o.k, .int .u8 o.d, .bool o.a, .int .u32 o.tg, .int .u8 (o.p 0), .int .u8 (o.p 1), .int .u8 (o.p 2), .int .u8 (o.p 3), .int .u8 (o.p 4), .int .u8 (o.p 5), .int .u8 (o.p 6), .int .u8 (o.p 7), .int .u8 (o.p 8), .int .u8 (o.p 9), .int .u8 (o.p 10), .int .u8 (o.p 11), .int .u8 (o.p 12), .int .u8 (o.p 13), .int .u8 (o.p 14), .int .u8 (o.p 15), .int .u8 (o.s 0), .int .u8 (o.s 1), .int .u8 (o.s 2), .int .u8 (o.s 3), .int .u8 (o.s 4), .int .u8 (o.s 5), .int .u8 (o.s 6), .int .u8 (o.s 7), .int .u8 (o.s 8), .int .u8 (o.s 9), .int .u8 (o.s 10), .int .u8 (o.s 11), .int .u8 (o.s 12), .int .u8 (o.s 13), .int .u8 (o.s 14), .int .u8 (o.s 15)]) (by kernel_rfl) (by kernel_rfl) (Loads.ownL ho1 (n := 36) (by kernel_rfl) (by kernel_rfl) (by kernel_rfl)) ?_
  have hzs3 := hS.size
  have hzl4 := ht.lt
  have hzl5 := ho1.lt
  have hzl6 := ho2.lt
  refine VL_call (d := 12) (f := 22) (by kernel_rfl) (by kernel_rfl) (by kernel_rfl) Try.call22 (right_any o _) ?_
  rintro _ w3 ⟨rfl, hc1⟩
  replace hS := Step.trans hS (Step.weak hc1)
  replace ht := ht.no hc1
  replace ho1 := ho1.no hc1
  replace ho2 := ho2.no hc1
  refine VL_pure 7 [0, 1, 5, 6, 14] [(0, .pointer (some ⟨b, 0, none⟩)), (1, .int .i64 t), (5, .pointer (some ⟨b1, 0, none⟩)), (6, .pointer (some ⟨b2, 0, none⟩)), (14, .bool (!(rightO o)))] (by kernel_rfl) rfl ?_
  refine VL_end (by kernel_rfl) ?_
  refine VQ_next ?_
  refine VC_cond (!(rightO o)) (by kernel_rfl) (fun h1 => ?_) (fun h1 => ?_)
  · try simp only [Bool.and_eq_true, Bool.or_eq_true, decide_eq_true_eq, Bool.not_eq_true', decide_eq_false_iff_not, Bool.and_eq_false_iff, Bool.or_eq_false_iff, beq_iff_eq, bne_iff_ne, beq_eq_false_iff_ne, bne_eq_false_iff_eq, Bool.not_eq_eq_eq_not, Bool.not_true, Bool.not_false] at h1
    refine VC_seq ?_
    refine VC_region ?_
    refine VL_pure 1 [6, 15] [(6, .pointer (some ⟨b2, 0, none⟩)), (15, .agg #[.int .i64 0, .int .u8 0, .bool false, .int .u32 0, .int .u8 0, .int .u8 0, .int .u8 0, .int .u8 0, .int .u8 0, .int .u8 0, .int .u8 0, .int .u8 0, .int .u8 0, .int .u8 0, .int .u8 0, .int .u8 0, .int .u8 0, .int .u8 0, .int .u8 0, .int .u8 0, .int .u8 0, .int .u8 0, .int .u8 0, .int .u8 0, .int .u8 0, .int .u8 0, .int .u8 0, .int .u8 0, .int .u8 0, .int .u8 0, .int .u8 0, .int .u8 0, .int .u8 0, .int .u8 0, .int .u8 0, .int .u8 0])] (by kernel_rfl) rfl ?_
    refine VL_store (b := b2) (o := 0) (vs := [.int .i64 0, .int .u8 0, .bool false, .int .u32 0, .int .u8 0, .int .u8 0, .int .u8 0, .int .u8 0, .int .u8 0, .int .u8 0, .int .u8 0, .int .u8 0, .int .u8 0, .int .u8 0, .int .u8 0, .int .u8 0, .int .u8 0, .int .u8 0, .int .u8 0, .int .u8 0, .int .u8 0, .int .u8 0, .int .u8 0, .int .u8 0, .int .u8 0, .int .u8 0, .int .u8 0, .int .u8 0, .int .u8 0, .int .u8 0, .int .u8 0, .int .u8 0, .int .u8 0, .int .u8 0, .int .u8 0, .int .u8 0]) (by kernel_rfl) (by kernel_rfl) ho2 (Nat.le_of_ble_eq_true (by kernel_rfl)) ?_
    intro w4 hw1
    replace hS := Step.transNew hS hw1.step (fun _ _ _ => by omega)
    replace ht := ht.step hw1.step (show ¬ b = b2 by omega)
    replace ho1 := ho1.step hw1.step (show ¬ b1 = b2 by omega)
    have ho3 : Own w4 b2 #[.int .i64 0, .int .u8 0, .bool false, .int .u32 0, .int .u8 0, .int .u8 0, .int .u8 0, .int .u8 0, .int .u8 0, .int .u8 0, .int .u8 0, .int .u8 0, .int .u8 0, .int .u8 0, .int .u8 0, .int .u8 0, .int .u8 0, .int .u8 0, .int .u8 0, .int .u8 0, .int .u8 0, .int .u8 0, .int .u8 0, .int .u8 0, .int .u8 0, .int .u8 0, .int .u8 0, .int .u8 0, .int .u8 0, .int .u8 0, .int .u8 0, .int .u8 0, .int .u8 0, .int .u8 0, .int .u8 0, .int .u8 0] 34 := Own.cast hw1.own (by kernel_rfl)
    have hzhw1 := hw1.same
    refine VL_pure 3 [6, 7] [(6, .pointer (some ⟨b2, 0, none⟩)), (7, .bool false)] (by kernel_rfl) rfl ?_
    refine VL_end (by kernel_rfl) ?_
    refine VQ_next ?_
    refine VC_ret ?_
    refine VQ_then_ret ?_
    refine VQ_retC1T1 (T := 34) (.agg #[.int .i64 0, .int .u8 0, .bool false, .int .u32 0, .int .u8 0, .int .u8 0, .int .u8 0, .int .u8 0, .int .u8 0, .int .u8 0, .int .u8 0, .int .u8 0, .int .u8 0, .int .u8 0, .int .u8 0, .int .u8 0, .int .u8 0, .int .u8 0, .int .u8 0, .int .u8 0, .int .u8 0, .int .u8 0, .int .u8 0, .int .u8 0, .int .u8 0, .int .u8 0, .int .u8 0, .int .u8 0, .int .u8 0, .int .u8 0, .int .u8 0, .int .u8 0, .int .u8 0, .int .u8 0, .int .u8 0, .int .u8 0]) (.bool false) (.inr rfl) rfl rfl rfl (Loads.ownL ho3 (n := 36) (by kernel_rfl) (by kernel_rfl) (by kernel_rfl)) ?_
    obtain ⟨e1, e2, e3⟩ := got_no (s := s) (t := t) h1
    exact ⟨by rw [e2, e3]; kernel_rfl, Own.cast ht (by rw [e1]), hS⟩
  · try simp only [Bool.and_eq_true, Bool.or_eq_true, decide_eq_true_eq, Bool.not_eq_true', decide_eq_false_iff_not, Bool.and_eq_false_iff, Bool.or_eq_false_iff, beq_iff_eq, bne_iff_ne, beq_eq_false_iff_ne, bne_eq_false_iff_eq, Bool.not_eq_eq_eq_not, Bool.not_true, Bool.not_false] at h1
    refine VC_skip ?_
    refine VQ_next ?_
    refine VC_seq ?_
    refine VC_seq ?_
    refine VC_region ?_
    refine VL_pure 1 [0, 1, 5, 6, 16] [(0, .pointer (some ⟨b, 0, none⟩)), (1, .int .i64 t), (5, .pointer (some ⟨b1, 0, none⟩)), (6, .pointer (some ⟨b2, 0, none⟩)), (16, .pointer (some ⟨b1, 0, none⟩))] (by kernel_rfl) rfl ?_
    refine VL_load (d := 17) (t := 3) (a := ⟨b1, 0, none⟩) (v := .int .i64 o.k) (by kernel_rfl) (by kernel_rfl) (Loads.own1 ho1 (by kernel_rfl) (by rfl)) ?_
    refine VL_end (by kernel_rfl) ?_
    refine VQ_next ?_
    refine VC_block ?_
    refine VC_seq ?_
    refine VC_region ?_
    refine VL_pure 2 [0, 1, 5, 6, 17, 18] [(0, .pointer (some ⟨b, 0, none⟩)), (1, .int .i64 t), (5, .pointer (some ⟨b1, 0, none⟩)), (6, .pointer (some ⟨b2, 0, none⟩)), (17, .int .i64 o.k), (18, .bool (o.k == 0))] (by kernel_rfl) rfl ?_
    refine VL_end (by kernel_rfl) ?_
    refine VQ_next ?_
    refine VC_eq o.k 0 (by kernel_rfl) (fun h2 => ?_) (fun h2 => ?_)
    · refine VC_det [[], [], [1], [], [3], [3, 4], [3, 4, 5], [1, 2, 3, 4, 5, 6], [0, 1, 2, 3, 4, 5, 6, 7], [0, 1, 2, 3, 4, 5, 6, 7, 8], [0, 1, 2, 3, 4, 5, 6, 7, 8, 9], [0, 1, 2, 3, 4, 5, 6, 7, 8, 9, 10]] 8 [.pointer (some ⟨b, 0, none⟩), .int .i64 t, .int .i64 (held t), .pointer (some ⟨b, 0, none⟩), .pointer (some ⟨b, 0, none⟩), .pointer (some ⟨b, 18, none⟩), .int .i64 s.wt, .int .i64 (IntKind.wrap .i64 ((held t) + s.wt))] [0, 1, 3, 4, 5, 7] [2, 6] (by kernel_rfl) (by kernel_rfl) (by kernel_rfl) (by kernel_rfl) ?_ ?_
      · intro w5 hs1
        replace hS := Step.trans hS (Step.weak hs1)
        replace ht := ht.no hs1
        replace ho1 := ho1.no hs1
        replace ho2 := ho2.no hs1
        exact ⟨Det1_call (d := 22) (f := 24) (args := #[.int .i64 t]) (by kernel_rfl) (by kernel_rfl) (by kernel_rfl) Try.call24 (by exact held_any _ _), Det1_load (d := 26) (t := 3) (a := ⟨b, 18, none⟩) (by kernel_rfl) (by kernel_rfl) (Loads.own1 ht (by kernel_rfl) (by rfl)), trivial⟩
      intro w5 hs1
      replace hS := Step.trans hS (Step.weak hs1)
      replace ht := ht.no hs1
      replace ho1 := ho1.no hs1
      replace ho2 := ho2.no hs1
      refine VL_keep [0, 5, 6, 20, 27] [(0, .pointer (some ⟨b, 0, none⟩)), (5, .pointer (some ⟨b1, 0, none⟩)), (6, .pointer (some ⟨b2, 0, none⟩)), (20, .pointer (some ⟨b, 0, none⟩)), (27, .int .i64 (IntKind.wrap .i64 ((held t) + s.wt)))] (by kernel_rfl) ?_
      refine VL_pure 11 [0, 5, 6, 27, 30] [(0, .pointer (some ⟨b, 0, none⟩)), (5, .pointer (some ⟨b1, 0, none⟩)), (6, .pointer (some ⟨b2, 0, none⟩)), (27, .int .i64 (IntKind.wrap .i64 ((held t) + s.wt))), (30, .pointer (some ⟨b, 0, none⟩))] (by kernel_rfl) rfl ?_
      refine VL_store (b := b) (o := 0) (vs := [.int .i64 (IntKind.wrap .i64 ((held t) + s.wt))]) (by kernel_rfl) (by kernel_rfl) ht (Nat.le_of_ble_eq_true (by kernel_rfl)) ?_
      intro w6 hw2
      replace hS := Step.trans hS (Step.mono hw2.step (by intro i hi; first | exact hi | simp_all))
      replace ho1 := ho1.step hw2.step (show ¬ b1 = b by omega)
      replace ho2 := ho2.step hw2.step (show ¬ b2 = b by omega)
      have ho4 : Own w6 b #[.int .i64 (IntKind.wrap .i64 ((held t) + s.wt)), .int .i64 s.bh, .int .u8 (s.here 0), .int .u8 (s.here 1), .int .u8 (s.here 2), .int .u8 (s.here 3), .int .u8 (s.here 4), .int .u8 (s.here 5), .int .u8 (s.here 6), .int .u8 (s.here 7), .int .u8 (s.here 8), .int .u8 (s.here 9), .int .u8 (s.here 10), .int .u8 (s.here 11), .int .u8 (s.here 12), .int .u8 (s.here 13), .int .u8 (s.here 14), .int .u8 (s.here 15), .int .i64 s.wt, .bool s.dn] 62 := Own.cast hw2.own (by kernel_rfl)
      have hzhw2 := hw2.same
      refine VL_end (by kernel_rfl) ?_
      refine VQ_block_normal ?_
      refine VQ_next ?_
      refine VC_seq ?_
      refine VC_det [[], [], [1], [1, 2], [1, 2, 3], [0, 1, 2, 3, 4], [0, 1, 2, 3, 4, 5], [0, 1, 2, 3, 4, 5], [0, 1, 2, 3, 4, 5, 6, 7], [0, 1, 2, 3, 4, 5, 6, 7, 8]] 8 [.agg #[.int .i64 o.k, .int .u8 o.d, .bool o.a, .int .u32 o.tg, .int .u8 (o.p 0), .int .u8 (o.p 1), .int .u8 (o.p 2), .int .u8 (o.p 3), .int .u8 (o.p 4), .int .u8 (o.p 5), .int .u8 (o.p 6), .int .u8 (o.p 7), .int .u8 (o.p 8), .int .u8 (o.p 9), .int .u8 (o.p 10), .int .u8 (o.p 11), .int .u8 (o.p 12), .int .u8 (o.p 13), .int .u8 (o.p 14), .int .u8 (o.p 15), .int .u8 (o.s 0), .int .u8 (o.s 1), .int .u8 (o.s 2), .int .u8 (o.s 3), .int .u8 (o.s 4), .int .u8 (o.s 5), .int .u8 (o.s 6), .int .u8 (o.s 7), .int .u8 (o.s 8), .int .u8 (o.s 9), .int .u8 (o.s 10), .int .u8 (o.s 11), .int .u8 (o.s 12), .int .u8 (o.s 13), .int .u8 (o.s 14), .int .u8 (o.s 15)], .pointer (some ⟨b, 0, none⟩), .pointer (some ⟨b, 0, none⟩), .pointer (some ⟨b, 2, none⟩), .agg #[.int .u8 (s.here 0), .int .u8 (s.here 1), .int .u8 (s.here 2), .int .u8 (s.here 3), .int .u8 (s.here 4), .int .u8 (s.here 5), .int .u8 (s.here 6), .int .u8 (s.here 7), .int .u8 (s.here 8), .int .u8 (s.here 9), .int .u8 (s.here 10), .int .u8 (s.here 11), .int .u8 (s.here 12), .int .u8 (s.here 13), .int .u8 (s.here 14), .int .u8 (s.here 15)], .tuple #[.agg #[.int .i64 ((replyV o s.here).k), .int .u8 ((replyV o s.here).d), .bool ((replyV o s.here).a), .int .u32 ((replyV o s.here).tg), .int .u8 (((replyV o s.here).p) 0), .int .u8 (((replyV o s.here).p) 1), .int .u8 (((replyV o s.here).p) 2), .int .u8 (((replyV o s.here).p) 3), .int .u8 (((replyV o s.here).p) 4), .int .u8 (((replyV o s.here).p) 5), .int .u8 (((replyV o s.here).p) 6), .int .u8 (((replyV o s.here).p) 7), .int .u8 (((replyV o s.here).p) 8), .int .u8 (((replyV o s.here).p) 9), .int .u8 (((replyV o s.here).p) 10), .int .u8 (((replyV o s.here).p) 11), .int .u8 (((replyV o s.here).p) 12), .int .u8 (((replyV o s.here).p) 13), .int .u8 (((replyV o s.here).p) 14), .int .u8 (((replyV o s.here).p) 15), .int .u8 (((replyV o s.here).s) 0), .int .u8 (((replyV o s.here).s) 1), .int .u8 (((replyV o s.here).s) 2), .int .u8 (((replyV o s.here).s) 3), .int .u8 (((replyV o s.here).s) 4), .int .u8 (((replyV o s.here).s) 5), .int .u8 (((replyV o s.here).s) 6), .int .u8 (((replyV o s.here).s) 7), .int .u8 (((replyV o s.here).s) 8), .int .u8 (((replyV o s.here).s) 9), .int .u8 (((replyV o s.here).s) 10), .int .u8 (((replyV o s.here).s) 11), .int .u8 (((replyV o s.here).s) 12), .int .u8 (((replyV o s.here).s) 13), .int .u8 (((replyV o s.here).s) 14), .int .u8 (((replyV o s.here).s) 15)], .bool (replyB o s.here)], .agg #[.int .i64 ((replyV o s.here).k), .int .u8 ((replyV o s.here).d), .bool ((replyV o s.here).a), .int .u32 ((replyV o s.here).tg), .int .u8 (((replyV o s.here).p) 0), .int .u8 (((replyV o s.here).p) 1), .int .u8 (((replyV o s.here).p) 2), .int .u8 (((replyV o s.here).p) 3), .int .u8 (((replyV o s.here).p) 4), .int .u8 (((replyV o s.here).p) 5), .int .u8 (((replyV o s.here).p) 6), .int .u8 (((replyV o s.here).p) 7), .int .u8 (((replyV o s.here).p) 8), .int .u8 (((replyV o s.here).p) 9), .int .u8 (((replyV o s.here).p) 10), .int .u8 (((replyV o s.here).p) 11), .int .u8 (((replyV o s.here).p) 12), .int .u8 (((replyV o s.here).p) 13), .int .u8 (((replyV o s.here).p) 14), .int .u8 (((replyV o s.here).p) 15), .int .u8 (((replyV o s.here).s) 0), .int .u8 (((replyV o s.here).s) 1), .int .u8 (((replyV o s.here).s) 2), .int .u8 (((replyV o s.here).s) 3), .int .u8 (((replyV o s.here).s) 4), .int .u8 (((replyV o s.here).s) 5), .int .u8 (((replyV o s.here).s) 6), .int .u8 (((replyV o s.here).s) 7), .int .u8 (((replyV o s.here).s) 8), .int .u8 (((replyV o s.here).s) 9), .int .u8 (((replyV o s.here).s) 10), .int .u8 (((replyV o s.here).s) 11), .int .u8 (((replyV o s.here).s) 12), .int .u8 (((replyV o s.here).s) 13), .int .u8 (((replyV o s.here).s) 14), .int .u8 (((replyV o s.here).s) 15)], .bool (replyB o s.here)] [1, 2, 3, 6, 7] [0, 4, 5] (by kernel_rfl) (by kernel_rfl) (by kernel_rfl) (by kernel_rfl) ?_ ?_
      · intro w7 hs2
        replace hS := Step.trans hS (Step.weak hs2)
        replace ho1 := ho1.no hs2
        replace ho2 := ho2.no hs2
        replace ho4 := ho4.no hs2
        exact ⟨Det1_load (d := 50) (t := 34) (a := ⟨b1, 0, none⟩) (by kernel_rfl) (by kernel_rfl) (Loads.ownL ho1 (n := 36) (by kernel_rfl) (by kernel_rfl) (by kernel_rfl)), Det1_load (d := 54) (t := 22) (a := ⟨b, 2, none⟩) (by kernel_rfl) (by kernel_rfl) (Loads.ownL ho4 (n := 16) (by kernel_rfl) (by kernel_rfl) (by kernel_rfl)), Det1_call (d := 55) (f := 27) (args := #[.agg #[.int .i64 o.k, .int .u8 o.d, .bool o.a, .int .u32 o.tg, .int .u8 (o.p 0), .int .u8 (o.p 1), .int .u8 (o.p 2), .int .u8 (o.p 3), .int .u8 (o.p 4), .int .u8 (o.p 5), .int .u8 (o.p 6), .int .u8 (o.p 7), .int .u8 (o.p 8), .int .u8 (o.p 9), .int .u8 (o.p 10), .int .u8 (o.p 11), .int .u8 (o.p 12), .int .u8 (o.p 13), .int .u8 (o.p 14), .int .u8 (o.p 15), .int .u8 (o.s 0), .int .u8 (o.s 1), .int .u8 (o.s 2), .int .u8 (o.s 3), .int .u8 (o.s 4), .int .u8 (o.s 5), .int .u8 (o.s 6), .int .u8 (o.s 7), .int .u8 (o.s 8), .int .u8 (o.s 9), .int .u8 (o.s 10), .int .u8 (o.s 11), .int .u8 (o.s 12), .int .u8 (o.s 13), .int .u8 (o.s 14), .int .u8 (o.s 15)], .agg #[.int .u8 (s.here 0), .int .u8 (s.here 1), .int .u8 (s.here 2), .int .u8 (s.here 3), .int .u8 (s.here 4), .int .u8 (s.here 5), .int .u8 (s.here 6), .int .u8 (s.here 7), .int .u8 (s.here 8), .int .u8 (s.here 9), .int .u8 (s.here 10), .int .u8 (s.here 11), .int .u8 (s.here 12), .int .u8 (s.here 13), .int .u8 (s.here 14), .int .u8 (s.here 15)]]) (by kernel_rfl) (by kernel_rfl) (by kernel_rfl) Try.call27 (by exact reply_any o s.here _ hp), trivial⟩
      intro w7 hs2
      replace hS := Step.trans hS (Step.weak hs2)
      replace ho1 := ho1.no hs2
      replace ho2 := ho2.no hs2
      replace ho4 := ho4.no hs2
      refine VL_keep [6, 56, 57] [(6, .pointer (some ⟨b2, 0, none⟩)), (56, .agg #[.int .i64 ((replyV o s.here).k), .int .u8 ((replyV o s.here).d), .bool ((replyV o s.here).a), .int .u32 ((replyV o s.here).tg), .int .u8 (((replyV o s.here).p) 0), .int .u8 (((replyV o s.here).p) 1), .int .u8 (((replyV o s.here).p) 2), .int .u8 (((replyV o s.here).p) 3), .int .u8 (((replyV o s.here).p) 4), .int .u8 (((replyV o s.here).p) 5), .int .u8 (((replyV o s.here).p) 6), .int .u8 (((replyV o s.here).p) 7), .int .u8 (((replyV o s.here).p) 8), .int .u8 (((replyV o s.here).p) 9), .int .u8 (((replyV o s.here).p) 10), .int .u8 (((replyV o s.here).p) 11), .int .u8 (((replyV o s.here).p) 12), .int .u8 (((replyV o s.here).p) 13), .int .u8 (((replyV o s.here).p) 14), .int .u8 (((replyV o s.here).p) 15), .int .u8 (((replyV o s.here).s) 0), .int .u8 (((replyV o s.here).s) 1), .int .u8 (((replyV o s.here).s) 2), .int .u8 (((replyV o s.here).s) 3), .int .u8 (((replyV o s.here).s) 4), .int .u8 (((replyV o s.here).s) 5), .int .u8 (((replyV o s.here).s) 6), .int .u8 (((replyV o s.here).s) 7), .int .u8 (((replyV o s.here).s) 8), .int .u8 (((replyV o s.here).s) 9), .int .u8 (((replyV o s.here).s) 10), .int .u8 (((replyV o s.here).s) 11), .int .u8 (((replyV o s.here).s) 12), .int .u8 (((replyV o s.here).s) 13), .int .u8 (((replyV o s.here).s) 14), .int .u8 (((replyV o s.here).s) 15)]), (57, .bool (replyB o s.here))] (by kernel_rfl) ?_
      refine VL_store (b := b2) (o := 0) (vs := [.int .i64 ((replyV o s.here).k), .int .u8 ((replyV o s.here).d), .bool ((replyV o s.here).a), .int .u32 ((replyV o s.here).tg), .int .u8 (((replyV o s.here).p) 0), .int .u8 (((replyV o s.here).p) 1), .int .u8 (((replyV o s.here).p) 2), .int .u8 (((replyV o s.here).p) 3), .int .u8 (((replyV o s.here).p) 4), .int .u8 (((replyV o s.here).p) 5), .int .u8 (((replyV o s.here).p) 6), .int .u8 (((replyV o s.here).p) 7), .int .u8 (((replyV o s.here).p) 8), .int .u8 (((replyV o s.here).p) 9), .int .u8 (((replyV o s.here).p) 10), .int .u8 (((replyV o s.here).p) 11), .int .u8 (((replyV o s.here).p) 12), .int .u8 (((replyV o s.here).p) 13), .int .u8 (((replyV o s.here).p) 14), .int .u8 (((replyV o s.here).p) 15), .int .u8 (((replyV o s.here).s) 0), .int .u8 (((replyV o s.here).s) 1), .int .u8 (((replyV o s.here).s) 2), .int .u8 (((replyV o s.here).s) 3), .int .u8 (((replyV o s.here).s) 4), .int .u8 (((replyV o s.here).s) 5), .int .u8 (((replyV o s.here).s) 6), .int .u8 (((replyV o s.here).s) 7), .int .u8 (((replyV o s.here).s) 8), .int .u8 (((replyV o s.here).s) 9), .int .u8 (((replyV o s.here).s) 10), .int .u8 (((replyV o s.here).s) 11), .int .u8 (((replyV o s.here).s) 12), .int .u8 (((replyV o s.here).s) 13), .int .u8 (((replyV o s.here).s) 14), .int .u8 (((replyV o s.here).s) 15)]) (by kernel_rfl) (by kernel_rfl) ho2 (Nat.le_of_ble_eq_true (by kernel_rfl)) ?_
      intro w8 hw3
      replace hS := Step.transNew hS hw3.step (fun _ _ _ => by omega)
      replace ho1 := ho1.step hw3.step (show ¬ b1 = b2 by omega)
      replace ho4 := ho4.step hw3.step (show ¬ b = b2 by omega)
      have ho5 : Own w8 b2 #[.int .i64 ((replyV o s.here).k), .int .u8 ((replyV o s.here).d), .bool ((replyV o s.here).a), .int .u32 ((replyV o s.here).tg), .int .u8 (((replyV o s.here).p) 0), .int .u8 (((replyV o s.here).p) 1), .int .u8 (((replyV o s.here).p) 2), .int .u8 (((replyV o s.here).p) 3), .int .u8 (((replyV o s.here).p) 4), .int .u8 (((replyV o s.here).p) 5), .int .u8 (((replyV o s.here).p) 6), .int .u8 (((replyV o s.here).p) 7), .int .u8 (((replyV o s.here).p) 8), .int .u8 (((replyV o s.here).p) 9), .int .u8 (((replyV o s.here).p) 10), .int .u8 (((replyV o s.here).p) 11), .int .u8 (((replyV o s.here).p) 12), .int .u8 (((replyV o s.here).p) 13), .int .u8 (((replyV o s.here).p) 14), .int .u8 (((replyV o s.here).p) 15), .int .u8 (((replyV o s.here).s) 0), .int .u8 (((replyV o s.here).s) 1), .int .u8 (((replyV o s.here).s) 2), .int .u8 (((replyV o s.here).s) 3), .int .u8 (((replyV o s.here).s) 4), .int .u8 (((replyV o s.here).s) 5), .int .u8 (((replyV o s.here).s) 6), .int .u8 (((replyV o s.here).s) 7), .int .u8 (((replyV o s.here).s) 8), .int .u8 (((replyV o s.here).s) 9), .int .u8 (((replyV o s.here).s) 10), .int .u8 (((replyV o s.here).s) 11), .int .u8 (((replyV o s.here).s) 12), .int .u8 (((replyV o s.here).s) 13), .int .u8 (((replyV o s.here).s) 14), .int .u8 (((replyV o s.here).s) 15)] 34 := Own.cast hw3.own (by kernel_rfl)
      have hzhw3 := hw3.same
      refine VL_pure 10 [6, 7] [(6, .pointer (some ⟨b2, 0, none⟩)), (7, .bool (replyB o s.here))] (by kernel_rfl) rfl ?_
      refine VL_end (by kernel_rfl) ?_
      refine VQ_next ?_
      refine VC_ret ?_
      refine VQ_retC1T1 (T := 34) (.agg #[.int .i64 ((replyV o s.here).k), .int .u8 ((replyV o s.here).d), .bool ((replyV o s.here).a), .int .u32 ((replyV o s.here).tg), .int .u8 (((replyV o s.here).p) 0), .int .u8 (((replyV o s.here).p) 1), .int .u8 (((replyV o s.here).p) 2), .int .u8 (((replyV o s.here).p) 3), .int .u8 (((replyV o s.here).p) 4), .int .u8 (((replyV o s.here).p) 5), .int .u8 (((replyV o s.here).p) 6), .int .u8 (((replyV o s.here).p) 7), .int .u8 (((replyV o s.here).p) 8), .int .u8 (((replyV o s.here).p) 9), .int .u8 (((replyV o s.here).p) 10), .int .u8 (((replyV o s.here).p) 11), .int .u8 (((replyV o s.here).p) 12), .int .u8 (((replyV o s.here).p) 13), .int .u8 (((replyV o s.here).p) 14), .int .u8 (((replyV o s.here).p) 15), .int .u8 (((replyV o s.here).s) 0), .int .u8 (((replyV o s.here).s) 1), .int .u8 (((replyV o s.here).s) 2), .int .u8 (((replyV o s.here).s) 3), .int .u8 (((replyV o s.here).s) 4), .int .u8 (((replyV o s.here).s) 5), .int .u8 (((replyV o s.here).s) 6), .int .u8 (((replyV o s.here).s) 7), .int .u8 (((replyV o s.here).s) 8), .int .u8 (((replyV o s.here).s) 9), .int .u8 (((replyV o s.here).s) 10), .int .u8 (((replyV o s.here).s) 11), .int .u8 (((replyV o s.here).s) 12), .int .u8 (((replyV o s.here).s) 13), .int .u8 (((replyV o s.here).s) 14), .int .u8 (((replyV o s.here).s) 15)]) (.bool (replyB o s.here)) (.inr rfl) rfl rfl rfl (Loads.ownL ho5 (n := 36) (by kernel_rfl) (by kernel_rfl) (by kernel_rfl)) ?_
      obtain ⟨e1, e2⟩ := got_yes (s := s) h1
      exact ⟨by rw [e1, e2]; rfl, Own.cast ho4 (gotA_0 h1 (by assumption) hw), hS⟩
    · refine VC_seq ?_
      refine VC_region ?_
      refine VL_pure 2 [0, 1, 5, 6, 17, 31] [(0, .pointer (some ⟨b, 0, none⟩)), (1, .int .i64 t), (5, .pointer (some ⟨b1, 0, none⟩)), (6, .pointer (some ⟨b2, 0, none⟩)), (17, .int .i64 o.k), (31, .bool (o.k == 1))] (by kernel_rfl) rfl ?_
      refine VL_end (by kernel_rfl) ?_
      refine VQ_next ?_
      refine VC_eq o.k 1 (by kernel_rfl) (fun h3 => ?_) (fun h3 => ?_)
      · refine VC_det [[], [], [1], [], [3], [3, 4], [3, 4, 5], [1, 2, 3, 4, 5, 6], [0, 1, 2, 3, 4, 5, 6, 7], [0, 1, 2, 3, 4, 5, 6, 7, 8], [0, 1, 2, 3, 4, 5, 6, 7, 8, 9], [0, 1, 2, 3, 4, 5, 6, 7, 8, 9, 10]] 8 [.pointer (some ⟨b, 0, none⟩), .int .i64 t, .int .i64 (held t), .pointer (some ⟨b, 0, none⟩), .pointer (some ⟨b, 0, none⟩), .pointer (some ⟨b, 18, none⟩), .int .i64 s.wt, .int .i64 (IntKind.wrap .i64 ((held t) + s.wt))] [0, 1, 3, 4, 5, 7] [2, 6] (by kernel_rfl) (by kernel_rfl) (by kernel_rfl) (by kernel_rfl) ?_ ?_
        · intro w9 hs3
          replace hS := Step.trans hS (Step.weak hs3)
          replace ht := ht.no hs3
          replace ho1 := ho1.no hs3
          replace ho2 := ho2.no hs3
          exact ⟨Det1_call (d := 35) (f := 24) (args := #[.int .i64 t]) (by kernel_rfl) (by kernel_rfl) (by kernel_rfl) Try.call24 (by exact held_any _ _), Det1_load (d := 39) (t := 3) (a := ⟨b, 18, none⟩) (by kernel_rfl) (by kernel_rfl) (Loads.own1 ht (by kernel_rfl) (by rfl)), trivial⟩
        intro w9 hs3
        replace hS := Step.trans hS (Step.weak hs3)
        replace ht := ht.no hs3
        replace ho1 := ho1.no hs3
        replace ho2 := ho2.no hs3
        refine VL_keep [0, 5, 6, 33, 40] [(0, .pointer (some ⟨b, 0, none⟩)), (5, .pointer (some ⟨b1, 0, none⟩)), (6, .pointer (some ⟨b2, 0, none⟩)), (33, .pointer (some ⟨b, 0, none⟩)), (40, .int .i64 (IntKind.wrap .i64 ((held t) + s.wt)))] (by kernel_rfl) ?_
        refine VL_pure 11 [0, 5, 6, 40, 43] [(0, .pointer (some ⟨b, 0, none⟩)), (5, .pointer (some ⟨b1, 0, none⟩)), (6, .pointer (some ⟨b2, 0, none⟩)), (40, .int .i64 (IntKind.wrap .i64 ((held t) + s.wt))), (43, .pointer (some ⟨b, 1, none⟩))] (by kernel_rfl) rfl ?_
        refine VL_store (b := b) (o := 1) (vs := [.int .i64 (IntKind.wrap .i64 ((held t) + s.wt))]) (by kernel_rfl) (by kernel_rfl) ht (Nat.le_of_ble_eq_true (by kernel_rfl)) ?_
        intro w10 hw4
        replace hS := Step.trans hS (Step.mono hw4.step (by intro i hi; first | exact hi | simp_all))
        replace ho1 := ho1.step hw4.step (show ¬ b1 = b by omega)
        replace ho2 := ho2.step hw4.step (show ¬ b2 = b by omega)
        have ho6 : Own w10 b #[.int .i64 s.ah, .int .i64 (IntKind.wrap .i64 ((held t) + s.wt)), .int .u8 (s.here 0), .int .u8 (s.here 1), .int .u8 (s.here 2), .int .u8 (s.here 3), .int .u8 (s.here 4), .int .u8 (s.here 5), .int .u8 (s.here 6), .int .u8 (s.here 7), .int .u8 (s.here 8), .int .u8 (s.here 9), .int .u8 (s.here 10), .int .u8 (s.here 11), .int .u8 (s.here 12), .int .u8 (s.here 13), .int .u8 (s.here 14), .int .u8 (s.here 15), .int .i64 s.wt, .bool s.dn] 62 := Own.cast hw4.own (by kernel_rfl)
        have hzhw4 := hw4.same
        refine VL_end (by kernel_rfl) ?_
        refine VQ_block_normal ?_
        refine VQ_next ?_
        refine VC_seq ?_
        refine VC_det [[], [], [1], [1, 2], [1, 2, 3], [0, 1, 2, 3, 4], [0, 1, 2, 3, 4, 5], [0, 1, 2, 3, 4, 5], [0, 1, 2, 3, 4, 5, 6, 7], [0, 1, 2, 3, 4, 5, 6, 7, 8]] 8 [.agg #[.int .i64 o.k, .int .u8 o.d, .bool o.a, .int .u32 o.tg, .int .u8 (o.p 0), .int .u8 (o.p 1), .int .u8 (o.p 2), .int .u8 (o.p 3), .int .u8 (o.p 4), .int .u8 (o.p 5), .int .u8 (o.p 6), .int .u8 (o.p 7), .int .u8 (o.p 8), .int .u8 (o.p 9), .int .u8 (o.p 10), .int .u8 (o.p 11), .int .u8 (o.p 12), .int .u8 (o.p 13), .int .u8 (o.p 14), .int .u8 (o.p 15), .int .u8 (o.s 0), .int .u8 (o.s 1), .int .u8 (o.s 2), .int .u8 (o.s 3), .int .u8 (o.s 4), .int .u8 (o.s 5), .int .u8 (o.s 6), .int .u8 (o.s 7), .int .u8 (o.s 8), .int .u8 (o.s 9), .int .u8 (o.s 10), .int .u8 (o.s 11), .int .u8 (o.s 12), .int .u8 (o.s 13), .int .u8 (o.s 14), .int .u8 (o.s 15)], .pointer (some ⟨b, 0, none⟩), .pointer (some ⟨b, 0, none⟩), .pointer (some ⟨b, 2, none⟩), .agg #[.int .u8 (s.here 0), .int .u8 (s.here 1), .int .u8 (s.here 2), .int .u8 (s.here 3), .int .u8 (s.here 4), .int .u8 (s.here 5), .int .u8 (s.here 6), .int .u8 (s.here 7), .int .u8 (s.here 8), .int .u8 (s.here 9), .int .u8 (s.here 10), .int .u8 (s.here 11), .int .u8 (s.here 12), .int .u8 (s.here 13), .int .u8 (s.here 14), .int .u8 (s.here 15)], .tuple #[.agg #[.int .i64 ((replyV o s.here).k), .int .u8 ((replyV o s.here).d), .bool ((replyV o s.here).a), .int .u32 ((replyV o s.here).tg), .int .u8 (((replyV o s.here).p) 0), .int .u8 (((replyV o s.here).p) 1), .int .u8 (((replyV o s.here).p) 2), .int .u8 (((replyV o s.here).p) 3), .int .u8 (((replyV o s.here).p) 4), .int .u8 (((replyV o s.here).p) 5), .int .u8 (((replyV o s.here).p) 6), .int .u8 (((replyV o s.here).p) 7), .int .u8 (((replyV o s.here).p) 8), .int .u8 (((replyV o s.here).p) 9), .int .u8 (((replyV o s.here).p) 10), .int .u8 (((replyV o s.here).p) 11), .int .u8 (((replyV o s.here).p) 12), .int .u8 (((replyV o s.here).p) 13), .int .u8 (((replyV o s.here).p) 14), .int .u8 (((replyV o s.here).p) 15), .int .u8 (((replyV o s.here).s) 0), .int .u8 (((replyV o s.here).s) 1), .int .u8 (((replyV o s.here).s) 2), .int .u8 (((replyV o s.here).s) 3), .int .u8 (((replyV o s.here).s) 4), .int .u8 (((replyV o s.here).s) 5), .int .u8 (((replyV o s.here).s) 6), .int .u8 (((replyV o s.here).s) 7), .int .u8 (((replyV o s.here).s) 8), .int .u8 (((replyV o s.here).s) 9), .int .u8 (((replyV o s.here).s) 10), .int .u8 (((replyV o s.here).s) 11), .int .u8 (((replyV o s.here).s) 12), .int .u8 (((replyV o s.here).s) 13), .int .u8 (((replyV o s.here).s) 14), .int .u8 (((replyV o s.here).s) 15)], .bool (replyB o s.here)], .agg #[.int .i64 ((replyV o s.here).k), .int .u8 ((replyV o s.here).d), .bool ((replyV o s.here).a), .int .u32 ((replyV o s.here).tg), .int .u8 (((replyV o s.here).p) 0), .int .u8 (((replyV o s.here).p) 1), .int .u8 (((replyV o s.here).p) 2), .int .u8 (((replyV o s.here).p) 3), .int .u8 (((replyV o s.here).p) 4), .int .u8 (((replyV o s.here).p) 5), .int .u8 (((replyV o s.here).p) 6), .int .u8 (((replyV o s.here).p) 7), .int .u8 (((replyV o s.here).p) 8), .int .u8 (((replyV o s.here).p) 9), .int .u8 (((replyV o s.here).p) 10), .int .u8 (((replyV o s.here).p) 11), .int .u8 (((replyV o s.here).p) 12), .int .u8 (((replyV o s.here).p) 13), .int .u8 (((replyV o s.here).p) 14), .int .u8 (((replyV o s.here).p) 15), .int .u8 (((replyV o s.here).s) 0), .int .u8 (((replyV o s.here).s) 1), .int .u8 (((replyV o s.here).s) 2), .int .u8 (((replyV o s.here).s) 3), .int .u8 (((replyV o s.here).s) 4), .int .u8 (((replyV o s.here).s) 5), .int .u8 (((replyV o s.here).s) 6), .int .u8 (((replyV o s.here).s) 7), .int .u8 (((replyV o s.here).s) 8), .int .u8 (((replyV o s.here).s) 9), .int .u8 (((replyV o s.here).s) 10), .int .u8 (((replyV o s.here).s) 11), .int .u8 (((replyV o s.here).s) 12), .int .u8 (((replyV o s.here).s) 13), .int .u8 (((replyV o s.here).s) 14), .int .u8 (((replyV o s.here).s) 15)], .bool (replyB o s.here)] [1, 2, 3, 6, 7] [0, 4, 5] (by kernel_rfl) (by kernel_rfl) (by kernel_rfl) (by kernel_rfl) ?_ ?_
        · intro w11 hs4
          replace hS := Step.trans hS (Step.weak hs4)
          replace ho1 := ho1.no hs4
          replace ho2 := ho2.no hs4
          replace ho6 := ho6.no hs4
          exact ⟨Det1_load (d := 50) (t := 34) (a := ⟨b1, 0, none⟩) (by kernel_rfl) (by kernel_rfl) (Loads.ownL ho1 (n := 36) (by kernel_rfl) (by kernel_rfl) (by kernel_rfl)), Det1_load (d := 54) (t := 22) (a := ⟨b, 2, none⟩) (by kernel_rfl) (by kernel_rfl) (Loads.ownL ho6 (n := 16) (by kernel_rfl) (by kernel_rfl) (by kernel_rfl)), Det1_call (d := 55) (f := 27) (args := #[.agg #[.int .i64 o.k, .int .u8 o.d, .bool o.a, .int .u32 o.tg, .int .u8 (o.p 0), .int .u8 (o.p 1), .int .u8 (o.p 2), .int .u8 (o.p 3), .int .u8 (o.p 4), .int .u8 (o.p 5), .int .u8 (o.p 6), .int .u8 (o.p 7), .int .u8 (o.p 8), .int .u8 (o.p 9), .int .u8 (o.p 10), .int .u8 (o.p 11), .int .u8 (o.p 12), .int .u8 (o.p 13), .int .u8 (o.p 14), .int .u8 (o.p 15), .int .u8 (o.s 0), .int .u8 (o.s 1), .int .u8 (o.s 2), .int .u8 (o.s 3), .int .u8 (o.s 4), .int .u8 (o.s 5), .int .u8 (o.s 6), .int .u8 (o.s 7), .int .u8 (o.s 8), .int .u8 (o.s 9), .int .u8 (o.s 10), .int .u8 (o.s 11), .int .u8 (o.s 12), .int .u8 (o.s 13), .int .u8 (o.s 14), .int .u8 (o.s 15)], .agg #[.int .u8 (s.here 0), .int .u8 (s.here 1), .int .u8 (s.here 2), .int .u8 (s.here 3), .int .u8 (s.here 4), .int .u8 (s.here 5), .int .u8 (s.here 6), .int .u8 (s.here 7), .int .u8 (s.here 8), .int .u8 (s.here 9), .int .u8 (s.here 10), .int .u8 (s.here 11), .int .u8 (s.here 12), .int .u8 (s.here 13), .int .u8 (s.here 14), .int .u8 (s.here 15)]]) (by kernel_rfl) (by kernel_rfl) (by kernel_rfl) Try.call27 (by exact reply_any o s.here _ hp), trivial⟩
        intro w11 hs4
        replace hS := Step.trans hS (Step.weak hs4)
        replace ho1 := ho1.no hs4
        replace ho2 := ho2.no hs4
        replace ho6 := ho6.no hs4
        refine VL_keep [6, 56, 57] [(6, .pointer (some ⟨b2, 0, none⟩)), (56, .agg #[.int .i64 ((replyV o s.here).k), .int .u8 ((replyV o s.here).d), .bool ((replyV o s.here).a), .int .u32 ((replyV o s.here).tg), .int .u8 (((replyV o s.here).p) 0), .int .u8 (((replyV o s.here).p) 1), .int .u8 (((replyV o s.here).p) 2), .int .u8 (((replyV o s.here).p) 3), .int .u8 (((replyV o s.here).p) 4), .int .u8 (((replyV o s.here).p) 5), .int .u8 (((replyV o s.here).p) 6), .int .u8 (((replyV o s.here).p) 7), .int .u8 (((replyV o s.here).p) 8), .int .u8 (((replyV o s.here).p) 9), .int .u8 (((replyV o s.here).p) 10), .int .u8 (((replyV o s.here).p) 11), .int .u8 (((replyV o s.here).p) 12), .int .u8 (((replyV o s.here).p) 13), .int .u8 (((replyV o s.here).p) 14), .int .u8 (((replyV o s.here).p) 15), .int .u8 (((replyV o s.here).s) 0), .int .u8 (((replyV o s.here).s) 1), .int .u8 (((replyV o s.here).s) 2), .int .u8 (((replyV o s.here).s) 3), .int .u8 (((replyV o s.here).s) 4), .int .u8 (((replyV o s.here).s) 5), .int .u8 (((replyV o s.here).s) 6), .int .u8 (((replyV o s.here).s) 7), .int .u8 (((replyV o s.here).s) 8), .int .u8 (((replyV o s.here).s) 9), .int .u8 (((replyV o s.here).s) 10), .int .u8 (((replyV o s.here).s) 11), .int .u8 (((replyV o s.here).s) 12), .int .u8 (((replyV o s.here).s) 13), .int .u8 (((replyV o s.here).s) 14), .int .u8 (((replyV o s.here).s) 15)]), (57, .bool (replyB o s.here))] (by kernel_rfl) ?_
        refine VL_store (b := b2) (o := 0) (vs := [.int .i64 ((replyV o s.here).k), .int .u8 ((replyV o s.here).d), .bool ((replyV o s.here).a), .int .u32 ((replyV o s.here).tg), .int .u8 (((replyV o s.here).p) 0), .int .u8 (((replyV o s.here).p) 1), .int .u8 (((replyV o s.here).p) 2), .int .u8 (((replyV o s.here).p) 3), .int .u8 (((replyV o s.here).p) 4), .int .u8 (((replyV o s.here).p) 5), .int .u8 (((replyV o s.here).p) 6), .int .u8 (((replyV o s.here).p) 7), .int .u8 (((replyV o s.here).p) 8), .int .u8 (((replyV o s.here).p) 9), .int .u8 (((replyV o s.here).p) 10), .int .u8 (((replyV o s.here).p) 11), .int .u8 (((replyV o s.here).p) 12), .int .u8 (((replyV o s.here).p) 13), .int .u8 (((replyV o s.here).p) 14), .int .u8 (((replyV o s.here).p) 15), .int .u8 (((replyV o s.here).s) 0), .int .u8 (((replyV o s.here).s) 1), .int .u8 (((replyV o s.here).s) 2), .int .u8 (((replyV o s.here).s) 3), .int .u8 (((replyV o s.here).s) 4), .int .u8 (((replyV o s.here).s) 5), .int .u8 (((replyV o s.here).s) 6), .int .u8 (((replyV o s.here).s) 7), .int .u8 (((replyV o s.here).s) 8), .int .u8 (((replyV o s.here).s) 9), .int .u8 (((replyV o s.here).s) 10), .int .u8 (((replyV o s.here).s) 11), .int .u8 (((replyV o s.here).s) 12), .int .u8 (((replyV o s.here).s) 13), .int .u8 (((replyV o s.here).s) 14), .int .u8 (((replyV o s.here).s) 15)]) (by kernel_rfl) (by kernel_rfl) ho2 (Nat.le_of_ble_eq_true (by kernel_rfl)) ?_
        intro w12 hw5
        replace hS := Step.transNew hS hw5.step (fun _ _ _ => by omega)
        replace ho1 := ho1.step hw5.step (show ¬ b1 = b2 by omega)
        replace ho6 := ho6.step hw5.step (show ¬ b = b2 by omega)
        have ho7 : Own w12 b2 #[.int .i64 ((replyV o s.here).k), .int .u8 ((replyV o s.here).d), .bool ((replyV o s.here).a), .int .u32 ((replyV o s.here).tg), .int .u8 (((replyV o s.here).p) 0), .int .u8 (((replyV o s.here).p) 1), .int .u8 (((replyV o s.here).p) 2), .int .u8 (((replyV o s.here).p) 3), .int .u8 (((replyV o s.here).p) 4), .int .u8 (((replyV o s.here).p) 5), .int .u8 (((replyV o s.here).p) 6), .int .u8 (((replyV o s.here).p) 7), .int .u8 (((replyV o s.here).p) 8), .int .u8 (((replyV o s.here).p) 9), .int .u8 (((replyV o s.here).p) 10), .int .u8 (((replyV o s.here).p) 11), .int .u8 (((replyV o s.here).p) 12), .int .u8 (((replyV o s.here).p) 13), .int .u8 (((replyV o s.here).p) 14), .int .u8 (((replyV o s.here).p) 15), .int .u8 (((replyV o s.here).s) 0), .int .u8 (((replyV o s.here).s) 1), .int .u8 (((replyV o s.here).s) 2), .int .u8 (((replyV o s.here).s) 3), .int .u8 (((replyV o s.here).s) 4), .int .u8 (((replyV o s.here).s) 5), .int .u8 (((replyV o s.here).s) 6), .int .u8 (((replyV o s.here).s) 7), .int .u8 (((replyV o s.here).s) 8), .int .u8 (((replyV o s.here).s) 9), .int .u8 (((replyV o s.here).s) 10), .int .u8 (((replyV o s.here).s) 11), .int .u8 (((replyV o s.here).s) 12), .int .u8 (((replyV o s.here).s) 13), .int .u8 (((replyV o s.here).s) 14), .int .u8 (((replyV o s.here).s) 15)] 34 := Own.cast hw5.own (by kernel_rfl)
        have hzhw5 := hw5.same
        refine VL_pure 10 [6, 7] [(6, .pointer (some ⟨b2, 0, none⟩)), (7, .bool (replyB o s.here))] (by kernel_rfl) rfl ?_
        refine VL_end (by kernel_rfl) ?_
        refine VQ_next ?_
        refine VC_ret ?_
        refine VQ_retC1T1 (T := 34) (.agg #[.int .i64 ((replyV o s.here).k), .int .u8 ((replyV o s.here).d), .bool ((replyV o s.here).a), .int .u32 ((replyV o s.here).tg), .int .u8 (((replyV o s.here).p) 0), .int .u8 (((replyV o s.here).p) 1), .int .u8 (((replyV o s.here).p) 2), .int .u8 (((replyV o s.here).p) 3), .int .u8 (((replyV o s.here).p) 4), .int .u8 (((replyV o s.here).p) 5), .int .u8 (((replyV o s.here).p) 6), .int .u8 (((replyV o s.here).p) 7), .int .u8 (((replyV o s.here).p) 8), .int .u8 (((replyV o s.here).p) 9), .int .u8 (((replyV o s.here).p) 10), .int .u8 (((replyV o s.here).p) 11), .int .u8 (((replyV o s.here).p) 12), .int .u8 (((replyV o s.here).p) 13), .int .u8 (((replyV o s.here).p) 14), .int .u8 (((replyV o s.here).p) 15), .int .u8 (((replyV o s.here).s) 0), .int .u8 (((replyV o s.here).s) 1), .int .u8 (((replyV o s.here).s) 2), .int .u8 (((replyV o s.here).s) 3), .int .u8 (((replyV o s.here).s) 4), .int .u8 (((replyV o s.here).s) 5), .int .u8 (((replyV o s.here).s) 6), .int .u8 (((replyV o s.here).s) 7), .int .u8 (((replyV o s.here).s) 8), .int .u8 (((replyV o s.here).s) 9), .int .u8 (((replyV o s.here).s) 10), .int .u8 (((replyV o s.here).s) 11), .int .u8 (((replyV o s.here).s) 12), .int .u8 (((replyV o s.here).s) 13), .int .u8 (((replyV o s.here).s) 14), .int .u8 (((replyV o s.here).s) 15)]) (.bool (replyB o s.here)) (.inr rfl) rfl rfl rfl (Loads.ownL ho7 (n := 36) (by kernel_rfl) (by kernel_rfl) (by kernel_rfl)) ?_
        obtain ⟨e1, e2⟩ := got_yes (s := s) h1
        exact ⟨by rw [e1, e2]; rfl, Own.cast ho6 (gotA_1 h1 (by assumption) (by assumption) hw), hS⟩
      · refine VC_seq ?_
        refine VC_region ?_
        refine VL_pure 2 [0, 5, 6, 44] [(0, .pointer (some ⟨b, 0, none⟩)), (5, .pointer (some ⟨b1, 0, none⟩)), (6, .pointer (some ⟨b2, 0, none⟩)), (44, .bool (o.k == 4))] (by kernel_rfl) rfl ?_
        refine VL_end (by kernel_rfl) ?_
        refine VQ_next ?_
        refine VC_eq o.k 4 (by kernel_rfl) (fun h4 => ?_) (fun h4 => ?_)
        · refine VC_region ?_
          refine VL_pure 3 [0, 5, 6, 48] [(0, .pointer (some ⟨b, 0, none⟩)), (5, .pointer (some ⟨b1, 0, none⟩)), (6, .pointer (some ⟨b2, 0, none⟩)), (48, .pointer (some ⟨b, 0, none⟩))] (by kernel_rfl) rfl ?_
          have hzs4 := hS.size
          have hzl7 := ht.lt
          have hzl8 := ho1.lt
          have hzl9 := ho2.lt
          refine VL_call (d := 49) (f := 26) (args := #[.pointer (some ⟨b, 0, none⟩)]) (by kernel_rfl) (by kernel_rfl) (by kernel_rfl) Try.call26 (over_any b s _ ht) ?_
          rintro _ w13 ⟨rfl, ht1, hc2⟩
          replace hS := Step.trans hS (Step.mono hc2 (by intro i hi; first | exact hi | simp_all))
          replace ho1 := ho1.step hc2 (show ¬ b1 = b by omega)
          replace ho2 := ho2.step hc2 (show ¬ b2 = b by omega)
          refine VL_end (by kernel_rfl) ?_
          refine VQ_block_normal ?_
          refine VQ_next ?_
          refine VC_seq ?_
          refine VC_det [[], [], [1], [1, 2], [1, 2, 3], [0, 1, 2, 3, 4], [0, 1, 2, 3, 4, 5], [0, 1, 2, 3, 4, 5], [0, 1, 2, 3, 4, 5, 6, 7], [0, 1, 2, 3, 4, 5, 6, 7, 8]] 8 [.agg #[.int .i64 o.k, .int .u8 o.d, .bool o.a, .int .u32 o.tg, .int .u8 (o.p 0), .int .u8 (o.p 1), .int .u8 (o.p 2), .int .u8 (o.p 3), .int .u8 (o.p 4), .int .u8 (o.p 5), .int .u8 (o.p 6), .int .u8 (o.p 7), .int .u8 (o.p 8), .int .u8 (o.p 9), .int .u8 (o.p 10), .int .u8 (o.p 11), .int .u8 (o.p 12), .int .u8 (o.p 13), .int .u8 (o.p 14), .int .u8 (o.p 15), .int .u8 (o.s 0), .int .u8 (o.s 1), .int .u8 (o.s 2), .int .u8 (o.s 3), .int .u8 (o.s 4), .int .u8 (o.s 5), .int .u8 (o.s 6), .int .u8 (o.s 7), .int .u8 (o.s 8), .int .u8 (o.s 9), .int .u8 (o.s 10), .int .u8 (o.s 11), .int .u8 (o.s 12), .int .u8 (o.s 13), .int .u8 (o.s 14), .int .u8 (o.s 15)], .pointer (some ⟨b, 0, none⟩), .pointer (some ⟨b, 0, none⟩), .pointer (some ⟨b, 2, none⟩), .agg #[.int .u8 (((userA s).here) 0), .int .u8 (((userA s).here) 1), .int .u8 (((userA s).here) 2), .int .u8 (((userA s).here) 3), .int .u8 (((userA s).here) 4), .int .u8 (((userA s).here) 5), .int .u8 (((userA s).here) 6), .int .u8 (((userA s).here) 7), .int .u8 (((userA s).here) 8), .int .u8 (((userA s).here) 9), .int .u8 (((userA s).here) 10), .int .u8 (((userA s).here) 11), .int .u8 (((userA s).here) 12), .int .u8 (((userA s).here) 13), .int .u8 (((userA s).here) 14), .int .u8 (((userA s).here) 15)], .tuple #[.agg #[.int .i64 ((replyV o ((userA s).here)).k), .int .u8 ((replyV o ((userA s).here)).d), .bool ((replyV o ((userA s).here)).a), .int .u32 ((replyV o ((userA s).here)).tg), .int .u8 (((replyV o ((userA s).here)).p) 0), .int .u8 (((replyV o ((userA s).here)).p) 1), .int .u8 (((replyV o ((userA s).here)).p) 2), .int .u8 (((replyV o ((userA s).here)).p) 3), .int .u8 (((replyV o ((userA s).here)).p) 4), .int .u8 (((replyV o ((userA s).here)).p) 5), .int .u8 (((replyV o ((userA s).here)).p) 6), .int .u8 (((replyV o ((userA s).here)).p) 7), .int .u8 (((replyV o ((userA s).here)).p) 8), .int .u8 (((replyV o ((userA s).here)).p) 9), .int .u8 (((replyV o ((userA s).here)).p) 10), .int .u8 (((replyV o ((userA s).here)).p) 11), .int .u8 (((replyV o ((userA s).here)).p) 12), .int .u8 (((replyV o ((userA s).here)).p) 13), .int .u8 (((replyV o ((userA s).here)).p) 14), .int .u8 (((replyV o ((userA s).here)).p) 15), .int .u8 (((replyV o ((userA s).here)).s) 0), .int .u8 (((replyV o ((userA s).here)).s) 1), .int .u8 (((replyV o ((userA s).here)).s) 2), .int .u8 (((replyV o ((userA s).here)).s) 3), .int .u8 (((replyV o ((userA s).here)).s) 4), .int .u8 (((replyV o ((userA s).here)).s) 5), .int .u8 (((replyV o ((userA s).here)).s) 6), .int .u8 (((replyV o ((userA s).here)).s) 7), .int .u8 (((replyV o ((userA s).here)).s) 8), .int .u8 (((replyV o ((userA s).here)).s) 9), .int .u8 (((replyV o ((userA s).here)).s) 10), .int .u8 (((replyV o ((userA s).here)).s) 11), .int .u8 (((replyV o ((userA s).here)).s) 12), .int .u8 (((replyV o ((userA s).here)).s) 13), .int .u8 (((replyV o ((userA s).here)).s) 14), .int .u8 (((replyV o ((userA s).here)).s) 15)], .bool (replyB o ((userA s).here))], .agg #[.int .i64 ((replyV o ((userA s).here)).k), .int .u8 ((replyV o ((userA s).here)).d), .bool ((replyV o ((userA s).here)).a), .int .u32 ((replyV o ((userA s).here)).tg), .int .u8 (((replyV o ((userA s).here)).p) 0), .int .u8 (((replyV o ((userA s).here)).p) 1), .int .u8 (((replyV o ((userA s).here)).p) 2), .int .u8 (((replyV o ((userA s).here)).p) 3), .int .u8 (((replyV o ((userA s).here)).p) 4), .int .u8 (((replyV o ((userA s).here)).p) 5), .int .u8 (((replyV o ((userA s).here)).p) 6), .int .u8 (((replyV o ((userA s).here)).p) 7), .int .u8 (((replyV o ((userA s).here)).p) 8), .int .u8 (((replyV o ((userA s).here)).p) 9), .int .u8 (((replyV o ((userA s).here)).p) 10), .int .u8 (((replyV o ((userA s).here)).p) 11), .int .u8 (((replyV o ((userA s).here)).p) 12), .int .u8 (((replyV o ((userA s).here)).p) 13), .int .u8 (((replyV o ((userA s).here)).p) 14), .int .u8 (((replyV o ((userA s).here)).p) 15), .int .u8 (((replyV o ((userA s).here)).s) 0), .int .u8 (((replyV o ((userA s).here)).s) 1), .int .u8 (((replyV o ((userA s).here)).s) 2), .int .u8 (((replyV o ((userA s).here)).s) 3), .int .u8 (((replyV o ((userA s).here)).s) 4), .int .u8 (((replyV o ((userA s).here)).s) 5), .int .u8 (((replyV o ((userA s).here)).s) 6), .int .u8 (((replyV o ((userA s).here)).s) 7), .int .u8 (((replyV o ((userA s).here)).s) 8), .int .u8 (((replyV o ((userA s).here)).s) 9), .int .u8 (((replyV o ((userA s).here)).s) 10), .int .u8 (((replyV o ((userA s).here)).s) 11), .int .u8 (((replyV o ((userA s).here)).s) 12), .int .u8 (((replyV o ((userA s).here)).s) 13), .int .u8 (((replyV o ((userA s).here)).s) 14), .int .u8 (((replyV o ((userA s).here)).s) 15)], .bool (replyB o ((userA s).here))] [1, 2, 3, 6, 7] [0, 4, 5] (by kernel_rfl) (by kernel_rfl) (by kernel_rfl) (by kernel_rfl) ?_ ?_
          · intro w14 hs5
            replace hS := Step.trans hS (Step.weak hs5)
            replace ho1 := ho1.no hs5
            replace ho2 := ho2.no hs5
            replace ht1 := ht1.no hs5
            exact ⟨Det1_load (d := 50) (t := 34) (a := ⟨b1, 0, none⟩) (by kernel_rfl) (by kernel_rfl) (Loads.ownL ho1 (n := 36) (by kernel_rfl) (by kernel_rfl) (by kernel_rfl)), Det1_load (d := 54) (t := 22) (a := ⟨b, 2, none⟩) (by kernel_rfl) (by kernel_rfl) (Loads.ownL ht1 (n := 16) (by kernel_rfl) (by kernel_rfl) (by kernel_rfl)), Det1_call (d := 55) (f := 27) (args := #[.agg #[.int .i64 o.k, .int .u8 o.d, .bool o.a, .int .u32 o.tg, .int .u8 (o.p 0), .int .u8 (o.p 1), .int .u8 (o.p 2), .int .u8 (o.p 3), .int .u8 (o.p 4), .int .u8 (o.p 5), .int .u8 (o.p 6), .int .u8 (o.p 7), .int .u8 (o.p 8), .int .u8 (o.p 9), .int .u8 (o.p 10), .int .u8 (o.p 11), .int .u8 (o.p 12), .int .u8 (o.p 13), .int .u8 (o.p 14), .int .u8 (o.p 15), .int .u8 (o.s 0), .int .u8 (o.s 1), .int .u8 (o.s 2), .int .u8 (o.s 3), .int .u8 (o.s 4), .int .u8 (o.s 5), .int .u8 (o.s 6), .int .u8 (o.s 7), .int .u8 (o.s 8), .int .u8 (o.s 9), .int .u8 (o.s 10), .int .u8 (o.s 11), .int .u8 (o.s 12), .int .u8 (o.s 13), .int .u8 (o.s 14), .int .u8 (o.s 15)], .agg #[.int .u8 (((userA s).here) 0), .int .u8 (((userA s).here) 1), .int .u8 (((userA s).here) 2), .int .u8 (((userA s).here) 3), .int .u8 (((userA s).here) 4), .int .u8 (((userA s).here) 5), .int .u8 (((userA s).here) 6), .int .u8 (((userA s).here) 7), .int .u8 (((userA s).here) 8), .int .u8 (((userA s).here) 9), .int .u8 (((userA s).here) 10), .int .u8 (((userA s).here) 11), .int .u8 (((userA s).here) 12), .int .u8 (((userA s).here) 13), .int .u8 (((userA s).here) 14), .int .u8 (((userA s).here) 15)]]) (by kernel_rfl) (by kernel_rfl) (by kernel_rfl) Try.call27 (by exact reply_any o ((userA s).here) _ hp), trivial⟩
          intro w14 hs5
          replace hS := Step.trans hS (Step.weak hs5)
          replace ho1 := ho1.no hs5
          replace ho2 := ho2.no hs5
          replace ht1 := ht1.no hs5
          refine VL_keep [6, 56, 57] [(6, .pointer (some ⟨b2, 0, none⟩)), (56, .agg #[.int .i64 ((replyV o ((userA s).here)).k), .int .u8 ((replyV o ((userA s).here)).d), .bool ((replyV o ((userA s).here)).a), .int .u32 ((replyV o ((userA s).here)).tg), .int .u8 (((replyV o ((userA s).here)).p) 0), .int .u8 (((replyV o ((userA s).here)).p) 1), .int .u8 (((replyV o ((userA s).here)).p) 2), .int .u8 (((replyV o ((userA s).here)).p) 3), .int .u8 (((replyV o ((userA s).here)).p) 4), .int .u8 (((replyV o ((userA s).here)).p) 5), .int .u8 (((replyV o ((userA s).here)).p) 6), .int .u8 (((replyV o ((userA s).here)).p) 7), .int .u8 (((replyV o ((userA s).here)).p) 8), .int .u8 (((replyV o ((userA s).here)).p) 9), .int .u8 (((replyV o ((userA s).here)).p) 10), .int .u8 (((replyV o ((userA s).here)).p) 11), .int .u8 (((replyV o ((userA s).here)).p) 12), .int .u8 (((replyV o ((userA s).here)).p) 13), .int .u8 (((replyV o ((userA s).here)).p) 14), .int .u8 (((replyV o ((userA s).here)).p) 15), .int .u8 (((replyV o ((userA s).here)).s) 0), .int .u8 (((replyV o ((userA s).here)).s) 1), .int .u8 (((replyV o ((userA s).here)).s) 2), .int .u8 (((replyV o ((userA s).here)).s) 3), .int .u8 (((replyV o ((userA s).here)).s) 4), .int .u8 (((replyV o ((userA s).here)).s) 5), .int .u8 (((replyV o ((userA s).here)).s) 6), .int .u8 (((replyV o ((userA s).here)).s) 7), .int .u8 (((replyV o ((userA s).here)).s) 8), .int .u8 (((replyV o ((userA s).here)).s) 9), .int .u8 (((replyV o ((userA s).here)).s) 10), .int .u8 (((replyV o ((userA s).here)).s) 11), .int .u8 (((replyV o ((userA s).here)).s) 12), .int .u8 (((replyV o ((userA s).here)).s) 13), .int .u8 (((replyV o ((userA s).here)).s) 14), .int .u8 (((replyV o ((userA s).here)).s) 15)]), (57, .bool (replyB o ((userA s).here)))] (by kernel_rfl) ?_
          refine VL_store (b := b2) (o := 0) (vs := [.int .i64 ((replyV o ((userA s).here)).k), .int .u8 ((replyV o ((userA s).here)).d), .bool ((replyV o ((userA s).here)).a), .int .u32 ((replyV o ((userA s).here)).tg), .int .u8 (((replyV o ((userA s).here)).p) 0), .int .u8 (((replyV o ((userA s).here)).p) 1), .int .u8 (((replyV o ((userA s).here)).p) 2), .int .u8 (((replyV o ((userA s).here)).p) 3), .int .u8 (((replyV o ((userA s).here)).p) 4), .int .u8 (((replyV o ((userA s).here)).p) 5), .int .u8 (((replyV o ((userA s).here)).p) 6), .int .u8 (((replyV o ((userA s).here)).p) 7), .int .u8 (((replyV o ((userA s).here)).p) 8), .int .u8 (((replyV o ((userA s).here)).p) 9), .int .u8 (((replyV o ((userA s).here)).p) 10), .int .u8 (((replyV o ((userA s).here)).p) 11), .int .u8 (((replyV o ((userA s).here)).p) 12), .int .u8 (((replyV o ((userA s).here)).p) 13), .int .u8 (((replyV o ((userA s).here)).p) 14), .int .u8 (((replyV o ((userA s).here)).p) 15), .int .u8 (((replyV o ((userA s).here)).s) 0), .int .u8 (((replyV o ((userA s).here)).s) 1), .int .u8 (((replyV o ((userA s).here)).s) 2), .int .u8 (((replyV o ((userA s).here)).s) 3), .int .u8 (((replyV o ((userA s).here)).s) 4), .int .u8 (((replyV o ((userA s).here)).s) 5), .int .u8 (((replyV o ((userA s).here)).s) 6), .int .u8 (((replyV o ((userA s).here)).s) 7), .int .u8 (((replyV o ((userA s).here)).s) 8), .int .u8 (((replyV o ((userA s).here)).s) 9), .int .u8 (((replyV o ((userA s).here)).s) 10), .int .u8 (((replyV o ((userA s).here)).s) 11), .int .u8 (((replyV o ((userA s).here)).s) 12), .int .u8 (((replyV o ((userA s).here)).s) 13), .int .u8 (((replyV o ((userA s).here)).s) 14), .int .u8 (((replyV o ((userA s).here)).s) 15)]) (by kernel_rfl) (by kernel_rfl) ho2 (Nat.le_of_ble_eq_true (by kernel_rfl)) ?_
          intro w15 hw6
          replace hS := Step.transNew hS hw6.step (fun _ _ _ => by omega)
          replace ho1 := ho1.step hw6.step (show ¬ b1 = b2 by omega)
          replace ht1 := ht1.step hw6.step (show ¬ b = b2 by omega)
          have ho8 : Own w15 b2 #[.int .i64 ((replyV o ((userA s).here)).k), .int .u8 ((replyV o ((userA s).here)).d), .bool ((replyV o ((userA s).here)).a), .int .u32 ((replyV o ((userA s).here)).tg), .int .u8 (((replyV o ((userA s).here)).p) 0), .int .u8 (((replyV o ((userA s).here)).p) 1), .int .u8 (((replyV o ((userA s).here)).p) 2), .int .u8 (((replyV o ((userA s).here)).p) 3), .int .u8 (((replyV o ((userA s).here)).p) 4), .int .u8 (((replyV o ((userA s).here)).p) 5), .int .u8 (((replyV o ((userA s).here)).p) 6), .int .u8 (((replyV o ((userA s).here)).p) 7), .int .u8 (((replyV o ((userA s).here)).p) 8), .int .u8 (((replyV o ((userA s).here)).p) 9), .int .u8 (((replyV o ((userA s).here)).p) 10), .int .u8 (((replyV o ((userA s).here)).p) 11), .int .u8 (((replyV o ((userA s).here)).p) 12), .int .u8 (((replyV o ((userA s).here)).p) 13), .int .u8 (((replyV o ((userA s).here)).p) 14), .int .u8 (((replyV o ((userA s).here)).p) 15), .int .u8 (((replyV o ((userA s).here)).s) 0), .int .u8 (((replyV o ((userA s).here)).s) 1), .int .u8 (((replyV o ((userA s).here)).s) 2), .int .u8 (((replyV o ((userA s).here)).s) 3), .int .u8 (((replyV o ((userA s).here)).s) 4), .int .u8 (((replyV o ((userA s).here)).s) 5), .int .u8 (((replyV o ((userA s).here)).s) 6), .int .u8 (((replyV o ((userA s).here)).s) 7), .int .u8 (((replyV o ((userA s).here)).s) 8), .int .u8 (((replyV o ((userA s).here)).s) 9), .int .u8 (((replyV o ((userA s).here)).s) 10), .int .u8 (((replyV o ((userA s).here)).s) 11), .int .u8 (((replyV o ((userA s).here)).s) 12), .int .u8 (((replyV o ((userA s).here)).s) 13), .int .u8 (((replyV o ((userA s).here)).s) 14), .int .u8 (((replyV o ((userA s).here)).s) 15)] 34 := Own.cast hw6.own (by kernel_rfl)
          have hzhw6 := hw6.same
          refine VL_pure 10 [6, 7] [(6, .pointer (some ⟨b2, 0, none⟩)), (7, .bool (replyB o ((userA s).here)))] (by kernel_rfl) rfl ?_
          refine VL_end (by kernel_rfl) ?_
          refine VQ_next ?_
          refine VC_ret ?_
          refine VQ_retC1T1 (T := 34) (.agg #[.int .i64 ((replyV o ((userA s).here)).k), .int .u8 ((replyV o ((userA s).here)).d), .bool ((replyV o ((userA s).here)).a), .int .u32 ((replyV o ((userA s).here)).tg), .int .u8 (((replyV o ((userA s).here)).p) 0), .int .u8 (((replyV o ((userA s).here)).p) 1), .int .u8 (((replyV o ((userA s).here)).p) 2), .int .u8 (((replyV o ((userA s).here)).p) 3), .int .u8 (((replyV o ((userA s).here)).p) 4), .int .u8 (((replyV o ((userA s).here)).p) 5), .int .u8 (((replyV o ((userA s).here)).p) 6), .int .u8 (((replyV o ((userA s).here)).p) 7), .int .u8 (((replyV o ((userA s).here)).p) 8), .int .u8 (((replyV o ((userA s).here)).p) 9), .int .u8 (((replyV o ((userA s).here)).p) 10), .int .u8 (((replyV o ((userA s).here)).p) 11), .int .u8 (((replyV o ((userA s).here)).p) 12), .int .u8 (((replyV o ((userA s).here)).p) 13), .int .u8 (((replyV o ((userA s).here)).p) 14), .int .u8 (((replyV o ((userA s).here)).p) 15), .int .u8 (((replyV o ((userA s).here)).s) 0), .int .u8 (((replyV o ((userA s).here)).s) 1), .int .u8 (((replyV o ((userA s).here)).s) 2), .int .u8 (((replyV o ((userA s).here)).s) 3), .int .u8 (((replyV o ((userA s).here)).s) 4), .int .u8 (((replyV o ((userA s).here)).s) 5), .int .u8 (((replyV o ((userA s).here)).s) 6), .int .u8 (((replyV o ((userA s).here)).s) 7), .int .u8 (((replyV o ((userA s).here)).s) 8), .int .u8 (((replyV o ((userA s).here)).s) 9), .int .u8 (((replyV o ((userA s).here)).s) 10), .int .u8 (((replyV o ((userA s).here)).s) 11), .int .u8 (((replyV o ((userA s).here)).s) 12), .int .u8 (((replyV o ((userA s).here)).s) 13), .int .u8 (((replyV o ((userA s).here)).s) 14), .int .u8 (((replyV o ((userA s).here)).s) 15)]) (.bool (replyB o ((userA s).here))) (.inr rfl) rfl rfl rfl (Loads.ownL ho8 (n := 36) (by kernel_rfl) (by kernel_rfl) (by kernel_rfl)) ?_
          obtain ⟨e1, e2⟩ := got_yes (s := s) h1
          exact ⟨by rw [e1, e2]; rfl, Own.cast ht1 (gotA_4 h1 (by assumption) (by assumption) (by assumption)), hS⟩
        · refine VC_skip ?_
          refine VQ_block_normal ?_
          refine VQ_next ?_
          refine VC_seq ?_
          refine VC_det [[], [], [1], [1, 2], [1, 2, 3], [0, 1, 2, 3, 4], [0, 1, 2, 3, 4, 5], [0, 1, 2, 3, 4, 5], [0, 1, 2, 3, 4, 5, 6, 7], [0, 1, 2, 3, 4, 5, 6, 7, 8]] 8 [.agg #[.int .i64 o.k, .int .u8 o.d, .bool o.a, .int .u32 o.tg, .int .u8 (o.p 0), .int .u8 (o.p 1), .int .u8 (o.p 2), .int .u8 (o.p 3), .int .u8 (o.p 4), .int .u8 (o.p 5), .int .u8 (o.p 6), .int .u8 (o.p 7), .int .u8 (o.p 8), .int .u8 (o.p 9), .int .u8 (o.p 10), .int .u8 (o.p 11), .int .u8 (o.p 12), .int .u8 (o.p 13), .int .u8 (o.p 14), .int .u8 (o.p 15), .int .u8 (o.s 0), .int .u8 (o.s 1), .int .u8 (o.s 2), .int .u8 (o.s 3), .int .u8 (o.s 4), .int .u8 (o.s 5), .int .u8 (o.s 6), .int .u8 (o.s 7), .int .u8 (o.s 8), .int .u8 (o.s 9), .int .u8 (o.s 10), .int .u8 (o.s 11), .int .u8 (o.s 12), .int .u8 (o.s 13), .int .u8 (o.s 14), .int .u8 (o.s 15)], .pointer (some ⟨b, 0, none⟩), .pointer (some ⟨b, 0, none⟩), .pointer (some ⟨b, 2, none⟩), .agg #[.int .u8 (s.here 0), .int .u8 (s.here 1), .int .u8 (s.here 2), .int .u8 (s.here 3), .int .u8 (s.here 4), .int .u8 (s.here 5), .int .u8 (s.here 6), .int .u8 (s.here 7), .int .u8 (s.here 8), .int .u8 (s.here 9), .int .u8 (s.here 10), .int .u8 (s.here 11), .int .u8 (s.here 12), .int .u8 (s.here 13), .int .u8 (s.here 14), .int .u8 (s.here 15)], .tuple #[.agg #[.int .i64 ((replyV o s.here).k), .int .u8 ((replyV o s.here).d), .bool ((replyV o s.here).a), .int .u32 ((replyV o s.here).tg), .int .u8 (((replyV o s.here).p) 0), .int .u8 (((replyV o s.here).p) 1), .int .u8 (((replyV o s.here).p) 2), .int .u8 (((replyV o s.here).p) 3), .int .u8 (((replyV o s.here).p) 4), .int .u8 (((replyV o s.here).p) 5), .int .u8 (((replyV o s.here).p) 6), .int .u8 (((replyV o s.here).p) 7), .int .u8 (((replyV o s.here).p) 8), .int .u8 (((replyV o s.here).p) 9), .int .u8 (((replyV o s.here).p) 10), .int .u8 (((replyV o s.here).p) 11), .int .u8 (((replyV o s.here).p) 12), .int .u8 (((replyV o s.here).p) 13), .int .u8 (((replyV o s.here).p) 14), .int .u8 (((replyV o s.here).p) 15), .int .u8 (((replyV o s.here).s) 0), .int .u8 (((replyV o s.here).s) 1), .int .u8 (((replyV o s.here).s) 2), .int .u8 (((replyV o s.here).s) 3), .int .u8 (((replyV o s.here).s) 4), .int .u8 (((replyV o s.here).s) 5), .int .u8 (((replyV o s.here).s) 6), .int .u8 (((replyV o s.here).s) 7), .int .u8 (((replyV o s.here).s) 8), .int .u8 (((replyV o s.here).s) 9), .int .u8 (((replyV o s.here).s) 10), .int .u8 (((replyV o s.here).s) 11), .int .u8 (((replyV o s.here).s) 12), .int .u8 (((replyV o s.here).s) 13), .int .u8 (((replyV o s.here).s) 14), .int .u8 (((replyV o s.here).s) 15)], .bool (replyB o s.here)], .agg #[.int .i64 ((replyV o s.here).k), .int .u8 ((replyV o s.here).d), .bool ((replyV o s.here).a), .int .u32 ((replyV o s.here).tg), .int .u8 (((replyV o s.here).p) 0), .int .u8 (((replyV o s.here).p) 1), .int .u8 (((replyV o s.here).p) 2), .int .u8 (((replyV o s.here).p) 3), .int .u8 (((replyV o s.here).p) 4), .int .u8 (((replyV o s.here).p) 5), .int .u8 (((replyV o s.here).p) 6), .int .u8 (((replyV o s.here).p) 7), .int .u8 (((replyV o s.here).p) 8), .int .u8 (((replyV o s.here).p) 9), .int .u8 (((replyV o s.here).p) 10), .int .u8 (((replyV o s.here).p) 11), .int .u8 (((replyV o s.here).p) 12), .int .u8 (((replyV o s.here).p) 13), .int .u8 (((replyV o s.here).p) 14), .int .u8 (((replyV o s.here).p) 15), .int .u8 (((replyV o s.here).s) 0), .int .u8 (((replyV o s.here).s) 1), .int .u8 (((replyV o s.here).s) 2), .int .u8 (((replyV o s.here).s) 3), .int .u8 (((replyV o s.here).s) 4), .int .u8 (((replyV o s.here).s) 5), .int .u8 (((replyV o s.here).s) 6), .int .u8 (((replyV o s.here).s) 7), .int .u8 (((replyV o s.here).s) 8), .int .u8 (((replyV o s.here).s) 9), .int .u8 (((replyV o s.here).s) 10), .int .u8 (((replyV o s.here).s) 11), .int .u8 (((replyV o s.here).s) 12), .int .u8 (((replyV o s.here).s) 13), .int .u8 (((replyV o s.here).s) 14), .int .u8 (((replyV o s.here).s) 15)], .bool (replyB o s.here)] [1, 2, 3, 6, 7] [0, 4, 5] (by kernel_rfl) (by kernel_rfl) (by kernel_rfl) (by kernel_rfl) ?_ ?_
          · intro w16 hs6
            replace hS := Step.trans hS (Step.weak hs6)
            replace ht := ht.no hs6
            replace ho1 := ho1.no hs6
            replace ho2 := ho2.no hs6
            exact ⟨Det1_load (d := 50) (t := 34) (a := ⟨b1, 0, none⟩) (by kernel_rfl) (by kernel_rfl) (Loads.ownL ho1 (n := 36) (by kernel_rfl) (by kernel_rfl) (by kernel_rfl)), Det1_load (d := 54) (t := 22) (a := ⟨b, 2, none⟩) (by kernel_rfl) (by kernel_rfl) (Loads.ownL ht (n := 16) (by kernel_rfl) (by kernel_rfl) (by kernel_rfl)), Det1_call (d := 55) (f := 27) (args := #[.agg #[.int .i64 o.k, .int .u8 o.d, .bool o.a, .int .u32 o.tg, .int .u8 (o.p 0), .int .u8 (o.p 1), .int .u8 (o.p 2), .int .u8 (o.p 3), .int .u8 (o.p 4), .int .u8 (o.p 5), .int .u8 (o.p 6), .int .u8 (o.p 7), .int .u8 (o.p 8), .int .u8 (o.p 9), .int .u8 (o.p 10), .int .u8 (o.p 11), .int .u8 (o.p 12), .int .u8 (o.p 13), .int .u8 (o.p 14), .int .u8 (o.p 15), .int .u8 (o.s 0), .int .u8 (o.s 1), .int .u8 (o.s 2), .int .u8 (o.s 3), .int .u8 (o.s 4), .int .u8 (o.s 5), .int .u8 (o.s 6), .int .u8 (o.s 7), .int .u8 (o.s 8), .int .u8 (o.s 9), .int .u8 (o.s 10), .int .u8 (o.s 11), .int .u8 (o.s 12), .int .u8 (o.s 13), .int .u8 (o.s 14), .int .u8 (o.s 15)], .agg #[.int .u8 (s.here 0), .int .u8 (s.here 1), .int .u8 (s.here 2), .int .u8 (s.here 3), .int .u8 (s.here 4), .int .u8 (s.here 5), .int .u8 (s.here 6), .int .u8 (s.here 7), .int .u8 (s.here 8), .int .u8 (s.here 9), .int .u8 (s.here 10), .int .u8 (s.here 11), .int .u8 (s.here 12), .int .u8 (s.here 13), .int .u8 (s.here 14), .int .u8 (s.here 15)]]) (by kernel_rfl) (by kernel_rfl) (by kernel_rfl) Try.call27 (by exact reply_any o s.here _ hp), trivial⟩
          intro w16 hs6
          replace hS := Step.trans hS (Step.weak hs6)
          replace ht := ht.no hs6
          replace ho1 := ho1.no hs6
          replace ho2 := ho2.no hs6
          refine VL_keep [6, 56, 57] [(6, .pointer (some ⟨b2, 0, none⟩)), (56, .agg #[.int .i64 ((replyV o s.here).k), .int .u8 ((replyV o s.here).d), .bool ((replyV o s.here).a), .int .u32 ((replyV o s.here).tg), .int .u8 (((replyV o s.here).p) 0), .int .u8 (((replyV o s.here).p) 1), .int .u8 (((replyV o s.here).p) 2), .int .u8 (((replyV o s.here).p) 3), .int .u8 (((replyV o s.here).p) 4), .int .u8 (((replyV o s.here).p) 5), .int .u8 (((replyV o s.here).p) 6), .int .u8 (((replyV o s.here).p) 7), .int .u8 (((replyV o s.here).p) 8), .int .u8 (((replyV o s.here).p) 9), .int .u8 (((replyV o s.here).p) 10), .int .u8 (((replyV o s.here).p) 11), .int .u8 (((replyV o s.here).p) 12), .int .u8 (((replyV o s.here).p) 13), .int .u8 (((replyV o s.here).p) 14), .int .u8 (((replyV o s.here).p) 15), .int .u8 (((replyV o s.here).s) 0), .int .u8 (((replyV o s.here).s) 1), .int .u8 (((replyV o s.here).s) 2), .int .u8 (((replyV o s.here).s) 3), .int .u8 (((replyV o s.here).s) 4), .int .u8 (((replyV o s.here).s) 5), .int .u8 (((replyV o s.here).s) 6), .int .u8 (((replyV o s.here).s) 7), .int .u8 (((replyV o s.here).s) 8), .int .u8 (((replyV o s.here).s) 9), .int .u8 (((replyV o s.here).s) 10), .int .u8 (((replyV o s.here).s) 11), .int .u8 (((replyV o s.here).s) 12), .int .u8 (((replyV o s.here).s) 13), .int .u8 (((replyV o s.here).s) 14), .int .u8 (((replyV o s.here).s) 15)]), (57, .bool (replyB o s.here))] (by kernel_rfl) ?_
          refine VL_store (b := b2) (o := 0) (vs := [.int .i64 ((replyV o s.here).k), .int .u8 ((replyV o s.here).d), .bool ((replyV o s.here).a), .int .u32 ((replyV o s.here).tg), .int .u8 (((replyV o s.here).p) 0), .int .u8 (((replyV o s.here).p) 1), .int .u8 (((replyV o s.here).p) 2), .int .u8 (((replyV o s.here).p) 3), .int .u8 (((replyV o s.here).p) 4), .int .u8 (((replyV o s.here).p) 5), .int .u8 (((replyV o s.here).p) 6), .int .u8 (((replyV o s.here).p) 7), .int .u8 (((replyV o s.here).p) 8), .int .u8 (((replyV o s.here).p) 9), .int .u8 (((replyV o s.here).p) 10), .int .u8 (((replyV o s.here).p) 11), .int .u8 (((replyV o s.here).p) 12), .int .u8 (((replyV o s.here).p) 13), .int .u8 (((replyV o s.here).p) 14), .int .u8 (((replyV o s.here).p) 15), .int .u8 (((replyV o s.here).s) 0), .int .u8 (((replyV o s.here).s) 1), .int .u8 (((replyV o s.here).s) 2), .int .u8 (((replyV o s.here).s) 3), .int .u8 (((replyV o s.here).s) 4), .int .u8 (((replyV o s.here).s) 5), .int .u8 (((replyV o s.here).s) 6), .int .u8 (((replyV o s.here).s) 7), .int .u8 (((replyV o s.here).s) 8), .int .u8 (((replyV o s.here).s) 9), .int .u8 (((replyV o s.here).s) 10), .int .u8 (((replyV o s.here).s) 11), .int .u8 (((replyV o s.here).s) 12), .int .u8 (((replyV o s.here).s) 13), .int .u8 (((replyV o s.here).s) 14), .int .u8 (((replyV o s.here).s) 15)]) (by kernel_rfl) (by kernel_rfl) ho2 (Nat.le_of_ble_eq_true (by kernel_rfl)) ?_
          intro w17 hw7
          replace hS := Step.transNew hS hw7.step (fun _ _ _ => by omega)
          replace ht := ht.step hw7.step (show ¬ b = b2 by omega)
          replace ho1 := ho1.step hw7.step (show ¬ b1 = b2 by omega)
          have ho9 : Own w17 b2 #[.int .i64 ((replyV o s.here).k), .int .u8 ((replyV o s.here).d), .bool ((replyV o s.here).a), .int .u32 ((replyV o s.here).tg), .int .u8 (((replyV o s.here).p) 0), .int .u8 (((replyV o s.here).p) 1), .int .u8 (((replyV o s.here).p) 2), .int .u8 (((replyV o s.here).p) 3), .int .u8 (((replyV o s.here).p) 4), .int .u8 (((replyV o s.here).p) 5), .int .u8 (((replyV o s.here).p) 6), .int .u8 (((replyV o s.here).p) 7), .int .u8 (((replyV o s.here).p) 8), .int .u8 (((replyV o s.here).p) 9), .int .u8 (((replyV o s.here).p) 10), .int .u8 (((replyV o s.here).p) 11), .int .u8 (((replyV o s.here).p) 12), .int .u8 (((replyV o s.here).p) 13), .int .u8 (((replyV o s.here).p) 14), .int .u8 (((replyV o s.here).p) 15), .int .u8 (((replyV o s.here).s) 0), .int .u8 (((replyV o s.here).s) 1), .int .u8 (((replyV o s.here).s) 2), .int .u8 (((replyV o s.here).s) 3), .int .u8 (((replyV o s.here).s) 4), .int .u8 (((replyV o s.here).s) 5), .int .u8 (((replyV o s.here).s) 6), .int .u8 (((replyV o s.here).s) 7), .int .u8 (((replyV o s.here).s) 8), .int .u8 (((replyV o s.here).s) 9), .int .u8 (((replyV o s.here).s) 10), .int .u8 (((replyV o s.here).s) 11), .int .u8 (((replyV o s.here).s) 12), .int .u8 (((replyV o s.here).s) 13), .int .u8 (((replyV o s.here).s) 14), .int .u8 (((replyV o s.here).s) 15)] 34 := Own.cast hw7.own (by kernel_rfl)
          have hzhw7 := hw7.same
          refine VL_pure 10 [6, 7] [(6, .pointer (some ⟨b2, 0, none⟩)), (7, .bool (replyB o s.here))] (by kernel_rfl) rfl ?_
          refine VL_end (by kernel_rfl) ?_
          refine VQ_next ?_
          refine VC_ret ?_
          refine VQ_retC1T1 (T := 34) (.agg #[.int .i64 ((replyV o s.here).k), .int .u8 ((replyV o s.here).d), .bool ((replyV o s.here).a), .int .u32 ((replyV o s.here).tg), .int .u8 (((replyV o s.here).p) 0), .int .u8 (((replyV o s.here).p) 1), .int .u8 (((replyV o s.here).p) 2), .int .u8 (((replyV o s.here).p) 3), .int .u8 (((replyV o s.here).p) 4), .int .u8 (((replyV o s.here).p) 5), .int .u8 (((replyV o s.here).p) 6), .int .u8 (((replyV o s.here).p) 7), .int .u8 (((replyV o s.here).p) 8), .int .u8 (((replyV o s.here).p) 9), .int .u8 (((replyV o s.here).p) 10), .int .u8 (((replyV o s.here).p) 11), .int .u8 (((replyV o s.here).p) 12), .int .u8 (((replyV o s.here).p) 13), .int .u8 (((replyV o s.here).p) 14), .int .u8 (((replyV o s.here).p) 15), .int .u8 (((replyV o s.here).s) 0), .int .u8 (((replyV o s.here).s) 1), .int .u8 (((replyV o s.here).s) 2), .int .u8 (((replyV o s.here).s) 3), .int .u8 (((replyV o s.here).s) 4), .int .u8 (((replyV o s.here).s) 5), .int .u8 (((replyV o s.here).s) 6), .int .u8 (((replyV o s.here).s) 7), .int .u8 (((replyV o s.here).s) 8), .int .u8 (((replyV o s.here).s) 9), .int .u8 (((replyV o s.here).s) 10), .int .u8 (((replyV o s.here).s) 11), .int .u8 (((replyV o s.here).s) 12), .int .u8 (((replyV o s.here).s) 13), .int .u8 (((replyV o s.here).s) 14), .int .u8 (((replyV o s.here).s) 15)]) (.bool (replyB o s.here)) (.inr rfl) rfl rfl rfl (Loads.ownL ho9 (n := 36) (by kernel_rfl) (by kernel_rfl) (by kernel_rfl)) ?_
          obtain ⟨e1, e2⟩ := got_yes (s := s) h1
          exact ⟨by rw [e1, e2]; rfl, Own.cast ht (gotA_no' h1 (by assumption) (by assumption) (by assumption)), hS⟩

set_option maxRecDepth 20000 in
set_option maxHeartbeats 1000000 in
theorem sends_any (b : Nat) (s : Al) (w : World) (ht : Own w b (alC s) 62) (t : Int) :
    CV Try.prog 19 #[.pointer (some ⟨b, 0, none⟩), .int .i64 t] w (fun x w1 => ∃ c, x = .slice (some ⟨c, 0, none⟩) (sendL s t).length (sendL s t).length ∧ ¬ c < w.heap.size ∧ Own w1 c (omsC (sendL s t)) 34 ∧ Step No w w1) := by
  have hS : Step No w w := Step.refl _ _
  have hbl := ht.lt
  refine CV_enter Try.f19 _ 39 [(0, .pointer (some ⟨b, 0, none⟩)), (1, .int .i64 t)] Try.func19 rfl rfl (by kernel_rfl) rfl ?_
  refine VC_seq ?_
  refine VC_region ?_
  refine VL_pure 1 [0, 1] [(0, .pointer (some ⟨b, 0, none⟩)), (1, .int .i64 t)] (by kernel_rfl) rfl ?_
  refine VL_end (by kernel_rfl) ?_
  refine VQ_next ?_
  refine VC_seq ?_
  refine VC_seq ?_
  refine VC_region ?_
  refine VL_pure 2 [0, 1, 9] [(0, .pointer (some ⟨b, 0, none⟩)), (1, .int .i64 t), (9, .bool false)] (by kernel_rfl) rfl ?_
  refine VL_end (by kernel_rfl) ?_
  refine VQ_next ?_
  refine VC_false (by kernel_rfl) ?_
  refine VC_skip ?_
  refine VQ_next ?_
  refine VC_seq ?_
  refine VC_region ?_
  refine VL_pure 2 [0, 11, 12] [(0, .pointer (some ⟨b, 0, none⟩)), (11, .pointer (some ⟨b, 0, none⟩)), (12, .int .i64 t)] (by kernel_rfl) rfl ?_
  have hzs1 := hS.size
  have hzl1 := ht.lt
  refine VL_call (d := 13) (f := 16) (args := #[.pointer (some ⟨b, 0, none⟩), .int .i64 t]) (by kernel_rfl) (by kernel_rfl) (by kernel_rfl) Try.call16 (state_any b s _ ht t) ?_
  rintro _ w1 ⟨rfl, hc1⟩
  replace hS := Step.trans hS hc1
  replace ht := ht.no hc1
  refine VL_pure 8 [0, 5] [(0, .pointer (some ⟨b, 0, none⟩)), (5, .bool (aheadA s t))] (by kernel_rfl) rfl ?_
  refine VL_end (by kernel_rfl) ?_
  refine VQ_next ?_
  refine VC_seq ?_
  refine VC_region ?_
  refine VL_pure 3 [0, 5, 18] [(0, .pointer (some ⟨b, 0, none⟩)), (5, .bool (aheadA s t)), (18, .pointer (some ⟨b, 2, none⟩))] (by kernel_rfl) rfl ?_
  refine VL_load (d := 19) (t := 22) (a := ⟨b, 2, none⟩) (v := .agg #[.int .u8 (s.here 0), .int .u8 (s.here 1), .int .u8 (s.here 2), .int .u8 (s.here 3), .int .u8 (s.here 4), .int .u8 (s.here 5), .int .u8 (s.here 6), .int .u8 (s.here 7), .int .u8 (s.here 8), .int .u8 (s.here 9), .int .u8 (s.here 10), .int .u8 (s.here 11), .int .u8 (s.here 12), .int .u8 (s.here 13), .int .u8 (s.here 14), .int .u8 (s.here 15)]) (by kernel_rfl) (by kernel_rfl) (Loads.ownL ht (n := 16) (by kernel_rfl) (by kernel_rfl) (by kernel_rfl)) ?_
  refine VL_pure 5 [0, 5, 20] [(0, .pointer (some ⟨b, 0, none⟩)), (5, .bool (aheadA s t)), (20, .agg #[.int .i64 1, .int .u8 0, .bool false, .int .u32 0, .int .u8 (s.here 0), .int .u8 (s.here 1), .int .u8 (s.here 2), .int .u8 (s.here 3), .int .u8 (s.here 4), .int .u8 (s.here 5), .int .u8 (s.here 6), .int .u8 (s.here 7), .int .u8 (s.here 8), .int .u8 (s.here 9), .int .u8 (s.here 10), .int .u8 (s.here 11), .int .u8 (s.here 12), .int .u8 (s.here 13), .int .u8 (s.here 14), .int .u8 (s.here 15), .int .u8 0, .int .u8 0, .int .u8 0, .int .u8 0, .int .u8 0, .int .u8 0, .int .u8 0, .int .u8 0, .int .u8 0, .int .u8 0, .int .u8 0, .int .u8 0, .int .u8 0, .int .u8 0, .int .u8 0, .int .u8 0])] (by kernel_rfl) rfl ?_
  have hzs2 := hS.size
  have hzl2 := ht.lt
  refine VL_box (d := 7) (t := 34) (c := #[.int .i64 0, .int .u8 0, .bool false, .int .u32 0, .int .u8 0, .int .u8 0, .int .u8 0, .int .u8 0, .int .u8 0, .int .u8 0, .int .u8 0, .int .u8 0, .int .u8 0, .int .u8 0, .int .u8 0, .int .u8 0, .int .u8 0, .int .u8 0, .int .u8 0, .int .u8 0, .int .u8 0, .int .u8 0, .int .u8 0, .int .u8 0, .int .u8 0, .int .u8 0, .int .u8 0, .int .u8 0, .int .u8 0, .int .u8 0, .int .u8 0, .int .u8 0, .int .u8 0, .int .u8 0, .int .u8 0, .int .u8 0]) (by kernel_rfl) (by kernel_rfl) ?_
  intro b1 w2 hn1
  replace hS := Step.trans hS (hn1.step No)
  replace ht := ht.no (hn1.step No)
  have ho1 := hn1.own
  have hzhn1 := hn1.size
  have hqhn1 := hn1.eqb
  refine VL_store (b := b1) (o := 0) (vs := [.int .i64 1, .int .u8 0, .bool false, .int .u32 0, .int .u8 (s.here 0), .int .u8 (s.here 1), .int .u8 (s.here 2), .int .u8 (s.here 3), .int .u8 (s.here 4), .int .u8 (s.here 5), .int .u8 (s.here 6), .int .u8 (s.here 7), .int .u8 (s.here 8), .int .u8 (s.here 9), .int .u8 (s.here 10), .int .u8 (s.here 11), .int .u8 (s.here 12), .int .u8 (s.here 13), .int .u8 (s.here 14), .int .u8 (s.here 15), .int .u8 0, .int .u8 0, .int .u8 0, .int .u8 0, .int .u8 0, .int .u8 0, .int .u8 0, .int .u8 0, .int .u8 0, .int .u8 0, .int .u8 0, .int .u8 0, .int .u8 0, .int .u8 0, .int .u8 0, .int .u8 0]) (by kernel_rfl) (by kernel_rfl) ho1 (Nat.le_of_ble_eq_true (by kernel_rfl)) ?_
  intro w3 hw1
  replace hS := Step.transNew hS hw1.step (fun _ _ _ => by omega)
  replace ht := ht.step hw1.step (show ¬ b = b1 by omega)
  have ho2 : Own w3 b1 #[.int .i64 1, .int .u8 0, .bool false, .int .u32 0, .int .u8 (s.here 0), .int .u8 (s.here 1), .int .u8 (s.here 2), .int .u8 (s.here 3), .int .u8 (s.here 4), .int .u8 (s.here 5), .int .u8 (s.here 6), .int .u8 (s.here 7), .int .u8 (s.here 8), .int .u8 (s.here 9), .int .u8 (s.here 10), .int .u8 (s.here 11), .int .u8 (s.here 12), .int .u8 (s.here 13), .int .u8 (s.here 14), .int .u8 (s.here 15), .int .u8 0, .int .u8 0, .int .u8 0, .int .u8 0, .int .u8 0, .int .u8 0, .int .u8 0, .int .u8 0, .int .u8 0, .int .u8 0, .int .u8 0, .int .u8 0, .int .u8 0, .int .u8 0, .int .u8 0, .int .u8 0] 34 := Own.cast hw1.own (by kernel_rfl)
  have hzhw1 := hw1.same
  refine VL_end (by kernel_rfl) ?_
  refine VQ_next ?_
  refine VC_seq ?_
  refine VC_block ?_
  refine VC_seq ?_
  refine VC_region ?_
  refine VL_pure 3 [0, 5, 7, 24] [(0, .pointer (some ⟨b, 0, none⟩)), (5, .bool (aheadA s t)), (7, .pointer (some ⟨b1, 0, none⟩)), (24, .pointer (some ⟨b, 19, none⟩))] (by kernel_rfl) rfl ?_
  refine VL_load (d := 25) (t := 4) (a := ⟨b, 19, none⟩) (v := .bool s.dn) (by kernel_rfl) (by kernel_rfl) (Loads.own1 ht (by kernel_rfl) (by rfl)) ?_
  refine VL_pure 5 [0, 5, 7, 21] [(0, .pointer (some ⟨b, 0, none⟩)), (5, .bool (aheadA s t)), (7, .pointer (some ⟨b1, 0, none⟩)), (21, .bool s.dn)] (by kernel_rfl) rfl ?_
  refine VL_end (by kernel_rfl) ?_
  refine VQ_next ?_
  refine VC_cond s.dn (by kernel_rfl) (fun h1 => ?_) (fun h1 => ?_)
  · try simp only [Bool.and_eq_true, Bool.or_eq_true, decide_eq_true_eq, Bool.not_eq_true', decide_eq_false_iff_not, Bool.and_eq_false_iff, Bool.or_eq_false_iff, beq_iff_eq, bne_iff_ne, beq_eq_false_iff_ne, bne_eq_false_iff_eq, Bool.not_eq_eq_eq_not, Bool.not_true, Bool.not_false] at h1
    refine VC_seq ?_
    refine VC_det [[], [0], [0, 1], [0, 1, 2], [0, 1, 2, 3], [], [0, 1, 2, 3, 4, 5], [0, 1, 2, 3, 4, 5, 6]] 6 [.pointer (some ⟨b, 0, none⟩), .pointer (some ⟨b, 0, none⟩), .pointer (some ⟨b, 2, none⟩), .agg #[.int .u8 (s.here 0), .int .u8 (s.here 1), .int .u8 (s.here 2), .int .u8 (s.here 3), .int .u8 (s.here 4), .int .u8 (s.here 5), .int .u8 (s.here 6), .int .u8 (s.here 7), .int .u8 (s.here 8), .int .u8 (s.here 9), .int .u8 (s.here 10), .int .u8 (s.here 11), .int .u8 (s.here 12), .int .u8 (s.here 13), .int .u8 (s.here 14), .int .u8 (s.here 15)], .agg #[.int .i64 0, .int .u8 0, .bool false, .int .u32 0, .int .u8 (s.here 0), .int .u8 (s.here 1), .int .u8 (s.here 2), .int .u8 (s.here 3), .int .u8 (s.here 4), .int .u8 (s.here 5), .int .u8 (s.here 6), .int .u8 (s.here 7), .int .u8 (s.here 8), .int .u8 (s.here 9), .int .u8 (s.here 10), .int .u8 (s.here 11), .int .u8 (s.here 12), .int .u8 (s.here 13), .int .u8 (s.here 14), .int .u8 (s.here 15), .int .u8 0, .int .u8 0, .int .u8 0, .int .u8 0, .int .u8 0, .int .u8 0, .int .u8 0, .int .u8 0, .int .u8 0, .int .u8 0, .int .u8 0, .int .u8 0, .int .u8 0, .int .u8 0, .int .u8 0, .int .u8 0], .agg #[.int .i64 1, .int .u8 0, .bool false, .int .u32 0, .int .u8 (s.here 0), .int .u8 (s.here 1), .int .u8 (s.here 2), .int .u8 (s.here 3), .int .u8 (s.here 4), .int .u8 (s.here 5), .int .u8 (s.here 6), .int .u8 (s.here 7), .int .u8 (s.here 8), .int .u8 (s.here 9), .int .u8 (s.here 10), .int .u8 (s.here 11), .int .u8 (s.here 12), .int .u8 (s.here 13), .int .u8 (s.here 14), .int .u8 (s.here 15), .int .u8 0, .int .u8 0, .int .u8 0, .int .u8 0, .int .u8 0, .int .u8 0, .int .u8 0, .int .u8 0, .int .u8 0, .int .u8 0, .int .u8 0, .int .u8 0, .int .u8 0, .int .u8 0, .int .u8 0, .int .u8 0]] [0, 1, 2, 4] [3, 5] (by kernel_rfl) (by kernel_rfl) (by kernel_rfl) (by kernel_rfl) ?_ ?_
    · intro w4 hs1
      replace hS := Step.trans hS hs1
      replace ht := ht.no hs1
      replace ho2 := ho2.no hs1
      exact ⟨Det1_load (d := 29) (t := 22) (a := ⟨b, 2, none⟩) (by kernel_rfl) (by kernel_rfl) (Loads.ownL ht (n := 16) (by kernel_rfl) (by kernel_rfl) (by kernel_rfl)), Det1_load (d := 31) (t := 34) (a := ⟨b1, 0, none⟩) (by kernel_rfl) (by kernel_rfl) (Loads.ownL ho2 (n := 36) (by kernel_rfl) (by kernel_rfl) (by kernel_rfl)), trivial⟩
    intro w4 hs1
    replace hS := Step.trans hS hs1
    replace ht := ht.no hs1
    replace ho2 := ho2.no hs1
    refine VL_keep [30, 31] [(30, .agg #[.int .i64 0, .int .u8 0, .bool false, .int .u32 0, .int .u8 (s.here 0), .int .u8 (s.here 1), .int .u8 (s.here 2), .int .u8 (s.here 3), .int .u8 (s.here 4), .int .u8 (s.here 5), .int .u8 (s.here 6), .int .u8 (s.here 7), .int .u8 (s.here 8), .int .u8 (s.here 9), .int .u8 (s.here 10), .int .u8 (s.here 11), .int .u8 (s.here 12), .int .u8 (s.here 13), .int .u8 (s.here 14), .int .u8 (s.here 15), .int .u8 0, .int .u8 0, .int .u8 0, .int .u8 0, .int .u8 0, .int .u8 0, .int .u8 0, .int .u8 0, .int .u8 0, .int .u8 0, .int .u8 0, .int .u8 0, .int .u8 0, .int .u8 0, .int .u8 0, .int .u8 0]), (31, .agg #[.int .i64 1, .int .u8 0, .bool false, .int .u32 0, .int .u8 (s.here 0), .int .u8 (s.here 1), .int .u8 (s.here 2), .int .u8 (s.here 3), .int .u8 (s.here 4), .int .u8 (s.here 5), .int .u8 (s.here 6), .int .u8 (s.here 7), .int .u8 (s.here 8), .int .u8 (s.here 9), .int .u8 (s.here 10), .int .u8 (s.here 11), .int .u8 (s.here 12), .int .u8 (s.here 13), .int .u8 (s.here 14), .int .u8 (s.here 15), .int .u8 0, .int .u8 0, .int .u8 0, .int .u8 0, .int .u8 0, .int .u8 0, .int .u8 0, .int .u8 0, .int .u8 0, .int .u8 0, .int .u8 0, .int .u8 0, .int .u8 0, .int .u8 0, .int .u8 0, .int .u8 0])] (by kernel_rfl) ?_
    have hzs3 := hS.size
    have hzl3 := ht.lt
    have hzl4 := ho2.lt
    refine VL_bs (d := 32) (e := 34) (c := #[.int .i64 0, .int .u8 0, .bool false, .int .u32 0, .int .u8 (s.here 0), .int .u8 (s.here 1), .int .u8 (s.here 2), .int .u8 (s.here 3), .int .u8 (s.here 4), .int .u8 (s.here 5), .int .u8 (s.here 6), .int .u8 (s.here 7), .int .u8 (s.here 8), .int .u8 (s.here 9), .int .u8 (s.here 10), .int .u8 (s.here 11), .int .u8 (s.here 12), .int .u8 (s.here 13), .int .u8 (s.here 14), .int .u8 (s.here 15), .int .u8 0, .int .u8 0, .int .u8 0, .int .u8 0, .int .u8 0, .int .u8 0, .int .u8 0, .int .u8 0, .int .u8 0, .int .u8 0, .int .u8 0, .int .u8 0, .int .u8 0, .int .u8 0, .int .u8 0, .int .u8 0, .int .i64 1, .int .u8 0, .bool false, .int .u32 0, .int .u8 (s.here 0), .int .u8 (s.here 1), .int .u8 (s.here 2), .int .u8 (s.here 3), .int .u8 (s.here 4), .int .u8 (s.here 5), .int .u8 (s.here 6), .int .u8 (s.here 7), .int .u8 (s.here 8), .int .u8 (s.here 9), .int .u8 (s.here 10), .int .u8 (s.here 11), .int .u8 (s.here 12), .int .u8 (s.here 13), .int .u8 (s.here 14), .int .u8 (s.here 15), .int .u8 0, .int .u8 0, .int .u8 0, .int .u8 0, .int .u8 0, .int .u8 0, .int .u8 0, .int .u8 0, .int .u8 0, .int .u8 0, .int .u8 0, .int .u8 0, .int .u8 0, .int .u8 0, .int .u8 0, .int .u8 0]) (len := 2) (by kernel_rfl) (by kernel_rfl) ?_
    intro b2 w5 hn2
    replace hS := Step.trans hS (hn2.step No)
    replace ht := ht.no (hn2.step No)
    replace ho2 := ho2.no (hn2.step No)
    have ho3 := hn2.own
    have hzhn2 := hn2.size
    have hqhn2 := hn2.eqb
    refine VL_pure 8 [4] [(4, .slice (some ⟨b2, 0, none⟩) 2 2)] (by kernel_rfl) rfl ?_
    refine VL_end (by kernel_rfl) ?_
    refine VQ_next ?_
    refine VC_ret ?_
    refine VQ_block_ret ?_
    refine VQ_then_ret ?_
    refine VQ_ret1 (.slice (some ⟨b2, 0, none⟩) 2 2) (.inr rfl) rfl rfl ?_
    exact ⟨b2, by rw [send_1 (by assumption)]; rfl, by omega, Own.cast ho3 (by rw [send_1 (by assumption)]; rfl), hS⟩
  · try simp only [Bool.and_eq_true, Bool.or_eq_true, decide_eq_true_eq, Bool.not_eq_true', decide_eq_false_iff_not, Bool.and_eq_false_iff, Bool.or_eq_false_iff, beq_iff_eq, bne_iff_ne, beq_eq_false_iff_ne, bne_eq_false_iff_eq, Bool.not_eq_eq_eq_not, Bool.not_true, Bool.not_false] at h1
    refine VC_seq ?_
    refine VC_region ?_
    refine VL_pure 2 [7, 33] [(7, .pointer (some ⟨b1, 0, none⟩)), (33, .bool (aheadA s t))] (by kernel_rfl) rfl ?_
    refine VL_end (by kernel_rfl) ?_
    refine VQ_next ?_
    refine VC_cond (aheadA s t) (by kernel_rfl) (fun h2 => ?_) (fun h2 => ?_)
    · try simp only [Bool.and_eq_true, Bool.or_eq_true, decide_eq_true_eq, Bool.not_eq_true', decide_eq_false_iff_not, Bool.and_eq_false_iff, Bool.or_eq_false_iff, beq_iff_eq, bne_iff_ne, beq_eq_false_iff_ne, bne_eq_false_iff_eq, Bool.not_eq_eq_eq_not, Bool.not_true, Bool.not_false] at h2
      refine VC_seq ?_
      refine VC_region ?_
      refine VL_load (d := 35) (t := 34) (a := ⟨b1, 0, none⟩) (v := .agg #[.int .i64 1, .int .u8 0, .bool false, .int .u32 0, .int .u8 (s.here 0), .int .u8 (s.here 1), .int .u8 (s.here 2), .int .u8 (s.here 3), .int .u8 (s.here 4), .int .u8 (s.here 5), .int .u8 (s.here 6), .int .u8 (s.here 7), .int .u8 (s.here 8), .int .u8 (s.here 9), .int .u8 (s.here 10), .int .u8 (s.here 11), .int .u8 (s.here 12), .int .u8 (s.here 13), .int .u8 (s.here 14), .int .u8 (s.here 15), .int .u8 0, .int .u8 0, .int .u8 0, .int .u8 0, .int .u8 0, .int .u8 0, .int .u8 0, .int .u8 0, .int .u8 0, .int .u8 0, .int .u8 0, .int .u8 0, .int .u8 0, .int .u8 0, .int .u8 0, .int .u8 0]) (by kernel_rfl) (by kernel_rfl) (Loads.ownL ho2 (n := 36) (by kernel_rfl) (by kernel_rfl) (by kernel_rfl)) ?_
      have hzs4 := hS.size
      have hzl5 := ht.lt
      have hzl6 := ho2.lt
      refine VL_bs (d := 36) (e := 34) (c := #[.int .i64 1, .int .u8 0, .bool false, .int .u32 0, .int .u8 (s.here 0), .int .u8 (s.here 1), .int .u8 (s.here 2), .int .u8 (s.here 3), .int .u8 (s.here 4), .int .u8 (s.here 5), .int .u8 (s.here 6), .int .u8 (s.here 7), .int .u8 (s.here 8), .int .u8 (s.here 9), .int .u8 (s.here 10), .int .u8 (s.here 11), .int .u8 (s.here 12), .int .u8 (s.here 13), .int .u8 (s.here 14), .int .u8 (s.here 15), .int .u8 0, .int .u8 0, .int .u8 0, .int .u8 0, .int .u8 0, .int .u8 0, .int .u8 0, .int .u8 0, .int .u8 0, .int .u8 0, .int .u8 0, .int .u8 0, .int .u8 0, .int .u8 0, .int .u8 0, .int .u8 0]) (len := 1) (by kernel_rfl) (by kernel_rfl) ?_
      intro b3 w6 hn3
      replace hS := Step.trans hS (hn3.step No)
      replace ht := ht.no (hn3.step No)
      replace ho2 := ho2.no (hn3.step No)
      have ho4 := hn3.own
      have hzhn3 := hn3.size
      have hqhn3 := hn3.eqb
      refine VL_pure 3 [4] [(4, .slice (some ⟨b3, 0, none⟩) 1 1)] (by kernel_rfl) rfl ?_
      refine VL_end (by kernel_rfl) ?_
      refine VQ_next ?_
      refine VC_ret ?_
      refine VQ_block_ret ?_
      refine VQ_then_ret ?_
      refine VQ_ret1 (.slice (some ⟨b3, 0, none⟩) 1 1) (.inr rfl) rfl rfl ?_
      exact ⟨b3, by rw [send_2 (by assumption) (by assumption)]; rfl, by omega, Own.cast ho4 (by rw [send_2 (by assumption) (by assumption)]; rfl), hS⟩
    · try simp only [Bool.and_eq_true, Bool.or_eq_true, decide_eq_true_eq, Bool.not_eq_true', decide_eq_false_iff_not, Bool.and_eq_false_iff, Bool.or_eq_false_iff, beq_iff_eq, bne_iff_ne, beq_eq_false_iff_ne, bne_eq_false_iff_eq, Bool.not_eq_eq_eq_not, Bool.not_true, Bool.not_false] at h2
      refine VC_skip ?_
      refine VQ_block_normal ?_
      refine VQ_next ?_
      refine VC_seq ?_
      refine VC_region ?_
      refine VL_pure 1 [37] [(37, .agg #[.int .i64 4, .int .u8 0, .bool false, .int .u32 0, .int .u8 0, .int .u8 0, .int .u8 0, .int .u8 0, .int .u8 0, .int .u8 0, .int .u8 0, .int .u8 0, .int .u8 0, .int .u8 0, .int .u8 0, .int .u8 0, .int .u8 0, .int .u8 0, .int .u8 0, .int .u8 0, .int .u8 0, .int .u8 0, .int .u8 0, .int .u8 0, .int .u8 0, .int .u8 0, .int .u8 0, .int .u8 0, .int .u8 0, .int .u8 0, .int .u8 0, .int .u8 0, .int .u8 0, .int .u8 0, .int .u8 0, .int .u8 0])] (by kernel_rfl) rfl ?_
      have hzs5 := hS.size
      have hzl7 := ht.lt
      have hzl8 := ho2.lt
      refine VL_bs (d := 38) (e := 34) (c := #[.int .i64 4, .int .u8 0, .bool false, .int .u32 0, .int .u8 0, .int .u8 0, .int .u8 0, .int .u8 0, .int .u8 0, .int .u8 0, .int .u8 0, .int .u8 0, .int .u8 0, .int .u8 0, .int .u8 0, .int .u8 0, .int .u8 0, .int .u8 0, .int .u8 0, .int .u8 0, .int .u8 0, .int .u8 0, .int .u8 0, .int .u8 0, .int .u8 0, .int .u8 0, .int .u8 0, .int .u8 0, .int .u8 0, .int .u8 0, .int .u8 0, .int .u8 0, .int .u8 0, .int .u8 0, .int .u8 0, .int .u8 0]) (len := 1) (by kernel_rfl) (by kernel_rfl) ?_
      intro b4 w7 hn4
      replace hS := Step.trans hS (hn4.step No)
      replace ht := ht.no (hn4.step No)
      replace ho2 := ho2.no (hn4.step No)
      have ho5 := hn4.own
      have hzhn4 := hn4.size
      have hqhn4 := hn4.eqb
      refine VL_pure 3 [4] [(4, .slice (some ⟨b4, 0, none⟩) 1 1)] (by kernel_rfl) rfl ?_
      refine VL_end (by kernel_rfl) ?_
      refine VQ_next ?_
      refine VC_ret ?_
      refine VQ_ret1 (.slice (some ⟨b4, 0, none⟩) 1 1) (.inr rfl) rfl rfl ?_
      exact ⟨b4, by rw [send_3 (by assumption) (by assumption)]; rfl, by omega, Own.cast ho5 (by rw [send_3 (by assumption) (by assumption)]; rfl), hS⟩

end Go.Proofs.Ytkimbomnbaogjaa
