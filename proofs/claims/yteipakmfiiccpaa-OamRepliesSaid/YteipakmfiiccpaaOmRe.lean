/- Layer 14: OamReplies. -/
import Derived.Test.YteipakmfiiccpaaProg
import Derived.Test.YteipakmfiiccpaaOm8
import Derived.Test.YteipakmfiiccpaaOm13
import Derived.Test.YteipakmfiiccpaaAl3
import Derived.Test.YteipakmfiiccpaaOm14
set_option linter.unusedVariables false
set_option linter.unusedSimpArgs false
namespace Go.Proofs.Yteipakmfiiccpaa
open Go.Vc Go.RowKit

set_option maxRecDepth 100000 in
set_option maxHeartbeats 4000000 in
theorem oamReplies_any (o : Om) (here : Nat → Int) (w : World) (hoA : OmOk o) :
    CV Try.prog 7 #[.agg #[.int .i64 o.k, .int .u8 o.d, .bool o.a, .int .u32 o.tg, .int .u8 (o.p 0), .int .u8 (o.p 1), .int .u8 (o.p 2), .int .u8 (o.p 3), .int .u8 (o.p 4), .int .u8 (o.p 5), .int .u8 (o.p 6), .int .u8 (o.p 7), .int .u8 (o.p 8), .int .u8 (o.p 9), .int .u8 (o.p 10), .int .u8 (o.p 11), .int .u8 (o.p 12), .int .u8 (o.p 13), .int .u8 (o.p 14), .int .u8 (o.p 15), .int .u8 (o.s 0), .int .u8 (o.s 1), .int .u8 (o.s 2), .int .u8 (o.s 3), .int .u8 (o.s 4), .int .u8 (o.s 5), .int .u8 (o.s 6), .int .u8 (o.s 7), .int .u8 (o.s 8), .int .u8 (o.s 9), .int .u8 (o.s 10), .int .u8 (o.s 11), .int .u8 (o.s 12), .int .u8 (o.s 13), .int .u8 (o.s 14), .int .u8 (o.s 15)], .agg #[.int .u8 (here 0), .int .u8 (here 1), .int .u8 (here 2), .int .u8 (here 3), .int .u8 (here 4), .int .u8 (here 5), .int .u8 (here 6), .int .u8 (here 7), .int .u8 (here 8), .int .u8 (here 9), .int .u8 (here 10), .int .u8 (here 11), .int .u8 (here 12), .int .u8 (here 13), .int .u8 (here 14), .int .u8 (here 15)]] w (fun x w1 => x = .bool true ∧ Step No w w1) := by
  have hS : Step No w w := Step.refl _ _
  refine CV_enter Try.f7 _ 31 [(0, .agg #[.int .i64 o.k, .int .u8 o.d, .bool o.a, .int .u32 o.tg, .int .u8 (o.p 0), .int .u8 (o.p 1), .int .u8 (o.p 2), .int .u8 (o.p 3), .int .u8 (o.p 4), .int .u8 (o.p 5), .int .u8 (o.p 6), .int .u8 (o.p 7), .int .u8 (o.p 8), .int .u8 (o.p 9), .int .u8 (o.p 10), .int .u8 (o.p 11), .int .u8 (o.p 12), .int .u8 (o.p 13), .int .u8 (o.p 14), .int .u8 (o.p 15), .int .u8 (o.s 0), .int .u8 (o.s 1), .int .u8 (o.s 2), .int .u8 (o.s 3), .int .u8 (o.s 4), .int .u8 (o.s 5), .int .u8 (o.s 6), .int .u8 (o.s 7), .int .u8 (o.s 8), .int .u8 (o.s 9), .int .u8 (o.s 10), .int .u8 (o.s 11), .int .u8 (o.s 12), .int .u8 (o.s 13), .int .u8 (o.s 14), .int .u8 (o.s 15)]), (1, .agg #[.int .u8 (here 0), .int .u8 (here 1), .int .u8 (here 2), .int .u8 (here 3), .int .u8 (here 4), .int .u8 (here 5), .int .u8 (here 6), .int .u8 (here 7), .int .u8 (here 8), .int .u8 (here 9), .int .u8 (here 10), .int .u8 (here 11), .int .u8 (here 12), .int .u8 (here 13), .int .u8 (here 14), .int .u8 (here 15)])] Try.func7 rfl rfl (by kernel_rfl) rfl ?_
  refine VC_seq ?_
  refine VC_region ?_
  have hzs1 := hS.size
  refine VL_box (d := 2) (t := 25) (c := #[.int .i64 o.k, .int .u8 o.d, .bool o.a, .int .u32 o.tg, .int .u8 (o.p 0), .int .u8 (o.p 1), .int .u8 (o.p 2), .int .u8 (o.p 3), .int .u8 (o.p 4), .int .u8 (o.p 5), .int .u8 (o.p 6), .int .u8 (o.p 7), .int .u8 (o.p 8), .int .u8 (o.p 9), .int .u8 (o.p 10), .int .u8 (o.p 11), .int .u8 (o.p 12), .int .u8 (o.p 13), .int .u8 (o.p 14), .int .u8 (o.p 15), .int .u8 (o.s 0), .int .u8 (o.s 1), .int .u8 (o.s 2), .int .u8 (o.s 3), .int .u8 (o.s 4), .int .u8 (o.s 5), .int .u8 (o.s 6), .int .u8 (o.s 7), .int .u8 (o.s 8), .int .u8 (o.s 9), .int .u8 (o.s 10), .int .u8 (o.s 11), .int .u8 (o.s 12), .int .u8 (o.s 13), .int .u8 (o.s 14), .int .u8 (o.s 15)]) (by kernel_rfl) (by kernel_rfl) ?_
  intro b1 w1 hn1
  replace hS := Step.trans hS (hn1.step No)
  have ho1 := hn1.own
  have hzhn1 := hn1.size
  have hqhn1 := hn1.eqb
  have hzs2 := hS.size
  have hzl1 := ho1.lt
  refine VL_box (d := 3) (t := 23) (c := #[.int .u8 (here 0), .int .u8 (here 1), .int .u8 (here 2), .int .u8 (here 3), .int .u8 (here 4), .int .u8 (here 5), .int .u8 (here 6), .int .u8 (here 7), .int .u8 (here 8), .int .u8 (here 9), .int .u8 (here 10), .int .u8 (here 11), .int .u8 (here 12), .int .u8 (here 13), .int .u8 (here 14), .int .u8 (here 15)]) (by kernel_rfl) (by kernel_rfl) ?_
  intro b2 w2 hn2
  replace hS := Step.trans hS (hn2.step No)
  replace ho1 := ho1.no (hn2.step No)
  have ho2 := hn2.own
  have hzhn2 := hn2.size
  have hqhn2 := hn2.eqb
  refine VL_pure 3 [2, 3] [(2, .pointer (some ⟨b1, 0, none⟩)), (3, .pointer (some ⟨b2, 0, none⟩))] (by kernel_rfl) rfl ?_
  refine VL_end (by kernel_rfl) ?_
  refine VQ_next ?_
  refine VC_seq ?_
  refine VC_seq ?_
  refine VC_region ?_
  have hzs3 := hS.size
  have hzl2 := ho1.lt
  have hzl3 := ho2.lt
  refine VL_call (d := 9) (f := 9) (args := #[]) (by kernel_rfl) (by kernel_rfl) (by kernel_rfl) Try.call9 (awake_any _) ?_
  rintro _ w3 ⟨rfl, hc1⟩
  replace hS := Step.trans hS hc1
  replace ho1 := ho1.no hc1
  replace ho2 := ho2.no hc1
  refine VL_pure 2 [2, 3, 10] [(2, .pointer (some ⟨b1, 0, none⟩)), (3, .pointer (some ⟨b2, 0, none⟩)), (10, .bool false)] (by kernel_rfl) rfl ?_
  refine VL_end (by kernel_rfl) ?_
  refine VQ_next ?_
  refine VC_false (by kernel_rfl) ?_
  refine VC_skip ?_
  refine VQ_next ?_
  refine VC_seq ?_
  refine VC_region ?_
  refine VL_load (d := 12) (t := 25) (a := ⟨b1, 0, none⟩) (v := .agg #[.int .i64 o.k, .int .u8 o.d, .bool o.a, .int .u32 o.tg, .int .u8 (o.p 0), .int .u8 (o.p 1), .int .u8 (o.p 2), .int .u8 (o.p 3), .int .u8 (o.p 4), .int .u8 (o.p 5), .int .u8 (o.p 6), .int .u8 (o.p 7), .int .u8 (o.p 8), .int .u8 (o.p 9), .int .u8 (o.p 10), .int .u8 (o.p 11), .int .u8 (o.p 12), .int .u8 (o.p 13), .int .u8 (o.p 14), .int .u8 (o.p 15), .int .u8 (o.s 0), .int .u8 (o.s 1), .int .u8 (o.s 2), .int .u8 (o.s 3), .int .u8 (o.s 4), .int .u8 (o.s 5), .int .u8 (o.s 6), .int .u8 (o.s 7), .int .u8 (o.s 8), .int .u8 (o.s 9), .int .u8 (o.s 10), .int .u8 (o.s 11), .int .u8 (o.s 12), .int .u8 (o.s 13), .int .u8 (o.s 14), .int .u8 (o.s 15)]) (by kernel_rfl) (by kernel_rfl) (Loads.ownL ho1 (n := 36) (by kernel_rfl) (by kernel_rfl) (by kernel_rfl)) ?_
  refine VL_load (d := 13) (t := 23) (a := ⟨b2, 0, none⟩) (v := .agg #[.int .u8 (here 0), .int .u8 (here 1), .int .u8 (here 2), .int .u8 (here 3), .int .u8 (here 4), .int .u8 (here 5), .int .u8 (here 6), .int .u8 (here 7), .int .u8 (here 8), .int .u8 (here 9), .int .u8 (here 10), .int .u8 (here 11), .int .u8 (here 12), .int .u8 (here 13), .int .u8 (here 14), .int .u8 (here 15)]) (by kernel_rfl) (by kernel_rfl) (Loads.ownL ho2 (n := 16) (by kernel_rfl) (by kernel_rfl) (by kernel_rfl)) ?_
  have hzs4 := hS.size
  have hzl4 := ho1.lt
  have hzl5 := ho2.lt
  refine VL_call (d := 14) (f := 19) (by kernel_rfl) (by kernel_rfl) (by kernel_rfl) Try.call19 (reply_any o here _ hoA.p) ?_
  rintro _ w4 ⟨rfl, hc2⟩
  replace hS := Step.trans hS hc2
  replace ho1 := ho1.no hc2
  replace ho2 := ho2.no hc2
  refine VL_pure 6 [2, 3, 15, 16] [(2, .pointer (some ⟨b1, 0, none⟩)), (3, .pointer (some ⟨b2, 0, none⟩)), (15, .agg #[.int .i64 ((replyV o here).k), .int .u8 ((replyV o here).d), .bool ((replyV o here).a), .int .u32 ((replyV o here).tg), .int .u8 (((replyV o here).p) 0), .int .u8 (((replyV o here).p) 1), .int .u8 (((replyV o here).p) 2), .int .u8 (((replyV o here).p) 3), .int .u8 (((replyV o here).p) 4), .int .u8 (((replyV o here).p) 5), .int .u8 (((replyV o here).p) 6), .int .u8 (((replyV o here).p) 7), .int .u8 (((replyV o here).p) 8), .int .u8 (((replyV o here).p) 9), .int .u8 (((replyV o here).p) 10), .int .u8 (((replyV o here).p) 11), .int .u8 (((replyV o here).p) 12), .int .u8 (((replyV o here).p) 13), .int .u8 (((replyV o here).p) 14), .int .u8 (((replyV o here).p) 15), .int .u8 (((replyV o here).s) 0), .int .u8 (((replyV o here).s) 1), .int .u8 (((replyV o here).s) 2), .int .u8 (((replyV o here).s) 3), .int .u8 (((replyV o here).s) 4), .int .u8 (((replyV o here).s) 5), .int .u8 (((replyV o here).s) 6), .int .u8 (((replyV o here).s) 7), .int .u8 (((replyV o here).s) 8), .int .u8 (((replyV o here).s) 9), .int .u8 (((replyV o here).s) 10), .int .u8 (((replyV o here).s) 11), .int .u8 (((replyV o here).s) 12), .int .u8 (((replyV o here).s) 13), .int .u8 (((replyV o here).s) 14), .int .u8 (((replyV o here).s) 15)]), (16, .bool (replyB o here))] (by kernel_rfl) rfl ?_
  have hzs5 := hS.size
  have hzl6 := ho1.lt
  have hzl7 := ho2.lt
  refine VL_box (d := 5) (t := 31) (c := #[.int .i64 0, .int .u8 0, .bool false, .int .u32 0, .int .u8 0, .int .u8 0, .int .u8 0, .int .u8 0, .int .u8 0, .int .u8 0, .int .u8 0, .int .u8 0, .int .u8 0, .int .u8 0, .int .u8 0, .int .u8 0, .int .u8 0, .int .u8 0, .int .u8 0, .int .u8 0, .int .u8 0, .int .u8 0, .int .u8 0, .int .u8 0, .int .u8 0, .int .u8 0, .int .u8 0, .int .u8 0, .int .u8 0, .int .u8 0, .int .u8 0, .int .u8 0, .int .u8 0, .int .u8 0, .int .u8 0, .int .u8 0]) (by kernel_rfl) (by kernel_rfl) ?_
  intro b3 w5 hn3
  replace hS := Step.trans hS (hn3.step No)
  replace ho1 := ho1.no (hn3.step No)
  replace ho2 := ho2.no (hn3.step No)
  have ho3 := hn3.own
  have hzhn3 := hn3.size
  have hqhn3 := hn3.eqb
  refine VL_store (b := b3) (o := 0) (vs := [.int .i64 ((replyV o here).k), .int .u8 ((replyV o here).d), .bool ((replyV o here).a), .int .u32 ((replyV o here).tg), .int .u8 (((replyV o here).p) 0), .int .u8 (((replyV o here).p) 1), .int .u8 (((replyV o here).p) 2), .int .u8 (((replyV o here).p) 3), .int .u8 (((replyV o here).p) 4), .int .u8 (((replyV o here).p) 5), .int .u8 (((replyV o here).p) 6), .int .u8 (((replyV o here).p) 7), .int .u8 (((replyV o here).p) 8), .int .u8 (((replyV o here).p) 9), .int .u8 (((replyV o here).p) 10), .int .u8 (((replyV o here).p) 11), .int .u8 (((replyV o here).p) 12), .int .u8 (((replyV o here).p) 13), .int .u8 (((replyV o here).p) 14), .int .u8 (((replyV o here).p) 15), .int .u8 (((replyV o here).s) 0), .int .u8 (((replyV o here).s) 1), .int .u8 (((replyV o here).s) 2), .int .u8 (((replyV o here).s) 3), .int .u8 (((replyV o here).s) 4), .int .u8 (((replyV o here).s) 5), .int .u8 (((replyV o here).s) 6), .int .u8 (((replyV o here).s) 7), .int .u8 (((replyV o here).s) 8), .int .u8 (((replyV o here).s) 9), .int .u8 (((replyV o here).s) 10), .int .u8 (((replyV o here).s) 11), .int .u8 (((replyV o here).s) 12), .int .u8 (((replyV o here).s) 13), .int .u8 (((replyV o here).s) 14), .int .u8 (((replyV o here).s) 15)]) (by kernel_rfl) (by kernel_rfl) ho3 (Nat.le_of_ble_eq_true (by kernel_rfl)) ?_
  intro w6 hw1
  replace hS := Step.transNew hS hw1.step (fun _ _ _ => by omega)
  replace ho1 := ho1.step hw1.step (show ¬ b1 = b3 by omega)
  replace ho2 := ho2.step hw1.step (show ¬ b2 = b3 by omega)
  have ho4 : Own w6 b3 #[.int .i64 ((replyV o here).k), .int .u8 ((replyV o here).d), .bool ((replyV o here).a), .int .u32 ((replyV o here).tg), .int .u8 (((replyV o here).p) 0), .int .u8 (((replyV o here).p) 1), .int .u8 (((replyV o here).p) 2), .int .u8 (((replyV o here).p) 3), .int .u8 (((replyV o here).p) 4), .int .u8 (((replyV o here).p) 5), .int .u8 (((replyV o here).p) 6), .int .u8 (((replyV o here).p) 7), .int .u8 (((replyV o here).p) 8), .int .u8 (((replyV o here).p) 9), .int .u8 (((replyV o here).p) 10), .int .u8 (((replyV o here).p) 11), .int .u8 (((replyV o here).p) 12), .int .u8 (((replyV o here).p) 13), .int .u8 (((replyV o here).p) 14), .int .u8 (((replyV o here).p) 15), .int .u8 (((replyV o here).s) 0), .int .u8 (((replyV o here).s) 1), .int .u8 (((replyV o here).s) 2), .int .u8 (((replyV o here).s) 3), .int .u8 (((replyV o here).s) 4), .int .u8 (((replyV o here).s) 5), .int .u8 (((replyV o here).s) 6), .int .u8 (((replyV o here).s) 7), .int .u8 (((replyV o here).s) 8), .int .u8 (((replyV o here).s) 9), .int .u8 (((replyV o here).s) 10), .int .u8 (((replyV o here).s) 11), .int .u8 (((replyV o here).s) 12), .int .u8 (((replyV o here).s) 13), .int .u8 (((replyV o here).s) 14), .int .u8 (((replyV o here).s) 15)] 31 := Own.cast hw1.own (by kernel_rfl)
  have hzhw1 := hw1.same
  refine VL_pure 9 [2, 3, 5, 6] [(2, .pointer (some ⟨b1, 0, none⟩)), (3, .pointer (some ⟨b2, 0, none⟩)), (5, .pointer (some ⟨b3, 0, none⟩)), (6, .bool (replyB o here))] (by kernel_rfl) rfl ?_
  refine VL_end (by kernel_rfl) ?_
  refine VQ_next ?_
  refine VC_seq ?_
  refine VC_region ?_
  refine VL_load (d := 18) (t := 25) (a := ⟨b1, 0, none⟩) (v := .agg #[.int .i64 o.k, .int .u8 o.d, .bool o.a, .int .u32 o.tg, .int .u8 (o.p 0), .int .u8 (o.p 1), .int .u8 (o.p 2), .int .u8 (o.p 3), .int .u8 (o.p 4), .int .u8 (o.p 5), .int .u8 (o.p 6), .int .u8 (o.p 7), .int .u8 (o.p 8), .int .u8 (o.p 9), .int .u8 (o.p 10), .int .u8 (o.p 11), .int .u8 (o.p 12), .int .u8 (o.p 13), .int .u8 (o.p 14), .int .u8 (o.p 15), .int .u8 (o.s 0), .int .u8 (o.s 1), .int .u8 (o.s 2), .int .u8 (o.s 3), .int .u8 (o.s 4), .int .u8 (o.s 5), .int .u8 (o.s 6), .int .u8 (o.s 7), .int .u8 (o.s 8), .int .u8 (o.s 9), .int .u8 (o.s 10), .int .u8 (o.s 11), .int .u8 (o.s 12), .int .u8 (o.s 13), .int .u8 (o.s 14), .int .u8 (o.s 15)]) (by kernel_rfl) (by kernel_rfl) (Loads.ownL ho1 (n := 36) (by kernel_rfl) (by kernel_rfl) (by kernel_rfl)) ?_
  refine VL_load (d := 19) (t := 23) (a := ⟨b2, 0, none⟩) (v := .agg #[.int .u8 (here 0), .int .u8 (here 1), .int .u8 (here 2), .int .u8 (here 3), .int .u8 (here 4), .int .u8 (here 5), .int .u8 (here 6), .int .u8 (here 7), .int .u8 (here 8), .int .u8 (here 9), .int .u8 (here 10), .int .u8 (here 11), .int .u8 (here 12), .int .u8 (here 13), .int .u8 (here 14), .int .u8 (here 15)]) (by kernel_rfl) (by kernel_rfl) (Loads.ownL ho2 (n := 16) (by kernel_rfl) (by kernel_rfl) (by kernel_rfl)) ?_
  have hzs6 := hS.size
  have hzl8 := ho1.lt
  have hzl9 := ho2.lt
  have hzl10 := ho4.lt
  refine VL_call (d := 20) (f := 20) (by kernel_rfl) (by kernel_rfl) (by kernel_rfl) Try.call20 (reply14_any o here _) ?_
  rintro _ w7 ⟨rfl, hc3⟩
  replace hS := Step.trans hS hc3
  replace ho1 := ho1.no hc3
  replace ho2 := ho2.no hc3
  replace ho4 := ho4.no hc3
  refine VL_pure 6 [5, 6, 21, 22] [(5, .pointer (some ⟨b3, 0, none⟩)), (6, .bool (replyB o here)), (21, .agg #[.int .i64 ((replyV o here).k), .int .u8 ((replyV o here).d), .bool ((replyV o here).a), .int .u32 ((replyV o here).tg), .int .u8 (((replyV o here).p) 0), .int .u8 (((replyV o here).p) 1), .int .u8 (((replyV o here).p) 2), .int .u8 (((replyV o here).p) 3), .int .u8 (((replyV o here).p) 4), .int .u8 (((replyV o here).p) 5), .int .u8 (((replyV o here).p) 6), .int .u8 (((replyV o here).p) 7), .int .u8 (((replyV o here).p) 8), .int .u8 (((replyV o here).p) 9), .int .u8 (((replyV o here).p) 10), .int .u8 (((replyV o here).p) 11), .int .u8 (((replyV o here).p) 12), .int .u8 (((replyV o here).p) 13), .int .u8 (((replyV o here).p) 14), .int .u8 (((replyV o here).p) 15), .int .u8 (((replyV o here).s) 0), .int .u8 (((replyV o here).s) 1), .int .u8 (((replyV o here).s) 2), .int .u8 (((replyV o here).s) 3), .int .u8 (((replyV o here).s) 4), .int .u8 (((replyV o here).s) 5), .int .u8 (((replyV o here).s) 6), .int .u8 (((replyV o here).s) 7), .int .u8 (((replyV o here).s) 8), .int .u8 (((replyV o here).s) 9), .int .u8 (((replyV o here).s) 10), .int .u8 (((replyV o here).s) 11), .int .u8 (((replyV o here).s) 12), .int .u8 (((replyV o here).s) 13), .int .u8 (((replyV o here).s) 14), .int .u8 (((replyV o here).s) 15)]), (22, .bool (replyB o here))] (by kernel_rfl) rfl ?_
  have hzs7 := hS.size
  have hzl11 := ho1.lt
  have hzl12 := ho2.lt
  have hzl13 := ho4.lt
  refine VL_box (d := 7) (t := 25) (c := #[.int .i64 0, .int .u8 0, .bool false, .int .u32 0, .int .u8 0, .int .u8 0, .int .u8 0, .int .u8 0, .int .u8 0, .int .u8 0, .int .u8 0, .int .u8 0, .int .u8 0, .int .u8 0, .int .u8 0, .int .u8 0, .int .u8 0, .int .u8 0, .int .u8 0, .int .u8 0, .int .u8 0, .int .u8 0, .int .u8 0, .int .u8 0, .int .u8 0, .int .u8 0, .int .u8 0, .int .u8 0, .int .u8 0, .int .u8 0, .int .u8 0, .int .u8 0, .int .u8 0, .int .u8 0, .int .u8 0, .int .u8 0]) (by kernel_rfl) (by kernel_rfl) ?_
  intro b4 w8 hn4
  replace hS := Step.trans hS (hn4.step No)
  replace ho1 := ho1.no (hn4.step No)
  replace ho2 := ho2.no (hn4.step No)
  replace ho4 := ho4.no (hn4.step No)
  have ho5 := hn4.own
  have hzhn4 := hn4.size
  have hqhn4 := hn4.eqb
  refine VL_store (b := b4) (o := 0) (vs := [.int .i64 ((replyV o here).k), .int .u8 ((replyV o here).d), .bool ((replyV o here).a), .int .u32 ((replyV o here).tg), .int .u8 (((replyV o here).p) 0), .int .u8 (((replyV o here).p) 1), .int .u8 (((replyV o here).p) 2), .int .u8 (((replyV o here).p) 3), .int .u8 (((replyV o here).p) 4), .int .u8 (((replyV o here).p) 5), .int .u8 (((replyV o here).p) 6), .int .u8 (((replyV o here).p) 7), .int .u8 (((replyV o here).p) 8), .int .u8 (((replyV o here).p) 9), .int .u8 (((replyV o here).p) 10), .int .u8 (((replyV o here).p) 11), .int .u8 (((replyV o here).p) 12), .int .u8 (((replyV o here).p) 13), .int .u8 (((replyV o here).p) 14), .int .u8 (((replyV o here).p) 15), .int .u8 (((replyV o here).s) 0), .int .u8 (((replyV o here).s) 1), .int .u8 (((replyV o here).s) 2), .int .u8 (((replyV o here).s) 3), .int .u8 (((replyV o here).s) 4), .int .u8 (((replyV o here).s) 5), .int .u8 (((replyV o here).s) 6), .int .u8 (((replyV o here).s) 7), .int .u8 (((replyV o here).s) 8), .int .u8 (((replyV o here).s) 9), .int .u8 (((replyV o here).s) 10), .int .u8 (((replyV o here).s) 11), .int .u8 (((replyV o here).s) 12), .int .u8 (((replyV o here).s) 13), .int .u8 (((replyV o here).s) 14), .int .u8 (((replyV o here).s) 15)]) (by kernel_rfl) (by kernel_rfl) ho5 (Nat.le_of_ble_eq_true (by kernel_rfl)) ?_
  intro w9 hw2
  replace hS := Step.transNew hS hw2.step (fun _ _ _ => by omega)
  replace ho1 := ho1.step hw2.step (show ¬ b1 = b4 by omega)
  replace ho2 := ho2.step hw2.step (show ¬ b2 = b4 by omega)
  replace ho4 := ho4.step hw2.step (show ¬ b3 = b4 by omega)
  have ho6 : Own w9 b4 #[.int .i64 ((replyV o here).k), .int .u8 ((replyV o here).d), .bool ((replyV o here).a), .int .u32 ((replyV o here).tg), .int .u8 (((replyV o here).p) 0), .int .u8 (((replyV o here).p) 1), .int .u8 (((replyV o here).p) 2), .int .u8 (((replyV o here).p) 3), .int .u8 (((replyV o here).p) 4), .int .u8 (((replyV o here).p) 5), .int .u8 (((replyV o here).p) 6), .int .u8 (((replyV o here).p) 7), .int .u8 (((replyV o here).p) 8), .int .u8 (((replyV o here).p) 9), .int .u8 (((replyV o here).p) 10), .int .u8 (((replyV o here).p) 11), .int .u8 (((replyV o here).p) 12), .int .u8 (((replyV o here).p) 13), .int .u8 (((replyV o here).p) 14), .int .u8 (((replyV o here).p) 15), .int .u8 (((replyV o here).s) 0), .int .u8 (((replyV o here).s) 1), .int .u8 (((replyV o here).s) 2), .int .u8 (((replyV o here).s) 3), .int .u8 (((replyV o here).s) 4), .int .u8 (((replyV o here).s) 5), .int .u8 (((replyV o here).s) 6), .int .u8 (((replyV o here).s) 7), .int .u8 (((replyV o here).s) 8), .int .u8 (((replyV o here).s) 9), .int .u8 (((replyV o here).s) 10), .int .u8 (((replyV o here).s) 11), .int .u8 (((replyV o here).s) 12), .int .u8 (((replyV o here).s) 13), .int .u8 (((replyV o here).s) 14), .int .u8 (((replyV o here).s) 15)] 25 := Own.cast hw2.own (by kernel_rfl)
  have hzhw2 := hw2.same
  refine VL_pure 9 [5, 6, 7, 8] [(5, .pointer (some ⟨b3, 0, none⟩)), (6, .bool (replyB o here)), (7, .pointer (some ⟨b4, 0, none⟩)), (8, .bool (replyB o here))] (by kernel_rfl) rfl ?_
  refine VL_end (by kernel_rfl) ?_
  refine VQ_next ?_
  refine VC_seq ?_
  refine VC_region ?_
  refine VL_load (d := 23) (t := 31) (a := ⟨b3, 0, none⟩) (v := .agg #[.int .i64 ((replyV o here).k), .int .u8 ((replyV o here).d), .bool ((replyV o here).a), .int .u32 ((replyV o here).tg), .int .u8 (((replyV o here).p) 0), .int .u8 (((replyV o here).p) 1), .int .u8 (((replyV o here).p) 2), .int .u8 (((replyV o here).p) 3), .int .u8 (((replyV o here).p) 4), .int .u8 (((replyV o here).p) 5), .int .u8 (((replyV o here).p) 6), .int .u8 (((replyV o here).p) 7), .int .u8 (((replyV o here).p) 8), .int .u8 (((replyV o here).p) 9), .int .u8 (((replyV o here).p) 10), .int .u8 (((replyV o here).p) 11), .int .u8 (((replyV o here).p) 12), .int .u8 (((replyV o here).p) 13), .int .u8 (((replyV o here).p) 14), .int .u8 (((replyV o here).p) 15), .int .u8 (((replyV o here).s) 0), .int .u8 (((replyV o here).s) 1), .int .u8 (((replyV o here).s) 2), .int .u8 (((replyV o here).s) 3), .int .u8 (((replyV o here).s) 4), .int .u8 (((replyV o here).s) 5), .int .u8 (((replyV o here).s) 6), .int .u8 (((replyV o here).s) 7), .int .u8 (((replyV o here).s) 8), .int .u8 (((replyV o here).s) 9), .int .u8 (((replyV o here).s) 10), .int .u8 (((replyV o here).s) 11), .int .u8 (((replyV o here).s) 12), .int .u8 (((replyV o here).s) 13), .int .u8 (((replyV o here).s) 14), .int .u8 (((replyV o here).s) 15)]) (by kernel_rfl) (by kernel_rfl) (Loads.ownL ho4 (n := 36) (by kernel_rfl) (by kernel_rfl) (by kernel_rfl)) ?_
  refine VL_load (d := 24) (t := 25) (a := ⟨b4, 0, none⟩) (v := .agg #[.int .i64 ((replyV o here).k), .int .u8 ((replyV o here).d), .bool ((replyV o here).a), .int .u32 ((replyV o here).tg), .int .u8 (((replyV o here).p) 0), .int .u8 (((replyV o here).p) 1), .int .u8 (((replyV o here).p) 2), .int .u8 (((replyV o here).p) 3), .int .u8 (((replyV o here).p) 4), .int .u8 (((replyV o here).p) 5), .int .u8 (((replyV o here).p) 6), .int .u8 (((replyV o here).p) 7), .int .u8 (((replyV o here).p) 8), .int .u8 (((replyV o here).p) 9), .int .u8 (((replyV o here).p) 10), .int .u8 (((replyV o here).p) 11), .int .u8 (((replyV o here).p) 12), .int .u8 (((replyV o here).p) 13), .int .u8 (((replyV o here).p) 14), .int .u8 (((replyV o here).p) 15), .int .u8 (((replyV o here).s) 0), .int .u8 (((replyV o here).s) 1), .int .u8 (((replyV o here).s) 2), .int .u8 (((replyV o here).s) 3), .int .u8 (((replyV o here).s) 4), .int .u8 (((replyV o here).s) 5), .int .u8 (((replyV o here).s) 6), .int .u8 (((replyV o here).s) 7), .int .u8 (((replyV o here).s) 8), .int .u8 (((replyV o here).s) 9), .int .u8 (((replyV o here).s) 10), .int .u8 (((replyV o here).s) 11), .int .u8 (((replyV o here).s) 12), .int .u8 (((replyV o here).s) 13), .int .u8 (((replyV o here).s) 14), .int .u8 (((replyV o here).s) 15)]) (by kernel_rfl) (by kernel_rfl) (Loads.ownL ho6 (n := 36) (by kernel_rfl) (by kernel_rfl) (by kernel_rfl)) ?_
  refine VL_agEq (d := 25) (dd := 9) (ls := ([.int .i64] ++ [.int .u8] ++ [.bool] ++ [.int .u32] ++ (rep 16 [.int .u8]) ++ (rep 16 [.int .u8]) ++ [])) (pos := true) (t := 25) (xs := #[.int .i64 ((replyV o here).k), .int .u8 ((replyV o here).d), .bool ((replyV o here).a), .int .u32 ((replyV o here).tg), .int .u8 (((replyV o here).p) 0), .int .u8 (((replyV o here).p) 1), .int .u8 (((replyV o here).p) 2), .int .u8 (((replyV o here).p) 3), .int .u8 (((replyV o here).p) 4), .int .u8 (((replyV o here).p) 5), .int .u8 (((replyV o here).p) 6), .int .u8 (((replyV o here).p) 7), .int .u8 (((replyV o here).p) 8), .int .u8 (((replyV o here).p) 9), .int .u8 (((replyV o here).p) 10), .int .u8 (((replyV o here).p) 11), .int .u8 (((replyV o here).p) 12), .int .u8 (((replyV o here).p) 13), .int .u8 (((replyV o here).p) 14), .int .u8 (((replyV o here).p) 15), .int .u8 (((replyV o here).s) 0), .int .u8 (((replyV o here).s) 1), .int .u8 (((replyV o here).s) 2), .int .u8 (((replyV o here).s) 3), .int .u8 (((replyV o here).s) 4), .int .u8 (((replyV o here).s) 5), .int .u8 (((replyV o here).s) 6), .int .u8 (((replyV o here).s) 7), .int .u8 (((replyV o here).s) 8), .int .u8 (((replyV o here).s) 9), .int .u8 (((replyV o here).s) 10), .int .u8 (((replyV o here).s) 11), .int .u8 (((replyV o here).s) 12), .int .u8 (((replyV o here).s) 13), .int .u8 (((replyV o here).s) 14), .int .u8 (((replyV o here).s) 15)]) (ys := #[.int .i64 ((replyV o here).k), .int .u8 ((replyV o here).d), .bool ((replyV o here).a), .int .u32 ((replyV o here).tg), .int .u8 (((replyV o here).p) 0), .int .u8 (((replyV o here).p) 1), .int .u8 (((replyV o here).p) 2), .int .u8 (((replyV o here).p) 3), .int .u8 (((replyV o here).p) 4), .int .u8 (((replyV o here).p) 5), .int .u8 (((replyV o here).p) 6), .int .u8 (((replyV o here).p) 7), .int .u8 (((replyV o here).p) 8), .int .u8 (((replyV o here).p) 9), .int .u8 (((replyV o here).p) 10), .int .u8 (((replyV o here).p) 11), .int .u8 (((replyV o here).p) 12), .int .u8 (((replyV o here).p) 13), .int .u8 (((replyV o here).p) 14), .int .u8 (((replyV o here).p) 15), .int .u8 (((replyV o here).s) 0), .int .u8 (((replyV o here).s) 1), .int .u8 (((replyV o here).s) 2), .int .u8 (((replyV o here).s) 3), .int .u8 (((replyV o here).s) 4), .int .u8 (((replyV o here).s) 5), .int .u8 (((replyV o here).s) 6), .int .u8 (((replyV o here).s) 7), .int .u8 (((replyV o here).s) 8), .int .u8 (((replyV o here).s) 9), .int .u8 (((replyV o here).s) 10), .int .u8 (((replyV o here).s) 11), .int .u8 (((replyV o here).s) 12), .int .u8 (((replyV o here).s) 13), .int .u8 (((replyV o here).s) 14), .int .u8 (((replyV o here).s) 15)]) (by kernel_rfl) (by kernel_rfl) (by kernel_rfl) (by kernel_rfl) (by first | exact ⟨⟨_, rfl⟩, ⟨_, rfl⟩, ⟨_, rfl⟩, ⟨_, rfl⟩, ⟨_, rfl⟩, ⟨_, rfl⟩, ⟨_, rfl⟩, ⟨_, rfl⟩, ⟨_, rfl⟩, ⟨_, rfl⟩, ⟨_, rfl⟩, ⟨_, rfl⟩, ⟨_, rfl⟩, ⟨_, rfl⟩, ⟨_, rfl⟩, ⟨_, rfl⟩, ⟨_, rfl⟩, ⟨_, rfl⟩, ⟨_, rfl⟩, ⟨_, rfl⟩, ⟨_, rfl⟩, ⟨_, rfl⟩, ⟨_, rfl⟩, ⟨_, rfl⟩, ⟨_, rfl⟩, ⟨_, rfl⟩, ⟨_, rfl⟩, ⟨_, rfl⟩, ⟨_, rfl⟩, ⟨_, rfl⟩, ⟨_, rfl⟩, ⟨_, rfl⟩, ⟨_, rfl⟩, ⟨_, rfl⟩, ⟨_, rfl⟩, ⟨_, rfl⟩, trivial⟩ | trivial) (by first | exact ⟨⟨_, rfl⟩, ⟨_, rfl⟩, ⟨_, rfl⟩, ⟨_, rfl⟩, ⟨_, rfl⟩, ⟨_, rfl⟩, ⟨_, rfl⟩, ⟨_, rfl⟩, ⟨_, rfl⟩, ⟨_, rfl⟩, ⟨_, rfl⟩, ⟨_, rfl⟩, ⟨_, rfl⟩, ⟨_, rfl⟩, ⟨_, rfl⟩, ⟨_, rfl⟩, ⟨_, rfl⟩, ⟨_, rfl⟩, ⟨_, rfl⟩, ⟨_, rfl⟩, ⟨_, rfl⟩, ⟨_, rfl⟩, ⟨_, rfl⟩, ⟨_, rfl⟩, ⟨_, rfl⟩, ⟨_, rfl⟩, ⟨_, rfl⟩, ⟨_, rfl⟩, ⟨_, rfl⟩, ⟨_, rfl⟩, ⟨_, rfl⟩, ⟨_, rfl⟩, ⟨_, rfl⟩, ⟨_, rfl⟩, ⟨_, rfl⟩, ⟨_, rfl⟩, trivial⟩ | trivial) true (by exact om_self (replyV o here)) ?_
  refine VL_pure 9 [4] [(4, .bool ((replyB o here) == (replyB o here)))] (by kernel_rfl) rfl ?_
  refine VL_end (by kernel_rfl) ?_
  refine VQ_next ?_
  refine VC_ret ?_
  refine VQ_ret1 (.bool ((replyB o here) == (replyB o here))) (.inr rfl) rfl rfl ?_
  exact ⟨by first | rfl | simp, hS⟩

end Go.Proofs.Yteipakmfiiccpaa
