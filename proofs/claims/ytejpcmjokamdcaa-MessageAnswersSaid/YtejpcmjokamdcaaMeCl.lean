/- Layer 16: what a message asks for, both sides. -/
import Derived.Test.YtejpcmjokamdcaaProg
import Derived.Test.YtejpcmjokamdcaaMe7
import Derived.Test.YtejpcmjokamdcaaEl6
import Derived.Test.YtejpcmjokamdcaaVd2
import Derived.Test.YtejpcmjokamdcaaMeQ
set_option linter.unusedVariables false
set_option linter.unusedSimpArgs false
namespace Go.Proofs.Ytejpcmjokamdcaa
open Go.Vc Go.RowKit

set_option maxRecDepth 100000 in
set_option maxHeartbeats 4000000 in
theorem call_any (r : Int) (bk : Bool) (k : Int) (A : Option Addr) (n c lo hi : Nat) (l : List IeV) (w : World) (hn : l.length = n) (hA : Ies w lo hi A l) (hlen : n ≤ 1000000) (hhi : hi ≤ w.heap.size) (hl : ∀ x ∈ l, IeB x) (hsm : ∀ x ∈ l, x.n < 1000000) :
  CV Try.prog 24 #[.agg #[.int .i64 r, .bool bk, .int .i64 k, .slice A n c]] w (fun x w1 => x = .tuple #[.agg #[.int .i64 (callV k (vals l) (IntKind.wrap .i64 ((fstI 89 (vals l)).2.getD 0 0))), .int .i64 (callV k (vals l) (fld (fstI 89 (vals l)).2 0)), .int .i64 (callV k (vals l) (fld (fstI 89 (vals l)).2 1)), .int .i64 (callV k (vals l) (fld (fstI 89 (vals l)).2 2)), .int .i64 (callV k (vals l) (fld (fstI 89 (vals l)).2 3)), .int .i64 (callV k (vals l) (fld (fstI 89 (vals l)).2 4))], .agg #[.int .i64 (callV k (vals l) (fk (fstI 90 (vals l)).2 0 1)), .int .i64 (callV k (vals l) (fk (fstI 90 (vals l)).2 1 2)), .int .i64 (callV k (vals l) (fk (fstI 90 (vals l)).2 3 2))], .int .i64 (callE k (vals l))] ∧ Step No w w1) := by
 have hS : Step No w w := Step.refl _ _
 refine CV_enter Try.f24 _ 59 [(0, .agg #[.int .i64 r, .bool bk, .int .i64 k, .slice A n c])] Try.func24 rfl rfl (by kernel_rfl) rfl ?_
 refine VC_seq ?_
 refine VC_region ?_
 have hzs1 := hS.size
 refine VL_box (d := 1) (t := 24) (c := #[.int .i64 r, .bool bk, .int .i64 k, .slice A n c]) (by kernel_rfl) (by kernel_rfl) ?_
 intro b1 w1 hn1
 replace hS := Step.trans hS (hn1.step No)
 replace hA := hA.no (hn1.step No)
 have ho1 := hn1.own
 have hzhn1 := hn1.size
 have hqhn1 := hn1.eqb
 have hzs2 := hS.size
 have hzl1 := ho1.lt
 refine VL_box (d := 2) (t := 52) (c := #[.int .i64 0, .int .i64 0, .int .i64 0, .int .i64 0, .int .i64 0, .int .i64 0]) (by kernel_rfl) (by kernel_rfl) ?_
 intro b2 w2 hn2
 replace hS := Step.trans hS (hn2.step No)
 replace hA := hA.no (hn2.step No)
 replace ho1 := ho1.no (hn2.step No)
 have ho2 := hn2.own
 have hzhn2 := hn2.size
 have hqhn2 := hn2.eqb
 have hzs3 := hS.size
 have hzl2 := ho1.lt
 have hzl3 := ho2.lt
 refine VL_box (d := 3) (t := 54) (c := #[.int .i64 0, .int .i64 0, .int .i64 0]) (by kernel_rfl) (by kernel_rfl) ?_
 intro b3 w3 hn3
 replace hS := Step.trans hS (hn3.step No)
 replace hA := hA.no (hn3.step No)
 replace ho1 := ho1.no (hn3.step No)
 replace ho2 := ho2.no (hn3.step No)
 have ho3 := hn3.own
 have hzhn3 := hn3.size
 have hqhn3 := hn3.eqb
 refine VL_pure 4 [1, 2, 3] [(1, .pointer (some ⟨b1, 0, none⟩)), (2, .pointer (some ⟨b2, 0, none⟩)), (3, .pointer (some ⟨b3, 0, none⟩))] (by kernel_rfl) rfl ?_
 refine VL_end (by kernel_rfl) ?_
 refine VQ_next ?_
 refine VC_seq ?_
 refine VC_seq ?_
 refine VC_region ?_
 refine VL_pure 1 [1, 2, 3, 12] [(1, .pointer (some ⟨b1, 0, none⟩)), (2, .pointer (some ⟨b2, 0, none⟩)), (3, .pointer (some ⟨b3, 0, none⟩)), (12, .pointer (some ⟨b1, 2, none⟩))] (by kernel_rfl) rfl ?_
 refine VL_load (d := 13) (t := 3) (a := ⟨b1, 2, none⟩) (v := .int .i64 k) (by kernel_rfl) (by kernel_rfl) (Loads.own1 ho1 (by kernel_rfl) (by rfl)) ?_
 refine VL_pure 3 [1, 2, 3, 14] [(1, .pointer (some ⟨b1, 0, none⟩)), (2, .pointer (some ⟨b2, 0, none⟩)), (3, .pointer (some ⟨b3, 0, none⟩)), (14, .bool (k != 5))] (by kernel_rfl) rfl ?_
 refine VL_end (by kernel_rfl) ?_
 refine VQ_next ?_
 refine VC_ne k 5 (by kernel_rfl) (fun h1 => ?_) (fun h1 => ?_)
 ·refine VC_seq ?_
  refine VC_region ?_
  refine VL_pure 2 [2, 3, 15, 16] [(2, .pointer (some ⟨b2, 0, none⟩)), (3, .pointer (some ⟨b3, 0, none⟩)), (15, .agg #[.int .i64 0, .int .i64 0, .int .i64 0, .int .i64 0, .int .i64 0, .int .i64 0]), (16, .agg #[.int .i64 0, .int .i64 0, .int .i64 0])] (by kernel_rfl) rfl ?_
  refine VL_store (b := b2) (o := 0) (vs := [.int .i64 0, .int .i64 0, .int .i64 0, .int .i64 0, .int .i64 0, .int .i64 0]) (by kernel_rfl) (by kernel_rfl) ho2 (Nat.le_of_ble_eq_true (by kernel_rfl)) ?_
  intro w4 hw1
  replace hS := Step.transNew hS hw1.step (fun _ _ _ => by omega)
  replace hA := hA.step hw1.step (fun k hk1 hk2 (hF : k = b2) => by omega)
  replace ho1 := ho1.step hw1.step (show ¬ b1 = b2 by omega)
  replace ho3 := ho3.step hw1.step (show ¬ b3 = b2 by omega)
  have ho4 : Own w4 b2 #[.int .i64 0, .int .i64 0, .int .i64 0, .int .i64 0, .int .i64 0, .int .i64 0] 52 := Own.cast hw1.own (by kernel_rfl)
  have hzhw1 := hw1.same
  refine VL_store (b := b3) (o := 0) (vs := [.int .i64 0, .int .i64 0, .int .i64 0]) (by kernel_rfl) (by kernel_rfl) ho3 (Nat.le_of_ble_eq_true (by kernel_rfl)) ?_
  intro w5 hw2
  replace hS := Step.transNew hS hw2.step (fun _ _ _ => by omega)
  replace hA := hA.step hw2.step (fun k hk1 hk2 (hF : k = b3) => by omega)
  replace ho1 := ho1.step hw2.step (show ¬ b1 = b3 by omega)
  replace ho4 := ho4.step hw2.step (show ¬ b2 = b3 by omega)
  have ho5 : Own w5 b3 #[.int .i64 0, .int .i64 0, .int .i64 0] 54 := Own.cast hw2.own (by kernel_rfl)
  have hzhw2 := hw2.same
  refine VL_pure 5 [2, 3, 4] [(2, .pointer (some ⟨b2, 0, none⟩)), (3, .pointer (some ⟨b3, 0, none⟩)), (4, .int .i64 12)] (by kernel_rfl) rfl ?_
  refine VL_end (by kernel_rfl) ?_
  refine VQ_next ?_
  refine VC_ret ?_
  refine VQ_then_ret ?_
  refine VQ_retC2T1 (T := 52) (T2 := 54) (.agg #[.int .i64 0, .int .i64 0, .int .i64 0, .int .i64 0, .int .i64 0, .int .i64 0]) (.agg #[.int .i64 0, .int .i64 0, .int .i64 0]) (.int .i64 12) (.inr rfl) rfl rfl rfl rfl (Loads.ownL ho4 (n := 6) (by kernel_rfl) (by kernel_rfl) (by kernel_rfl)) (Loads.ownL ho5 (n := 3) (by kernel_rfl) (by kernel_rfl) (by kernel_rfl)) ?_
  have hq := call_12 (L := vals l) (show k ≠ 5 by omega)
  have hqn : callE k (vals l) ≠ 0 := (by rw [hq]; decide)
  exact ⟨by simp only [callV_n hqn, hq], hS⟩
 ·refine VC_skip ?_
  refine VQ_next ?_
  refine VC_seq ?_
  refine VC_region ?_
  refine VL_pure 1 [1, 2, 3, 18] [(1, .pointer (some ⟨b1, 0, none⟩)), (2, .pointer (some ⟨b2, 0, none⟩)), (3, .pointer (some ⟨b3, 0, none⟩)), (18, .pointer (some ⟨b1, 3, none⟩))] (by kernel_rfl) rfl ?_
  refine VL_load (d := 19) (t := 22) (a := ⟨b1, 3, none⟩) (v := .slice A n c) (by kernel_rfl) (by kernel_rfl) (Loads.own1 ho1 (by kernel_rfl) (by rfl)) ?_
  have hzs4 := hS.size
  have hzl4 := ho1.lt
  have hzl5 := ho2.lt
  have hzl6 := ho3.lt
  refine VL_call (d := 20) (f := 36) (args := #[.slice A n c, .int .u8 89]) (by kernel_rfl) (by kernel_rfl) (by kernel_rfl) Try.call36 (find_any A n c lo hi l _ hn hA 89 (by omega) (by first | exact Nat.le_refl _ | omega)) ?_
  rintro _ w6 ⟨(⟨hF, rfl⟩ | ⟨⟨yi, yA, yn, yc, yb⟩, hF, rfl⟩), hc1⟩
  ·replace hS := Step.trans hS hc1
   replace hA := hA.no hc1
   replace ho1 := ho1.no hc1
   replace ho2 := ho2.no hc1
   replace ho3 := ho3.no hc1
   refine VL_pure 6 [1, 2, 3, 21, 22] [(1, .pointer (some ⟨b1, 0, none⟩)), (2, .pointer (some ⟨b2, 0, none⟩)), (3, .pointer (some ⟨b3, 0, none⟩)), (21, .agg #[.int .u8 0, .slice none 0 0]), (22, .bool false)] (by kernel_rfl) rfl ?_
   have hzs5 := hS.size
   have hzl7 := ho1.lt
   have hzl8 := ho2.lt
   have hzl9 := ho3.lt
   refine VL_box (d := 5) (t := 60) (c := #[.int .u8 0, .slice none 0 0]) (by kernel_rfl) (by kernel_rfl) ?_
   intro b4 w7 hn4
   replace hS := Step.trans hS (hn4.step No)
   replace hA := hA.no (hn4.step No)
   replace ho1 := ho1.no (hn4.step No)
   replace ho2 := ho2.no (hn4.step No)
   replace ho3 := ho3.no (hn4.step No)
   have ho6 := hn4.own
   have hzhn4 := hn4.size
   have hqhn4 := hn4.eqb
   refine VL_store (b := b4) (o := 0) (vs := [.int .u8 0, .slice none 0 0]) (by kernel_rfl) (by kernel_rfl) ho6 (Nat.le_of_ble_eq_true (by kernel_rfl)) ?_
   intro w8 hw3
   replace hS := Step.transNew hS hw3.step (fun _ _ _ => by omega)
   replace hA := hA.step hw3.step (fun k hk1 hk2 (hF : k = b4) => by omega)
   replace ho1 := ho1.step hw3.step (show ¬ b1 = b4 by omega)
   replace ho2 := ho2.step hw3.step (show ¬ b2 = b4 by omega)
   replace ho3 := ho3.step hw3.step (show ¬ b3 = b4 by omega)
   have ho7 : Own w8 b4 #[.int .u8 0, .slice none 0 0] 60 := Own.cast hw3.own (by kernel_rfl)
   have hzhw3 := hw3.same
   refine VL_pure 9 [1, 2, 3, 5, 6] [(1, .pointer (some ⟨b1, 0, none⟩)), (2, .pointer (some ⟨b2, 0, none⟩)), (3, .pointer (some ⟨b3, 0, none⟩)), (5, .pointer (some ⟨b4, 0, none⟩)), (6, .bool false)] (by kernel_rfl) rfl ?_
   refine VL_end (by kernel_rfl) ?_
   refine VQ_next ?_
   refine VC_seq ?_
   refine VC_region ?_
   refine VL_pure 1 [2, 3, 5, 6, 24] [(2, .pointer (some ⟨b2, 0, none⟩)), (3, .pointer (some ⟨b3, 0, none⟩)), (5, .pointer (some ⟨b4, 0, none⟩)), (6, .bool false), (24, .pointer (some ⟨b1, 3, none⟩))] (by kernel_rfl) rfl ?_
   refine VL_load (d := 25) (t := 22) (a := ⟨b1, 3, none⟩) (v := .slice A n c) (by kernel_rfl) (by kernel_rfl) (Loads.own1 ho1 (by kernel_rfl) (by rfl)) ?_
   have hzs6 := hS.size
   have hzl10 := ho1.lt
   have hzl11 := ho2.lt
   have hzl12 := ho3.lt
   have hzl13 := ho7.lt
   refine VL_call (d := 26) (f := 36) (args := #[.slice A n c, .int .u8 90]) (by kernel_rfl) (by kernel_rfl) (by kernel_rfl) Try.call36 (find_any A n c lo hi l _ hn hA 90 (by omega) (by first | exact Nat.le_refl _ | omega)) ?_
   rintro _ w9 ⟨(⟨hG, rfl⟩ | ⟨⟨zi, zA, zn, zc, zb⟩, hG, rfl⟩), hc2⟩
   ·replace hS := Step.trans hS hc2
    replace hA := hA.no hc2
    replace ho1 := ho1.no hc2
    replace ho2 := ho2.no hc2
    replace ho3 := ho3.no hc2
    replace ho7 := ho7.no hc2
    refine VL_pure 6 [2, 3, 5, 6, 27, 28] [(2, .pointer (some ⟨b2, 0, none⟩)), (3, .pointer (some ⟨b3, 0, none⟩)), (5, .pointer (some ⟨b4, 0, none⟩)), (6, .bool false), (27, .agg #[.int .u8 0, .slice none 0 0]), (28, .bool false)] (by kernel_rfl) rfl ?_
    have hzs7 := hS.size
    have hzl14 := ho1.lt
    have hzl15 := ho2.lt
    have hzl16 := ho3.lt
    have hzl17 := ho7.lt
    refine VL_box (d := 7) (t := 60) (c := #[.int .u8 0, .slice none 0 0]) (by kernel_rfl) (by kernel_rfl) ?_
    intro b5 w10 hn5
    replace hS := Step.trans hS (hn5.step No)
    replace hA := hA.no (hn5.step No)
    replace ho1 := ho1.no (hn5.step No)
    replace ho2 := ho2.no (hn5.step No)
    replace ho3 := ho3.no (hn5.step No)
    replace ho7 := ho7.no (hn5.step No)
    have ho8 := hn5.own
    have hzhn5 := hn5.size
    have hqhn5 := hn5.eqb
    refine VL_store (b := b5) (o := 0) (vs := [.int .u8 0, .slice none 0 0]) (by kernel_rfl) (by kernel_rfl) ho8 (Nat.le_of_ble_eq_true (by kernel_rfl)) ?_
    intro w11 hw4
    replace hS := Step.transNew hS hw4.step (fun _ _ _ => by omega)
    replace hA := hA.step hw4.step (fun k hk1 hk2 (hF : k = b5) => by omega)
    replace ho1 := ho1.step hw4.step (show ¬ b1 = b5 by omega)
    replace ho2 := ho2.step hw4.step (show ¬ b2 = b5 by omega)
    replace ho3 := ho3.step hw4.step (show ¬ b3 = b5 by omega)
    replace ho7 := ho7.step hw4.step (show ¬ b4 = b5 by omega)
    have ho9 : Own w11 b5 #[.int .u8 0, .slice none 0 0] 60 := Own.cast hw4.own (by kernel_rfl)
    have hzhw4 := hw4.same
    refine VL_pure 9 [2, 3, 5, 6, 7, 8] [(2, .pointer (some ⟨b2, 0, none⟩)), (3, .pointer (some ⟨b3, 0, none⟩)), (5, .pointer (some ⟨b4, 0, none⟩)), (6, .bool false), (7, .pointer (some ⟨b5, 0, none⟩)), (8, .bool false)] (by kernel_rfl) rfl ?_
    refine VL_end (by kernel_rfl) ?_
    refine VQ_next ?_
    refine VC_seq ?_
    refine VC_seq ?_
    refine VC_region ?_
    refine VL_pure 6 [2, 3, 5, 7, 34] [(2, .pointer (some ⟨b2, 0, none⟩)), (3, .pointer (some ⟨b3, 0, none⟩)), (5, .pointer (some ⟨b4, 0, none⟩)), (7, .pointer (some ⟨b5, 0, none⟩)), (34, .bool true)] (by kernel_rfl) rfl ?_
    refine VL_end (by kernel_rfl) ?_
    refine VQ_next ?_
    refine VC_true (by kernel_rfl) ?_
    refine VC_seq ?_
    refine VC_region ?_
    refine VL_pure 2 [2, 3, 35, 36] [(2, .pointer (some ⟨b2, 0, none⟩)), (3, .pointer (some ⟨b3, 0, none⟩)), (35, .agg #[.int .i64 0, .int .i64 0, .int .i64 0, .int .i64 0, .int .i64 0, .int .i64 0]), (36, .agg #[.int .i64 0, .int .i64 0, .int .i64 0])] (by kernel_rfl) rfl ?_
    refine VL_store (b := b2) (o := 0) (vs := [.int .i64 0, .int .i64 0, .int .i64 0, .int .i64 0, .int .i64 0, .int .i64 0]) (by kernel_rfl) (by kernel_rfl) ho2 (Nat.le_of_ble_eq_true (by kernel_rfl)) ?_
    intro w12 hw5
    replace hS := Step.transNew hS hw5.step (fun _ _ _ => by omega)
    replace hA := hA.step hw5.step (fun k hk1 hk2 (hF : k = b2) => by omega)
    replace ho1 := ho1.step hw5.step (show ¬ b1 = b2 by omega)
    replace ho3 := ho3.step hw5.step (show ¬ b3 = b2 by omega)
    replace ho7 := ho7.step hw5.step (show ¬ b4 = b2 by omega)
    replace ho9 := ho9.step hw5.step (show ¬ b5 = b2 by omega)
    have ho10 : Own w12 b2 #[.int .i64 0, .int .i64 0, .int .i64 0, .int .i64 0, .int .i64 0, .int .i64 0] 52 := Own.cast hw5.own (by kernel_rfl)
    have hzhw5 := hw5.same
    refine VL_store (b := b3) (o := 0) (vs := [.int .i64 0, .int .i64 0, .int .i64 0]) (by kernel_rfl) (by kernel_rfl) ho3 (Nat.le_of_ble_eq_true (by kernel_rfl)) ?_
    intro w13 hw6
    replace hS := Step.transNew hS hw6.step (fun _ _ _ => by omega)
    replace hA := hA.step hw6.step (fun k hk1 hk2 (hF : k = b3) => by omega)
    replace ho1 := ho1.step hw6.step (show ¬ b1 = b3 by omega)
    replace ho7 := ho7.step hw6.step (show ¬ b4 = b3 by omega)
    replace ho9 := ho9.step hw6.step (show ¬ b5 = b3 by omega)
    replace ho10 := ho10.step hw6.step (show ¬ b2 = b3 by omega)
    have ho11 : Own w13 b3 #[.int .i64 0, .int .i64 0, .int .i64 0] 54 := Own.cast hw6.own (by kernel_rfl)
    have hzhw6 := hw6.same
    refine VL_pure 5 [2, 3, 4] [(2, .pointer (some ⟨b2, 0, none⟩)), (3, .pointer (some ⟨b3, 0, none⟩)), (4, .int .i64 8)] (by kernel_rfl) rfl ?_
    refine VL_end (by kernel_rfl) ?_
    refine VQ_next ?_
    refine VC_ret ?_
    refine VQ_then_ret ?_
    refine VQ_retC2T1 (T := 52) (T2 := 54) (.agg #[.int .i64 0, .int .i64 0, .int .i64 0, .int .i64 0, .int .i64 0, .int .i64 0]) (.agg #[.int .i64 0, .int .i64 0, .int .i64 0]) (.int .i64 8) (.inr rfl) rfl rfl rfl rfl (Loads.ownL ho10 (n := 6) (by kernel_rfl) (by kernel_rfl) (by kernel_rfl)) (Loads.ownL ho11 (n := 3) (by kernel_rfl) (by kernel_rfl) (by kernel_rfl)) ?_
    have hq : callE k (vals l) = 8 := call_8a (show ¬ k ≠ 5 by omega) hF
    have hqn : callE k (vals l) ≠ 0 := (by rw [hq]; decide)
    exact ⟨by simp only [callV_n hqn, hq], hS⟩
   ·replace hS := Step.trans hS hc2
    replace hA := hA.no hc2
    replace ho1 := ho1.no hc2
    replace ho2 := ho2.no hc2
    replace ho3 := ho3.no hc2
    replace ho7 := ho7.no hc2
    have hzl := (find_in hG).1
    have hzn : zb.length = zn := (hA.all _ hzl).len
    have hzs : zn < 1000000 := hsm _ hzl
    have hzc : zn ≤ zc := (hA.all _ hzl).cap
    have hzS : Sl w9 hi zA (iL .u8 zb) := (hA.all _ hzl).sl.sl
    have hzB : Bytes zb := (hl _ hzl).2
    dsimp only
    refine VL_pure 6 [2, 3, 5, 6, 27, 28] [(2, .pointer (some ⟨b2, 0, none⟩)), (3, .pointer (some ⟨b3, 0, none⟩)), (5, .pointer (some ⟨b4, 0, none⟩)), (6, .bool false), (27, .agg #[.int .u8 zi, .slice zA zn zc]), (28, .bool true)] (by kernel_rfl) rfl ?_
    have hzs8 := hS.size
    have hzl18 := ho1.lt
    have hzl19 := ho2.lt
    have hzl20 := ho3.lt
    have hzl21 := ho7.lt
    refine VL_box (d := 7) (t := 60) (c := #[.int .u8 0, .slice none 0 0]) (by kernel_rfl) (by kernel_rfl) ?_
    intro b6 w14 hn6
    replace hS := Step.trans hS (hn6.step No)
    replace hA := hA.no (hn6.step No)
    replace ho1 := ho1.no (hn6.step No)
    replace ho2 := ho2.no (hn6.step No)
    replace ho3 := ho3.no (hn6.step No)
    replace ho7 := ho7.no (hn6.step No)
    replace hzS := hzS.no (hn6.step No)
    have ho12 := hn6.own
    have hzhn6 := hn6.size
    have hqhn6 := hn6.eqb
    refine VL_store (b := b6) (o := 0) (vs := [.int .u8 zi, .slice zA zn zc]) (by kernel_rfl) (by kernel_rfl) ho12 (Nat.le_of_ble_eq_true (by kernel_rfl)) ?_
    intro w15 hw7
    replace hS := Step.transNew hS hw7.step (fun _ _ _ => by omega)
    replace hA := hA.step hw7.step (fun k hk1 hk2 (hF : k = b6) => by omega)
    replace ho1 := ho1.step hw7.step (show ¬ b1 = b6 by omega)
    replace ho2 := ho2.step hw7.step (show ¬ b2 = b6 by omega)
    replace ho3 := ho3.step hw7.step (show ¬ b3 = b6 by omega)
    replace ho7 := ho7.step hw7.step (show ¬ b4 = b6 by omega)
    replace hzS := hzS.step hw7.step (fun k hk (hF : k = b6) => by omega)
    have ho13 : Own w15 b6 #[.int .u8 zi, .slice zA zn zc] 60 := Own.cast hw7.own (by kernel_rfl)
    have hzhw7 := hw7.same
    refine VL_pure 9 [2, 3, 5, 6, 7, 8] [(2, .pointer (some ⟨b2, 0, none⟩)), (3, .pointer (some ⟨b3, 0, none⟩)), (5, .pointer (some ⟨b4, 0, none⟩)), (6, .bool false), (7, .pointer (some ⟨b6, 0, none⟩)), (8, .bool true)] (by kernel_rfl) rfl ?_
    refine VL_end (by kernel_rfl) ?_
    refine VQ_next ?_
    refine VC_seq ?_
    refine VC_seq ?_
    refine VC_region ?_
    refine VL_pure 6 [2, 3, 5, 7, 34] [(2, .pointer (some ⟨b2, 0, none⟩)), (3, .pointer (some ⟨b3, 0, none⟩)), (5, .pointer (some ⟨b4, 0, none⟩)), (7, .pointer (some ⟨b6, 0, none⟩)), (34, .bool true)] (by kernel_rfl) rfl ?_
    refine VL_end (by kernel_rfl) ?_
    refine VQ_next ?_
    refine VC_true (by kernel_rfl) ?_
    refine VC_seq ?_
    refine VC_region ?_
    refine VL_pure 2 [2, 3, 35, 36] [(2, .pointer (some ⟨b2, 0, none⟩)), (3, .pointer (some ⟨b3, 0, none⟩)), (35, .agg #[.int .i64 0, .int .i64 0, .int .i64 0, .int .i64 0, .int .i64 0, .int .i64 0]), (36, .agg #[.int .i64 0, .int .i64 0, .int .i64 0])] (by kernel_rfl) rfl ?_
    refine VL_store (b := b2) (o := 0) (vs := [.int .i64 0, .int .i64 0, .int .i64 0, .int .i64 0, .int .i64 0, .int .i64 0]) (by kernel_rfl) (by kernel_rfl) ho2 (Nat.le_of_ble_eq_true (by kernel_rfl)) ?_
    intro w16 hw8
    replace hS := Step.transNew hS hw8.step (fun _ _ _ => by omega)
    replace hA := hA.step hw8.step (fun k hk1 hk2 (hF : k = b2) => by omega)
    replace ho1 := ho1.step hw8.step (show ¬ b1 = b2 by omega)
    replace ho3 := ho3.step hw8.step (show ¬ b3 = b2 by omega)
    replace ho7 := ho7.step hw8.step (show ¬ b4 = b2 by omega)
    replace hzS := hzS.step hw8.step (fun k hk (hF : k = b2) => by omega)
    replace ho13 := ho13.step hw8.step (show ¬ b6 = b2 by omega)
    have ho14 : Own w16 b2 #[.int .i64 0, .int .i64 0, .int .i64 0, .int .i64 0, .int .i64 0, .int .i64 0] 52 := Own.cast hw8.own (by kernel_rfl)
    have hzhw8 := hw8.same
    refine VL_store (b := b3) (o := 0) (vs := [.int .i64 0, .int .i64 0, .int .i64 0]) (by kernel_rfl) (by kernel_rfl) ho3 (Nat.le_of_ble_eq_true (by kernel_rfl)) ?_
    intro w17 hw9
    replace hS := Step.transNew hS hw9.step (fun _ _ _ => by omega)
    replace hA := hA.step hw9.step (fun k hk1 hk2 (hF : k = b3) => by omega)
    replace ho1 := ho1.step hw9.step (show ¬ b1 = b3 by omega)
    replace ho7 := ho7.step hw9.step (show ¬ b4 = b3 by omega)
    replace hzS := hzS.step hw9.step (fun k hk (hF : k = b3) => by omega)
    replace ho13 := ho13.step hw9.step (show ¬ b6 = b3 by omega)
    replace ho14 := ho14.step hw9.step (show ¬ b2 = b3 by omega)
    have ho15 : Own w17 b3 #[.int .i64 0, .int .i64 0, .int .i64 0] 54 := Own.cast hw9.own (by kernel_rfl)
    have hzhw9 := hw9.same
    refine VL_pure 5 [2, 3, 4] [(2, .pointer (some ⟨b2, 0, none⟩)), (3, .pointer (some ⟨b3, 0, none⟩)), (4, .int .i64 8)] (by kernel_rfl) rfl ?_
    refine VL_end (by kernel_rfl) ?_
    refine VQ_next ?_
    refine VC_ret ?_
    refine VQ_then_ret ?_
    refine VQ_retC2T1 (T := 52) (T2 := 54) (.agg #[.int .i64 0, .int .i64 0, .int .i64 0, .int .i64 0, .int .i64 0, .int .i64 0]) (.agg #[.int .i64 0, .int .i64 0, .int .i64 0]) (.int .i64 8) (.inr rfl) rfl rfl rfl rfl (Loads.ownL ho14 (n := 6) (by kernel_rfl) (by kernel_rfl) (by kernel_rfl)) (Loads.ownL ho15 (n := 3) (by kernel_rfl) (by kernel_rfl) (by kernel_rfl)) ?_
    have hq : callE k (vals l) = 8 := call_8a (show ¬ k ≠ 5 by omega) hF
    have hqn : callE k (vals l) ≠ 0 := (by rw [hq]; decide)
    exact ⟨by simp only [callV_n hqn, hq], hS⟩
  ·replace hS := Step.trans hS hc1
   replace hA := hA.no hc1
   replace ho1 := ho1.no hc1
   replace ho2 := ho2.no hc1
   replace ho3 := ho3.no hc1
   have hyl := (find_in hF).1
   have hyn : yb.length = yn := (hA.all _ hyl).len
   have hys : yn < 1000000 := hsm _ hyl
   have hyc : yn ≤ yc := (hA.all _ hyl).cap
   have hyS : Sl w6 hi yA (iL .u8 yb) := (hA.all _ hyl).sl.sl
   have hyB : Bytes yb := (hl _ hyl).2
   dsimp only
   refine VL_pure 6 [1, 2, 3, 21, 22] [(1, .pointer (some ⟨b1, 0, none⟩)), (2, .pointer (some ⟨b2, 0, none⟩)), (3, .pointer (some ⟨b3, 0, none⟩)), (21, .agg #[.int .u8 yi, .slice yA yn yc]), (22, .bool true)] (by kernel_rfl) rfl ?_
   have hzs9 := hS.size
   have hzl22 := ho1.lt
   have hzl23 := ho2.lt
   have hzl24 := ho3.lt
   refine VL_box (d := 5) (t := 60) (c := #[.int .u8 0, .slice none 0 0]) (by kernel_rfl) (by kernel_rfl) ?_
   intro b7 w18 hn7
   replace hS := Step.trans hS (hn7.step No)
   replace hA := hA.no (hn7.step No)
   replace ho1 := ho1.no (hn7.step No)
   replace ho2 := ho2.no (hn7.step No)
   replace ho3 := ho3.no (hn7.step No)
   replace hyS := hyS.no (hn7.step No)
   have ho16 := hn7.own
   have hzhn7 := hn7.size
   have hqhn7 := hn7.eqb
   refine VL_store (b := b7) (o := 0) (vs := [.int .u8 yi, .slice yA yn yc]) (by kernel_rfl) (by kernel_rfl) ho16 (Nat.le_of_ble_eq_true (by kernel_rfl)) ?_
   intro w19 hw10
   replace hS := Step.transNew hS hw10.step (fun _ _ _ => by omega)
   replace hA := hA.step hw10.step (fun k hk1 hk2 (hF : k = b7) => by omega)
   replace ho1 := ho1.step hw10.step (show ¬ b1 = b7 by omega)
   replace ho2 := ho2.step hw10.step (show ¬ b2 = b7 by omega)
   replace ho3 := ho3.step hw10.step (show ¬ b3 = b7 by omega)
   replace hyS := hyS.step hw10.step (fun k hk (hF : k = b7) => by omega)
   have ho17 : Own w19 b7 #[.int .u8 yi, .slice yA yn yc] 60 := Own.cast hw10.own (by kernel_rfl)
   have hzhw10 := hw10.same
   refine VL_pure 9 [1, 2, 3, 5, 6] [(1, .pointer (some ⟨b1, 0, none⟩)), (2, .pointer (some ⟨b2, 0, none⟩)), (3, .pointer (some ⟨b3, 0, none⟩)), (5, .pointer (some ⟨b7, 0, none⟩)), (6, .bool true)] (by kernel_rfl) rfl ?_
   refine VL_end (by kernel_rfl) ?_
   refine VQ_next ?_
   refine VC_seq ?_
   refine VC_region ?_
   refine VL_pure 1 [2, 3, 5, 6, 24] [(2, .pointer (some ⟨b2, 0, none⟩)), (3, .pointer (some ⟨b3, 0, none⟩)), (5, .pointer (some ⟨b7, 0, none⟩)), (6, .bool true), (24, .pointer (some ⟨b1, 3, none⟩))] (by kernel_rfl) rfl ?_
   refine VL_load (d := 25) (t := 22) (a := ⟨b1, 3, none⟩) (v := .slice A n c) (by kernel_rfl) (by kernel_rfl) (Loads.own1 ho1 (by kernel_rfl) (by rfl)) ?_
   have hzs10 := hS.size
   have hzl25 := ho1.lt
   have hzl26 := ho2.lt
   have hzl27 := ho3.lt
   have hzl28 := ho17.lt
   refine VL_call (d := 26) (f := 36) (args := #[.slice A n c, .int .u8 90]) (by kernel_rfl) (by kernel_rfl) (by kernel_rfl) Try.call36 (find_any A n c lo hi l _ hn hA 90 (by omega) (by first | exact Nat.le_refl _ | omega)) ?_
   rintro _ w20 ⟨(⟨hG, rfl⟩ | ⟨⟨zi, zA, zn, zc, zb⟩, hG, rfl⟩), hc3⟩
   ·replace hS := Step.trans hS hc3
    replace hA := hA.no hc3
    replace ho1 := ho1.no hc3
    replace ho2 := ho2.no hc3
    replace ho3 := ho3.no hc3
    replace hyS := hyS.no hc3
    replace ho17 := ho17.no hc3
    refine VL_pure 6 [2, 3, 5, 6, 27, 28] [(2, .pointer (some ⟨b2, 0, none⟩)), (3, .pointer (some ⟨b3, 0, none⟩)), (5, .pointer (some ⟨b7, 0, none⟩)), (6, .bool true), (27, .agg #[.int .u8 0, .slice none 0 0]), (28, .bool false)] (by kernel_rfl) rfl ?_
    have hzs11 := hS.size
    have hzl29 := ho1.lt
    have hzl30 := ho2.lt
    have hzl31 := ho3.lt
    have hzl32 := ho17.lt
    refine VL_box (d := 7) (t := 60) (c := #[.int .u8 0, .slice none 0 0]) (by kernel_rfl) (by kernel_rfl) ?_
    intro b8 w21 hn8
    replace hS := Step.trans hS (hn8.step No)
    replace hA := hA.no (hn8.step No)
    replace ho1 := ho1.no (hn8.step No)
    replace ho2 := ho2.no (hn8.step No)
    replace ho3 := ho3.no (hn8.step No)
    replace hyS := hyS.no (hn8.step No)
    replace ho17 := ho17.no (hn8.step No)
    have ho18 := hn8.own
    have hzhn8 := hn8.size
    have hqhn8 := hn8.eqb
    refine VL_store (b := b8) (o := 0) (vs := [.int .u8 0, .slice none 0 0]) (by kernel_rfl) (by kernel_rfl) ho18 (Nat.le_of_ble_eq_true (by kernel_rfl)) ?_
    intro w22 hw11
    replace hS := Step.transNew hS hw11.step (fun _ _ _ => by omega)
    replace hA := hA.step hw11.step (fun k hk1 hk2 (hF : k = b8) => by omega)
    replace ho1 := ho1.step hw11.step (show ¬ b1 = b8 by omega)
    replace ho2 := ho2.step hw11.step (show ¬ b2 = b8 by omega)
    replace ho3 := ho3.step hw11.step (show ¬ b3 = b8 by omega)
    replace hyS := hyS.step hw11.step (fun k hk (hF : k = b8) => by omega)
    replace ho17 := ho17.step hw11.step (show ¬ b7 = b8 by omega)
    have ho19 : Own w22 b8 #[.int .u8 0, .slice none 0 0] 60 := Own.cast hw11.own (by kernel_rfl)
    have hzhw11 := hw11.same
    refine VL_pure 9 [2, 3, 5, 6, 7, 8] [(2, .pointer (some ⟨b2, 0, none⟩)), (3, .pointer (some ⟨b3, 0, none⟩)), (5, .pointer (some ⟨b7, 0, none⟩)), (6, .bool true), (7, .pointer (some ⟨b8, 0, none⟩)), (8, .bool false)] (by kernel_rfl) rfl ?_
    refine VL_end (by kernel_rfl) ?_
    refine VQ_next ?_
    refine VC_seq ?_
    refine VC_seq ?_
    refine VC_region ?_
    refine VL_pure 6 [2, 3, 5, 7, 34] [(2, .pointer (some ⟨b2, 0, none⟩)), (3, .pointer (some ⟨b3, 0, none⟩)), (5, .pointer (some ⟨b7, 0, none⟩)), (7, .pointer (some ⟨b8, 0, none⟩)), (34, .bool true)] (by kernel_rfl) rfl ?_
    refine VL_end (by kernel_rfl) ?_
    refine VQ_next ?_
    refine VC_true (by kernel_rfl) ?_
    refine VC_seq ?_
    refine VC_region ?_
    refine VL_pure 2 [2, 3, 35, 36] [(2, .pointer (some ⟨b2, 0, none⟩)), (3, .pointer (some ⟨b3, 0, none⟩)), (35, .agg #[.int .i64 0, .int .i64 0, .int .i64 0, .int .i64 0, .int .i64 0, .int .i64 0]), (36, .agg #[.int .i64 0, .int .i64 0, .int .i64 0])] (by kernel_rfl) rfl ?_
    refine VL_store (b := b2) (o := 0) (vs := [.int .i64 0, .int .i64 0, .int .i64 0, .int .i64 0, .int .i64 0, .int .i64 0]) (by kernel_rfl) (by kernel_rfl) ho2 (Nat.le_of_ble_eq_true (by kernel_rfl)) ?_
    intro w23 hw12
    replace hS := Step.transNew hS hw12.step (fun _ _ _ => by omega)
    replace hA := hA.step hw12.step (fun k hk1 hk2 (hF : k = b2) => by omega)
    replace ho1 := ho1.step hw12.step (show ¬ b1 = b2 by omega)
    replace ho3 := ho3.step hw12.step (show ¬ b3 = b2 by omega)
    replace hyS := hyS.step hw12.step (fun k hk (hF : k = b2) => by omega)
    replace ho17 := ho17.step hw12.step (show ¬ b7 = b2 by omega)
    replace ho19 := ho19.step hw12.step (show ¬ b8 = b2 by omega)
    have ho20 : Own w23 b2 #[.int .i64 0, .int .i64 0, .int .i64 0, .int .i64 0, .int .i64 0, .int .i64 0] 52 := Own.cast hw12.own (by kernel_rfl)
    have hzhw12 := hw12.same
    refine VL_store (b := b3) (o := 0) (vs := [.int .i64 0, .int .i64 0, .int .i64 0]) (by kernel_rfl) (by kernel_rfl) ho3 (Nat.le_of_ble_eq_true (by kernel_rfl)) ?_
    intro w24 hw13
    replace hS := Step.transNew hS hw13.step (fun _ _ _ => by omega)
    replace hA := hA.step hw13.step (fun k hk1 hk2 (hF : k = b3) => by omega)
    replace ho1 := ho1.step hw13.step (show ¬ b1 = b3 by omega)
    replace hyS := hyS.step hw13.step (fun k hk (hF : k = b3) => by omega)
    replace ho17 := ho17.step hw13.step (show ¬ b7 = b3 by omega)
    replace ho19 := ho19.step hw13.step (show ¬ b8 = b3 by omega)
    replace ho20 := ho20.step hw13.step (show ¬ b2 = b3 by omega)
    have ho21 : Own w24 b3 #[.int .i64 0, .int .i64 0, .int .i64 0] 54 := Own.cast hw13.own (by kernel_rfl)
    have hzhw13 := hw13.same
    refine VL_pure 5 [2, 3, 4] [(2, .pointer (some ⟨b2, 0, none⟩)), (3, .pointer (some ⟨b3, 0, none⟩)), (4, .int .i64 8)] (by kernel_rfl) rfl ?_
    refine VL_end (by kernel_rfl) ?_
    refine VQ_next ?_
    refine VC_ret ?_
    refine VQ_then_ret ?_
    refine VQ_retC2T1 (T := 52) (T2 := 54) (.agg #[.int .i64 0, .int .i64 0, .int .i64 0, .int .i64 0, .int .i64 0, .int .i64 0]) (.agg #[.int .i64 0, .int .i64 0, .int .i64 0]) (.int .i64 8) (.inr rfl) rfl rfl rfl rfl (Loads.ownL ho20 (n := 6) (by kernel_rfl) (by kernel_rfl) (by kernel_rfl)) (Loads.ownL ho21 (n := 3) (by kernel_rfl) (by kernel_rfl) (by kernel_rfl)) ?_
    have hq : callE k (vals l) = 8 := call_8b (show ¬ k ≠ 5 by omega) hG
    have hqn : callE k (vals l) ≠ 0 := (by rw [hq]; decide)
    exact ⟨by simp only [callV_n hqn, hq], hS⟩
   ·replace hS := Step.trans hS hc3
    replace hA := hA.no hc3
    replace ho1 := ho1.no hc3
    replace ho2 := ho2.no hc3
    replace ho3 := ho3.no hc3
    replace hyS := hyS.no hc3
    replace ho17 := ho17.no hc3
    have hzl := (find_in hG).1
    have hzn : zb.length = zn := (hA.all _ hzl).len
    have hzs : zn < 1000000 := hsm _ hzl
    have hzc : zn ≤ zc := (hA.all _ hzl).cap
    have hzS : Sl w20 hi zA (iL .u8 zb) := (hA.all _ hzl).sl.sl
    have hzB : Bytes zb := (hl _ hzl).2
    dsimp only
    refine VL_pure 6 [2, 3, 5, 6, 27, 28] [(2, .pointer (some ⟨b2, 0, none⟩)), (3, .pointer (some ⟨b3, 0, none⟩)), (5, .pointer (some ⟨b7, 0, none⟩)), (6, .bool true), (27, .agg #[.int .u8 zi, .slice zA zn zc]), (28, .bool true)] (by kernel_rfl) rfl ?_
    have hzs12 := hS.size
    have hzl33 := ho1.lt
    have hzl34 := ho2.lt
    have hzl35 := ho3.lt
    have hzl36 := ho17.lt
    refine VL_box (d := 7) (t := 60) (c := #[.int .u8 0, .slice none 0 0]) (by kernel_rfl) (by kernel_rfl) ?_
    intro b9 w25 hn9
    replace hS := Step.trans hS (hn9.step No)
    replace hA := hA.no (hn9.step No)
    replace ho1 := ho1.no (hn9.step No)
    replace ho2 := ho2.no (hn9.step No)
    replace ho3 := ho3.no (hn9.step No)
    replace hyS := hyS.no (hn9.step No)
    replace ho17 := ho17.no (hn9.step No)
    replace hzS := hzS.no (hn9.step No)
    have ho22 := hn9.own
    have hzhn9 := hn9.size
    have hqhn9 := hn9.eqb
    refine VL_store (b := b9) (o := 0) (vs := [.int .u8 zi, .slice zA zn zc]) (by kernel_rfl) (by kernel_rfl) ho22 (Nat.le_of_ble_eq_true (by kernel_rfl)) ?_
    intro w26 hw14
    replace hS := Step.transNew hS hw14.step (fun _ _ _ => by omega)
    replace hA := hA.step hw14.step (fun k hk1 hk2 (hF : k = b9) => by omega)
    replace ho1 := ho1.step hw14.step (show ¬ b1 = b9 by omega)
    replace ho2 := ho2.step hw14.step (show ¬ b2 = b9 by omega)
    replace ho3 := ho3.step hw14.step (show ¬ b3 = b9 by omega)
    replace hyS := hyS.step hw14.step (fun k hk (hF : k = b9) => by omega)
    replace ho17 := ho17.step hw14.step (show ¬ b7 = b9 by omega)
    replace hzS := hzS.step hw14.step (fun k hk (hF : k = b9) => by omega)
    have ho23 : Own w26 b9 #[.int .u8 zi, .slice zA zn zc] 60 := Own.cast hw14.own (by kernel_rfl)
    have hzhw14 := hw14.same
    refine VL_pure 9 [2, 3, 5, 6, 7, 8] [(2, .pointer (some ⟨b2, 0, none⟩)), (3, .pointer (some ⟨b3, 0, none⟩)), (5, .pointer (some ⟨b7, 0, none⟩)), (6, .bool true), (7, .pointer (some ⟨b9, 0, none⟩)), (8, .bool true)] (by kernel_rfl) rfl ?_
    refine VL_end (by kernel_rfl) ?_
    refine VQ_next ?_
    refine VC_seq ?_
    refine VC_seq ?_
    refine VC_region ?_
    refine VL_pure 6 [2, 3, 5, 7, 34] [(2, .pointer (some ⟨b2, 0, none⟩)), (3, .pointer (some ⟨b3, 0, none⟩)), (5, .pointer (some ⟨b7, 0, none⟩)), (7, .pointer (some ⟨b9, 0, none⟩)), (34, .bool false)] (by kernel_rfl) rfl ?_
    refine VL_end (by kernel_rfl) ?_
    refine VQ_next ?_
    refine VC_false (by kernel_rfl) ?_
    refine VC_skip ?_
    refine VQ_next ?_
    refine VC_seq ?_
    refine VC_region ?_
    refine VL_load (d := 38) (t := 60) (a := ⟨b7, 0, none⟩) (v := .agg #[.int .u8 yi, .slice yA yn yc]) (by kernel_rfl) (by kernel_rfl) (Loads.ownL ho17 (n := 2) (by kernel_rfl) (by kernel_rfl) (by kernel_rfl)) ?_
    have hzs13 := hS.size
    have hzl37 := ho1.lt
    have hzl38 := ho2.lt
    have hzl39 := ho3.lt
    have hzl40 := ho17.lt
    have hzl41 := ho23.lt
    refine VL_call (d := 39) (f := 44) (by kernel_rfl) (by kernel_rfl) (by kernel_rfl) Try.call44 (rdtraf_any yi yA yn yc _ yb _ hyn (by omega) hyS hyB (by first | exact Nat.le_refl _ | omega)) ?_
    rintro _ w27 ⟨rfl, hc4⟩
    replace hS := Step.trans hS hc4
    replace hA := hA.no hc4
    replace ho1 := ho1.no hc4
    replace ho2 := ho2.no hc4
    replace ho3 := ho3.no hc4
    replace hyS := hyS.no hc4
    replace ho17 := ho17.no hc4
    replace hzS := hzS.no hc4
    replace ho23 := ho23.no hc4
    refine VL_pure 5 [2, 3, 7, 40, 41] [(2, .pointer (some ⟨b2, 0, none⟩)), (3, .pointer (some ⟨b3, 0, none⟩)), (7, .pointer (some ⟨b9, 0, none⟩)), (40, .agg #[.int .i64 (rtV yi yb (IntKind.wrap .i64 (List.getD yb 0 0))), .int .i64 (rtV yi yb (fld yb 0)), .int .i64 (rtV yi yb (fld yb 1)), .int .i64 (rtV yi yb (fld yb 2)), .int .i64 (rtV yi yb (fld yb 3)), .int .i64 (rtV yi yb (fld yb 4))]), (41, .int .i64 (rtE yi yb))] (by kernel_rfl) rfl ?_
    have hzs14 := hS.size
    have hzl42 := ho1.lt
    have hzl43 := ho2.lt
    have hzl44 := ho3.lt
    have hzl45 := ho17.lt
    have hzl46 := ho23.lt
    refine VL_box (d := 9) (t := 52) (c := #[.int .i64 0, .int .i64 0, .int .i64 0, .int .i64 0, .int .i64 0, .int .i64 0]) (by kernel_rfl) (by kernel_rfl) ?_
    intro b10 w28 hn10
    replace hS := Step.trans hS (hn10.step No)
    replace hA := hA.no (hn10.step No)
    replace ho1 := ho1.no (hn10.step No)
    replace ho2 := ho2.no (hn10.step No)
    replace ho3 := ho3.no (hn10.step No)
    replace hyS := hyS.no (hn10.step No)
    replace ho17 := ho17.no (hn10.step No)
    replace hzS := hzS.no (hn10.step No)
    replace ho23 := ho23.no (hn10.step No)
    have ho24 := hn10.own
    have hzhn10 := hn10.size
    have hqhn10 := hn10.eqb
    refine VL_store (b := b10) (o := 0) (vs := [.int .i64 (rtV yi yb (IntKind.wrap .i64 (List.getD yb 0 0))), .int .i64 (rtV yi yb (fld yb 0)), .int .i64 (rtV yi yb (fld yb 1)), .int .i64 (rtV yi yb (fld yb 2)), .int .i64 (rtV yi yb (fld yb 3)), .int .i64 (rtV yi yb (fld yb 4))]) (by kernel_rfl) (by kernel_rfl) ho24 (Nat.le_of_ble_eq_true (by kernel_rfl)) ?_
    intro w29 hw15
    replace hS := Step.transNew hS hw15.step (fun _ _ _ => by omega)
    replace hA := hA.step hw15.step (fun k hk1 hk2 (hF : k = b10) => by omega)
    replace ho1 := ho1.step hw15.step (show ¬ b1 = b10 by omega)
    replace ho2 := ho2.step hw15.step (show ¬ b2 = b10 by omega)
    replace ho3 := ho3.step hw15.step (show ¬ b3 = b10 by omega)
    replace hyS := hyS.step hw15.step (fun k hk (hF : k = b10) => by omega)
    replace ho17 := ho17.step hw15.step (show ¬ b7 = b10 by omega)
    replace hzS := hzS.step hw15.step (fun k hk (hF : k = b10) => by omega)
    replace ho23 := ho23.step hw15.step (show ¬ b9 = b10 by omega)
    have ho25 : Own w29 b10 #[.int .i64 (rtV yi yb (IntKind.wrap .i64 (List.getD yb 0 0))), .int .i64 (rtV yi yb (fld yb 0)), .int .i64 (rtV yi yb (fld yb 1)), .int .i64 (rtV yi yb (fld yb 2)), .int .i64 (rtV yi yb (fld yb 3)), .int .i64 (rtV yi yb (fld yb 4))] 52 := Own.cast hw15.own (by kernel_rfl)
    have hzhw15 := hw15.same
    refine VL_pure 8 [2, 3, 7, 9, 10] [(2, .pointer (some ⟨b2, 0, none⟩)), (3, .pointer (some ⟨b3, 0, none⟩)), (7, .pointer (some ⟨b9, 0, none⟩)), (9, .pointer (some ⟨b10, 0, none⟩)), (10, .int .i64 (rtE yi yb))] (by kernel_rfl) rfl ?_
    refine VL_end (by kernel_rfl) ?_
    refine VQ_next ?_
    refine VC_seq ?_
    refine VC_seq ?_
    refine VC_region ?_
    refine VL_pure 2 [2, 3, 7, 9, 10, 43] [(2, .pointer (some ⟨b2, 0, none⟩)), (3, .pointer (some ⟨b3, 0, none⟩)), (7, .pointer (some ⟨b9, 0, none⟩)), (9, .pointer (some ⟨b10, 0, none⟩)), (10, .int .i64 (rtE yi yb)), (43, .bool ((rtE yi yb) != 0))] (by kernel_rfl) rfl ?_
    refine VL_end (by kernel_rfl) ?_
    refine VQ_next ?_
    refine VC_ne (rtE yi yb) 0 (by kernel_rfl) (fun h2 => ?_) (fun h2 => ?_)
    ·refine VC_seq ?_
     refine VC_region ?_
     refine VL_pure 3 [2, 3, 44, 45, 46] [(2, .pointer (some ⟨b2, 0, none⟩)), (3, .pointer (some ⟨b3, 0, none⟩)), (44, .agg #[.int .i64 0, .int .i64 0, .int .i64 0, .int .i64 0, .int .i64 0, .int .i64 0]), (45, .agg #[.int .i64 0, .int .i64 0, .int .i64 0]), (46, .int .i64 (rtE yi yb))] (by kernel_rfl) rfl ?_
     refine VL_store (b := b2) (o := 0) (vs := [.int .i64 0, .int .i64 0, .int .i64 0, .int .i64 0, .int .i64 0, .int .i64 0]) (by kernel_rfl) (by kernel_rfl) ho2 (Nat.le_of_ble_eq_true (by kernel_rfl)) ?_
     intro w30 hw16
     replace hS := Step.transNew hS hw16.step (fun _ _ _ => by omega)
     replace hA := hA.step hw16.step (fun k hk1 hk2 (hF : k = b2) => by omega)
     replace ho1 := ho1.step hw16.step (show ¬ b1 = b2 by omega)
     replace ho3 := ho3.step hw16.step (show ¬ b3 = b2 by omega)
     replace hyS := hyS.step hw16.step (fun k hk (hF : k = b2) => by omega)
     replace ho17 := ho17.step hw16.step (show ¬ b7 = b2 by omega)
     replace hzS := hzS.step hw16.step (fun k hk (hF : k = b2) => by omega)
     replace ho23 := ho23.step hw16.step (show ¬ b9 = b2 by omega)
     replace ho25 := ho25.step hw16.step (show ¬ b10 = b2 by omega)
     have ho26 : Own w30 b2 #[.int .i64 0, .int .i64 0, .int .i64 0, .int .i64 0, .int .i64 0, .int .i64 0] 52 := Own.cast hw16.own (by kernel_rfl)
     have hzhw16 := hw16.same
     refine VL_store (b := b3) (o := 0) (vs := [.int .i64 0, .int .i64 0, .int .i64 0]) (by kernel_rfl) (by kernel_rfl) ho3 (Nat.le_of_ble_eq_true (by kernel_rfl)) ?_
     intro w31 hw17
     replace hS := Step.transNew hS hw17.step (fun _ _ _ => by omega)
     replace hA := hA.step hw17.step (fun k hk1 hk2 (hF : k = b3) => by omega)
     replace ho1 := ho1.step hw17.step (show ¬ b1 = b3 by omega)
     replace hyS := hyS.step hw17.step (fun k hk (hF : k = b3) => by omega)
     replace ho17 := ho17.step hw17.step (show ¬ b7 = b3 by omega)
     replace hzS := hzS.step hw17.step (fun k hk (hF : k = b3) => by omega)
     replace ho23 := ho23.step hw17.step (show ¬ b9 = b3 by omega)
     replace ho25 := ho25.step hw17.step (show ¬ b10 = b3 by omega)
     replace ho26 := ho26.step hw17.step (show ¬ b2 = b3 by omega)
     have ho27 : Own w31 b3 #[.int .i64 0, .int .i64 0, .int .i64 0] 54 := Own.cast hw17.own (by kernel_rfl)
     have hzhw17 := hw17.same
     refine VL_pure 6 [2, 3, 4] [(2, .pointer (some ⟨b2, 0, none⟩)), (3, .pointer (some ⟨b3, 0, none⟩)), (4, .int .i64 (rtE yi yb))] (by kernel_rfl) rfl ?_
     refine VL_end (by kernel_rfl) ?_
     refine VQ_next ?_
     refine VC_ret ?_
     refine VQ_then_ret ?_
     refine VQ_retC2T1 (T := 52) (T2 := 54) (.agg #[.int .i64 0, .int .i64 0, .int .i64 0, .int .i64 0, .int .i64 0, .int .i64 0]) (.agg #[.int .i64 0, .int .i64 0, .int .i64 0]) (.int .i64 (rtE yi yb)) (.inr rfl) rfl rfl rfl rfl (Loads.ownL ho26 (n := 6) (by kernel_rfl) (by kernel_rfl) (by kernel_rfl)) (Loads.ownL ho27 (n := 3) (by kernel_rfl) (by kernel_rfl) (by kernel_rfl)) ?_
     have hr3 : rtE yi yb ≠ 0 := by assumption
     have hq := call_t (show ¬ k ≠ 5 by omega) hF hG hr3
     dsimp only at hq
     have hqn : callE k (vals l) ≠ 0 := (by rw [hq]; exact hr3)
     exact ⟨by simp only [callV_n hqn, hq], hS⟩
    ·refine VC_skip ?_
     refine VQ_next ?_
     refine VC_seq ?_
     refine VC_region ?_
     refine VL_load (d := 48) (t := 60) (a := ⟨b9, 0, none⟩) (v := .agg #[.int .u8 zi, .slice zA zn zc]) (by kernel_rfl) (by kernel_rfl) (Loads.ownL ho23 (n := 2) (by kernel_rfl) (by kernel_rfl) (by kernel_rfl)) ?_
     have hzs15 := hS.size
     have hzl47 := ho1.lt
     have hzl48 := ho2.lt
     have hzl49 := ho3.lt
     have hzl50 := ho17.lt
     have hzl51 := ho23.lt
     have hzl52 := ho25.lt
     refine VL_call (d := 49) (f := 45) (by kernel_rfl) (by kernel_rfl) (by kernel_rfl) Try.call45 (rdkey_any zi zA zn zc _ zb _ hzn (by omega) hzS hzB (by first | exact Nat.le_refl _ | omega)) ?_
     rintro _ w32 ⟨rfl, hc5⟩
     replace hS := Step.trans hS hc5
     replace hA := hA.no hc5
     replace ho1 := ho1.no hc5
     replace ho2 := ho2.no hc5
     replace ho3 := ho3.no hc5
     replace hyS := hyS.no hc5
     replace ho17 := ho17.no hc5
     replace hzS := hzS.no hc5
     replace ho23 := ho23.no hc5
     replace ho25 := ho25.no hc5
     refine VL_pure 5 [2, 3, 9, 50, 51] [(2, .pointer (some ⟨b2, 0, none⟩)), (3, .pointer (some ⟨b3, 0, none⟩)), (9, .pointer (some ⟨b10, 0, none⟩)), (50, .agg #[.int .i64 (rkV zi zb (fk zb 0 1)), .int .i64 (rkV zi zb (fk zb 1 2)), .int .i64 (rkV zi zb (fk zb 3 2))]), (51, .int .i64 (rkE zi zb))] (by kernel_rfl) rfl ?_
     have hzs16 := hS.size
     have hzl53 := ho1.lt
     have hzl54 := ho2.lt
     have hzl55 := ho3.lt
     have hzl56 := ho17.lt
     have hzl57 := ho23.lt
     have hzl58 := ho25.lt
     refine VL_box (d := 11) (t := 54) (c := #[.int .i64 0, .int .i64 0, .int .i64 0]) (by kernel_rfl) (by kernel_rfl) ?_
     intro b11 w33 hn11
     replace hS := Step.trans hS (hn11.step No)
     replace hA := hA.no (hn11.step No)
     replace ho1 := ho1.no (hn11.step No)
     replace ho2 := ho2.no (hn11.step No)
     replace ho3 := ho3.no (hn11.step No)
     replace hyS := hyS.no (hn11.step No)
     replace ho17 := ho17.no (hn11.step No)
     replace hzS := hzS.no (hn11.step No)
     replace ho23 := ho23.no (hn11.step No)
     replace ho25 := ho25.no (hn11.step No)
     have ho28 := hn11.own
     have hzhn11 := hn11.size
     have hqhn11 := hn11.eqb
     refine VL_store (b := b11) (o := 0) (vs := [.int .i64 (rkV zi zb (fk zb 0 1)), .int .i64 (rkV zi zb (fk zb 1 2)), .int .i64 (rkV zi zb (fk zb 3 2))]) (by kernel_rfl) (by kernel_rfl) ho28 (Nat.le_of_ble_eq_true (by kernel_rfl)) ?_
     intro w34 hw18
     replace hS := Step.transNew hS hw18.step (fun _ _ _ => by omega)
     replace hA := hA.step hw18.step (fun k hk1 hk2 (hF : k = b11) => by omega)
     replace ho1 := ho1.step hw18.step (show ¬ b1 = b11 by omega)
     replace ho2 := ho2.step hw18.step (show ¬ b2 = b11 by omega)
     replace ho3 := ho3.step hw18.step (show ¬ b3 = b11 by omega)
     replace hyS := hyS.step hw18.step (fun k hk (hF : k = b11) => by omega)
     replace ho17 := ho17.step hw18.step (show ¬ b7 = b11 by omega)
     replace hzS := hzS.step hw18.step (fun k hk (hF : k = b11) => by omega)
     replace ho23 := ho23.step hw18.step (show ¬ b9 = b11 by omega)
     replace ho25 := ho25.step hw18.step (show ¬ b10 = b11 by omega)
     have ho29 : Own w34 b11 #[.int .i64 (rkV zi zb (fk zb 0 1)), .int .i64 (rkV zi zb (fk zb 1 2)), .int .i64 (rkV zi zb (fk zb 3 2))] 54 := Own.cast hw18.own (by kernel_rfl)
     have hzhw18 := hw18.same
     refine VL_pure 8 [2, 3, 9, 11, 10] [(2, .pointer (some ⟨b2, 0, none⟩)), (3, .pointer (some ⟨b3, 0, none⟩)), (9, .pointer (some ⟨b10, 0, none⟩)), (11, .pointer (some ⟨b11, 0, none⟩)), (10, .int .i64 (rkE zi zb))] (by kernel_rfl) rfl ?_
     refine VL_end (by kernel_rfl) ?_
     refine VQ_next ?_
     refine VC_seq ?_
     refine VC_seq ?_
     refine VC_region ?_
     refine VL_pure 2 [2, 3, 9, 11, 10, 53] [(2, .pointer (some ⟨b2, 0, none⟩)), (3, .pointer (some ⟨b3, 0, none⟩)), (9, .pointer (some ⟨b10, 0, none⟩)), (11, .pointer (some ⟨b11, 0, none⟩)), (10, .int .i64 (rkE zi zb)), (53, .bool ((rkE zi zb) != 0))] (by kernel_rfl) rfl ?_
     refine VL_end (by kernel_rfl) ?_
     refine VQ_next ?_
     refine VC_ne (rkE zi zb) 0 (by kernel_rfl) (fun h3 => ?_) (fun h3 => ?_)
     ·refine VC_seq ?_
      refine VC_region ?_
      refine VL_pure 3 [2, 3, 54, 55, 56] [(2, .pointer (some ⟨b2, 0, none⟩)), (3, .pointer (some ⟨b3, 0, none⟩)), (54, .agg #[.int .i64 0, .int .i64 0, .int .i64 0, .int .i64 0, .int .i64 0, .int .i64 0]), (55, .agg #[.int .i64 0, .int .i64 0, .int .i64 0]), (56, .int .i64 (rkE zi zb))] (by kernel_rfl) rfl ?_
      refine VL_store (b := b2) (o := 0) (vs := [.int .i64 0, .int .i64 0, .int .i64 0, .int .i64 0, .int .i64 0, .int .i64 0]) (by kernel_rfl) (by kernel_rfl) ho2 (Nat.le_of_ble_eq_true (by kernel_rfl)) ?_
      intro w35 hw19
      replace hS := Step.transNew hS hw19.step (fun _ _ _ => by omega)
      replace hA := hA.step hw19.step (fun k hk1 hk2 (hF : k = b2) => by omega)
      replace ho1 := ho1.step hw19.step (show ¬ b1 = b2 by omega)
      replace ho3 := ho3.step hw19.step (show ¬ b3 = b2 by omega)
      replace hyS := hyS.step hw19.step (fun k hk (hF : k = b2) => by omega)
      replace ho17 := ho17.step hw19.step (show ¬ b7 = b2 by omega)
      replace hzS := hzS.step hw19.step (fun k hk (hF : k = b2) => by omega)
      replace ho23 := ho23.step hw19.step (show ¬ b9 = b2 by omega)
      replace ho25 := ho25.step hw19.step (show ¬ b10 = b2 by omega)
      replace ho29 := ho29.step hw19.step (show ¬ b11 = b2 by omega)
      have ho30 : Own w35 b2 #[.int .i64 0, .int .i64 0, .int .i64 0, .int .i64 0, .int .i64 0, .int .i64 0] 52 := Own.cast hw19.own (by kernel_rfl)
      have hzhw19 := hw19.same
      refine VL_store (b := b3) (o := 0) (vs := [.int .i64 0, .int .i64 0, .int .i64 0]) (by kernel_rfl) (by kernel_rfl) ho3 (Nat.le_of_ble_eq_true (by kernel_rfl)) ?_
      intro w36 hw20
      replace hS := Step.transNew hS hw20.step (fun _ _ _ => by omega)
      replace hA := hA.step hw20.step (fun k hk1 hk2 (hF : k = b3) => by omega)
      replace ho1 := ho1.step hw20.step (show ¬ b1 = b3 by omega)
      replace hyS := hyS.step hw20.step (fun k hk (hF : k = b3) => by omega)
      replace ho17 := ho17.step hw20.step (show ¬ b7 = b3 by omega)
      replace hzS := hzS.step hw20.step (fun k hk (hF : k = b3) => by omega)
      replace ho23 := ho23.step hw20.step (show ¬ b9 = b3 by omega)
      replace ho25 := ho25.step hw20.step (show ¬ b10 = b3 by omega)
      replace ho29 := ho29.step hw20.step (show ¬ b11 = b3 by omega)
      replace ho30 := ho30.step hw20.step (show ¬ b2 = b3 by omega)
      have ho31 : Own w36 b3 #[.int .i64 0, .int .i64 0, .int .i64 0] 54 := Own.cast hw20.own (by kernel_rfl)
      have hzhw20 := hw20.same
      refine VL_pure 6 [2, 3, 4] [(2, .pointer (some ⟨b2, 0, none⟩)), (3, .pointer (some ⟨b3, 0, none⟩)), (4, .int .i64 (rkE zi zb))] (by kernel_rfl) rfl ?_
      refine VL_end (by kernel_rfl) ?_
      refine VQ_next ?_
      refine VC_ret ?_
      refine VQ_then_ret ?_
      refine VQ_retC2T1 (T := 52) (T2 := 54) (.agg #[.int .i64 0, .int .i64 0, .int .i64 0, .int .i64 0, .int .i64 0, .int .i64 0]) (.agg #[.int .i64 0, .int .i64 0, .int .i64 0]) (.int .i64 (rkE zi zb)) (.inr rfl) rfl rfl rfl rfl (Loads.ownL ho30 (n := 6) (by kernel_rfl) (by kernel_rfl) (by kernel_rfl)) (Loads.ownL ho31 (n := 3) (by kernel_rfl) (by kernel_rfl) (by kernel_rfl)) ?_
      have hr3 : rtE yi yb = 0 := (by first | assumption | exact Classical.not_not.1 (by assumption) | omega)
      have hr4 : rkE zi zb ≠ 0 := by assumption
      have hq := call_k (show ¬ k ≠ 5 by omega) hF hG hr3
      dsimp only at hq
      have hqn : callE k (vals l) ≠ 0 := (by rw [hq]; exact hr4)
      exact ⟨by simp only [callV_n hqn, hq], hS⟩
     ·refine VC_skip ?_
      refine VQ_next ?_
      refine VC_seq ?_
      have hs1 := drew_step w34
      have hs1z : w34.heap.size = w34.drew.heap.size := rfl
      refine VC_text [[], [], [0], [0, 1, 2], [0, 1, 2, 3]] 3 (fun x y => Step (fun k => k = b2 ∨ w34.heap.size ≤ k) x y) [2] [0, 1, 2] (by kernel_rfl) (by kernel_rfl) (by kernel_rfl) (by kernel_rfl) (fun x => Step.refl _ x) (fun h k => Step.trans h k) Step.weak ?_
      have hzs17 := hS.size
      have hzl59 := ho1.lt
      have hzl60 := ho2.lt
      have hzl61 := ho3.lt
      have hzl62 := ho17.lt
      have hzl63 := ho23.lt
      have hzl64 := ho25.lt
      have hzl65 := ho29.lt
      generalize w34.drew = w37 at hs1 hs1z ⊢
      replace hS := Step.trans hS hs1
      replace hA := hA.no hs1
      replace ho1 := ho1.no hs1
      replace ho2 := ho2.no hs1
      replace ho3 := ho3.no hs1
      replace hyS := hyS.no hs1
      replace ho17 := ho17.no hs1
      replace hzS := hzS.no hs1
      replace ho23 := ho23.no hs1
      replace ho25 := ho25.no hs1
      replace ho29 := ho29.no hs1
      refine VT_load (d := 57) (t := 52) (a := ⟨b10, 0, none⟩) (v := .agg #[.int .i64 (rtV yi yb (IntKind.wrap .i64 (List.getD yb 0 0))), .int .i64 (rtV yi yb (fld yb 0)), .int .i64 (rtV yi yb (fld yb 1)), .int .i64 (rtV yi yb (fld yb 2)), .int .i64 (rtV yi yb (fld yb 3)), .int .i64 (rtV yi yb (fld yb 4))]) (by kernel_rfl) (by kernel_rfl) ?_ ?_
      ·intro w38 hr1
       replace hS := Step.transNew hS hr1 (fun i hi hG => by (try simp only at hG); omega)
       replace hA := hA.step hr1 (fun k hk1 hk2 hG => by (try simp only at hG); omega)
       replace ho1 := ho1.step hr1 (by (try simp only); omega)
       replace ho3 := ho3.step hr1 (by (try simp only); omega)
       replace hyS := hyS.step hr1 (fun k hk hG => by (try simp only at hG); omega)
       replace ho17 := ho17.step hr1 (by (try simp only); omega)
       replace hzS := hzS.step hr1 (fun k hk hG => by (try simp only at hG); omega)
       replace ho23 := ho23.step hr1 (by (try simp only); omega)
       replace ho25 := ho25.step hr1 (by (try simp only); omega)
       replace ho29 := ho29.step hr1 (by (try simp only); omega)
       exact (Loads.ownL ho25 (n := 6) (by kernel_rfl) (by kernel_rfl) (by kernel_rfl))
      refine VT_load (d := 58) (t := 54) (a := ⟨b11, 0, none⟩) (v := .agg #[.int .i64 (rkV zi zb (fk zb 0 1)), .int .i64 (rkV zi zb (fk zb 1 2)), .int .i64 (rkV zi zb (fk zb 3 2))]) (by kernel_rfl) (by kernel_rfl) ?_ ?_
      ·intro w39 hr2
       replace hS := Step.transNew hS hr2 (fun i hi hG => by (try simp only at hG); omega)
       replace hA := hA.step hr2 (fun k hk1 hk2 hG => by (try simp only at hG); omega)
       replace ho1 := ho1.step hr2 (by (try simp only); omega)
       replace ho3 := ho3.step hr2 (by (try simp only); omega)
       replace hyS := hyS.step hr2 (fun k hk hG => by (try simp only at hG); omega)
       replace ho17 := ho17.step hr2 (by (try simp only); omega)
       replace hzS := hzS.step hr2 (fun k hk hG => by (try simp only at hG); omega)
       replace ho23 := ho23.step hr2 (by (try simp only); omega)
       replace ho25 := ho25.step hr2 (by (try simp only); omega)
       replace ho29 := ho29.step hr2 (by (try simp only); omega)
       exact (Loads.ownL ho29 (n := 3) (by kernel_rfl) (by kernel_rfl) (by kernel_rfl))
      refine VT_chain (by kernel_rfl) ?_
      intro w40 hs2
      have hzhs2 := hs2.size
      replace hS := Step.trans hS hs2
      replace hA := hA.no hs2
      replace ho1 := ho1.no hs2
      replace ho2 := ho2.no hs2
      replace ho3 := ho3.no hs2
      replace hyS := hyS.no hs2
      replace ho17 := ho17.no hs2
      replace hzS := hzS.no hs2
      replace ho23 := ho23.no hs2
      replace ho25 := ho25.no hs2
      replace ho29 := ho29.no hs2
      refine VTc_store (b := b2) (o := 0) (vs := [.int .i64 (rtV yi yb (IntKind.wrap .i64 (List.getD yb 0 0))), .int .i64 (rtV yi yb (fld yb 0)), .int .i64 (rtV yi yb (fld yb 1)), .int .i64 (rtV yi yb (fld yb 2)), .int .i64 (rtV yi yb (fld yb 3)), .int .i64 (rtV yi yb (fld yb 4))]) (by kernel_rfl) (by kernel_rfl) ho2 (Nat.le_of_ble_eq_true (by kernel_rfl)) (fun w1 hw => Step.mono hw.step (by intro i hi; (try simp only at hi ⊢); omega)) ?_
      intro w41 hw21
      replace hS := Step.transNew hS hw21.step (fun _ _ _ => by omega)
      replace hA := hA.step hw21.step (fun k hk1 hk2 (hF : k = b2) => by omega)
      replace ho1 := ho1.step hw21.step (show ¬ b1 = b2 by omega)
      replace ho3 := ho3.step hw21.step (show ¬ b3 = b2 by omega)
      replace hyS := hyS.step hw21.step (fun k hk (hF : k = b2) => by omega)
      replace ho17 := ho17.step hw21.step (show ¬ b7 = b2 by omega)
      replace hzS := hzS.step hw21.step (fun k hk (hF : k = b2) => by omega)
      replace ho23 := ho23.step hw21.step (show ¬ b9 = b2 by omega)
      replace ho25 := ho25.step hw21.step (show ¬ b10 = b2 by omega)
      replace ho29 := ho29.step hw21.step (show ¬ b11 = b2 by omega)
      have ho32 : Own w41 b2 #[.int .i64 (rtV yi yb (IntKind.wrap .i64 (List.getD yb 0 0))), .int .i64 (rtV yi yb (fld yb 0)), .int .i64 (rtV yi yb (fld yb 1)), .int .i64 (rtV yi yb (fld yb 2)), .int .i64 (rtV yi yb (fld yb 3)), .int .i64 (rtV yi yb (fld yb 4))] 52 := Own.cast hw21.own (by kernel_rfl)
      have hzhw21 := hw21.same
      refine VT_end ?_
      intro w42 hs3
      replace hS := Step.trans hS hs3
      replace hA := hA.no hs3
      replace ho1 := ho1.no hs3
      replace ho3 := ho3.no hs3
      replace hyS := hyS.no hs3
      replace ho17 := ho17.no hs3
      replace hzS := hzS.no hs3
      replace ho23 := ho23.no hs3
      replace ho25 := ho25.no hs3
      replace ho29 := ho29.no hs3
      replace ho32 := ho32.no hs3
      refine VL_keep [2, 3, 58] [(2, .pointer (some ⟨b2, 0, none⟩)), (3, .pointer (some ⟨b3, 0, none⟩)), (58, .agg #[.int .i64 (rkV zi zb (fk zb 0 1)), .int .i64 (rkV zi zb (fk zb 1 2)), .int .i64 (rkV zi zb (fk zb 3 2))])] (by kernel_rfl) ?_
      refine VL_store (b := b3) (o := 0) (vs := [.int .i64 (rkV zi zb (fk zb 0 1)), .int .i64 (rkV zi zb (fk zb 1 2)), .int .i64 (rkV zi zb (fk zb 3 2))]) (by kernel_rfl) (by kernel_rfl) ho3 (Nat.le_of_ble_eq_true (by kernel_rfl)) ?_
      intro w43 hw22
      replace hS := Step.transNew hS hw22.step (fun _ _ _ => by omega)
      replace hA := hA.step hw22.step (fun k hk1 hk2 (hF : k = b3) => by omega)
      replace ho1 := ho1.step hw22.step (show ¬ b1 = b3 by omega)
      replace hyS := hyS.step hw22.step (fun k hk (hF : k = b3) => by omega)
      replace ho17 := ho17.step hw22.step (show ¬ b7 = b3 by omega)
      replace hzS := hzS.step hw22.step (fun k hk (hF : k = b3) => by omega)
      replace ho23 := ho23.step hw22.step (show ¬ b9 = b3 by omega)
      replace ho25 := ho25.step hw22.step (show ¬ b10 = b3 by omega)
      replace ho29 := ho29.step hw22.step (show ¬ b11 = b3 by omega)
      replace ho32 := ho32.step hw22.step (show ¬ b2 = b3 by omega)
      have ho33 : Own w43 b3 #[.int .i64 (rkV zi zb (fk zb 0 1)), .int .i64 (rkV zi zb (fk zb 1 2)), .int .i64 (rkV zi zb (fk zb 3 2))] 54 := Own.cast hw22.own (by kernel_rfl)
      have hzhw22 := hw22.same
      refine VL_pure 5 [2, 3, 4] [(2, .pointer (some ⟨b2, 0, none⟩)), (3, .pointer (some ⟨b3, 0, none⟩)), (4, .int .i64 0)] (by kernel_rfl) rfl ?_
      refine VL_end (by kernel_rfl) ?_
      refine VQ_next ?_
      refine VC_ret ?_
      refine VQ_retC2T1 (T := 52) (T2 := 54) (.agg #[.int .i64 (rtV yi yb (IntKind.wrap .i64 (List.getD yb 0 0))), .int .i64 (rtV yi yb (fld yb 0)), .int .i64 (rtV yi yb (fld yb 1)), .int .i64 (rtV yi yb (fld yb 2)), .int .i64 (rtV yi yb (fld yb 3)), .int .i64 (rtV yi yb (fld yb 4))]) (.agg #[.int .i64 (rkV zi zb (fk zb 0 1)), .int .i64 (rkV zi zb (fk zb 1 2)), .int .i64 (rkV zi zb (fk zb 3 2))]) (.int .i64 0) (.inr rfl) rfl rfl rfl rfl (Loads.ownL ho32 (n := 6) (by kernel_rfl) (by kernel_rfl) (by kernel_rfl)) (Loads.ownL ho33 (n := 3) (by kernel_rfl) (by kernel_rfl) (by kernel_rfl)) ?_
      have hr3 : rtE yi yb = 0 := (by first | assumption | exact Classical.not_not.1 (by assumption) | omega)
      have hr4 : rkE zi zb = 0 := (by first | assumption | exact Classical.not_not.1 (by assumption) | omega)
      have hq := call_k (show ¬ k ≠ 5 by omega) hF hG hr3
      dsimp only at hq
      have hq0 : callE k (vals l) = 0 := by rw [hq]; exact hr4
      exact ⟨by simp only [callV_0 hq0, hq0, fstI_is hF, fstI_is hG, rtV_0 hr3, rkV_0 hr4], hS⟩

set_option maxRecDepth 100000 in
set_option maxHeartbeats 4000000 in
theorem rcall_any (r : Int) (bk : Bool) (k : Int) (A : Option Addr) (n c lo hi : Nat) (l : List IeV) (w : World) (hn : l.length = n) (hA : Ies w lo hi A l) (hlen : n ≤ 1000000) (hhi : hi ≤ w.heap.size) (hl : ∀ x ∈ l, IeB x) (hsm : ∀ x ∈ l, x.n < 1000000) :
  CV Try.prog 25 #[.agg #[.int .i64 r, .bool bk, .int .i64 k, .slice A n c]] w (fun x w1 => x = .tuple #[.agg #[.int .i64 (callV k (vals l) (IntKind.wrap .i64 ((fstI 89 (vals l)).2.getD 0 0))), .int .i64 (callV k (vals l) (fld (fstI 89 (vals l)).2 0)), .int .i64 (callV k (vals l) (fld (fstI 89 (vals l)).2 1)), .int .i64 (callV k (vals l) (fld (fstI 89 (vals l)).2 2)), .int .i64 (callV k (vals l) (fld (fstI 89 (vals l)).2 3)), .int .i64 (callV k (vals l) (fld (fstI 89 (vals l)).2 4))], .agg #[.int .i64 (callV k (vals l) (fk (fstI 90 (vals l)).2 0 1)), .int .i64 (callV k (vals l) (fk (fstI 90 (vals l)).2 1 2)), .int .i64 (callV k (vals l) (fk (fstI 90 (vals l)).2 3 2))], .int .i64 (callE k (vals l))] ∧ Step No w w1) := by
 have hS : Step No w w := Step.refl _ _
 refine CV_enter Try.f25 _ 58 [(0, .agg #[.int .i64 r, .bool bk, .int .i64 k, .slice A n c])] Try.func25 rfl rfl (by kernel_rfl) rfl ?_
 refine VC_seq ?_
 refine VC_region ?_
 have hzs1 := hS.size
 refine VL_box (d := 1) (t := 24) (c := #[.int .i64 r, .bool bk, .int .i64 k, .slice A n c]) (by kernel_rfl) (by kernel_rfl) ?_
 intro b1 w1 hn1
 replace hS := Step.trans hS (hn1.step No)
 replace hA := hA.no (hn1.step No)
 have ho1 := hn1.own
 have hzhn1 := hn1.size
 have hqhn1 := hn1.eqb
 have hzs2 := hS.size
 have hzl1 := ho1.lt
 refine VL_box (d := 2) (t := 52) (c := #[.int .i64 0, .int .i64 0, .int .i64 0, .int .i64 0, .int .i64 0, .int .i64 0]) (by kernel_rfl) (by kernel_rfl) ?_
 intro b2 w2 hn2
 replace hS := Step.trans hS (hn2.step No)
 replace hA := hA.no (hn2.step No)
 replace ho1 := ho1.no (hn2.step No)
 have ho2 := hn2.own
 have hzhn2 := hn2.size
 have hqhn2 := hn2.eqb
 have hzs3 := hS.size
 have hzl2 := ho1.lt
 have hzl3 := ho2.lt
 refine VL_box (d := 3) (t := 54) (c := #[.int .i64 0, .int .i64 0, .int .i64 0]) (by kernel_rfl) (by kernel_rfl) ?_
 intro b3 w3 hn3
 replace hS := Step.trans hS (hn3.step No)
 replace hA := hA.no (hn3.step No)
 replace ho1 := ho1.no (hn3.step No)
 replace ho2 := ho2.no (hn3.step No)
 have ho3 := hn3.own
 have hzhn3 := hn3.size
 have hqhn3 := hn3.eqb
 refine VL_pure 4 [1, 2, 3] [(1, .pointer (some ⟨b1, 0, none⟩)), (2, .pointer (some ⟨b2, 0, none⟩)), (3, .pointer (some ⟨b3, 0, none⟩))] (by kernel_rfl) rfl ?_
 refine VL_end (by kernel_rfl) ?_
 refine VQ_next ?_
 refine VC_seq ?_
 refine VC_seq ?_
 refine VC_region ?_
 refine VL_pure 1 [1, 2, 3, 13] [(1, .pointer (some ⟨b1, 0, none⟩)), (2, .pointer (some ⟨b2, 0, none⟩)), (3, .pointer (some ⟨b3, 0, none⟩)), (13, .pointer (some ⟨b1, 2, none⟩))] (by kernel_rfl) rfl ?_
 refine VL_load (d := 14) (t := 3) (a := ⟨b1, 2, none⟩) (v := .int .i64 k) (by kernel_rfl) (by kernel_rfl) (Loads.own1 ho1 (by kernel_rfl) (by rfl)) ?_
 refine VL_pure 3 [1, 2, 3, 15] [(1, .pointer (some ⟨b1, 0, none⟩)), (2, .pointer (some ⟨b2, 0, none⟩)), (3, .pointer (some ⟨b3, 0, none⟩)), (15, .bool (k != 5))] (by kernel_rfl) rfl ?_
 refine VL_end (by kernel_rfl) ?_
 refine VQ_next ?_
 refine VC_ne k 5 (by kernel_rfl) (fun h1 => ?_) (fun h1 => ?_)
 ·refine VC_seq ?_
  refine VC_region ?_
  refine VL_pure 2 [2, 3, 16, 17] [(2, .pointer (some ⟨b2, 0, none⟩)), (3, .pointer (some ⟨b3, 0, none⟩)), (16, .agg #[.int .i64 0, .int .i64 0, .int .i64 0, .int .i64 0, .int .i64 0, .int .i64 0]), (17, .agg #[.int .i64 0, .int .i64 0, .int .i64 0])] (by kernel_rfl) rfl ?_
  refine VL_store (b := b2) (o := 0) (vs := [.int .i64 0, .int .i64 0, .int .i64 0, .int .i64 0, .int .i64 0, .int .i64 0]) (by kernel_rfl) (by kernel_rfl) ho2 (Nat.le_of_ble_eq_true (by kernel_rfl)) ?_
  intro w4 hw1
  replace hS := Step.transNew hS hw1.step (fun _ _ _ => by omega)
  replace hA := hA.step hw1.step (fun k hk1 hk2 (hF : k = b2) => by omega)
  replace ho1 := ho1.step hw1.step (show ¬ b1 = b2 by omega)
  replace ho3 := ho3.step hw1.step (show ¬ b3 = b2 by omega)
  have ho4 : Own w4 b2 #[.int .i64 0, .int .i64 0, .int .i64 0, .int .i64 0, .int .i64 0, .int .i64 0] 52 := Own.cast hw1.own (by kernel_rfl)
  have hzhw1 := hw1.same
  refine VL_store (b := b3) (o := 0) (vs := [.int .i64 0, .int .i64 0, .int .i64 0]) (by kernel_rfl) (by kernel_rfl) ho3 (Nat.le_of_ble_eq_true (by kernel_rfl)) ?_
  intro w5 hw2
  replace hS := Step.transNew hS hw2.step (fun _ _ _ => by omega)
  replace hA := hA.step hw2.step (fun k hk1 hk2 (hF : k = b3) => by omega)
  replace ho1 := ho1.step hw2.step (show ¬ b1 = b3 by omega)
  replace ho4 := ho4.step hw2.step (show ¬ b2 = b3 by omega)
  have ho5 : Own w5 b3 #[.int .i64 0, .int .i64 0, .int .i64 0] 54 := Own.cast hw2.own (by kernel_rfl)
  have hzhw2 := hw2.same
  refine VL_pure 5 [2, 3, 4] [(2, .pointer (some ⟨b2, 0, none⟩)), (3, .pointer (some ⟨b3, 0, none⟩)), (4, .int .i64 12)] (by kernel_rfl) rfl ?_
  refine VL_end (by kernel_rfl) ?_
  refine VQ_next ?_
  refine VC_ret ?_
  refine VQ_then_ret ?_
  refine VQ_retC2T1 (T := 52) (T2 := 54) (.agg #[.int .i64 0, .int .i64 0, .int .i64 0, .int .i64 0, .int .i64 0, .int .i64 0]) (.agg #[.int .i64 0, .int .i64 0, .int .i64 0]) (.int .i64 12) (.inr rfl) rfl rfl rfl rfl (Loads.ownL ho4 (n := 6) (by kernel_rfl) (by kernel_rfl) (by kernel_rfl)) (Loads.ownL ho5 (n := 3) (by kernel_rfl) (by kernel_rfl) (by kernel_rfl)) ?_
  have hq := call_12 (L := vals l) (show k ≠ 5 by omega)
  have hqn : callE k (vals l) ≠ 0 := (by rw [hq]; decide)
  exact ⟨by simp only [callV_n hqn, hq], hS⟩
 ·refine VC_skip ?_
  refine VQ_next ?_
  refine VC_seq ?_
  refine VC_region ?_
  refine VL_pure 1 [1, 2, 3, 19] [(1, .pointer (some ⟨b1, 0, none⟩)), (2, .pointer (some ⟨b2, 0, none⟩)), (3, .pointer (some ⟨b3, 0, none⟩)), (19, .pointer (some ⟨b1, 3, none⟩))] (by kernel_rfl) rfl ?_
  refine VL_load (d := 20) (t := 22) (a := ⟨b1, 3, none⟩) (v := .slice A n c) (by kernel_rfl) (by kernel_rfl) (Loads.own1 ho1 (by kernel_rfl) (by rfl)) ?_
  have hzs4 := hS.size
  have hzl4 := ho1.lt
  have hzl5 := ho2.lt
  have hzl6 := ho3.lt
  refine VL_call (d := 21) (f := 46) (args := #[.slice A n c, .int .u8 89]) (by kernel_rfl) (by kernel_rfl) (by kernel_rfl) Try.call46 (rfind_any A n c lo hi l _ hn hA 89 (by omega) (by first | exact Nat.le_refl _ | omega)) ?_
  rintro _ w6 ⟨(⟨hF, rfl⟩ | ⟨⟨yi, yA, yn, yc, yb⟩, hF, rfl⟩), hc1⟩
  ·replace hS := Step.trans hS hc1
   replace hA := hA.no hc1
   replace ho1 := ho1.no hc1
   replace ho2 := ho2.no hc1
   replace ho3 := ho3.no hc1
   refine VL_pure 6 [1, 2, 3, 22, 23] [(1, .pointer (some ⟨b1, 0, none⟩)), (2, .pointer (some ⟨b2, 0, none⟩)), (3, .pointer (some ⟨b3, 0, none⟩)), (22, .agg #[.int .u8 0, .slice none 0 0]), (23, .bool false)] (by kernel_rfl) rfl ?_
   have hzs5 := hS.size
   have hzl7 := ho1.lt
   have hzl8 := ho2.lt
   have hzl9 := ho3.lt
   refine VL_box (d := 5) (t := 60) (c := #[.int .u8 0, .slice none 0 0]) (by kernel_rfl) (by kernel_rfl) ?_
   intro b4 w7 hn4
   replace hS := Step.trans hS (hn4.step No)
   replace hA := hA.no (hn4.step No)
   replace ho1 := ho1.no (hn4.step No)
   replace ho2 := ho2.no (hn4.step No)
   replace ho3 := ho3.no (hn4.step No)
   have ho6 := hn4.own
   have hzhn4 := hn4.size
   have hqhn4 := hn4.eqb
   refine VL_store (b := b4) (o := 0) (vs := [.int .u8 0, .slice none 0 0]) (by kernel_rfl) (by kernel_rfl) ho6 (Nat.le_of_ble_eq_true (by kernel_rfl)) ?_
   intro w8 hw3
   replace hS := Step.transNew hS hw3.step (fun _ _ _ => by omega)
   replace hA := hA.step hw3.step (fun k hk1 hk2 (hF : k = b4) => by omega)
   replace ho1 := ho1.step hw3.step (show ¬ b1 = b4 by omega)
   replace ho2 := ho2.step hw3.step (show ¬ b2 = b4 by omega)
   replace ho3 := ho3.step hw3.step (show ¬ b3 = b4 by omega)
   have ho7 : Own w8 b4 #[.int .u8 0, .slice none 0 0] 60 := Own.cast hw3.own (by kernel_rfl)
   have hzhw3 := hw3.same
   refine VL_pure 9 [1, 2, 3, 5, 6] [(1, .pointer (some ⟨b1, 0, none⟩)), (2, .pointer (some ⟨b2, 0, none⟩)), (3, .pointer (some ⟨b3, 0, none⟩)), (5, .pointer (some ⟨b4, 0, none⟩)), (6, .bool false)] (by kernel_rfl) rfl ?_
   refine VL_end (by kernel_rfl) ?_
   refine VQ_next ?_
   refine VC_seq ?_
   refine VC_region ?_
   refine VL_pure 1 [2, 3, 5, 6, 25] [(2, .pointer (some ⟨b2, 0, none⟩)), (3, .pointer (some ⟨b3, 0, none⟩)), (5, .pointer (some ⟨b4, 0, none⟩)), (6, .bool false), (25, .pointer (some ⟨b1, 3, none⟩))] (by kernel_rfl) rfl ?_
   refine VL_load (d := 26) (t := 22) (a := ⟨b1, 3, none⟩) (v := .slice A n c) (by kernel_rfl) (by kernel_rfl) (Loads.own1 ho1 (by kernel_rfl) (by rfl)) ?_
   have hzs6 := hS.size
   have hzl10 := ho1.lt
   have hzl11 := ho2.lt
   have hzl12 := ho3.lt
   have hzl13 := ho7.lt
   refine VL_call (d := 27) (f := 46) (args := #[.slice A n c, .int .u8 90]) (by kernel_rfl) (by kernel_rfl) (by kernel_rfl) Try.call46 (rfind_any A n c lo hi l _ hn hA 90 (by omega) (by first | exact Nat.le_refl _ | omega)) ?_
   rintro _ w9 ⟨(⟨hG, rfl⟩ | ⟨⟨zi, zA, zn, zc, zb⟩, hG, rfl⟩), hc2⟩
   ·replace hS := Step.trans hS hc2
    replace hA := hA.no hc2
    replace ho1 := ho1.no hc2
    replace ho2 := ho2.no hc2
    replace ho3 := ho3.no hc2
    replace ho7 := ho7.no hc2
    refine VL_pure 6 [2, 3, 5, 6, 28, 29] [(2, .pointer (some ⟨b2, 0, none⟩)), (3, .pointer (some ⟨b3, 0, none⟩)), (5, .pointer (some ⟨b4, 0, none⟩)), (6, .bool false), (28, .agg #[.int .u8 0, .slice none 0 0]), (29, .bool false)] (by kernel_rfl) rfl ?_
    have hzs7 := hS.size
    have hzl14 := ho1.lt
    have hzl15 := ho2.lt
    have hzl16 := ho3.lt
    have hzl17 := ho7.lt
    refine VL_box (d := 7) (t := 60) (c := #[.int .u8 0, .slice none 0 0]) (by kernel_rfl) (by kernel_rfl) ?_
    intro b5 w10 hn5
    replace hS := Step.trans hS (hn5.step No)
    replace hA := hA.no (hn5.step No)
    replace ho1 := ho1.no (hn5.step No)
    replace ho2 := ho2.no (hn5.step No)
    replace ho3 := ho3.no (hn5.step No)
    replace ho7 := ho7.no (hn5.step No)
    have ho8 := hn5.own
    have hzhn5 := hn5.size
    have hqhn5 := hn5.eqb
    refine VL_store (b := b5) (o := 0) (vs := [.int .u8 0, .slice none 0 0]) (by kernel_rfl) (by kernel_rfl) ho8 (Nat.le_of_ble_eq_true (by kernel_rfl)) ?_
    intro w11 hw4
    replace hS := Step.transNew hS hw4.step (fun _ _ _ => by omega)
    replace hA := hA.step hw4.step (fun k hk1 hk2 (hF : k = b5) => by omega)
    replace ho1 := ho1.step hw4.step (show ¬ b1 = b5 by omega)
    replace ho2 := ho2.step hw4.step (show ¬ b2 = b5 by omega)
    replace ho3 := ho3.step hw4.step (show ¬ b3 = b5 by omega)
    replace ho7 := ho7.step hw4.step (show ¬ b4 = b5 by omega)
    have ho9 : Own w11 b5 #[.int .u8 0, .slice none 0 0] 60 := Own.cast hw4.own (by kernel_rfl)
    have hzhw4 := hw4.same
    refine VL_pure 9 [2, 3, 5, 6, 7, 8] [(2, .pointer (some ⟨b2, 0, none⟩)), (3, .pointer (some ⟨b3, 0, none⟩)), (5, .pointer (some ⟨b4, 0, none⟩)), (6, .bool false), (7, .pointer (some ⟨b5, 0, none⟩)), (8, .bool false)] (by kernel_rfl) rfl ?_
    refine VL_end (by kernel_rfl) ?_
    refine VQ_next ?_
    refine VC_seq ?_
    refine VC_seq ?_
    refine VC_region ?_
    refine VL_pure 6 [2, 3, 5, 7, 35] [(2, .pointer (some ⟨b2, 0, none⟩)), (3, .pointer (some ⟨b3, 0, none⟩)), (5, .pointer (some ⟨b4, 0, none⟩)), (7, .pointer (some ⟨b5, 0, none⟩)), (35, .bool true)] (by kernel_rfl) rfl ?_
    refine VL_end (by kernel_rfl) ?_
    refine VQ_next ?_
    refine VC_true (by kernel_rfl) ?_
    refine VC_seq ?_
    refine VC_region ?_
    refine VL_pure 2 [2, 3, 36, 37] [(2, .pointer (some ⟨b2, 0, none⟩)), (3, .pointer (some ⟨b3, 0, none⟩)), (36, .agg #[.int .i64 0, .int .i64 0, .int .i64 0, .int .i64 0, .int .i64 0, .int .i64 0]), (37, .agg #[.int .i64 0, .int .i64 0, .int .i64 0])] (by kernel_rfl) rfl ?_
    refine VL_store (b := b2) (o := 0) (vs := [.int .i64 0, .int .i64 0, .int .i64 0, .int .i64 0, .int .i64 0, .int .i64 0]) (by kernel_rfl) (by kernel_rfl) ho2 (Nat.le_of_ble_eq_true (by kernel_rfl)) ?_
    intro w12 hw5
    replace hS := Step.transNew hS hw5.step (fun _ _ _ => by omega)
    replace hA := hA.step hw5.step (fun k hk1 hk2 (hF : k = b2) => by omega)
    replace ho1 := ho1.step hw5.step (show ¬ b1 = b2 by omega)
    replace ho3 := ho3.step hw5.step (show ¬ b3 = b2 by omega)
    replace ho7 := ho7.step hw5.step (show ¬ b4 = b2 by omega)
    replace ho9 := ho9.step hw5.step (show ¬ b5 = b2 by omega)
    have ho10 : Own w12 b2 #[.int .i64 0, .int .i64 0, .int .i64 0, .int .i64 0, .int .i64 0, .int .i64 0] 52 := Own.cast hw5.own (by kernel_rfl)
    have hzhw5 := hw5.same
    refine VL_store (b := b3) (o := 0) (vs := [.int .i64 0, .int .i64 0, .int .i64 0]) (by kernel_rfl) (by kernel_rfl) ho3 (Nat.le_of_ble_eq_true (by kernel_rfl)) ?_
    intro w13 hw6
    replace hS := Step.transNew hS hw6.step (fun _ _ _ => by omega)
    replace hA := hA.step hw6.step (fun k hk1 hk2 (hF : k = b3) => by omega)
    replace ho1 := ho1.step hw6.step (show ¬ b1 = b3 by omega)
    replace ho7 := ho7.step hw6.step (show ¬ b4 = b3 by omega)
    replace ho9 := ho9.step hw6.step (show ¬ b5 = b3 by omega)
    replace ho10 := ho10.step hw6.step (show ¬ b2 = b3 by omega)
    have ho11 : Own w13 b3 #[.int .i64 0, .int .i64 0, .int .i64 0] 54 := Own.cast hw6.own (by kernel_rfl)
    have hzhw6 := hw6.same
    refine VL_pure 5 [2, 3, 4] [(2, .pointer (some ⟨b2, 0, none⟩)), (3, .pointer (some ⟨b3, 0, none⟩)), (4, .int .i64 8)] (by kernel_rfl) rfl ?_
    refine VL_end (by kernel_rfl) ?_
    refine VQ_next ?_
    refine VC_ret ?_
    refine VQ_then_ret ?_
    refine VQ_retC2T1 (T := 52) (T2 := 54) (.agg #[.int .i64 0, .int .i64 0, .int .i64 0, .int .i64 0, .int .i64 0, .int .i64 0]) (.agg #[.int .i64 0, .int .i64 0, .int .i64 0]) (.int .i64 8) (.inr rfl) rfl rfl rfl rfl (Loads.ownL ho10 (n := 6) (by kernel_rfl) (by kernel_rfl) (by kernel_rfl)) (Loads.ownL ho11 (n := 3) (by kernel_rfl) (by kernel_rfl) (by kernel_rfl)) ?_
    have hq : callE k (vals l) = 8 := call_8a (show ¬ k ≠ 5 by omega) hF
    have hqn : callE k (vals l) ≠ 0 := (by rw [hq]; decide)
    exact ⟨by simp only [callV_n hqn, hq], hS⟩
   ·replace hS := Step.trans hS hc2
    replace hA := hA.no hc2
    replace ho1 := ho1.no hc2
    replace ho2 := ho2.no hc2
    replace ho3 := ho3.no hc2
    replace ho7 := ho7.no hc2
    have hzl := (find_in hG).1
    have hzn : zb.length = zn := (hA.all _ hzl).len
    have hzs : zn < 1000000 := hsm _ hzl
    have hzc : zn ≤ zc := (hA.all _ hzl).cap
    have hzS : Sl w9 hi zA (iL .u8 zb) := (hA.all _ hzl).sl.sl
    have hzB : Bytes zb := (hl _ hzl).2
    dsimp only
    refine VL_pure 6 [2, 3, 5, 6, 28, 29] [(2, .pointer (some ⟨b2, 0, none⟩)), (3, .pointer (some ⟨b3, 0, none⟩)), (5, .pointer (some ⟨b4, 0, none⟩)), (6, .bool false), (28, .agg #[.int .u8 zi, .slice zA zn zc]), (29, .bool true)] (by kernel_rfl) rfl ?_
    have hzs8 := hS.size
    have hzl18 := ho1.lt
    have hzl19 := ho2.lt
    have hzl20 := ho3.lt
    have hzl21 := ho7.lt
    refine VL_box (d := 7) (t := 60) (c := #[.int .u8 0, .slice none 0 0]) (by kernel_rfl) (by kernel_rfl) ?_
    intro b6 w14 hn6
    replace hS := Step.trans hS (hn6.step No)
    replace hA := hA.no (hn6.step No)
    replace ho1 := ho1.no (hn6.step No)
    replace ho2 := ho2.no (hn6.step No)
    replace ho3 := ho3.no (hn6.step No)
    replace ho7 := ho7.no (hn6.step No)
    replace hzS := hzS.no (hn6.step No)
    have ho12 := hn6.own
    have hzhn6 := hn6.size
    have hqhn6 := hn6.eqb
    refine VL_store (b := b6) (o := 0) (vs := [.int .u8 zi, .slice zA zn zc]) (by kernel_rfl) (by kernel_rfl) ho12 (Nat.le_of_ble_eq_true (by kernel_rfl)) ?_
    intro w15 hw7
    replace hS := Step.transNew hS hw7.step (fun _ _ _ => by omega)
    replace hA := hA.step hw7.step (fun k hk1 hk2 (hF : k = b6) => by omega)
    replace ho1 := ho1.step hw7.step (show ¬ b1 = b6 by omega)
    replace ho2 := ho2.step hw7.step (show ¬ b2 = b6 by omega)
    replace ho3 := ho3.step hw7.step (show ¬ b3 = b6 by omega)
    replace ho7 := ho7.step hw7.step (show ¬ b4 = b6 by omega)
    replace hzS := hzS.step hw7.step (fun k hk (hF : k = b6) => by omega)
    have ho13 : Own w15 b6 #[.int .u8 zi, .slice zA zn zc] 60 := Own.cast hw7.own (by kernel_rfl)
    have hzhw7 := hw7.same
    refine VL_pure 9 [2, 3, 5, 6, 7, 8] [(2, .pointer (some ⟨b2, 0, none⟩)), (3, .pointer (some ⟨b3, 0, none⟩)), (5, .pointer (some ⟨b4, 0, none⟩)), (6, .bool false), (7, .pointer (some ⟨b6, 0, none⟩)), (8, .bool true)] (by kernel_rfl) rfl ?_
    refine VL_end (by kernel_rfl) ?_
    refine VQ_next ?_
    refine VC_seq ?_
    refine VC_seq ?_
    refine VC_region ?_
    refine VL_pure 6 [2, 3, 5, 7, 35] [(2, .pointer (some ⟨b2, 0, none⟩)), (3, .pointer (some ⟨b3, 0, none⟩)), (5, .pointer (some ⟨b4, 0, none⟩)), (7, .pointer (some ⟨b6, 0, none⟩)), (35, .bool true)] (by kernel_rfl) rfl ?_
    refine VL_end (by kernel_rfl) ?_
    refine VQ_next ?_
    refine VC_true (by kernel_rfl) ?_
    refine VC_seq ?_
    refine VC_region ?_
    refine VL_pure 2 [2, 3, 36, 37] [(2, .pointer (some ⟨b2, 0, none⟩)), (3, .pointer (some ⟨b3, 0, none⟩)), (36, .agg #[.int .i64 0, .int .i64 0, .int .i64 0, .int .i64 0, .int .i64 0, .int .i64 0]), (37, .agg #[.int .i64 0, .int .i64 0, .int .i64 0])] (by kernel_rfl) rfl ?_
    refine VL_store (b := b2) (o := 0) (vs := [.int .i64 0, .int .i64 0, .int .i64 0, .int .i64 0, .int .i64 0, .int .i64 0]) (by kernel_rfl) (by kernel_rfl) ho2 (Nat.le_of_ble_eq_true (by kernel_rfl)) ?_
    intro w16 hw8
    replace hS := Step.transNew hS hw8.step (fun _ _ _ => by omega)
    replace hA := hA.step hw8.step (fun k hk1 hk2 (hF : k = b2) => by omega)
    replace ho1 := ho1.step hw8.step (show ¬ b1 = b2 by omega)
    replace ho3 := ho3.step hw8.step (show ¬ b3 = b2 by omega)
    replace ho7 := ho7.step hw8.step (show ¬ b4 = b2 by omega)
    replace hzS := hzS.step hw8.step (fun k hk (hF : k = b2) => by omega)
    replace ho13 := ho13.step hw8.step (show ¬ b6 = b2 by omega)
    have ho14 : Own w16 b2 #[.int .i64 0, .int .i64 0, .int .i64 0, .int .i64 0, .int .i64 0, .int .i64 0] 52 := Own.cast hw8.own (by kernel_rfl)
    have hzhw8 := hw8.same
    refine VL_store (b := b3) (o := 0) (vs := [.int .i64 0, .int .i64 0, .int .i64 0]) (by kernel_rfl) (by kernel_rfl) ho3 (Nat.le_of_ble_eq_true (by kernel_rfl)) ?_
    intro w17 hw9
    replace hS := Step.transNew hS hw9.step (fun _ _ _ => by omega)
    replace hA := hA.step hw9.step (fun k hk1 hk2 (hF : k = b3) => by omega)
    replace ho1 := ho1.step hw9.step (show ¬ b1 = b3 by omega)
    replace ho7 := ho7.step hw9.step (show ¬ b4 = b3 by omega)
    replace hzS := hzS.step hw9.step (fun k hk (hF : k = b3) => by omega)
    replace ho13 := ho13.step hw9.step (show ¬ b6 = b3 by omega)
    replace ho14 := ho14.step hw9.step (show ¬ b2 = b3 by omega)
    have ho15 : Own w17 b3 #[.int .i64 0, .int .i64 0, .int .i64 0] 54 := Own.cast hw9.own (by kernel_rfl)
    have hzhw9 := hw9.same
    refine VL_pure 5 [2, 3, 4] [(2, .pointer (some ⟨b2, 0, none⟩)), (3, .pointer (some ⟨b3, 0, none⟩)), (4, .int .i64 8)] (by kernel_rfl) rfl ?_
    refine VL_end (by kernel_rfl) ?_
    refine VQ_next ?_
    refine VC_ret ?_
    refine VQ_then_ret ?_
    refine VQ_retC2T1 (T := 52) (T2 := 54) (.agg #[.int .i64 0, .int .i64 0, .int .i64 0, .int .i64 0, .int .i64 0, .int .i64 0]) (.agg #[.int .i64 0, .int .i64 0, .int .i64 0]) (.int .i64 8) (.inr rfl) rfl rfl rfl rfl (Loads.ownL ho14 (n := 6) (by kernel_rfl) (by kernel_rfl) (by kernel_rfl)) (Loads.ownL ho15 (n := 3) (by kernel_rfl) (by kernel_rfl) (by kernel_rfl)) ?_
    have hq : callE k (vals l) = 8 := call_8a (show ¬ k ≠ 5 by omega) hF
    have hqn : callE k (vals l) ≠ 0 := (by rw [hq]; decide)
    exact ⟨by simp only [callV_n hqn, hq], hS⟩
  ·replace hS := Step.trans hS hc1
   replace hA := hA.no hc1
   replace ho1 := ho1.no hc1
   replace ho2 := ho2.no hc1
   replace ho3 := ho3.no hc1
   have hyl := (find_in hF).1
   have hyn : yb.length = yn := (hA.all _ hyl).len
   have hys : yn < 1000000 := hsm _ hyl
   have hyc : yn ≤ yc := (hA.all _ hyl).cap
   have hyS : Sl w6 hi yA (iL .u8 yb) := (hA.all _ hyl).sl.sl
   have hyB : Bytes yb := (hl _ hyl).2
   dsimp only
   refine VL_pure 6 [1, 2, 3, 22, 23] [(1, .pointer (some ⟨b1, 0, none⟩)), (2, .pointer (some ⟨b2, 0, none⟩)), (3, .pointer (some ⟨b3, 0, none⟩)), (22, .agg #[.int .u8 yi, .slice yA yn yc]), (23, .bool true)] (by kernel_rfl) rfl ?_
   have hzs9 := hS.size
   have hzl22 := ho1.lt
   have hzl23 := ho2.lt
   have hzl24 := ho3.lt
   refine VL_box (d := 5) (t := 60) (c := #[.int .u8 0, .slice none 0 0]) (by kernel_rfl) (by kernel_rfl) ?_
   intro b7 w18 hn7
   replace hS := Step.trans hS (hn7.step No)
   replace hA := hA.no (hn7.step No)
   replace ho1 := ho1.no (hn7.step No)
   replace ho2 := ho2.no (hn7.step No)
   replace ho3 := ho3.no (hn7.step No)
   replace hyS := hyS.no (hn7.step No)
   have ho16 := hn7.own
   have hzhn7 := hn7.size
   have hqhn7 := hn7.eqb
   refine VL_store (b := b7) (o := 0) (vs := [.int .u8 yi, .slice yA yn yc]) (by kernel_rfl) (by kernel_rfl) ho16 (Nat.le_of_ble_eq_true (by kernel_rfl)) ?_
   intro w19 hw10
   replace hS := Step.transNew hS hw10.step (fun _ _ _ => by omega)
   replace hA := hA.step hw10.step (fun k hk1 hk2 (hF : k = b7) => by omega)
   replace ho1 := ho1.step hw10.step (show ¬ b1 = b7 by omega)
   replace ho2 := ho2.step hw10.step (show ¬ b2 = b7 by omega)
   replace ho3 := ho3.step hw10.step (show ¬ b3 = b7 by omega)
   replace hyS := hyS.step hw10.step (fun k hk (hF : k = b7) => by omega)
   have ho17 : Own w19 b7 #[.int .u8 yi, .slice yA yn yc] 60 := Own.cast hw10.own (by kernel_rfl)
   have hzhw10 := hw10.same
   refine VL_pure 9 [1, 2, 3, 5, 6] [(1, .pointer (some ⟨b1, 0, none⟩)), (2, .pointer (some ⟨b2, 0, none⟩)), (3, .pointer (some ⟨b3, 0, none⟩)), (5, .pointer (some ⟨b7, 0, none⟩)), (6, .bool true)] (by kernel_rfl) rfl ?_
   refine VL_end (by kernel_rfl) ?_
   refine VQ_next ?_
   refine VC_seq ?_
   refine VC_region ?_
   refine VL_pure 1 [2, 3, 5, 6, 25] [(2, .pointer (some ⟨b2, 0, none⟩)), (3, .pointer (some ⟨b3, 0, none⟩)), (5, .pointer (some ⟨b7, 0, none⟩)), (6, .bool true), (25, .pointer (some ⟨b1, 3, none⟩))] (by kernel_rfl) rfl ?_
   refine VL_load (d := 26) (t := 22) (a := ⟨b1, 3, none⟩) (v := .slice A n c) (by kernel_rfl) (by kernel_rfl) (Loads.own1 ho1 (by kernel_rfl) (by rfl)) ?_
   have hzs10 := hS.size
   have hzl25 := ho1.lt
   have hzl26 := ho2.lt
   have hzl27 := ho3.lt
   have hzl28 := ho17.lt
   refine VL_call (d := 27) (f := 46) (args := #[.slice A n c, .int .u8 90]) (by kernel_rfl) (by kernel_rfl) (by kernel_rfl) Try.call46 (rfind_any A n c lo hi l _ hn hA 90 (by omega) (by first | exact Nat.le_refl _ | omega)) ?_
   rintro _ w20 ⟨(⟨hG, rfl⟩ | ⟨⟨zi, zA, zn, zc, zb⟩, hG, rfl⟩), hc3⟩
   ·replace hS := Step.trans hS hc3
    replace hA := hA.no hc3
    replace ho1 := ho1.no hc3
    replace ho2 := ho2.no hc3
    replace ho3 := ho3.no hc3
    replace hyS := hyS.no hc3
    replace ho17 := ho17.no hc3
    refine VL_pure 6 [2, 3, 5, 6, 28, 29] [(2, .pointer (some ⟨b2, 0, none⟩)), (3, .pointer (some ⟨b3, 0, none⟩)), (5, .pointer (some ⟨b7, 0, none⟩)), (6, .bool true), (28, .agg #[.int .u8 0, .slice none 0 0]), (29, .bool false)] (by kernel_rfl) rfl ?_
    have hzs11 := hS.size
    have hzl29 := ho1.lt
    have hzl30 := ho2.lt
    have hzl31 := ho3.lt
    have hzl32 := ho17.lt
    refine VL_box (d := 7) (t := 60) (c := #[.int .u8 0, .slice none 0 0]) (by kernel_rfl) (by kernel_rfl) ?_
    intro b8 w21 hn8
    replace hS := Step.trans hS (hn8.step No)
    replace hA := hA.no (hn8.step No)
    replace ho1 := ho1.no (hn8.step No)
    replace ho2 := ho2.no (hn8.step No)
    replace ho3 := ho3.no (hn8.step No)
    replace hyS := hyS.no (hn8.step No)
    replace ho17 := ho17.no (hn8.step No)
    have ho18 := hn8.own
    have hzhn8 := hn8.size
    have hqhn8 := hn8.eqb
    refine VL_store (b := b8) (o := 0) (vs := [.int .u8 0, .slice none 0 0]) (by kernel_rfl) (by kernel_rfl) ho18 (Nat.le_of_ble_eq_true (by kernel_rfl)) ?_
    intro w22 hw11
    replace hS := Step.transNew hS hw11.step (fun _ _ _ => by omega)
    replace hA := hA.step hw11.step (fun k hk1 hk2 (hF : k = b8) => by omega)
    replace ho1 := ho1.step hw11.step (show ¬ b1 = b8 by omega)
    replace ho2 := ho2.step hw11.step (show ¬ b2 = b8 by omega)
    replace ho3 := ho3.step hw11.step (show ¬ b3 = b8 by omega)
    replace hyS := hyS.step hw11.step (fun k hk (hF : k = b8) => by omega)
    replace ho17 := ho17.step hw11.step (show ¬ b7 = b8 by omega)
    have ho19 : Own w22 b8 #[.int .u8 0, .slice none 0 0] 60 := Own.cast hw11.own (by kernel_rfl)
    have hzhw11 := hw11.same
    refine VL_pure 9 [2, 3, 5, 6, 7, 8] [(2, .pointer (some ⟨b2, 0, none⟩)), (3, .pointer (some ⟨b3, 0, none⟩)), (5, .pointer (some ⟨b7, 0, none⟩)), (6, .bool true), (7, .pointer (some ⟨b8, 0, none⟩)), (8, .bool false)] (by kernel_rfl) rfl ?_
    refine VL_end (by kernel_rfl) ?_
    refine VQ_next ?_
    refine VC_seq ?_
    refine VC_seq ?_
    refine VC_region ?_
    refine VL_pure 6 [2, 3, 5, 7, 35] [(2, .pointer (some ⟨b2, 0, none⟩)), (3, .pointer (some ⟨b3, 0, none⟩)), (5, .pointer (some ⟨b7, 0, none⟩)), (7, .pointer (some ⟨b8, 0, none⟩)), (35, .bool true)] (by kernel_rfl) rfl ?_
    refine VL_end (by kernel_rfl) ?_
    refine VQ_next ?_
    refine VC_true (by kernel_rfl) ?_
    refine VC_seq ?_
    refine VC_region ?_
    refine VL_pure 2 [2, 3, 36, 37] [(2, .pointer (some ⟨b2, 0, none⟩)), (3, .pointer (some ⟨b3, 0, none⟩)), (36, .agg #[.int .i64 0, .int .i64 0, .int .i64 0, .int .i64 0, .int .i64 0, .int .i64 0]), (37, .agg #[.int .i64 0, .int .i64 0, .int .i64 0])] (by kernel_rfl) rfl ?_
    refine VL_store (b := b2) (o := 0) (vs := [.int .i64 0, .int .i64 0, .int .i64 0, .int .i64 0, .int .i64 0, .int .i64 0]) (by kernel_rfl) (by kernel_rfl) ho2 (Nat.le_of_ble_eq_true (by kernel_rfl)) ?_
    intro w23 hw12
    replace hS := Step.transNew hS hw12.step (fun _ _ _ => by omega)
    replace hA := hA.step hw12.step (fun k hk1 hk2 (hF : k = b2) => by omega)
    replace ho1 := ho1.step hw12.step (show ¬ b1 = b2 by omega)
    replace ho3 := ho3.step hw12.step (show ¬ b3 = b2 by omega)
    replace hyS := hyS.step hw12.step (fun k hk (hF : k = b2) => by omega)
    replace ho17 := ho17.step hw12.step (show ¬ b7 = b2 by omega)
    replace ho19 := ho19.step hw12.step (show ¬ b8 = b2 by omega)
    have ho20 : Own w23 b2 #[.int .i64 0, .int .i64 0, .int .i64 0, .int .i64 0, .int .i64 0, .int .i64 0] 52 := Own.cast hw12.own (by kernel_rfl)
    have hzhw12 := hw12.same
    refine VL_store (b := b3) (o := 0) (vs := [.int .i64 0, .int .i64 0, .int .i64 0]) (by kernel_rfl) (by kernel_rfl) ho3 (Nat.le_of_ble_eq_true (by kernel_rfl)) ?_
    intro w24 hw13
    replace hS := Step.transNew hS hw13.step (fun _ _ _ => by omega)
    replace hA := hA.step hw13.step (fun k hk1 hk2 (hF : k = b3) => by omega)
    replace ho1 := ho1.step hw13.step (show ¬ b1 = b3 by omega)
    replace hyS := hyS.step hw13.step (fun k hk (hF : k = b3) => by omega)
    replace ho17 := ho17.step hw13.step (show ¬ b7 = b3 by omega)
    replace ho19 := ho19.step hw13.step (show ¬ b8 = b3 by omega)
    replace ho20 := ho20.step hw13.step (show ¬ b2 = b3 by omega)
    have ho21 : Own w24 b3 #[.int .i64 0, .int .i64 0, .int .i64 0] 54 := Own.cast hw13.own (by kernel_rfl)
    have hzhw13 := hw13.same
    refine VL_pure 5 [2, 3, 4] [(2, .pointer (some ⟨b2, 0, none⟩)), (3, .pointer (some ⟨b3, 0, none⟩)), (4, .int .i64 8)] (by kernel_rfl) rfl ?_
    refine VL_end (by kernel_rfl) ?_
    refine VQ_next ?_
    refine VC_ret ?_
    refine VQ_then_ret ?_
    refine VQ_retC2T1 (T := 52) (T2 := 54) (.agg #[.int .i64 0, .int .i64 0, .int .i64 0, .int .i64 0, .int .i64 0, .int .i64 0]) (.agg #[.int .i64 0, .int .i64 0, .int .i64 0]) (.int .i64 8) (.inr rfl) rfl rfl rfl rfl (Loads.ownL ho20 (n := 6) (by kernel_rfl) (by kernel_rfl) (by kernel_rfl)) (Loads.ownL ho21 (n := 3) (by kernel_rfl) (by kernel_rfl) (by kernel_rfl)) ?_
    have hq : callE k (vals l) = 8 := call_8b (show ¬ k ≠ 5 by omega) hG
    have hqn : callE k (vals l) ≠ 0 := (by rw [hq]; decide)
    exact ⟨by simp only [callV_n hqn, hq], hS⟩
   ·replace hS := Step.trans hS hc3
    replace hA := hA.no hc3
    replace ho1 := ho1.no hc3
    replace ho2 := ho2.no hc3
    replace ho3 := ho3.no hc3
    replace hyS := hyS.no hc3
    replace ho17 := ho17.no hc3
    have hzl := (find_in hG).1
    have hzn : zb.length = zn := (hA.all _ hzl).len
    have hzs : zn < 1000000 := hsm _ hzl
    have hzc : zn ≤ zc := (hA.all _ hzl).cap
    have hzS : Sl w20 hi zA (iL .u8 zb) := (hA.all _ hzl).sl.sl
    have hzB : Bytes zb := (hl _ hzl).2
    dsimp only
    refine VL_pure 6 [2, 3, 5, 6, 28, 29] [(2, .pointer (some ⟨b2, 0, none⟩)), (3, .pointer (some ⟨b3, 0, none⟩)), (5, .pointer (some ⟨b7, 0, none⟩)), (6, .bool true), (28, .agg #[.int .u8 zi, .slice zA zn zc]), (29, .bool true)] (by kernel_rfl) rfl ?_
    have hzs12 := hS.size
    have hzl33 := ho1.lt
    have hzl34 := ho2.lt
    have hzl35 := ho3.lt
    have hzl36 := ho17.lt
    refine VL_box (d := 7) (t := 60) (c := #[.int .u8 0, .slice none 0 0]) (by kernel_rfl) (by kernel_rfl) ?_
    intro b9 w25 hn9
    replace hS := Step.trans hS (hn9.step No)
    replace hA := hA.no (hn9.step No)
    replace ho1 := ho1.no (hn9.step No)
    replace ho2 := ho2.no (hn9.step No)
    replace ho3 := ho3.no (hn9.step No)
    replace hyS := hyS.no (hn9.step No)
    replace ho17 := ho17.no (hn9.step No)
    replace hzS := hzS.no (hn9.step No)
    have ho22 := hn9.own
    have hzhn9 := hn9.size
    have hqhn9 := hn9.eqb
    refine VL_store (b := b9) (o := 0) (vs := [.int .u8 zi, .slice zA zn zc]) (by kernel_rfl) (by kernel_rfl) ho22 (Nat.le_of_ble_eq_true (by kernel_rfl)) ?_
    intro w26 hw14
    replace hS := Step.transNew hS hw14.step (fun _ _ _ => by omega)
    replace hA := hA.step hw14.step (fun k hk1 hk2 (hF : k = b9) => by omega)
    replace ho1 := ho1.step hw14.step (show ¬ b1 = b9 by omega)
    replace ho2 := ho2.step hw14.step (show ¬ b2 = b9 by omega)
    replace ho3 := ho3.step hw14.step (show ¬ b3 = b9 by omega)
    replace hyS := hyS.step hw14.step (fun k hk (hF : k = b9) => by omega)
    replace ho17 := ho17.step hw14.step (show ¬ b7 = b9 by omega)
    replace hzS := hzS.step hw14.step (fun k hk (hF : k = b9) => by omega)
    have ho23 : Own w26 b9 #[.int .u8 zi, .slice zA zn zc] 60 := Own.cast hw14.own (by kernel_rfl)
    have hzhw14 := hw14.same
    refine VL_pure 9 [2, 3, 5, 6, 7, 8] [(2, .pointer (some ⟨b2, 0, none⟩)), (3, .pointer (some ⟨b3, 0, none⟩)), (5, .pointer (some ⟨b7, 0, none⟩)), (6, .bool true), (7, .pointer (some ⟨b9, 0, none⟩)), (8, .bool true)] (by kernel_rfl) rfl ?_
    refine VL_end (by kernel_rfl) ?_
    refine VQ_next ?_
    refine VC_seq ?_
    refine VC_seq ?_
    refine VC_region ?_
    refine VL_pure 6 [2, 3, 5, 7, 35] [(2, .pointer (some ⟨b2, 0, none⟩)), (3, .pointer (some ⟨b3, 0, none⟩)), (5, .pointer (some ⟨b7, 0, none⟩)), (7, .pointer (some ⟨b9, 0, none⟩)), (35, .bool false)] (by kernel_rfl) rfl ?_
    refine VL_end (by kernel_rfl) ?_
    refine VQ_next ?_
    refine VC_false (by kernel_rfl) ?_
    refine VC_skip ?_
    refine VQ_next ?_
    refine VC_seq ?_
    refine VC_region ?_
    refine VL_load (d := 39) (t := 60) (a := ⟨b7, 0, none⟩) (v := .agg #[.int .u8 yi, .slice yA yn yc]) (by kernel_rfl) (by kernel_rfl) (Loads.ownL ho17 (n := 2) (by kernel_rfl) (by kernel_rfl) (by kernel_rfl)) ?_
    have hzs13 := hS.size
    have hzl37 := ho1.lt
    have hzl38 := ho2.lt
    have hzl39 := ho3.lt
    have hzl40 := ho17.lt
    have hzl41 := ho23.lt
    refine VL_call (d := 40) (f := 47) (by kernel_rfl) (by kernel_rfl) (by kernel_rfl) Try.call47 (rrdtraf_any yi yA yn yc _ yb _ hyn (by omega) hyS hyB (by first | exact Nat.le_refl _ | omega)) ?_
    rintro _ w27 ⟨rfl, hc4⟩
    replace hS := Step.trans hS hc4
    replace hA := hA.no hc4
    replace ho1 := ho1.no hc4
    replace ho2 := ho2.no hc4
    replace ho3 := ho3.no hc4
    replace hyS := hyS.no hc4
    replace ho17 := ho17.no hc4
    replace hzS := hzS.no hc4
    replace ho23 := ho23.no hc4
    refine VL_pure 5 [2, 3, 7, 41, 42] [(2, .pointer (some ⟨b2, 0, none⟩)), (3, .pointer (some ⟨b3, 0, none⟩)), (7, .pointer (some ⟨b9, 0, none⟩)), (41, .agg #[.int .i64 (rtV yi yb (IntKind.wrap .i64 (List.getD yb 0 0))), .int .i64 (rtV yi yb (fld yb 0)), .int .i64 (rtV yi yb (fld yb 1)), .int .i64 (rtV yi yb (fld yb 2)), .int .i64 (rtV yi yb (fld yb 3)), .int .i64 (rtV yi yb (fld yb 4))]), (42, .int .i64 (rtE yi yb))] (by kernel_rfl) rfl ?_
    have hzs14 := hS.size
    have hzl42 := ho1.lt
    have hzl43 := ho2.lt
    have hzl44 := ho3.lt
    have hzl45 := ho17.lt
    have hzl46 := ho23.lt
    refine VL_box (d := 9) (t := 52) (c := #[.int .i64 0, .int .i64 0, .int .i64 0, .int .i64 0, .int .i64 0, .int .i64 0]) (by kernel_rfl) (by kernel_rfl) ?_
    intro b10 w28 hn10
    replace hS := Step.trans hS (hn10.step No)
    replace hA := hA.no (hn10.step No)
    replace ho1 := ho1.no (hn10.step No)
    replace ho2 := ho2.no (hn10.step No)
    replace ho3 := ho3.no (hn10.step No)
    replace hyS := hyS.no (hn10.step No)
    replace ho17 := ho17.no (hn10.step No)
    replace hzS := hzS.no (hn10.step No)
    replace ho23 := ho23.no (hn10.step No)
    have ho24 := hn10.own
    have hzhn10 := hn10.size
    have hqhn10 := hn10.eqb
    refine VL_store (b := b10) (o := 0) (vs := [.int .i64 (rtV yi yb (IntKind.wrap .i64 (List.getD yb 0 0))), .int .i64 (rtV yi yb (fld yb 0)), .int .i64 (rtV yi yb (fld yb 1)), .int .i64 (rtV yi yb (fld yb 2)), .int .i64 (rtV yi yb (fld yb 3)), .int .i64 (rtV yi yb (fld yb 4))]) (by kernel_rfl) (by kernel_rfl) ho24 (Nat.le_of_ble_eq_true (by kernel_rfl)) ?_
    intro w29 hw15
    replace hS := Step.transNew hS hw15.step (fun _ _ _ => by omega)
    replace hA := hA.step hw15.step (fun k hk1 hk2 (hF : k = b10) => by omega)
    replace ho1 := ho1.step hw15.step (show ¬ b1 = b10 by omega)
    replace ho2 := ho2.step hw15.step (show ¬ b2 = b10 by omega)
    replace ho3 := ho3.step hw15.step (show ¬ b3 = b10 by omega)
    replace hyS := hyS.step hw15.step (fun k hk (hF : k = b10) => by omega)
    replace ho17 := ho17.step hw15.step (show ¬ b7 = b10 by omega)
    replace hzS := hzS.step hw15.step (fun k hk (hF : k = b10) => by omega)
    replace ho23 := ho23.step hw15.step (show ¬ b9 = b10 by omega)
    have ho25 : Own w29 b10 #[.int .i64 (rtV yi yb (IntKind.wrap .i64 (List.getD yb 0 0))), .int .i64 (rtV yi yb (fld yb 0)), .int .i64 (rtV yi yb (fld yb 1)), .int .i64 (rtV yi yb (fld yb 2)), .int .i64 (rtV yi yb (fld yb 3)), .int .i64 (rtV yi yb (fld yb 4))] 52 := Own.cast hw15.own (by kernel_rfl)
    have hzhw15 := hw15.same
    refine VL_pure 8 [2, 3, 7, 9, 10] [(2, .pointer (some ⟨b2, 0, none⟩)), (3, .pointer (some ⟨b3, 0, none⟩)), (7, .pointer (some ⟨b9, 0, none⟩)), (9, .pointer (some ⟨b10, 0, none⟩)), (10, .int .i64 (rtE yi yb))] (by kernel_rfl) rfl ?_
    refine VL_end (by kernel_rfl) ?_
    refine VQ_next ?_
    refine VC_seq ?_
    refine VC_region ?_
    refine VL_load (d := 44) (t := 60) (a := ⟨b9, 0, none⟩) (v := .agg #[.int .u8 zi, .slice zA zn zc]) (by kernel_rfl) (by kernel_rfl) (Loads.ownL ho23 (n := 2) (by kernel_rfl) (by kernel_rfl) (by kernel_rfl)) ?_
    have hzs15 := hS.size
    have hzl47 := ho1.lt
    have hzl48 := ho2.lt
    have hzl49 := ho3.lt
    have hzl50 := ho17.lt
    have hzl51 := ho23.lt
    have hzl52 := ho25.lt
    refine VL_call (d := 45) (f := 48) (by kernel_rfl) (by kernel_rfl) (by kernel_rfl) Try.call48 (rrdkey_any zi zA zn zc _ zb _ hzn (by omega) hzS hzB (by first | exact Nat.le_refl _ | omega)) ?_
    rintro _ w30 ⟨rfl, hc5⟩
    replace hS := Step.trans hS hc5
    replace hA := hA.no hc5
    replace ho1 := ho1.no hc5
    replace ho2 := ho2.no hc5
    replace ho3 := ho3.no hc5
    replace hyS := hyS.no hc5
    replace ho17 := ho17.no hc5
    replace hzS := hzS.no hc5
    replace ho23 := ho23.no hc5
    replace ho25 := ho25.no hc5
    refine VL_pure 5 [2, 3, 9, 10, 46, 47] [(2, .pointer (some ⟨b2, 0, none⟩)), (3, .pointer (some ⟨b3, 0, none⟩)), (9, .pointer (some ⟨b10, 0, none⟩)), (10, .int .i64 (rtE yi yb)), (46, .agg #[.int .i64 (rkV zi zb (fk zb 0 1)), .int .i64 (rkV zi zb (fk zb 1 2)), .int .i64 (rkV zi zb (fk zb 3 2))]), (47, .int .i64 (rkE zi zb))] (by kernel_rfl) rfl ?_
    have hzs16 := hS.size
    have hzl53 := ho1.lt
    have hzl54 := ho2.lt
    have hzl55 := ho3.lt
    have hzl56 := ho17.lt
    have hzl57 := ho23.lt
    have hzl58 := ho25.lt
    refine VL_box (d := 11) (t := 54) (c := #[.int .i64 0, .int .i64 0, .int .i64 0]) (by kernel_rfl) (by kernel_rfl) ?_
    intro b11 w31 hn11
    replace hS := Step.trans hS (hn11.step No)
    replace hA := hA.no (hn11.step No)
    replace ho1 := ho1.no (hn11.step No)
    replace ho2 := ho2.no (hn11.step No)
    replace ho3 := ho3.no (hn11.step No)
    replace hyS := hyS.no (hn11.step No)
    replace ho17 := ho17.no (hn11.step No)
    replace hzS := hzS.no (hn11.step No)
    replace ho23 := ho23.no (hn11.step No)
    replace ho25 := ho25.no (hn11.step No)
    have ho26 := hn11.own
    have hzhn11 := hn11.size
    have hqhn11 := hn11.eqb
    refine VL_store (b := b11) (o := 0) (vs := [.int .i64 (rkV zi zb (fk zb 0 1)), .int .i64 (rkV zi zb (fk zb 1 2)), .int .i64 (rkV zi zb (fk zb 3 2))]) (by kernel_rfl) (by kernel_rfl) ho26 (Nat.le_of_ble_eq_true (by kernel_rfl)) ?_
    intro w32 hw16
    replace hS := Step.transNew hS hw16.step (fun _ _ _ => by omega)
    replace hA := hA.step hw16.step (fun k hk1 hk2 (hF : k = b11) => by omega)
    replace ho1 := ho1.step hw16.step (show ¬ b1 = b11 by omega)
    replace ho2 := ho2.step hw16.step (show ¬ b2 = b11 by omega)
    replace ho3 := ho3.step hw16.step (show ¬ b3 = b11 by omega)
    replace hyS := hyS.step hw16.step (fun k hk (hF : k = b11) => by omega)
    replace ho17 := ho17.step hw16.step (show ¬ b7 = b11 by omega)
    replace hzS := hzS.step hw16.step (fun k hk (hF : k = b11) => by omega)
    replace ho23 := ho23.step hw16.step (show ¬ b9 = b11 by omega)
    replace ho25 := ho25.step hw16.step (show ¬ b10 = b11 by omega)
    have ho27 : Own w32 b11 #[.int .i64 (rkV zi zb (fk zb 0 1)), .int .i64 (rkV zi zb (fk zb 1 2)), .int .i64 (rkV zi zb (fk zb 3 2))] 54 := Own.cast hw16.own (by kernel_rfl)
    have hzhw16 := hw16.same
    refine VL_pure 8 [2, 3, 9, 10, 11, 12] [(2, .pointer (some ⟨b2, 0, none⟩)), (3, .pointer (some ⟨b3, 0, none⟩)), (9, .pointer (some ⟨b10, 0, none⟩)), (10, .int .i64 (rtE yi yb)), (11, .pointer (some ⟨b11, 0, none⟩)), (12, .int .i64 (rkE zi zb))] (by kernel_rfl) rfl ?_
    refine VL_end (by kernel_rfl) ?_
    refine VQ_next ?_
    refine VC_seq ?_
    refine VC_seq ?_
    refine VC_region ?_
    refine VL_pure 2 [2, 3, 9, 10, 11, 12, 49] [(2, .pointer (some ⟨b2, 0, none⟩)), (3, .pointer (some ⟨b3, 0, none⟩)), (9, .pointer (some ⟨b10, 0, none⟩)), (10, .int .i64 (rtE yi yb)), (11, .pointer (some ⟨b11, 0, none⟩)), (12, .int .i64 (rkE zi zb)), (49, .bool ((rtE yi yb) == 0))] (by kernel_rfl) rfl ?_
    refine VL_end (by kernel_rfl) ?_
    refine VQ_next ?_
    refine VC_eq (rtE yi yb) 0 (by kernel_rfl) (fun h2 => ?_) (fun h2 => ?_)
    ·refine VC_region ?_
     refine VL_pure 2 [2, 3, 9, 10, 11] [(2, .pointer (some ⟨b2, 0, none⟩)), (3, .pointer (some ⟨b3, 0, none⟩)), (9, .pointer (some ⟨b10, 0, none⟩)), (10, .int .i64 (rkE zi zb)), (11, .pointer (some ⟨b11, 0, none⟩))] (by kernel_rfl) rfl ?_
     refine VL_end (by kernel_rfl) ?_
     refine VQ_next ?_
     refine VC_seq ?_
     refine VC_seq ?_
     refine VC_region ?_
     refine VL_pure 2 [2, 3, 9, 10, 11, 52] [(2, .pointer (some ⟨b2, 0, none⟩)), (3, .pointer (some ⟨b3, 0, none⟩)), (9, .pointer (some ⟨b10, 0, none⟩)), (10, .int .i64 (rkE zi zb)), (11, .pointer (some ⟨b11, 0, none⟩)), (52, .bool ((rkE zi zb) != 0))] (by kernel_rfl) rfl ?_
     refine VL_end (by kernel_rfl) ?_
     refine VQ_next ?_
     refine VC_ne (rkE zi zb) 0 (by kernel_rfl) (fun h3 => ?_) (fun h3 => ?_)
     ·refine VC_seq ?_
      refine VC_region ?_
      refine VL_pure 3 [2, 3, 53, 54, 55] [(2, .pointer (some ⟨b2, 0, none⟩)), (3, .pointer (some ⟨b3, 0, none⟩)), (53, .agg #[.int .i64 0, .int .i64 0, .int .i64 0, .int .i64 0, .int .i64 0, .int .i64 0]), (54, .agg #[.int .i64 0, .int .i64 0, .int .i64 0]), (55, .int .i64 (rkE zi zb))] (by kernel_rfl) rfl ?_
      refine VL_store (b := b2) (o := 0) (vs := [.int .i64 0, .int .i64 0, .int .i64 0, .int .i64 0, .int .i64 0, .int .i64 0]) (by kernel_rfl) (by kernel_rfl) ho2 (Nat.le_of_ble_eq_true (by kernel_rfl)) ?_
      intro w33 hw17
      replace hS := Step.transNew hS hw17.step (fun _ _ _ => by omega)
      replace hA := hA.step hw17.step (fun k hk1 hk2 (hF : k = b2) => by omega)
      replace ho1 := ho1.step hw17.step (show ¬ b1 = b2 by omega)
      replace ho3 := ho3.step hw17.step (show ¬ b3 = b2 by omega)
      replace hyS := hyS.step hw17.step (fun k hk (hF : k = b2) => by omega)
      replace ho17 := ho17.step hw17.step (show ¬ b7 = b2 by omega)
      replace hzS := hzS.step hw17.step (fun k hk (hF : k = b2) => by omega)
      replace ho23 := ho23.step hw17.step (show ¬ b9 = b2 by omega)
      replace ho25 := ho25.step hw17.step (show ¬ b10 = b2 by omega)
      replace ho27 := ho27.step hw17.step (show ¬ b11 = b2 by omega)
      have ho28 : Own w33 b2 #[.int .i64 0, .int .i64 0, .int .i64 0, .int .i64 0, .int .i64 0, .int .i64 0] 52 := Own.cast hw17.own (by kernel_rfl)
      have hzhw17 := hw17.same
      refine VL_store (b := b3) (o := 0) (vs := [.int .i64 0, .int .i64 0, .int .i64 0]) (by kernel_rfl) (by kernel_rfl) ho3 (Nat.le_of_ble_eq_true (by kernel_rfl)) ?_
      intro w34 hw18
      replace hS := Step.transNew hS hw18.step (fun _ _ _ => by omega)
      replace hA := hA.step hw18.step (fun k hk1 hk2 (hF : k = b3) => by omega)
      replace ho1 := ho1.step hw18.step (show ¬ b1 = b3 by omega)
      replace hyS := hyS.step hw18.step (fun k hk (hF : k = b3) => by omega)
      replace ho17 := ho17.step hw18.step (show ¬ b7 = b3 by omega)
      replace hzS := hzS.step hw18.step (fun k hk (hF : k = b3) => by omega)
      replace ho23 := ho23.step hw18.step (show ¬ b9 = b3 by omega)
      replace ho25 := ho25.step hw18.step (show ¬ b10 = b3 by omega)
      replace ho27 := ho27.step hw18.step (show ¬ b11 = b3 by omega)
      replace ho28 := ho28.step hw18.step (show ¬ b2 = b3 by omega)
      have ho29 : Own w34 b3 #[.int .i64 0, .int .i64 0, .int .i64 0] 54 := Own.cast hw18.own (by kernel_rfl)
      have hzhw18 := hw18.same
      refine VL_pure 6 [2, 3, 4] [(2, .pointer (some ⟨b2, 0, none⟩)), (3, .pointer (some ⟨b3, 0, none⟩)), (4, .int .i64 (rkE zi zb))] (by kernel_rfl) rfl ?_
      refine VL_end (by kernel_rfl) ?_
      refine VQ_next ?_
      refine VC_ret ?_
      refine VQ_then_ret ?_
      refine VQ_retC2T1 (T := 52) (T2 := 54) (.agg #[.int .i64 0, .int .i64 0, .int .i64 0, .int .i64 0, .int .i64 0, .int .i64 0]) (.agg #[.int .i64 0, .int .i64 0, .int .i64 0]) (.int .i64 (rkE zi zb)) (.inr rfl) rfl rfl rfl rfl (Loads.ownL ho28 (n := 6) (by kernel_rfl) (by kernel_rfl) (by kernel_rfl)) (Loads.ownL ho29 (n := 3) (by kernel_rfl) (by kernel_rfl) (by kernel_rfl)) ?_
      have hr3 : rtE yi yb = 0 := (by first | assumption | exact Classical.not_not.1 (by assumption) | omega)
      have hr4 : rkE zi zb ≠ 0 := by assumption
      have hq := call_k (show ¬ k ≠ 5 by omega) hF hG hr3
      dsimp only at hq
      have hqn : callE k (vals l) ≠ 0 := (by rw [hq]; exact hr4)
      exact ⟨by simp only [callV_n hqn, hq], hS⟩
     ·refine VC_skip ?_
      refine VQ_next ?_
      refine VC_seq ?_
      have hs1 := drew_step w32
      have hs1z : w32.heap.size = w32.drew.heap.size := rfl
      refine VC_text [[], [], [0], [0, 1, 2], [0, 1, 2, 3]] 3 (fun x y => Step (fun k => k = b2 ∨ w32.heap.size ≤ k) x y) [2] [0, 1, 2] (by kernel_rfl) (by kernel_rfl) (by kernel_rfl) (by kernel_rfl) (fun x => Step.refl _ x) (fun h k => Step.trans h k) Step.weak ?_
      have hzs17 := hS.size
      have hzl59 := ho1.lt
      have hzl60 := ho2.lt
      have hzl61 := ho3.lt
      have hzl62 := ho17.lt
      have hzl63 := ho23.lt
      have hzl64 := ho25.lt
      have hzl65 := ho27.lt
      generalize w32.drew = w35 at hs1 hs1z ⊢
      replace hS := Step.trans hS hs1
      replace hA := hA.no hs1
      replace ho1 := ho1.no hs1
      replace ho2 := ho2.no hs1
      replace ho3 := ho3.no hs1
      replace hyS := hyS.no hs1
      replace ho17 := ho17.no hs1
      replace hzS := hzS.no hs1
      replace ho23 := ho23.no hs1
      replace ho25 := ho25.no hs1
      replace ho27 := ho27.no hs1
      refine VT_load (d := 56) (t := 52) (a := ⟨b10, 0, none⟩) (v := .agg #[.int .i64 (rtV yi yb (IntKind.wrap .i64 (List.getD yb 0 0))), .int .i64 (rtV yi yb (fld yb 0)), .int .i64 (rtV yi yb (fld yb 1)), .int .i64 (rtV yi yb (fld yb 2)), .int .i64 (rtV yi yb (fld yb 3)), .int .i64 (rtV yi yb (fld yb 4))]) (by kernel_rfl) (by kernel_rfl) ?_ ?_
      ·intro w36 hr1
       replace hS := Step.transNew hS hr1 (fun i hi hG => by (try simp only at hG); omega)
       replace hA := hA.step hr1 (fun k hk1 hk2 hG => by (try simp only at hG); omega)
       replace ho1 := ho1.step hr1 (by (try simp only); omega)
       replace ho3 := ho3.step hr1 (by (try simp only); omega)
       replace hyS := hyS.step hr1 (fun k hk hG => by (try simp only at hG); omega)
       replace ho17 := ho17.step hr1 (by (try simp only); omega)
       replace hzS := hzS.step hr1 (fun k hk hG => by (try simp only at hG); omega)
       replace ho23 := ho23.step hr1 (by (try simp only); omega)
       replace ho25 := ho25.step hr1 (by (try simp only); omega)
       replace ho27 := ho27.step hr1 (by (try simp only); omega)
       exact (Loads.ownL ho25 (n := 6) (by kernel_rfl) (by kernel_rfl) (by kernel_rfl))
      refine VT_load (d := 57) (t := 54) (a := ⟨b11, 0, none⟩) (v := .agg #[.int .i64 (rkV zi zb (fk zb 0 1)), .int .i64 (rkV zi zb (fk zb 1 2)), .int .i64 (rkV zi zb (fk zb 3 2))]) (by kernel_rfl) (by kernel_rfl) ?_ ?_
      ·intro w37 hr2
       replace hS := Step.transNew hS hr2 (fun i hi hG => by (try simp only at hG); omega)
       replace hA := hA.step hr2 (fun k hk1 hk2 hG => by (try simp only at hG); omega)
       replace ho1 := ho1.step hr2 (by (try simp only); omega)
       replace ho3 := ho3.step hr2 (by (try simp only); omega)
       replace hyS := hyS.step hr2 (fun k hk hG => by (try simp only at hG); omega)
       replace ho17 := ho17.step hr2 (by (try simp only); omega)
       replace hzS := hzS.step hr2 (fun k hk hG => by (try simp only at hG); omega)
       replace ho23 := ho23.step hr2 (by (try simp only); omega)
       replace ho25 := ho25.step hr2 (by (try simp only); omega)
       replace ho27 := ho27.step hr2 (by (try simp only); omega)
       exact (Loads.ownL ho27 (n := 3) (by kernel_rfl) (by kernel_rfl) (by kernel_rfl))
      refine VT_chain (by kernel_rfl) ?_
      intro w38 hs2
      have hzhs2 := hs2.size
      replace hS := Step.trans hS hs2
      replace hA := hA.no hs2
      replace ho1 := ho1.no hs2
      replace ho2 := ho2.no hs2
      replace ho3 := ho3.no hs2
      replace hyS := hyS.no hs2
      replace ho17 := ho17.no hs2
      replace hzS := hzS.no hs2
      replace ho23 := ho23.no hs2
      replace ho25 := ho25.no hs2
      replace ho27 := ho27.no hs2
      refine VTc_store (b := b2) (o := 0) (vs := [.int .i64 (rtV yi yb (IntKind.wrap .i64 (List.getD yb 0 0))), .int .i64 (rtV yi yb (fld yb 0)), .int .i64 (rtV yi yb (fld yb 1)), .int .i64 (rtV yi yb (fld yb 2)), .int .i64 (rtV yi yb (fld yb 3)), .int .i64 (rtV yi yb (fld yb 4))]) (by kernel_rfl) (by kernel_rfl) ho2 (Nat.le_of_ble_eq_true (by kernel_rfl)) (fun w1 hw => Step.mono hw.step (by intro i hi; (try simp only at hi ⊢); omega)) ?_
      intro w39 hw19
      replace hS := Step.transNew hS hw19.step (fun _ _ _ => by omega)
      replace hA := hA.step hw19.step (fun k hk1 hk2 (hF : k = b2) => by omega)
      replace ho1 := ho1.step hw19.step (show ¬ b1 = b2 by omega)
      replace ho3 := ho3.step hw19.step (show ¬ b3 = b2 by omega)
      replace hyS := hyS.step hw19.step (fun k hk (hF : k = b2) => by omega)
      replace ho17 := ho17.step hw19.step (show ¬ b7 = b2 by omega)
      replace hzS := hzS.step hw19.step (fun k hk (hF : k = b2) => by omega)
      replace ho23 := ho23.step hw19.step (show ¬ b9 = b2 by omega)
      replace ho25 := ho25.step hw19.step (show ¬ b10 = b2 by omega)
      replace ho27 := ho27.step hw19.step (show ¬ b11 = b2 by omega)
      have ho30 : Own w39 b2 #[.int .i64 (rtV yi yb (IntKind.wrap .i64 (List.getD yb 0 0))), .int .i64 (rtV yi yb (fld yb 0)), .int .i64 (rtV yi yb (fld yb 1)), .int .i64 (rtV yi yb (fld yb 2)), .int .i64 (rtV yi yb (fld yb 3)), .int .i64 (rtV yi yb (fld yb 4))] 52 := Own.cast hw19.own (by kernel_rfl)
      have hzhw19 := hw19.same
      refine VT_end ?_
      intro w40 hs3
      replace hS := Step.trans hS hs3
      replace hA := hA.no hs3
      replace ho1 := ho1.no hs3
      replace ho3 := ho3.no hs3
      replace hyS := hyS.no hs3
      replace ho17 := ho17.no hs3
      replace hzS := hzS.no hs3
      replace ho23 := ho23.no hs3
      replace ho25 := ho25.no hs3
      replace ho27 := ho27.no hs3
      replace ho30 := ho30.no hs3
      refine VL_keep [2, 3, 57] [(2, .pointer (some ⟨b2, 0, none⟩)), (3, .pointer (some ⟨b3, 0, none⟩)), (57, .agg #[.int .i64 (rkV zi zb (fk zb 0 1)), .int .i64 (rkV zi zb (fk zb 1 2)), .int .i64 (rkV zi zb (fk zb 3 2))])] (by kernel_rfl) ?_
      refine VL_store (b := b3) (o := 0) (vs := [.int .i64 (rkV zi zb (fk zb 0 1)), .int .i64 (rkV zi zb (fk zb 1 2)), .int .i64 (rkV zi zb (fk zb 3 2))]) (by kernel_rfl) (by kernel_rfl) ho3 (Nat.le_of_ble_eq_true (by kernel_rfl)) ?_
      intro w41 hw20
      replace hS := Step.transNew hS hw20.step (fun _ _ _ => by omega)
      replace hA := hA.step hw20.step (fun k hk1 hk2 (hF : k = b3) => by omega)
      replace ho1 := ho1.step hw20.step (show ¬ b1 = b3 by omega)
      replace hyS := hyS.step hw20.step (fun k hk (hF : k = b3) => by omega)
      replace ho17 := ho17.step hw20.step (show ¬ b7 = b3 by omega)
      replace hzS := hzS.step hw20.step (fun k hk (hF : k = b3) => by omega)
      replace ho23 := ho23.step hw20.step (show ¬ b9 = b3 by omega)
      replace ho25 := ho25.step hw20.step (show ¬ b10 = b3 by omega)
      replace ho27 := ho27.step hw20.step (show ¬ b11 = b3 by omega)
      replace ho30 := ho30.step hw20.step (show ¬ b2 = b3 by omega)
      have ho31 : Own w41 b3 #[.int .i64 (rkV zi zb (fk zb 0 1)), .int .i64 (rkV zi zb (fk zb 1 2)), .int .i64 (rkV zi zb (fk zb 3 2))] 54 := Own.cast hw20.own (by kernel_rfl)
      have hzhw20 := hw20.same
      refine VL_pure 5 [2, 3, 4] [(2, .pointer (some ⟨b2, 0, none⟩)), (3, .pointer (some ⟨b3, 0, none⟩)), (4, .int .i64 0)] (by kernel_rfl) rfl ?_
      refine VL_end (by kernel_rfl) ?_
      refine VQ_next ?_
      refine VC_ret ?_
      refine VQ_retC2T1 (T := 52) (T2 := 54) (.agg #[.int .i64 (rtV yi yb (IntKind.wrap .i64 (List.getD yb 0 0))), .int .i64 (rtV yi yb (fld yb 0)), .int .i64 (rtV yi yb (fld yb 1)), .int .i64 (rtV yi yb (fld yb 2)), .int .i64 (rtV yi yb (fld yb 3)), .int .i64 (rtV yi yb (fld yb 4))]) (.agg #[.int .i64 (rkV zi zb (fk zb 0 1)), .int .i64 (rkV zi zb (fk zb 1 2)), .int .i64 (rkV zi zb (fk zb 3 2))]) (.int .i64 0) (.inr rfl) rfl rfl rfl rfl (Loads.ownL ho30 (n := 6) (by kernel_rfl) (by kernel_rfl) (by kernel_rfl)) (Loads.ownL ho31 (n := 3) (by kernel_rfl) (by kernel_rfl) (by kernel_rfl)) ?_
      have hr3 : rtE yi yb = 0 := (by first | assumption | exact Classical.not_not.1 (by assumption) | omega)
      have hr4 : rkE zi zb = 0 := (by first | assumption | exact Classical.not_not.1 (by assumption) | omega)
      have hq := call_k (show ¬ k ≠ 5 by omega) hF hG hr3
      dsimp only at hq
      have hq0 : callE k (vals l) = 0 := by rw [hq]; exact hr4
      exact ⟨by simp only [callV_0 hq0, hq0, fstI_is hF, fstI_is hG, rtV_0 hr3, rkV_0 hr4], hS⟩
    ·refine VC_skip ?_
     refine VQ_next ?_
     refine VC_seq ?_
     refine VC_seq ?_
     refine VC_region ?_
     refine VL_pure 2 [2, 3, 9, 10, 11, 52] [(2, .pointer (some ⟨b2, 0, none⟩)), (3, .pointer (some ⟨b3, 0, none⟩)), (9, .pointer (some ⟨b10, 0, none⟩)), (10, .int .i64 (rtE yi yb)), (11, .pointer (some ⟨b11, 0, none⟩)), (52, .bool ((rtE yi yb) != 0))] (by kernel_rfl) rfl ?_
     refine VL_end (by kernel_rfl) ?_
     refine VQ_next ?_
     refine VC_ne (rtE yi yb) 0 (by kernel_rfl) (fun h4 => ?_) (fun h4 => ?_)
     ·refine VC_seq ?_
      refine VC_region ?_
      refine VL_pure 3 [2, 3, 53, 54, 55] [(2, .pointer (some ⟨b2, 0, none⟩)), (3, .pointer (some ⟨b3, 0, none⟩)), (53, .agg #[.int .i64 0, .int .i64 0, .int .i64 0, .int .i64 0, .int .i64 0, .int .i64 0]), (54, .agg #[.int .i64 0, .int .i64 0, .int .i64 0]), (55, .int .i64 (rtE yi yb))] (by kernel_rfl) rfl ?_
      refine VL_store (b := b2) (o := 0) (vs := [.int .i64 0, .int .i64 0, .int .i64 0, .int .i64 0, .int .i64 0, .int .i64 0]) (by kernel_rfl) (by kernel_rfl) ho2 (Nat.le_of_ble_eq_true (by kernel_rfl)) ?_
      intro w42 hw21
      replace hS := Step.transNew hS hw21.step (fun _ _ _ => by omega)
      replace hA := hA.step hw21.step (fun k hk1 hk2 (hF : k = b2) => by omega)
      replace ho1 := ho1.step hw21.step (show ¬ b1 = b2 by omega)
      replace ho3 := ho3.step hw21.step (show ¬ b3 = b2 by omega)
      replace hyS := hyS.step hw21.step (fun k hk (hF : k = b2) => by omega)
      replace ho17 := ho17.step hw21.step (show ¬ b7 = b2 by omega)
      replace hzS := hzS.step hw21.step (fun k hk (hF : k = b2) => by omega)
      replace ho23 := ho23.step hw21.step (show ¬ b9 = b2 by omega)
      replace ho25 := ho25.step hw21.step (show ¬ b10 = b2 by omega)
      replace ho27 := ho27.step hw21.step (show ¬ b11 = b2 by omega)
      have ho32 : Own w42 b2 #[.int .i64 0, .int .i64 0, .int .i64 0, .int .i64 0, .int .i64 0, .int .i64 0] 52 := Own.cast hw21.own (by kernel_rfl)
      have hzhw21 := hw21.same
      refine VL_store (b := b3) (o := 0) (vs := [.int .i64 0, .int .i64 0, .int .i64 0]) (by kernel_rfl) (by kernel_rfl) ho3 (Nat.le_of_ble_eq_true (by kernel_rfl)) ?_
      intro w43 hw22
      replace hS := Step.transNew hS hw22.step (fun _ _ _ => by omega)
      replace hA := hA.step hw22.step (fun k hk1 hk2 (hF : k = b3) => by omega)
      replace ho1 := ho1.step hw22.step (show ¬ b1 = b3 by omega)
      replace hyS := hyS.step hw22.step (fun k hk (hF : k = b3) => by omega)
      replace ho17 := ho17.step hw22.step (show ¬ b7 = b3 by omega)
      replace hzS := hzS.step hw22.step (fun k hk (hF : k = b3) => by omega)
      replace ho23 := ho23.step hw22.step (show ¬ b9 = b3 by omega)
      replace ho25 := ho25.step hw22.step (show ¬ b10 = b3 by omega)
      replace ho27 := ho27.step hw22.step (show ¬ b11 = b3 by omega)
      replace ho32 := ho32.step hw22.step (show ¬ b2 = b3 by omega)
      have ho33 : Own w43 b3 #[.int .i64 0, .int .i64 0, .int .i64 0] 54 := Own.cast hw22.own (by kernel_rfl)
      have hzhw22 := hw22.same
      refine VL_pure 6 [2, 3, 4] [(2, .pointer (some ⟨b2, 0, none⟩)), (3, .pointer (some ⟨b3, 0, none⟩)), (4, .int .i64 (rtE yi yb))] (by kernel_rfl) rfl ?_
      refine VL_end (by kernel_rfl) ?_
      refine VQ_next ?_
      refine VC_ret ?_
      refine VQ_then_ret ?_
      refine VQ_retC2T1 (T := 52) (T2 := 54) (.agg #[.int .i64 0, .int .i64 0, .int .i64 0, .int .i64 0, .int .i64 0, .int .i64 0]) (.agg #[.int .i64 0, .int .i64 0, .int .i64 0]) (.int .i64 (rtE yi yb)) (.inr rfl) rfl rfl rfl rfl (Loads.ownL ho32 (n := 6) (by kernel_rfl) (by kernel_rfl) (by kernel_rfl)) (Loads.ownL ho33 (n := 3) (by kernel_rfl) (by kernel_rfl) (by kernel_rfl)) ?_
      have hr3 : rtE yi yb ≠ 0 := by assumption
      have hq := call_t (show ¬ k ≠ 5 by omega) hF hG hr3
      dsimp only at hq
      have hqn : callE k (vals l) ≠ 0 := (by rw [hq]; exact hr3)
      exact ⟨by simp only [callV_n hqn, hq], hS⟩
     ·refine VC_skip ?_
      refine VQ_next ?_
      refine VC_seq ?_
      have hs4 := drew_step w32
      have hs4z : w32.heap.size = w32.drew.heap.size := rfl
      refine VC_text [[], [], [0], [0, 1, 2], [0, 1, 2, 3]] 3 (fun x y => Step (fun k => k = b2 ∨ w32.heap.size ≤ k) x y) [2] [0, 1, 2] (by kernel_rfl) (by kernel_rfl) (by kernel_rfl) (by kernel_rfl) (fun x => Step.refl _ x) (fun h k => Step.trans h k) Step.weak ?_
      have hzs18 := hS.size
      have hzl66 := ho1.lt
      have hzl67 := ho2.lt
      have hzl68 := ho3.lt
      have hzl69 := ho17.lt
      have hzl70 := ho23.lt
      have hzl71 := ho25.lt
      have hzl72 := ho27.lt
      generalize w32.drew = w44 at hs4 hs4z ⊢
      replace hS := Step.trans hS hs4
      replace hA := hA.no hs4
      replace ho1 := ho1.no hs4
      replace ho2 := ho2.no hs4
      replace ho3 := ho3.no hs4
      replace hyS := hyS.no hs4
      replace ho17 := ho17.no hs4
      replace hzS := hzS.no hs4
      replace ho23 := ho23.no hs4
      replace ho25 := ho25.no hs4
      replace ho27 := ho27.no hs4
      refine VT_load (d := 56) (t := 52) (a := ⟨b10, 0, none⟩) (v := .agg #[.int .i64 (rtV yi yb (IntKind.wrap .i64 (List.getD yb 0 0))), .int .i64 (rtV yi yb (fld yb 0)), .int .i64 (rtV yi yb (fld yb 1)), .int .i64 (rtV yi yb (fld yb 2)), .int .i64 (rtV yi yb (fld yb 3)), .int .i64 (rtV yi yb (fld yb 4))]) (by kernel_rfl) (by kernel_rfl) ?_ ?_
      ·intro w45 hr3
       replace hS := Step.transNew hS hr3 (fun i hi hG => by (try simp only at hG); omega)
       replace hA := hA.step hr3 (fun k hk1 hk2 hG => by (try simp only at hG); omega)
       replace ho1 := ho1.step hr3 (by (try simp only); omega)
       replace ho3 := ho3.step hr3 (by (try simp only); omega)
       replace hyS := hyS.step hr3 (fun k hk hG => by (try simp only at hG); omega)
       replace ho17 := ho17.step hr3 (by (try simp only); omega)
       replace hzS := hzS.step hr3 (fun k hk hG => by (try simp only at hG); omega)
       replace ho23 := ho23.step hr3 (by (try simp only); omega)
       replace ho25 := ho25.step hr3 (by (try simp only); omega)
       replace ho27 := ho27.step hr3 (by (try simp only); omega)
       exact (Loads.ownL ho25 (n := 6) (by kernel_rfl) (by kernel_rfl) (by kernel_rfl))
      refine VT_load (d := 57) (t := 54) (a := ⟨b11, 0, none⟩) (v := .agg #[.int .i64 (rkV zi zb (fk zb 0 1)), .int .i64 (rkV zi zb (fk zb 1 2)), .int .i64 (rkV zi zb (fk zb 3 2))]) (by kernel_rfl) (by kernel_rfl) ?_ ?_
      ·intro w46 hr4
       replace hS := Step.transNew hS hr4 (fun i hi hG => by (try simp only at hG); omega)
       replace hA := hA.step hr4 (fun k hk1 hk2 hG => by (try simp only at hG); omega)
       replace ho1 := ho1.step hr4 (by (try simp only); omega)
       replace ho3 := ho3.step hr4 (by (try simp only); omega)
       replace hyS := hyS.step hr4 (fun k hk hG => by (try simp only at hG); omega)
       replace ho17 := ho17.step hr4 (by (try simp only); omega)
       replace hzS := hzS.step hr4 (fun k hk hG => by (try simp only at hG); omega)
       replace ho23 := ho23.step hr4 (by (try simp only); omega)
       replace ho25 := ho25.step hr4 (by (try simp only); omega)
       replace ho27 := ho27.step hr4 (by (try simp only); omega)
       exact (Loads.ownL ho27 (n := 3) (by kernel_rfl) (by kernel_rfl) (by kernel_rfl))
      refine VT_chain (by kernel_rfl) ?_
      intro w47 hs5
      have hzhs5 := hs5.size
      replace hS := Step.trans hS hs5
      replace hA := hA.no hs5
      replace ho1 := ho1.no hs5
      replace ho2 := ho2.no hs5
      replace ho3 := ho3.no hs5
      replace hyS := hyS.no hs5
      replace ho17 := ho17.no hs5
      replace hzS := hzS.no hs5
      replace ho23 := ho23.no hs5
      replace ho25 := ho25.no hs5
      replace ho27 := ho27.no hs5
      refine VTc_store (b := b2) (o := 0) (vs := [.int .i64 (rtV yi yb (IntKind.wrap .i64 (List.getD yb 0 0))), .int .i64 (rtV yi yb (fld yb 0)), .int .i64 (rtV yi yb (fld yb 1)), .int .i64 (rtV yi yb (fld yb 2)), .int .i64 (rtV yi yb (fld yb 3)), .int .i64 (rtV yi yb (fld yb 4))]) (by kernel_rfl) (by kernel_rfl) ho2 (Nat.le_of_ble_eq_true (by kernel_rfl)) (fun w1 hw => Step.mono hw.step (by intro i hi; (try simp only at hi ⊢); omega)) ?_
      intro w48 hw23
      replace hS := Step.transNew hS hw23.step (fun _ _ _ => by omega)
      replace hA := hA.step hw23.step (fun k hk1 hk2 (hF : k = b2) => by omega)
      replace ho1 := ho1.step hw23.step (show ¬ b1 = b2 by omega)
      replace ho3 := ho3.step hw23.step (show ¬ b3 = b2 by omega)
      replace hyS := hyS.step hw23.step (fun k hk (hF : k = b2) => by omega)
      replace ho17 := ho17.step hw23.step (show ¬ b7 = b2 by omega)
      replace hzS := hzS.step hw23.step (fun k hk (hF : k = b2) => by omega)
      replace ho23 := ho23.step hw23.step (show ¬ b9 = b2 by omega)
      replace ho25 := ho25.step hw23.step (show ¬ b10 = b2 by omega)
      replace ho27 := ho27.step hw23.step (show ¬ b11 = b2 by omega)
      have ho34 : Own w48 b2 #[.int .i64 (rtV yi yb (IntKind.wrap .i64 (List.getD yb 0 0))), .int .i64 (rtV yi yb (fld yb 0)), .int .i64 (rtV yi yb (fld yb 1)), .int .i64 (rtV yi yb (fld yb 2)), .int .i64 (rtV yi yb (fld yb 3)), .int .i64 (rtV yi yb (fld yb 4))] 52 := Own.cast hw23.own (by kernel_rfl)
      have hzhw23 := hw23.same
      refine VT_end ?_
      intro w49 hs6
      replace hS := Step.trans hS hs6
      replace hA := hA.no hs6
      replace ho1 := ho1.no hs6
      replace ho3 := ho3.no hs6
      replace hyS := hyS.no hs6
      replace ho17 := ho17.no hs6
      replace hzS := hzS.no hs6
      replace ho23 := ho23.no hs6
      replace ho25 := ho25.no hs6
      replace ho27 := ho27.no hs6
      replace ho34 := ho34.no hs6
      refine VL_keep [2, 3, 57] [(2, .pointer (some ⟨b2, 0, none⟩)), (3, .pointer (some ⟨b3, 0, none⟩)), (57, .agg #[.int .i64 (rkV zi zb (fk zb 0 1)), .int .i64 (rkV zi zb (fk zb 1 2)), .int .i64 (rkV zi zb (fk zb 3 2))])] (by kernel_rfl) ?_
      refine VL_store (b := b3) (o := 0) (vs := [.int .i64 (rkV zi zb (fk zb 0 1)), .int .i64 (rkV zi zb (fk zb 1 2)), .int .i64 (rkV zi zb (fk zb 3 2))]) (by kernel_rfl) (by kernel_rfl) ho3 (Nat.le_of_ble_eq_true (by kernel_rfl)) ?_
      intro w50 hw24
      replace hS := Step.transNew hS hw24.step (fun _ _ _ => by omega)
      replace hA := hA.step hw24.step (fun k hk1 hk2 (hF : k = b3) => by omega)
      replace ho1 := ho1.step hw24.step (show ¬ b1 = b3 by omega)
      replace hyS := hyS.step hw24.step (fun k hk (hF : k = b3) => by omega)
      replace ho17 := ho17.step hw24.step (show ¬ b7 = b3 by omega)
      replace hzS := hzS.step hw24.step (fun k hk (hF : k = b3) => by omega)
      replace ho23 := ho23.step hw24.step (show ¬ b9 = b3 by omega)
      replace ho25 := ho25.step hw24.step (show ¬ b10 = b3 by omega)
      replace ho27 := ho27.step hw24.step (show ¬ b11 = b3 by omega)
      replace ho34 := ho34.step hw24.step (show ¬ b2 = b3 by omega)
      have ho35 : Own w50 b3 #[.int .i64 (rkV zi zb (fk zb 0 1)), .int .i64 (rkV zi zb (fk zb 1 2)), .int .i64 (rkV zi zb (fk zb 3 2))] 54 := Own.cast hw24.own (by kernel_rfl)
      have hzhw24 := hw24.same
      refine VL_pure 5 [2, 3, 4] [(2, .pointer (some ⟨b2, 0, none⟩)), (3, .pointer (some ⟨b3, 0, none⟩)), (4, .int .i64 0)] (by kernel_rfl) rfl ?_
      refine VL_end (by kernel_rfl) ?_
      refine VQ_next ?_
      refine VC_ret ?_
      refine VQ_retC2T1 (T := 52) (T2 := 54) (.agg #[.int .i64 (rtV yi yb (IntKind.wrap .i64 (List.getD yb 0 0))), .int .i64 (rtV yi yb (fld yb 0)), .int .i64 (rtV yi yb (fld yb 1)), .int .i64 (rtV yi yb (fld yb 2)), .int .i64 (rtV yi yb (fld yb 3)), .int .i64 (rtV yi yb (fld yb 4))]) (.agg #[.int .i64 (rkV zi zb (fk zb 0 1)), .int .i64 (rkV zi zb (fk zb 1 2)), .int .i64 (rkV zi zb (fk zb 3 2))]) (.int .i64 0) (.inr rfl) rfl rfl rfl rfl (Loads.ownL ho34 (n := 6) (by kernel_rfl) (by kernel_rfl) (by kernel_rfl)) (Loads.ownL ho35 (n := 3) (by kernel_rfl) (by kernel_rfl) (by kernel_rfl)) ?_
      have hr3 : rtE yi yb = 0 := (by first | assumption | exact Classical.not_not.1 (by assumption) | omega)
      have hr4 : rkE zi zb = 0 := (by first | assumption | exact Classical.not_not.1 (by assumption) | omega)
      have hq := call_k (show ¬ k ≠ 5 by omega) hF hG hr3
      dsimp only at hq
      have hq0 : callE k (vals l) = 0 := by rw [hq]; exact hr4
      exact ⟨by simp only [callV_0 hq0, hq0, fstI_is hF, fstI_is hG, rtV_0 hr3, rkV_0 hr4], hS⟩

end Go.Proofs.Ytejpcmjokamdcaa
