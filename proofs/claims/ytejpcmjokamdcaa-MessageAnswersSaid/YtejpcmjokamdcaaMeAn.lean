/- Layer 16: MessageAnswers. -/
import Derived.Test.YtejpcmjokamdcaaProg
import Derived.Test.YtejpcmjokamdcaaMeCl
set_option linter.unusedVariables false
set_option linter.unusedSimpArgs false
namespace Go.Proofs.Ytejpcmjokamdcaa
open Go.Vc Go.RowKit

set_option maxRecDepth 100000 in
set_option maxHeartbeats 4000000 in
theorem answers_yes (r : Int) (bk : Bool) (k : Int) (A : Option Addr) (n c : Nat) (l : List IeV) (kd : Int) (m : Nat) (w : World) (hn : l.length = n) (hA : Ies w 0 w.heap.size A l) (hc : n ≤ c) (hl : ∀ x ∈ l, IeB x) (hmx : n ≤ 9223372036854775807) (hf : fewB l = true) (hm : 1 ≤ m ∧ m ≤ 127)  :
  CV Try.prog 8 #[.agg #[.int .i64 r, .bool bk, .int .i64 k, .slice A n c], .int .i64 kd, .int .i64 ((m : Nat) : Int)] w (fun x w1 => x = .bool true ∧ Step No w w1) := by
 have hS : Step No w w := Step.refl _ _
 obtain ⟨hsm, hn20⟩ := fewB_yes hf
 rw [hn] at hn20
 refine CV_enter Try.f8 _ 64 [(0, .agg #[.int .i64 r, .bool bk, .int .i64 k, .slice A n c]), (1, .int .i64 kd), (2, .int .i64 ((m : Nat) : Int))] Try.func8 rfl rfl (by kernel_rfl) rfl ?_
 refine VC_seq ?_
 refine VC_region ?_
 have hzs1 := hS.size
 refine VL_box (d := 3) (t := 24) (c := #[.int .i64 r, .bool bk, .int .i64 k, .slice A n c]) (by kernel_rfl) (by kernel_rfl) ?_
 intro b1 w1 hn1
 replace hS := Step.trans hS (hn1.step No)
 replace hA := hA.no (hn1.step No)
 have ho1 := hn1.own
 have hzhn1 := hn1.size
 have hqhn1 := hn1.eqb
 refine VL_pure 2 [1, 2, 3] [(1, .int .i64 kd), (2, .int .i64 ((m : Nat) : Int)), (3, .pointer (some ⟨b1, 0, none⟩))] (by kernel_rfl) rfl ?_
 refine VL_end (by kernel_rfl) ?_
 refine VQ_next ?_
 refine VC_seq ?_
 refine VC_seq ?_
 refine VC_region ?_
 have hzs2 := hS.size
 have hzl1 := ho1.lt
 refine VL_call (d := 13) (f := 9) (args := #[]) (by kernel_rfl) (by kernel_rfl) (by kernel_rfl) Try.call9 (awake_any _) ?_
 rintro _ w2 ⟨rfl, hc1⟩
 replace hS := Step.trans hS hc1
 replace hA := hA.no hc1
 replace ho1 := ho1.no hc1
 refine VL_pure 3 [1, 2, 3, 15] [(1, .int .i64 kd), (2, .int .i64 ((m : Nat) : Int)), (3, .pointer (some ⟨b1, 0, none⟩)), (15, .bool false)] (by kernel_rfl) rfl ?_
 refine VL_load (d := 16) (t := 24) (a := ⟨b1, 0, none⟩) (v := .agg #[.int .i64 r, .bool bk, .int .i64 k, .slice A n c]) (by kernel_rfl) (by kernel_rfl) (Loads.ownL ho1 (n := 4) (by kernel_rfl) (by kernel_rfl) (by kernel_rfl)) ?_
 have hzs3 := hS.size
 have hzl2 := ho1.lt
 refine VL_call (d := 17) (f := 10) (by kernel_rfl) (by kernel_rfl) (by kernel_rfl) Try.call10 (few16_any r bk k A n c 0 w.heap.size l _ hn hA (by omega)) ?_
 rintro _ w3 ⟨rfl, hc2⟩
 replace hS := Step.trans hS hc2
 replace hA := hA.no hc2
 replace ho1 := ho1.no hc2
 refine VL_pure 7 [1, 2, 3, 19] [(1, .int .i64 kd), (2, .int .i64 ((m : Nat) : Int)), (3, .pointer (some ⟨b1, 0, none⟩)), (19, .bool (!(fewB l)))] (by kernel_rfl) rfl ?_
 refine VL_end (by kernel_rfl) ?_
 refine VQ_next ?_
 refine VC_is (b := !(fewB l)) false (by kernel_rfl) (by rw [show (fewB l) = true from hf]; rfl) ?_
 refine VC_ite_false ?_
 refine VC_skip ?_
 refine VQ_next ?_
 refine VC_seq ?_
 refine VC_region ?_
 refine VL_load (d := 22) (t := 24) (a := ⟨b1, 0, none⟩) (v := .agg #[.int .i64 r, .bool bk, .int .i64 k, .slice A n c]) (by kernel_rfl) (by kernel_rfl) (Loads.ownL ho1 (n := 4) (by kernel_rfl) (by kernel_rfl) (by kernel_rfl)) ?_
 have hzs4 := hS.size
 have hzl3 := ho1.lt
 refine VL_call (d := 23) (f := 24) (by kernel_rfl) (by kernel_rfl) (by kernel_rfl) Try.call24 (call_any r bk k A n c 0 w.heap.size l _ hn hA (by omega) (by first | exact Nat.le_refl _ | omega) hl (fun x hx => by have hq9 := hsm x hx; omega)) ?_
 rintro _ w4 ⟨rfl, hc3⟩
 replace hS := Step.trans hS hc3
 replace hA := hA.no hc3
 replace ho1 := ho1.no hc3
 refine VL_pure 6 [1, 2, 3, 24, 25, 26] [(1, .int .i64 kd), (2, .int .i64 ((m : Nat) : Int)), (3, .pointer (some ⟨b1, 0, none⟩)), (24, .agg #[.int .i64 (callV k (vals l) (IntKind.wrap .i64 ((fstI 89 (vals l)).2.getD 0 0))), .int .i64 (callV k (vals l) (fld (fstI 89 (vals l)).2 0)), .int .i64 (callV k (vals l) (fld (fstI 89 (vals l)).2 1)), .int .i64 (callV k (vals l) (fld (fstI 89 (vals l)).2 2)), .int .i64 (callV k (vals l) (fld (fstI 89 (vals l)).2 3)), .int .i64 (callV k (vals l) (fld (fstI 89 (vals l)).2 4))]), (25, .agg #[.int .i64 (callV k (vals l) (fk (fstI 90 (vals l)).2 0 1)), .int .i64 (callV k (vals l) (fk (fstI 90 (vals l)).2 1 2)), .int .i64 (callV k (vals l) (fk (fstI 90 (vals l)).2 3 2))]), (26, .int .i64 (callE k (vals l)))] (by kernel_rfl) rfl ?_
 have hzs5 := hS.size
 have hzl4 := ho1.lt
 refine VL_box (d := 7) (t := 52) (c := #[.int .i64 0, .int .i64 0, .int .i64 0, .int .i64 0, .int .i64 0, .int .i64 0]) (by kernel_rfl) (by kernel_rfl) ?_
 intro b2 w5 hn2
 replace hS := Step.trans hS (hn2.step No)
 replace hA := hA.no (hn2.step No)
 replace ho1 := ho1.no (hn2.step No)
 have ho2 := hn2.own
 have hzhn2 := hn2.size
 have hqhn2 := hn2.eqb
 have hzs6 := hS.size
 have hzl5 := ho1.lt
 have hzl6 := ho2.lt
 refine VL_box (d := 8) (t := 54) (c := #[.int .i64 0, .int .i64 0, .int .i64 0]) (by kernel_rfl) (by kernel_rfl) ?_
 intro b3 w6 hn3
 replace hS := Step.trans hS (hn3.step No)
 replace hA := hA.no (hn3.step No)
 replace ho1 := ho1.no (hn3.step No)
 replace ho2 := ho2.no (hn3.step No)
 have ho3 := hn3.own
 have hzhn3 := hn3.size
 have hqhn3 := hn3.eqb
 refine VL_store (b := b2) (o := 0) (vs := [.int .i64 (callV k (vals l) (IntKind.wrap .i64 ((fstI 89 (vals l)).2.getD 0 0))), .int .i64 (callV k (vals l) (fld (fstI 89 (vals l)).2 0)), .int .i64 (callV k (vals l) (fld (fstI 89 (vals l)).2 1)), .int .i64 (callV k (vals l) (fld (fstI 89 (vals l)).2 2)), .int .i64 (callV k (vals l) (fld (fstI 89 (vals l)).2 3)), .int .i64 (callV k (vals l) (fld (fstI 89 (vals l)).2 4))]) (by kernel_rfl) (by kernel_rfl) ho2 (Nat.le_of_ble_eq_true (by kernel_rfl)) ?_
 intro w7 hw1
 replace hS := Step.transNew hS hw1.step (fun _ _ _ => by omega)
 replace hA := hA.step hw1.step (fun k hk1 hk2 (hF : k = b2) => by omega)
 replace ho1 := ho1.step hw1.step (show ¬ b1 = b2 by omega)
 replace ho3 := ho3.step hw1.step (show ¬ b3 = b2 by omega)
 have ho4 : Own w7 b2 #[.int .i64 (callV k (vals l) (IntKind.wrap .i64 ((fstI 89 (vals l)).2.getD 0 0))), .int .i64 (callV k (vals l) (fld (fstI 89 (vals l)).2 0)), .int .i64 (callV k (vals l) (fld (fstI 89 (vals l)).2 1)), .int .i64 (callV k (vals l) (fld (fstI 89 (vals l)).2 2)), .int .i64 (callV k (vals l) (fld (fstI 89 (vals l)).2 3)), .int .i64 (callV k (vals l) (fld (fstI 89 (vals l)).2 4))] 52 := Own.cast hw1.own (by kernel_rfl)
 have hzhw1 := hw1.same
 refine VL_store (b := b3) (o := 0) (vs := [.int .i64 (callV k (vals l) (fk (fstI 90 (vals l)).2 0 1)), .int .i64 (callV k (vals l) (fk (fstI 90 (vals l)).2 1 2)), .int .i64 (callV k (vals l) (fk (fstI 90 (vals l)).2 3 2))]) (by kernel_rfl) (by kernel_rfl) ho3 (Nat.le_of_ble_eq_true (by kernel_rfl)) ?_
 intro w8 hw2
 replace hS := Step.transNew hS hw2.step (fun _ _ _ => by omega)
 replace hA := hA.step hw2.step (fun k hk1 hk2 (hF : k = b3) => by omega)
 replace ho1 := ho1.step hw2.step (show ¬ b1 = b3 by omega)
 replace ho4 := ho4.step hw2.step (show ¬ b2 = b3 by omega)
 have ho5 : Own w8 b3 #[.int .i64 (callV k (vals l) (fk (fstI 90 (vals l)).2 0 1)), .int .i64 (callV k (vals l) (fk (fstI 90 (vals l)).2 1 2)), .int .i64 (callV k (vals l) (fk (fstI 90 (vals l)).2 3 2))] 54 := Own.cast hw2.own (by kernel_rfl)
 have hzhw2 := hw2.same
 refine VL_pure 11 [1, 2, 3, 7, 8, 9] [(1, .int .i64 kd), (2, .int .i64 ((m : Nat) : Int)), (3, .pointer (some ⟨b1, 0, none⟩)), (7, .pointer (some ⟨b2, 0, none⟩)), (8, .pointer (some ⟨b3, 0, none⟩)), (9, .int .i64 (callE k (vals l)))] (by kernel_rfl) rfl ?_
 refine VL_end (by kernel_rfl) ?_
 refine VQ_next ?_
 refine VC_seq ?_
 refine VC_region ?_
 refine VL_load (d := 28) (t := 24) (a := ⟨b1, 0, none⟩) (v := .agg #[.int .i64 r, .bool bk, .int .i64 k, .slice A n c]) (by kernel_rfl) (by kernel_rfl) (Loads.ownL ho1 (n := 4) (by kernel_rfl) (by kernel_rfl) (by kernel_rfl)) ?_
 have hzs7 := hS.size
 have hzl7 := ho1.lt
 have hzl8 := ho4.lt
 have hzl9 := ho5.lt
 refine VL_call (d := 29) (f := 25) (by kernel_rfl) (by kernel_rfl) (by kernel_rfl) Try.call25 (rcall_any r bk k A n c 0 w.heap.size l _ hn hA (by omega) (by first | exact Nat.le_refl _ | omega) hl (fun x hx => by have hq9 := hsm x hx; omega)) ?_
 rintro _ w9 ⟨rfl, hc4⟩
 replace hS := Step.trans hS hc4
 replace hA := hA.no hc4
 replace ho1 := ho1.no hc4
 replace ho4 := ho4.no hc4
 replace ho5 := ho5.no hc4
 refine VL_pure 6 [1, 2, 3, 7, 8, 9, 30, 31, 32] [(1, .int .i64 kd), (2, .int .i64 ((m : Nat) : Int)), (3, .pointer (some ⟨b1, 0, none⟩)), (7, .pointer (some ⟨b2, 0, none⟩)), (8, .pointer (some ⟨b3, 0, none⟩)), (9, .int .i64 (callE k (vals l))), (30, .agg #[.int .i64 (callV k (vals l) (IntKind.wrap .i64 ((fstI 89 (vals l)).2.getD 0 0))), .int .i64 (callV k (vals l) (fld (fstI 89 (vals l)).2 0)), .int .i64 (callV k (vals l) (fld (fstI 89 (vals l)).2 1)), .int .i64 (callV k (vals l) (fld (fstI 89 (vals l)).2 2)), .int .i64 (callV k (vals l) (fld (fstI 89 (vals l)).2 3)), .int .i64 (callV k (vals l) (fld (fstI 89 (vals l)).2 4))]), (31, .agg #[.int .i64 (callV k (vals l) (fk (fstI 90 (vals l)).2 0 1)), .int .i64 (callV k (vals l) (fk (fstI 90 (vals l)).2 1 2)), .int .i64 (callV k (vals l) (fk (fstI 90 (vals l)).2 3 2))]), (32, .int .i64 (callE k (vals l)))] (by kernel_rfl) rfl ?_
 have hzs8 := hS.size
 have hzl10 := ho1.lt
 have hzl11 := ho4.lt
 have hzl12 := ho5.lt
 refine VL_box (d := 10) (t := 52) (c := #[.int .i64 0, .int .i64 0, .int .i64 0, .int .i64 0, .int .i64 0, .int .i64 0]) (by kernel_rfl) (by kernel_rfl) ?_
 intro b4 w10 hn4
 replace hS := Step.trans hS (hn4.step No)
 replace hA := hA.no (hn4.step No)
 replace ho1 := ho1.no (hn4.step No)
 replace ho4 := ho4.no (hn4.step No)
 replace ho5 := ho5.no (hn4.step No)
 have ho6 := hn4.own
 have hzhn4 := hn4.size
 have hqhn4 := hn4.eqb
 have hzs9 := hS.size
 have hzl13 := ho1.lt
 have hzl14 := ho4.lt
 have hzl15 := ho5.lt
 have hzl16 := ho6.lt
 refine VL_box (d := 11) (t := 54) (c := #[.int .i64 0, .int .i64 0, .int .i64 0]) (by kernel_rfl) (by kernel_rfl) ?_
 intro b5 w11 hn5
 replace hS := Step.trans hS (hn5.step No)
 replace hA := hA.no (hn5.step No)
 replace ho1 := ho1.no (hn5.step No)
 replace ho4 := ho4.no (hn5.step No)
 replace ho5 := ho5.no (hn5.step No)
 replace ho6 := ho6.no (hn5.step No)
 have ho7 := hn5.own
 have hzhn5 := hn5.size
 have hqhn5 := hn5.eqb
 refine VL_store (b := b4) (o := 0) (vs := [.int .i64 (callV k (vals l) (IntKind.wrap .i64 ((fstI 89 (vals l)).2.getD 0 0))), .int .i64 (callV k (vals l) (fld (fstI 89 (vals l)).2 0)), .int .i64 (callV k (vals l) (fld (fstI 89 (vals l)).2 1)), .int .i64 (callV k (vals l) (fld (fstI 89 (vals l)).2 2)), .int .i64 (callV k (vals l) (fld (fstI 89 (vals l)).2 3)), .int .i64 (callV k (vals l) (fld (fstI 89 (vals l)).2 4))]) (by kernel_rfl) (by kernel_rfl) ho6 (Nat.le_of_ble_eq_true (by kernel_rfl)) ?_
 intro w12 hw3
 replace hS := Step.transNew hS hw3.step (fun _ _ _ => by omega)
 replace hA := hA.step hw3.step (fun k hk1 hk2 (hF : k = b4) => by omega)
 replace ho1 := ho1.step hw3.step (show ¬ b1 = b4 by omega)
 replace ho4 := ho4.step hw3.step (show ¬ b2 = b4 by omega)
 replace ho5 := ho5.step hw3.step (show ¬ b3 = b4 by omega)
 replace ho7 := ho7.step hw3.step (show ¬ b5 = b4 by omega)
 have ho8 : Own w12 b4 #[.int .i64 (callV k (vals l) (IntKind.wrap .i64 ((fstI 89 (vals l)).2.getD 0 0))), .int .i64 (callV k (vals l) (fld (fstI 89 (vals l)).2 0)), .int .i64 (callV k (vals l) (fld (fstI 89 (vals l)).2 1)), .int .i64 (callV k (vals l) (fld (fstI 89 (vals l)).2 2)), .int .i64 (callV k (vals l) (fld (fstI 89 (vals l)).2 3)), .int .i64 (callV k (vals l) (fld (fstI 89 (vals l)).2 4))] 52 := Own.cast hw3.own (by kernel_rfl)
 have hzhw3 := hw3.same
 refine VL_store (b := b5) (o := 0) (vs := [.int .i64 (callV k (vals l) (fk (fstI 90 (vals l)).2 0 1)), .int .i64 (callV k (vals l) (fk (fstI 90 (vals l)).2 1 2)), .int .i64 (callV k (vals l) (fk (fstI 90 (vals l)).2 3 2))]) (by kernel_rfl) (by kernel_rfl) ho7 (Nat.le_of_ble_eq_true (by kernel_rfl)) ?_
 intro w13 hw4
 replace hS := Step.transNew hS hw4.step (fun _ _ _ => by omega)
 replace hA := hA.step hw4.step (fun k hk1 hk2 (hF : k = b5) => by omega)
 replace ho1 := ho1.step hw4.step (show ¬ b1 = b5 by omega)
 replace ho4 := ho4.step hw4.step (show ¬ b2 = b5 by omega)
 replace ho5 := ho5.step hw4.step (show ¬ b3 = b5 by omega)
 replace ho8 := ho8.step hw4.step (show ¬ b4 = b5 by omega)
 have ho9 : Own w13 b5 #[.int .i64 (callV k (vals l) (fk (fstI 90 (vals l)).2 0 1)), .int .i64 (callV k (vals l) (fk (fstI 90 (vals l)).2 1 2)), .int .i64 (callV k (vals l) (fk (fstI 90 (vals l)).2 3 2))] 54 := Own.cast hw4.own (by kernel_rfl)
 have hzhw4 := hw4.same
 refine VL_pure 11 [1, 2, 3, 7, 8, 9, 10, 11, 12] [(1, .int .i64 kd), (2, .int .i64 ((m : Nat) : Int)), (3, .pointer (some ⟨b1, 0, none⟩)), (7, .pointer (some ⟨b2, 0, none⟩)), (8, .pointer (some ⟨b3, 0, none⟩)), (9, .int .i64 (callE k (vals l))), (10, .pointer (some ⟨b4, 0, none⟩)), (11, .pointer (some ⟨b5, 0, none⟩)), (12, .int .i64 (callE k (vals l)))] (by kernel_rfl) rfl ?_
 refine VL_end (by kernel_rfl) ?_
 refine VQ_next ?_
 refine VC_seq ?_
 have hs1 := drew_step w13
 have hs1z : w13.heap.size = w13.drew.heap.size := rfl
 refine VC_text [[], [], [], [0, 1, 2], [], [], [], [0, 1, 2, 3, 4, 5, 6], [0, 1, 2, 3, 4, 5, 6, 7], [0, 1, 2, 3, 4, 5, 6, 7, 8], [0, 1, 2, 3, 4, 5, 6, 7, 8, 9], [0, 1, 2, 3, 4, 5, 6, 7, 8, 9, 10], [0, 1, 2, 3, 4, 5, 6, 7, 8, 9], [0, 1, 2, 3, 4, 5, 6, 7, 8, 9, 10, 11, 12], [0, 1, 2, 3, 4, 5, 6, 7, 8, 9, 10, 11, 12, 13], [0, 1, 2, 3, 4, 5, 6, 7, 8, 9, 10, 11, 12, 13, 14], [0, 1, 2, 3, 4, 5, 6, 7, 8, 9, 10, 11, 12, 13, 14, 15], [0, 1, 2, 3, 4, 5, 6, 7, 8, 9, 10, 11, 12, 13, 14, 15, 16], [0, 1, 2, 3, 4, 5, 6, 7, 8, 9, 10, 11, 12, 13, 14, 15, 16], [0, 1, 2, 3, 4, 5, 6, 7, 8, 9, 10, 11, 12, 13, 14, 15, 16, 17, 18], [0, 1, 2, 3, 4, 5, 6, 7, 8, 9, 10, 11, 12, 13, 14, 15, 16, 17, 18, 19], [0, 1, 2, 3, 4, 5, 6, 7, 8, 9, 10, 11, 12, 13, 14, 15, 16, 17, 18, 19, 20], [0, 1, 2, 3, 4, 5, 6, 7, 8, 9, 10, 11, 12, 13, 14, 15, 16, 17, 18, 19, 20, 21], [0, 1, 2, 3, 4, 5, 6, 7, 8, 9, 10, 11, 12, 13, 14, 15, 16, 17, 18, 19, 20, 21], [0, 1, 2, 3, 4, 5, 6, 7, 8, 9, 10, 11, 12, 13, 14, 15, 16, 17, 18, 19, 20, 21, 22, 23], [0, 1, 2, 3, 4, 5, 6, 7, 8, 9, 10, 11, 12, 13, 14, 15, 16, 17, 18, 19, 20, 21, 22, 23, 24], [0, 1, 2, 3, 4, 5, 6, 7, 8, 9, 10, 11, 12, 13, 14, 15, 16, 17, 18, 19, 20, 21, 22, 23, 24, 25], [0, 1, 2, 3, 4, 5, 6, 7, 8, 9, 10, 11, 12, 13, 14, 15, 16, 17, 18, 19, 20, 21, 22, 23, 24, 25, 26], [0, 1, 2, 3, 4, 5, 6, 7, 8, 9, 10, 11, 12, 13, 14, 15, 16, 17, 18, 19, 20, 21, 22, 23, 24, 25, 26], [0, 1, 2, 3, 4, 5, 6, 7, 8, 9, 10, 11, 12, 13, 14, 15, 16, 17, 18, 19, 20, 21, 22, 23, 24, 25, 26, 27, 28], [0, 1, 2, 3, 4, 5, 6, 7, 8, 9, 10, 11, 12, 13, 14, 15, 16, 17, 18, 19, 20, 21, 22, 23, 24, 25, 26, 27, 28, 29], [0, 1, 2, 3, 4, 5, 6, 7, 8, 9, 10, 11, 12, 13, 14, 15, 16, 17, 18, 19, 20, 21, 22, 23, 24, 25, 26, 27, 28, 29, 30]] 29 (fun x y => Step (fun k => w13.heap.size ≤ k) x y) [3, 7, 8, 11, 13] [0, 1, 2, 4, 5, 6, 3, 7, 8, 9, 10, 12, 11, 13, 14, 15, 16, 17, 18, 19, 20, 21, 22, 23, 24, 25, 26, 27, 28] (by kernel_rfl) (by kernel_rfl) (by kernel_rfl) (by kernel_rfl) (fun x => Step.refl _ x) (fun h k => Step.trans h k) Step.weak ?_
 have hzs10 := hS.size
 have hzl17 := ho1.lt
 have hzl18 := ho4.lt
 have hzl19 := ho5.lt
 have hzl20 := ho8.lt
 have hzl21 := ho9.lt
 generalize w13.drew = w14 at hs1 hs1z ⊢
 replace hS := Step.trans hS hs1
 replace hA := hA.no hs1
 replace ho1 := ho1.no hs1
 replace ho4 := ho4.no hs1
 replace ho5 := ho5.no hs1
 replace ho8 := ho8.no hs1
 replace ho9 := ho9.no hs1
 refine VT_load (d := 33) (t := 24) (a := ⟨b1, 0, none⟩) (v := .agg #[.int .i64 r, .bool bk, .int .i64 k, .slice A n c]) (by kernel_rfl) (by kernel_rfl) ?_ ?_
 ·intro w15 hr1
  replace hS := Step.transNew hS hr1 (fun i hi hG => by (try simp only at hG); omega)
  replace hA := hA.step hr1 (fun k hk1 hk2 hG => by (try simp only at hG); omega)
  replace ho1 := ho1.step hr1 (by (try simp only); omega)
  replace ho4 := ho4.step hr1 (by (try simp only); omega)
  replace ho5 := ho5.step hr1 (by (try simp only); omega)
  replace ho8 := ho8.step hr1 (by (try simp only); omega)
  replace ho9 := ho9.step hr1 (by (try simp only); omega)
  exact (Loads.ownL ho1 (n := 4) (by kernel_rfl) (by kernel_rfl) (by kernel_rfl))
 refine VT_pures 2 (kn' := [(2, .int .i64 ((m : Nat) : Int)), (1, .int .i64 kd), (0, .agg #[.int .i64 r, .bool bk, .int .i64 k, .slice A n c])]) (by kernel_rfl) ?_
 refine VT_load (d := 37) (t := 24) (a := ⟨b1, 0, none⟩) (v := .agg #[.int .i64 r, .bool bk, .int .i64 k, .slice A n c]) (by kernel_rfl) (by kernel_rfl) ?_ ?_
 ·intro w16 hr2
  replace hS := Step.transNew hS hr2 (fun i hi hG => by (try simp only at hG); omega)
  replace hA := hA.step hr2 (fun k hk1 hk2 hG => by (try simp only at hG); omega)
  replace ho1 := ho1.step hr2 (by (try simp only); omega)
  replace ho4 := ho4.step hr2 (by (try simp only); omega)
  replace ho5 := ho5.step hr2 (by (try simp only); omega)
  replace ho8 := ho8.step hr2 (by (try simp only); omega)
  replace ho9 := ho9.step hr2 (by (try simp only); omega)
  exact (Loads.ownL ho1 (n := 4) (by kernel_rfl) (by kernel_rfl) (by kernel_rfl))
 refine VT_pures 2 (kn' := [(6, .int .i64 ((m : Nat) : Int)), (5, .int .i64 kd), (4, .agg #[.int .i64 r, .bool bk, .int .i64 k, .slice A n c]), (2, .int .i64 ((m : Nat) : Int)), (1, .int .i64 kd), (0, .agg #[.int .i64 r, .bool bk, .int .i64 k, .slice A n c])]) (by kernel_rfl) ?_
 refine VT_chain (by kernel_rfl) ?_
 intro w17 hs2
 have hzhs2 := hs2.size
 replace hS := Step.trans hS hs2
 replace hA := hA.no hs2
 replace ho1 := ho1.no hs2
 replace ho4 := ho4.no hs2
 replace ho5 := ho5.no hs2
 replace ho8 := ho8.no hs2
 replace ho9 := ho9.no hs2
 have hzs11 := hS.size
 have hzl22 := ho1.lt
 have hzl23 := ho4.lt
 have hzl24 := ho5.lt
 have hzl25 := ho8.lt
 have hzl26 := ho9.lt
 refine VTc_call (d := 36) (f := 19) (by kernel_rfl) (by kernel_rfl) (by kernel_rfl) Try.call19 (ans_yes r bk k A n c kd m _ (by omega)) ?_ ?_
 ·rintro _ w18 ⟨Aa1, Ab1, rfl, hI1, hc5⟩
  exact Step.mono hc5 (by intro i hi; first | exact hi.elim | ((try simp only at hi ⊢); omega))
 rintro _ w18 ⟨Aa1, Ab1, rfl, hI1, hc5⟩
 have hzhc5 := (hc5).size
 replace hS := Step.trans hS hc5
 replace hA := hA.no hc5
 replace ho1 := ho1.no hc5
 replace ho4 := ho4.no hc5
 replace ho5 := ho5.no hc5
 replace ho8 := ho8.no hc5
 replace ho9 := ho9.no hc5
 have hlehI1 : w18.heap.size ≤ w18.heap.size := Nat.le_refl _
 refine VT_chain (by kernel_rfl) ?_
 intro w19 hs3
 have hzhs3 := hs3.size
 replace hS := Step.trans hS hs3
 replace hA := hA.no hs3
 replace ho1 := ho1.no hs3
 replace ho4 := ho4.no hs3
 replace ho5 := ho5.no hs3
 replace ho8 := ho8.no hs3
 replace ho9 := ho9.no hs3
 replace hI1 := hI1.no hs3
 replace hlehI1 := Nat.le_trans hlehI1 (hs3).size
 have hzs12 := hS.size
 have hzl27 := ho1.lt
 have hzl28 := ho4.lt
 have hzl29 := ho5.lt
 have hzl30 := ho8.lt
 have hzl31 := ho9.lt
 refine VTc_call (d := 40) (f := 26) (by kernel_rfl) (by kernel_rfl) (by kernel_rfl) Try.call26 (rans_yes r bk k A n c kd m _ (by omega)) ?_ ?_
 ·rintro _ w20 ⟨Aa2, Ab2, rfl, hI2, hc6⟩
  exact Step.mono hc6 (by intro i hi; first | exact hi.elim | ((try simp only at hi ⊢); omega))
 rintro _ w20 ⟨Aa2, Ab2, rfl, hI2, hc6⟩
 have hzhc6 := (hc6).size
 replace hS := Step.trans hS hc6
 replace hA := hA.no hc6
 replace ho1 := ho1.no hc6
 replace ho4 := ho4.no hc6
 replace ho5 := ho5.no hc6
 replace ho8 := ho8.no hc6
 replace ho9 := ho9.no hc6
 replace hI1 := hI1.no hc6
 replace hlehI1 := Nat.le_trans hlehI1 (hc6).size
 have hlehI2 : w20.heap.size ≤ w20.heap.size := Nat.le_refl _
 refine VT_chain (by kernel_rfl) ?_
 intro w21 hs4
 have hzhs4 := hs4.size
 replace hS := Step.trans hS hs4
 replace hA := hA.no hs4
 replace ho1 := ho1.no hs4
 replace ho4 := ho4.no hs4
 replace ho5 := ho5.no hs4
 replace ho8 := ho8.no hs4
 replace ho9 := ho9.no hs4
 replace hI1 := hI1.no hs4
 replace hlehI1 := Nat.le_trans hlehI1 (hs4).size
 replace hI2 := hI2.no hs4
 replace hlehI2 := Nat.le_trans hlehI2 (hs4).size
 have hzs13 := hS.size
 have hzl32 := ho1.lt
 have hzl33 := ho4.lt
 have hzl34 := ho5.lt
 have hzl35 := ho8.lt
 have hzl36 := ho9.lt
 refine VTc_call (d := 41) (f := 16) (by kernel_rfl) (by kernel_rfl) (by kernel_rfl) Try.call16 (same16_any r (!bk) kd r (!bk) kd Aa1 1 1 0 w18.heap.size ([⟨8, Ab1, 2, 2, [0, ((m : Nat) : Int)]⟩]) _ rfl hI1 Aa2 1 1 0 w20.heap.size ([⟨8, Ab2, 2, 2, [0, ((m : Nat) : Int)]⟩]) rfl hI2   (by omega) (by simp only [List.mem_cons, List.mem_nil_iff, or_false]; intro x hx; first | exact hx.elim | (subst hx; dsimp only; omega)) (by simp only [List.mem_cons, List.mem_nil_iff, or_false]; intro x hx; first | exact hx.elim | (subst hx; dsimp only; omega)) (by first | exact Nat.le_refl _ | omega) (by first | exact Nat.le_refl _ | omega)) ?_ ?_
 ·rintro _ w22 ⟨rfl, hc7⟩
  exact Step.mono hc7 (by intro i hi; first | exact hi.elim | ((try simp only at hi ⊢); omega))
 rintro _ w22 ⟨rfl, hc7⟩
 have hzhc7 := (hc7).size
 replace hS := Step.trans hS hc7
 replace hA := hA.no hc7
 replace ho1 := ho1.no hc7
 replace ho4 := ho4.no hc7
 replace ho5 := ho5.no hc7
 replace ho8 := ho8.no hc7
 replace ho9 := ho9.no hc7
 replace hI1 := hI1.no hc7
 replace hlehI1 := Nat.le_trans hlehI1 (hc7).size
 replace hI2 := hI2.no hc7
 replace hlehI2 := Nat.le_trans hlehI2 (hc7).size
 refine VT_pures 1 (kn' := [(9, .bool (sameM r (!bk) kd (vals ([⟨8, Ab1, 2, 2, [0, ((m : Nat) : Int)]⟩])) r (!bk) kd (vals ([⟨8, Ab2, 2, 2, [0, ((m : Nat) : Int)]⟩])))), (8, .bool (sameM r (!bk) kd (vals ([⟨8, Ab1, 2, 2, [0, ((m : Nat) : Int)]⟩])) r (!bk) kd (vals ([⟨8, Ab2, 2, 2, [0, ((m : Nat) : Int)]⟩])))), (7, .agg #[.int .i64 r, .bool (!bk), .int .i64 kd, .slice Aa2 1 1]), (3, .agg #[.int .i64 r, .bool (!bk), .int .i64 kd, .slice Aa1 1 1]), (6, .int .i64 ((m : Nat) : Int)), (5, .int .i64 kd), (4, .agg #[.int .i64 r, .bool bk, .int .i64 k, .slice A n c]), (2, .int .i64 ((m : Nat) : Int)), (1, .int .i64 kd), (0, .agg #[.int .i64 r, .bool bk, .int .i64 k, .slice A n c])]) (by kernel_rfl) ?_
 have hg1 : (sameM r (!bk) kd (vals ([⟨8, Ab1, 2, 2, [0, ((m : Nat) : Int)]⟩])) r (!bk) kd (vals ([⟨8, Ab2, 2, 2, [0, ((m : Nat) : Int)]⟩]))) = true := (sameM_is rfl rfl rfl rfl)
 refine VT_eq [(9, .bool true), (8, .bool true), (7, .agg #[.int .i64 r, .bool (!bk), .int .i64 kd, .slice Aa2 1 1]), (3, .agg #[.int .i64 r, .bool (!bk), .int .i64 kd, .slice Aa1 1 1]), (6, .int .i64 ((m : Nat) : Int)), (5, .int .i64 kd), (4, .agg #[.int .i64 r, .bool bk, .int .i64 k, .slice A n c]), (2, .int .i64 ((m : Nat) : Int)), (1, .int .i64 kd), (0, .agg #[.int .i64 r, .bool bk, .int .i64 k, .slice A n c])] (by simp only [hg1, Bool.not_true, Bool.not_false]) ?_
 refine VT_load (d := 43) (t := 24) (a := ⟨b1, 0, none⟩) (v := .agg #[.int .i64 r, .bool bk, .int .i64 k, .slice A n c]) (by kernel_rfl) (by kernel_rfl) ?_ ?_
 ·intro w23 hr3
  replace hS := Step.transNew hS hr3 (fun i hi hG => by (try simp only at hG); omega)
  replace hA := hA.step hr3 (fun k hk1 hk2 hG => by (try simp only at hG); omega)
  replace ho1 := ho1.step hr3 (by (try simp only); omega)
  replace ho4 := ho4.step hr3 (by (try simp only); omega)
  replace ho5 := ho5.step hr3 (by (try simp only); omega)
  replace ho8 := ho8.step hr3 (by (try simp only); omega)
  replace ho9 := ho9.step hr3 (by (try simp only); omega)
  replace hlehI1 := Nat.le_trans hlehI1 (hr3).size
  replace hlehI2 := Nat.le_trans hlehI2 (hr3).size
  exact (Loads.ownL ho1 (n := 4) (by kernel_rfl) (by kernel_rfl) (by kernel_rfl))
 refine VT_load (d := 45) (t := 24) (a := ⟨b1, 0, none⟩) (v := .agg #[.int .i64 r, .bool bk, .int .i64 k, .slice A n c]) (by kernel_rfl) (by kernel_rfl) ?_ ?_
 ·intro w24 hr4
  replace hS := Step.transNew hS hr4 (fun i hi hG => by (try simp only at hG); omega)
  replace hA := hA.step hr4 (fun k hk1 hk2 hG => by (try simp only at hG); omega)
  replace ho1 := ho1.step hr4 (by (try simp only); omega)
  replace ho4 := ho4.step hr4 (by (try simp only); omega)
  replace ho5 := ho5.step hr4 (by (try simp only); omega)
  replace ho8 := ho8.step hr4 (by (try simp only); omega)
  replace ho9 := ho9.step hr4 (by (try simp only); omega)
  replace hlehI1 := Nat.le_trans hlehI1 (hr4).size
  replace hlehI2 := Nat.le_trans hlehI2 (hr4).size
  exact (Loads.ownL ho1 (n := 4) (by kernel_rfl) (by kernel_rfl) (by kernel_rfl))
 refine VT_chain (by kernel_rfl) ?_
 intro w25 hs5
 have hzhs5 := hs5.size
 replace hS := Step.trans hS hs5
 replace hA := hA.no hs5
 replace ho1 := ho1.no hs5
 replace ho4 := ho4.no hs5
 replace ho5 := ho5.no hs5
 replace ho8 := ho8.no hs5
 replace ho9 := ho9.no hs5
 replace hI1 := hI1.no hs5
 replace hlehI1 := Nat.le_trans hlehI1 (hs5).size
 replace hI2 := hI2.no hs5
 replace hlehI2 := Nat.le_trans hlehI2 (hs5).size
 have hzs14 := hS.size
 have hzl37 := ho1.lt
 have hzl38 := ho4.lt
 have hzl39 := ho5.lt
 have hzl40 := ho8.lt
 have hzl41 := ho9.lt
 refine VTc_call (d := 44) (f := 20) (by kernel_rfl) (by kernel_rfl) (by kernel_rfl) Try.call20 (mcause_any r bk k A n c 0 w.heap.size l _ hn hA (by omega) (by first | exact Nat.le_refl _ | omega) hl (fun x hx => by have hq9 := hsm x hx; omega)) ?_ ?_
 ·rintro _ w26 ⟨rfl, hc8⟩
  exact Step.mono hc8 (by intro i hi; first | exact hi.elim | ((try simp only at hi ⊢); omega))
 rintro _ w26 ⟨rfl, hc8⟩
 have hzhc8 := (hc8).size
 replace hS := Step.trans hS hc8
 replace hA := hA.no hc8
 replace ho1 := ho1.no hc8
 replace ho4 := ho4.no hc8
 replace ho5 := ho5.no hc8
 replace ho8 := ho8.no hc8
 replace ho9 := ho9.no hc8
 replace hI1 := hI1.no hc8
 replace hlehI1 := Nat.le_trans hlehI1 (hc8).size
 replace hI2 := hI2.no hc8
 replace hlehI2 := Nat.le_trans hlehI2 (hc8).size
 refine VT_chain (by kernel_rfl) ?_
 intro w27 hs6
 have hzhs6 := hs6.size
 replace hS := Step.trans hS hs6
 replace hA := hA.no hs6
 replace ho1 := ho1.no hs6
 replace ho4 := ho4.no hs6
 replace ho5 := ho5.no hs6
 replace ho8 := ho8.no hs6
 replace ho9 := ho9.no hs6
 replace hI1 := hI1.no hs6
 replace hlehI1 := Nat.le_trans hlehI1 (hs6).size
 replace hI2 := hI2.no hs6
 replace hlehI2 := Nat.le_trans hlehI2 (hs6).size
 have hzs15 := hS.size
 have hzl42 := ho1.lt
 have hzl43 := ho4.lt
 have hzl44 := ho5.lt
 have hzl45 := ho8.lt
 have hzl46 := ho9.lt
 refine VTc_call (d := 46) (f := 27) (by kernel_rfl) (by kernel_rfl) (by kernel_rfl) Try.call27 (rmcause_any r bk k A n c 0 w.heap.size l _ hn hA (by omega) (by first | exact Nat.le_refl _ | omega) hl (fun x hx => by have hq9 := hsm x hx; omega)) ?_ ?_
 ·rintro _ w28 ⟨rfl, hc9⟩
  exact Step.mono hc9 (by intro i hi; first | exact hi.elim | ((try simp only at hi ⊢); omega))
 rintro _ w28 ⟨rfl, hc9⟩
 have hzhc9 := (hc9).size
 replace hS := Step.trans hS hc9
 replace hA := hA.no hc9
 replace ho1 := ho1.no hc9
 replace ho4 := ho4.no hc9
 replace ho5 := ho5.no hc9
 replace ho8 := ho8.no hc9
 replace ho9 := ho9.no hc9
 replace hI1 := hI1.no hc9
 replace hlehI1 := Nat.le_trans hlehI1 (hc9).size
 replace hI2 := hI2.no hc9
 replace hlehI2 := Nat.le_trans hlehI2 (hc9).size
 refine VT_pures 3 (kn' := [(16, .bool ((mcause (vals l)) == (mcause (vals l)))), (15, .bool ((mcause (vals l)) == (mcause (vals l)))), (14, .bool ((mcause (vals l)) == (mcause (vals l)))), (13, .int .i64 (mcause (vals l))), (11, .int .i64 (mcause (vals l))), (12, .agg #[.int .i64 r, .bool bk, .int .i64 k, .slice A n c]), (10, .agg #[.int .i64 r, .bool bk, .int .i64 k, .slice A n c]), (9, .bool true), (8, .bool true), (7, .agg #[.int .i64 r, .bool (!bk), .int .i64 kd, .slice Aa2 1 1]), (3, .agg #[.int .i64 r, .bool (!bk), .int .i64 kd, .slice Aa1 1 1]), (6, .int .i64 ((m : Nat) : Int)), (5, .int .i64 kd), (4, .agg #[.int .i64 r, .bool bk, .int .i64 k, .slice A n c]), (2, .int .i64 ((m : Nat) : Int)), (1, .int .i64 kd), (0, .agg #[.int .i64 r, .bool bk, .int .i64 k, .slice A n c])]) (by kernel_rfl) ?_
 have hg2 : ((mcause (vals l)) == (mcause (vals l))) = true := (by simp)
 refine VT_eq [(16, .bool true), (15, .bool true), (14, .bool true), (13, .int .i64 (mcause (vals l))), (11, .int .i64 (mcause (vals l))), (12, .agg #[.int .i64 r, .bool bk, .int .i64 k, .slice A n c]), (10, .agg #[.int .i64 r, .bool bk, .int .i64 k, .slice A n c]), (9, .bool true), (8, .bool true), (7, .agg #[.int .i64 r, .bool (!bk), .int .i64 kd, .slice Aa2 1 1]), (3, .agg #[.int .i64 r, .bool (!bk), .int .i64 kd, .slice Aa1 1 1]), (6, .int .i64 ((m : Nat) : Int)), (5, .int .i64 kd), (4, .agg #[.int .i64 r, .bool bk, .int .i64 k, .slice A n c]), (2, .int .i64 ((m : Nat) : Int)), (1, .int .i64 kd), (0, .agg #[.int .i64 r, .bool bk, .int .i64 k, .slice A n c])] (by simp only [hg2, Bool.not_true, Bool.not_false]) ?_
 refine VT_load (d := 50) (t := 52) (a := ⟨b2, 0, none⟩) (v := .agg #[.int .i64 (callV k (vals l) (IntKind.wrap .i64 ((fstI 89 (vals l)).2.getD 0 0))), .int .i64 (callV k (vals l) (fld (fstI 89 (vals l)).2 0)), .int .i64 (callV k (vals l) (fld (fstI 89 (vals l)).2 1)), .int .i64 (callV k (vals l) (fld (fstI 89 (vals l)).2 2)), .int .i64 (callV k (vals l) (fld (fstI 89 (vals l)).2 3)), .int .i64 (callV k (vals l) (fld (fstI 89 (vals l)).2 4))]) (by kernel_rfl) (by kernel_rfl) ?_ ?_
 ·intro w29 hr5
  replace hS := Step.transNew hS hr5 (fun i hi hG => by (try simp only at hG); omega)
  replace hA := hA.step hr5 (fun k hk1 hk2 hG => by (try simp only at hG); omega)
  replace ho1 := ho1.step hr5 (by (try simp only); omega)
  replace ho4 := ho4.step hr5 (by (try simp only); omega)
  replace ho5 := ho5.step hr5 (by (try simp only); omega)
  replace ho8 := ho8.step hr5 (by (try simp only); omega)
  replace ho9 := ho9.step hr5 (by (try simp only); omega)
  replace hlehI1 := Nat.le_trans hlehI1 (hr5).size
  replace hlehI2 := Nat.le_trans hlehI2 (hr5).size
  exact (Loads.ownL ho4 (n := 6) (by kernel_rfl) (by kernel_rfl) (by kernel_rfl))
 refine VT_load (d := 51) (t := 52) (a := ⟨b4, 0, none⟩) (v := .agg #[.int .i64 (callV k (vals l) (IntKind.wrap .i64 ((fstI 89 (vals l)).2.getD 0 0))), .int .i64 (callV k (vals l) (fld (fstI 89 (vals l)).2 0)), .int .i64 (callV k (vals l) (fld (fstI 89 (vals l)).2 1)), .int .i64 (callV k (vals l) (fld (fstI 89 (vals l)).2 2)), .int .i64 (callV k (vals l) (fld (fstI 89 (vals l)).2 3)), .int .i64 (callV k (vals l) (fld (fstI 89 (vals l)).2 4))]) (by kernel_rfl) (by kernel_rfl) ?_ ?_
 ·intro w30 hr6
  replace hS := Step.transNew hS hr6 (fun i hi hG => by (try simp only at hG); omega)
  replace hA := hA.step hr6 (fun k hk1 hk2 hG => by (try simp only at hG); omega)
  replace ho1 := ho1.step hr6 (by (try simp only); omega)
  replace ho4 := ho4.step hr6 (by (try simp only); omega)
  replace ho5 := ho5.step hr6 (by (try simp only); omega)
  replace ho8 := ho8.step hr6 (by (try simp only); omega)
  replace ho9 := ho9.step hr6 (by (try simp only); omega)
  replace hlehI1 := Nat.le_trans hlehI1 (hr6).size
  replace hlehI2 := Nat.le_trans hlehI2 (hr6).size
  exact (Loads.ownL ho8 (n := 6) (by kernel_rfl) (by kernel_rfl) (by kernel_rfl))
 refine VT_agEq (d := 52) (dd := 9) (ls := ([.int .i64] ++ [.int .i64] ++ [.int .i64] ++ [.int .i64] ++ [.int .i64] ++ [.int .i64] ++ [])) (pos := true) (t := 52) (xs := #[.int .i64 (callV k (vals l) (IntKind.wrap .i64 ((fstI 89 (vals l)).2.getD 0 0))), .int .i64 (callV k (vals l) (fld (fstI 89 (vals l)).2 0)), .int .i64 (callV k (vals l) (fld (fstI 89 (vals l)).2 1)), .int .i64 (callV k (vals l) (fld (fstI 89 (vals l)).2 2)), .int .i64 (callV k (vals l) (fld (fstI 89 (vals l)).2 3)), .int .i64 (callV k (vals l) (fld (fstI 89 (vals l)).2 4))]) (ys := #[.int .i64 (callV k (vals l) (IntKind.wrap .i64 ((fstI 89 (vals l)).2.getD 0 0))), .int .i64 (callV k (vals l) (fld (fstI 89 (vals l)).2 0)), .int .i64 (callV k (vals l) (fld (fstI 89 (vals l)).2 1)), .int .i64 (callV k (vals l) (fld (fstI 89 (vals l)).2 2)), .int .i64 (callV k (vals l) (fld (fstI 89 (vals l)).2 3)), .int .i64 (callV k (vals l) (fld (fstI 89 (vals l)).2 4))]) (by kernel_rfl) (by kernel_rfl) (by kernel_rfl) (by kernel_rfl) (by first | exact ⟨⟨_, rfl⟩, ⟨_, rfl⟩, ⟨_, rfl⟩, ⟨_, rfl⟩, ⟨_, rfl⟩, ⟨_, rfl⟩, trivial⟩ | trivial) (by first | exact ⟨⟨_, rfl⟩, ⟨_, rfl⟩, ⟨_, rfl⟩, ⟨_, rfl⟩, ⟨_, rfl⟩, ⟨_, rfl⟩, trivial⟩ | trivial) (([callV k (vals l) (IntKind.wrap .i64 ((fstI 89 (vals l)).2.getD 0 0)), callV k (vals l) (fld (fstI 89 (vals l)).2 0), callV k (vals l) (fld (fstI 89 (vals l)).2 1), callV k (vals l) (fld (fstI 89 (vals l)).2 2), callV k (vals l) (fld (fstI 89 (vals l)).2 3), callV k (vals l) (fld (fstI 89 (vals l)).2 4)] : List Int) == [callV k (vals l) (IntKind.wrap .i64 ((fstI 89 (vals l)).2.getD 0 0)), callV k (vals l) (fld (fstI 89 (vals l)).2 0), callV k (vals l) (fld (fstI 89 (vals l)).2 1), callV k (vals l) (fld (fstI 89 (vals l)).2 2), callV k (vals l) (fld (fstI 89 (vals l)).2 3), callV k (vals l) (fld (fstI 89 (vals l)).2 4)]) (iA_eq (k := .i64) (xs := [callV k (vals l) (IntKind.wrap .i64 ((fstI 89 (vals l)).2.getD 0 0)), callV k (vals l) (fld (fstI 89 (vals l)).2 0), callV k (vals l) (fld (fstI 89 (vals l)).2 1), callV k (vals l) (fld (fstI 89 (vals l)).2 2), callV k (vals l) (fld (fstI 89 (vals l)).2 3), callV k (vals l) (fld (fstI 89 (vals l)).2 4)]) (bs := [callV k (vals l) (IntKind.wrap .i64 ((fstI 89 (vals l)).2.getD 0 0)), callV k (vals l) (fld (fstI 89 (vals l)).2 0), callV k (vals l) (fld (fstI 89 (vals l)).2 1), callV k (vals l) (fld (fstI 89 (vals l)).2 2), callV k (vals l) (fld (fstI 89 (vals l)).2 3), callV k (vals l) (fld (fstI 89 (vals l)).2 4)]) true) ?_
 refine VT_pures 2 (kn' := [(21, .bool (([callV k (vals l) (IntKind.wrap .i64 ((fstI 89 (vals l)).2.getD 0 0)), callV k (vals l) (fld (fstI 89 (vals l)).2 0), callV k (vals l) (fld (fstI 89 (vals l)).2 1), callV k (vals l) (fld (fstI 89 (vals l)).2 2), callV k (vals l) (fld (fstI 89 (vals l)).2 3), callV k (vals l) (fld (fstI 89 (vals l)).2 4)] : List Int) == [callV k (vals l) (IntKind.wrap .i64 ((fstI 89 (vals l)).2.getD 0 0)), callV k (vals l) (fld (fstI 89 (vals l)).2 0), callV k (vals l) (fld (fstI 89 (vals l)).2 1), callV k (vals l) (fld (fstI 89 (vals l)).2 2), callV k (vals l) (fld (fstI 89 (vals l)).2 3), callV k (vals l) (fld (fstI 89 (vals l)).2 4)])), (20, .bool (([callV k (vals l) (IntKind.wrap .i64 ((fstI 89 (vals l)).2.getD 0 0)), callV k (vals l) (fld (fstI 89 (vals l)).2 0), callV k (vals l) (fld (fstI 89 (vals l)).2 1), callV k (vals l) (fld (fstI 89 (vals l)).2 2), callV k (vals l) (fld (fstI 89 (vals l)).2 3), callV k (vals l) (fld (fstI 89 (vals l)).2 4)] : List Int) == [callV k (vals l) (IntKind.wrap .i64 ((fstI 89 (vals l)).2.getD 0 0)), callV k (vals l) (fld (fstI 89 (vals l)).2 0), callV k (vals l) (fld (fstI 89 (vals l)).2 1), callV k (vals l) (fld (fstI 89 (vals l)).2 2), callV k (vals l) (fld (fstI 89 (vals l)).2 3), callV k (vals l) (fld (fstI 89 (vals l)).2 4)])), (19, .bool (([callV k (vals l) (IntKind.wrap .i64 ((fstI 89 (vals l)).2.getD 0 0)), callV k (vals l) (fld (fstI 89 (vals l)).2 0), callV k (vals l) (fld (fstI 89 (vals l)).2 1), callV k (vals l) (fld (fstI 89 (vals l)).2 2), callV k (vals l) (fld (fstI 89 (vals l)).2 3), callV k (vals l) (fld (fstI 89 (vals l)).2 4)] : List Int) == [callV k (vals l) (IntKind.wrap .i64 ((fstI 89 (vals l)).2.getD 0 0)), callV k (vals l) (fld (fstI 89 (vals l)).2 0), callV k (vals l) (fld (fstI 89 (vals l)).2 1), callV k (vals l) (fld (fstI 89 (vals l)).2 2), callV k (vals l) (fld (fstI 89 (vals l)).2 3), callV k (vals l) (fld (fstI 89 (vals l)).2 4)])), (18, .agg #[.int .i64 (callV k (vals l) (IntKind.wrap .i64 ((fstI 89 (vals l)).2.getD 0 0))), .int .i64 (callV k (vals l) (fld (fstI 89 (vals l)).2 0)), .int .i64 (callV k (vals l) (fld (fstI 89 (vals l)).2 1)), .int .i64 (callV k (vals l) (fld (fstI 89 (vals l)).2 2)), .int .i64 (callV k (vals l) (fld (fstI 89 (vals l)).2 3)), .int .i64 (callV k (vals l) (fld (fstI 89 (vals l)).2 4))]), (17, .agg #[.int .i64 (callV k (vals l) (IntKind.wrap .i64 ((fstI 89 (vals l)).2.getD 0 0))), .int .i64 (callV k (vals l) (fld (fstI 89 (vals l)).2 0)), .int .i64 (callV k (vals l) (fld (fstI 89 (vals l)).2 1)), .int .i64 (callV k (vals l) (fld (fstI 89 (vals l)).2 2)), .int .i64 (callV k (vals l) (fld (fstI 89 (vals l)).2 3)), .int .i64 (callV k (vals l) (fld (fstI 89 (vals l)).2 4))]), (16, .bool true), (15, .bool true), (14, .bool true), (13, .int .i64 (mcause (vals l))), (11, .int .i64 (mcause (vals l))), (12, .agg #[.int .i64 r, .bool bk, .int .i64 k, .slice A n c]), (10, .agg #[.int .i64 r, .bool bk, .int .i64 k, .slice A n c]), (9, .bool true), (8, .bool true), (7, .agg #[.int .i64 r, .bool (!bk), .int .i64 kd, .slice Aa2 1 1]), (3, .agg #[.int .i64 r, .bool (!bk), .int .i64 kd, .slice Aa1 1 1]), (6, .int .i64 ((m : Nat) : Int)), (5, .int .i64 kd), (4, .agg #[.int .i64 r, .bool bk, .int .i64 k, .slice A n c]), (2, .int .i64 ((m : Nat) : Int)), (1, .int .i64 kd), (0, .agg #[.int .i64 r, .bool bk, .int .i64 k, .slice A n c])]) (by kernel_rfl) ?_
 have hg3 : (([callV k (vals l) (IntKind.wrap .i64 ((fstI 89 (vals l)).2.getD 0 0)), callV k (vals l) (fld (fstI 89 (vals l)).2 0), callV k (vals l) (fld (fstI 89 (vals l)).2 1), callV k (vals l) (fld (fstI 89 (vals l)).2 2), callV k (vals l) (fld (fstI 89 (vals l)).2 3), callV k (vals l) (fld (fstI 89 (vals l)).2 4)] : List Int) == [callV k (vals l) (IntKind.wrap .i64 ((fstI 89 (vals l)).2.getD 0 0)), callV k (vals l) (fld (fstI 89 (vals l)).2 0), callV k (vals l) (fld (fstI 89 (vals l)).2 1), callV k (vals l) (fld (fstI 89 (vals l)).2 2), callV k (vals l) (fld (fstI 89 (vals l)).2 3), callV k (vals l) (fld (fstI 89 (vals l)).2 4)]) = true := (by simp)
 refine VT_eq [(21, .bool true), (20, .bool true), (19, .bool true), (18, .agg #[.int .i64 (callV k (vals l) (IntKind.wrap .i64 ((fstI 89 (vals l)).2.getD 0 0))), .int .i64 (callV k (vals l) (fld (fstI 89 (vals l)).2 0)), .int .i64 (callV k (vals l) (fld (fstI 89 (vals l)).2 1)), .int .i64 (callV k (vals l) (fld (fstI 89 (vals l)).2 2)), .int .i64 (callV k (vals l) (fld (fstI 89 (vals l)).2 3)), .int .i64 (callV k (vals l) (fld (fstI 89 (vals l)).2 4))]), (17, .agg #[.int .i64 (callV k (vals l) (IntKind.wrap .i64 ((fstI 89 (vals l)).2.getD 0 0))), .int .i64 (callV k (vals l) (fld (fstI 89 (vals l)).2 0)), .int .i64 (callV k (vals l) (fld (fstI 89 (vals l)).2 1)), .int .i64 (callV k (vals l) (fld (fstI 89 (vals l)).2 2)), .int .i64 (callV k (vals l) (fld (fstI 89 (vals l)).2 3)), .int .i64 (callV k (vals l) (fld (fstI 89 (vals l)).2 4))]), (16, .bool true), (15, .bool true), (14, .bool true), (13, .int .i64 (mcause (vals l))), (11, .int .i64 (mcause (vals l))), (12, .agg #[.int .i64 r, .bool bk, .int .i64 k, .slice A n c]), (10, .agg #[.int .i64 r, .bool bk, .int .i64 k, .slice A n c]), (9, .bool true), (8, .bool true), (7, .agg #[.int .i64 r, .bool (!bk), .int .i64 kd, .slice Aa2 1 1]), (3, .agg #[.int .i64 r, .bool (!bk), .int .i64 kd, .slice Aa1 1 1]), (6, .int .i64 ((m : Nat) : Int)), (5, .int .i64 kd), (4, .agg #[.int .i64 r, .bool bk, .int .i64 k, .slice A n c]), (2, .int .i64 ((m : Nat) : Int)), (1, .int .i64 kd), (0, .agg #[.int .i64 r, .bool bk, .int .i64 k, .slice A n c])] (by simp only [hg3, Bool.not_true, Bool.not_false]) ?_
 refine VT_load (d := 55) (t := 54) (a := ⟨b3, 0, none⟩) (v := .agg #[.int .i64 (callV k (vals l) (fk (fstI 90 (vals l)).2 0 1)), .int .i64 (callV k (vals l) (fk (fstI 90 (vals l)).2 1 2)), .int .i64 (callV k (vals l) (fk (fstI 90 (vals l)).2 3 2))]) (by kernel_rfl) (by kernel_rfl) ?_ ?_
 ·intro w31 hr7
  replace hS := Step.transNew hS hr7 (fun i hi hG => by (try simp only at hG); omega)
  replace hA := hA.step hr7 (fun k hk1 hk2 hG => by (try simp only at hG); omega)
  replace ho1 := ho1.step hr7 (by (try simp only); omega)
  replace ho4 := ho4.step hr7 (by (try simp only); omega)
  replace ho5 := ho5.step hr7 (by (try simp only); omega)
  replace ho8 := ho8.step hr7 (by (try simp only); omega)
  replace ho9 := ho9.step hr7 (by (try simp only); omega)
  replace hlehI1 := Nat.le_trans hlehI1 (hr7).size
  replace hlehI2 := Nat.le_trans hlehI2 (hr7).size
  exact (Loads.ownL ho5 (n := 3) (by kernel_rfl) (by kernel_rfl) (by kernel_rfl))
 refine VT_load (d := 56) (t := 54) (a := ⟨b5, 0, none⟩) (v := .agg #[.int .i64 (callV k (vals l) (fk (fstI 90 (vals l)).2 0 1)), .int .i64 (callV k (vals l) (fk (fstI 90 (vals l)).2 1 2)), .int .i64 (callV k (vals l) (fk (fstI 90 (vals l)).2 3 2))]) (by kernel_rfl) (by kernel_rfl) ?_ ?_
 ·intro w32 hr8
  replace hS := Step.transNew hS hr8 (fun i hi hG => by (try simp only at hG); omega)
  replace hA := hA.step hr8 (fun k hk1 hk2 hG => by (try simp only at hG); omega)
  replace ho1 := ho1.step hr8 (by (try simp only); omega)
  replace ho4 := ho4.step hr8 (by (try simp only); omega)
  replace ho5 := ho5.step hr8 (by (try simp only); omega)
  replace ho8 := ho8.step hr8 (by (try simp only); omega)
  replace ho9 := ho9.step hr8 (by (try simp only); omega)
  replace hlehI1 := Nat.le_trans hlehI1 (hr8).size
  replace hlehI2 := Nat.le_trans hlehI2 (hr8).size
  exact (Loads.ownL ho9 (n := 3) (by kernel_rfl) (by kernel_rfl) (by kernel_rfl))
 refine VT_agEq (d := 57) (dd := 9) (ls := ([.int .i64] ++ [.int .i64] ++ [.int .i64] ++ [])) (pos := true) (t := 54) (xs := #[.int .i64 (callV k (vals l) (fk (fstI 90 (vals l)).2 0 1)), .int .i64 (callV k (vals l) (fk (fstI 90 (vals l)).2 1 2)), .int .i64 (callV k (vals l) (fk (fstI 90 (vals l)).2 3 2))]) (ys := #[.int .i64 (callV k (vals l) (fk (fstI 90 (vals l)).2 0 1)), .int .i64 (callV k (vals l) (fk (fstI 90 (vals l)).2 1 2)), .int .i64 (callV k (vals l) (fk (fstI 90 (vals l)).2 3 2))]) (by kernel_rfl) (by kernel_rfl) (by kernel_rfl) (by kernel_rfl) (by first | exact ⟨⟨_, rfl⟩, ⟨_, rfl⟩, ⟨_, rfl⟩, trivial⟩ | trivial) (by first | exact ⟨⟨_, rfl⟩, ⟨_, rfl⟩, ⟨_, rfl⟩, trivial⟩ | trivial) (([callV k (vals l) (fk (fstI 90 (vals l)).2 0 1), callV k (vals l) (fk (fstI 90 (vals l)).2 1 2), callV k (vals l) (fk (fstI 90 (vals l)).2 3 2)] : List Int) == [callV k (vals l) (fk (fstI 90 (vals l)).2 0 1), callV k (vals l) (fk (fstI 90 (vals l)).2 1 2), callV k (vals l) (fk (fstI 90 (vals l)).2 3 2)]) (iA_eq (k := .i64) (xs := [callV k (vals l) (fk (fstI 90 (vals l)).2 0 1), callV k (vals l) (fk (fstI 90 (vals l)).2 1 2), callV k (vals l) (fk (fstI 90 (vals l)).2 3 2)]) (bs := [callV k (vals l) (fk (fstI 90 (vals l)).2 0 1), callV k (vals l) (fk (fstI 90 (vals l)).2 1 2), callV k (vals l) (fk (fstI 90 (vals l)).2 3 2)]) true) ?_
 refine VT_pures 2 (kn' := [(26, .bool (([callV k (vals l) (fk (fstI 90 (vals l)).2 0 1), callV k (vals l) (fk (fstI 90 (vals l)).2 1 2), callV k (vals l) (fk (fstI 90 (vals l)).2 3 2)] : List Int) == [callV k (vals l) (fk (fstI 90 (vals l)).2 0 1), callV k (vals l) (fk (fstI 90 (vals l)).2 1 2), callV k (vals l) (fk (fstI 90 (vals l)).2 3 2)])), (25, .bool (([callV k (vals l) (fk (fstI 90 (vals l)).2 0 1), callV k (vals l) (fk (fstI 90 (vals l)).2 1 2), callV k (vals l) (fk (fstI 90 (vals l)).2 3 2)] : List Int) == [callV k (vals l) (fk (fstI 90 (vals l)).2 0 1), callV k (vals l) (fk (fstI 90 (vals l)).2 1 2), callV k (vals l) (fk (fstI 90 (vals l)).2 3 2)])), (24, .bool (([callV k (vals l) (fk (fstI 90 (vals l)).2 0 1), callV k (vals l) (fk (fstI 90 (vals l)).2 1 2), callV k (vals l) (fk (fstI 90 (vals l)).2 3 2)] : List Int) == [callV k (vals l) (fk (fstI 90 (vals l)).2 0 1), callV k (vals l) (fk (fstI 90 (vals l)).2 1 2), callV k (vals l) (fk (fstI 90 (vals l)).2 3 2)])), (23, .agg #[.int .i64 (callV k (vals l) (fk (fstI 90 (vals l)).2 0 1)), .int .i64 (callV k (vals l) (fk (fstI 90 (vals l)).2 1 2)), .int .i64 (callV k (vals l) (fk (fstI 90 (vals l)).2 3 2))]), (22, .agg #[.int .i64 (callV k (vals l) (fk (fstI 90 (vals l)).2 0 1)), .int .i64 (callV k (vals l) (fk (fstI 90 (vals l)).2 1 2)), .int .i64 (callV k (vals l) (fk (fstI 90 (vals l)).2 3 2))]), (21, .bool true), (20, .bool true), (19, .bool true), (18, .agg #[.int .i64 (callV k (vals l) (IntKind.wrap .i64 ((fstI 89 (vals l)).2.getD 0 0))), .int .i64 (callV k (vals l) (fld (fstI 89 (vals l)).2 0)), .int .i64 (callV k (vals l) (fld (fstI 89 (vals l)).2 1)), .int .i64 (callV k (vals l) (fld (fstI 89 (vals l)).2 2)), .int .i64 (callV k (vals l) (fld (fstI 89 (vals l)).2 3)), .int .i64 (callV k (vals l) (fld (fstI 89 (vals l)).2 4))]), (17, .agg #[.int .i64 (callV k (vals l) (IntKind.wrap .i64 ((fstI 89 (vals l)).2.getD 0 0))), .int .i64 (callV k (vals l) (fld (fstI 89 (vals l)).2 0)), .int .i64 (callV k (vals l) (fld (fstI 89 (vals l)).2 1)), .int .i64 (callV k (vals l) (fld (fstI 89 (vals l)).2 2)), .int .i64 (callV k (vals l) (fld (fstI 89 (vals l)).2 3)), .int .i64 (callV k (vals l) (fld (fstI 89 (vals l)).2 4))]), (16, .bool true), (15, .bool true), (14, .bool true), (13, .int .i64 (mcause (vals l))), (11, .int .i64 (mcause (vals l))), (12, .agg #[.int .i64 r, .bool bk, .int .i64 k, .slice A n c]), (10, .agg #[.int .i64 r, .bool bk, .int .i64 k, .slice A n c]), (9, .bool true), (8, .bool true), (7, .agg #[.int .i64 r, .bool (!bk), .int .i64 kd, .slice Aa2 1 1]), (3, .agg #[.int .i64 r, .bool (!bk), .int .i64 kd, .slice Aa1 1 1]), (6, .int .i64 ((m : Nat) : Int)), (5, .int .i64 kd), (4, .agg #[.int .i64 r, .bool bk, .int .i64 k, .slice A n c]), (2, .int .i64 ((m : Nat) : Int)), (1, .int .i64 kd), (0, .agg #[.int .i64 r, .bool bk, .int .i64 k, .slice A n c])]) (by kernel_rfl) ?_
 have hg4 : (([callV k (vals l) (fk (fstI 90 (vals l)).2 0 1), callV k (vals l) (fk (fstI 90 (vals l)).2 1 2), callV k (vals l) (fk (fstI 90 (vals l)).2 3 2)] : List Int) == [callV k (vals l) (fk (fstI 90 (vals l)).2 0 1), callV k (vals l) (fk (fstI 90 (vals l)).2 1 2), callV k (vals l) (fk (fstI 90 (vals l)).2 3 2)]) = true := (by simp)
 refine VT_eq [(26, .bool true), (25, .bool true), (24, .bool true), (23, .agg #[.int .i64 (callV k (vals l) (fk (fstI 90 (vals l)).2 0 1)), .int .i64 (callV k (vals l) (fk (fstI 90 (vals l)).2 1 2)), .int .i64 (callV k (vals l) (fk (fstI 90 (vals l)).2 3 2))]), (22, .agg #[.int .i64 (callV k (vals l) (fk (fstI 90 (vals l)).2 0 1)), .int .i64 (callV k (vals l) (fk (fstI 90 (vals l)).2 1 2)), .int .i64 (callV k (vals l) (fk (fstI 90 (vals l)).2 3 2))]), (21, .bool true), (20, .bool true), (19, .bool true), (18, .agg #[.int .i64 (callV k (vals l) (IntKind.wrap .i64 ((fstI 89 (vals l)).2.getD 0 0))), .int .i64 (callV k (vals l) (fld (fstI 89 (vals l)).2 0)), .int .i64 (callV k (vals l) (fld (fstI 89 (vals l)).2 1)), .int .i64 (callV k (vals l) (fld (fstI 89 (vals l)).2 2)), .int .i64 (callV k (vals l) (fld (fstI 89 (vals l)).2 3)), .int .i64 (callV k (vals l) (fld (fstI 89 (vals l)).2 4))]), (17, .agg #[.int .i64 (callV k (vals l) (IntKind.wrap .i64 ((fstI 89 (vals l)).2.getD 0 0))), .int .i64 (callV k (vals l) (fld (fstI 89 (vals l)).2 0)), .int .i64 (callV k (vals l) (fld (fstI 89 (vals l)).2 1)), .int .i64 (callV k (vals l) (fld (fstI 89 (vals l)).2 2)), .int .i64 (callV k (vals l) (fld (fstI 89 (vals l)).2 3)), .int .i64 (callV k (vals l) (fld (fstI 89 (vals l)).2 4))]), (16, .bool true), (15, .bool true), (14, .bool true), (13, .int .i64 (mcause (vals l))), (11, .int .i64 (mcause (vals l))), (12, .agg #[.int .i64 r, .bool bk, .int .i64 k, .slice A n c]), (10, .agg #[.int .i64 r, .bool bk, .int .i64 k, .slice A n c]), (9, .bool true), (8, .bool true), (7, .agg #[.int .i64 r, .bool (!bk), .int .i64 kd, .slice Aa2 1 1]), (3, .agg #[.int .i64 r, .bool (!bk), .int .i64 kd, .slice Aa1 1 1]), (6, .int .i64 ((m : Nat) : Int)), (5, .int .i64 kd), (4, .agg #[.int .i64 r, .bool bk, .int .i64 k, .slice A n c]), (2, .int .i64 ((m : Nat) : Int)), (1, .int .i64 kd), (0, .agg #[.int .i64 r, .bool bk, .int .i64 k, .slice A n c])] (by simp only [hg4, Bool.not_true, Bool.not_false]) ?_
 refine VT_pures 2 (kn' := [(28, .int .i64 (callE k (vals l))), (27, .int .i64 (callE k (vals l))), (26, .bool true), (25, .bool true), (24, .bool true), (23, .agg #[.int .i64 (callV k (vals l) (fk (fstI 90 (vals l)).2 0 1)), .int .i64 (callV k (vals l) (fk (fstI 90 (vals l)).2 1 2)), .int .i64 (callV k (vals l) (fk (fstI 90 (vals l)).2 3 2))]), (22, .agg #[.int .i64 (callV k (vals l) (fk (fstI 90 (vals l)).2 0 1)), .int .i64 (callV k (vals l) (fk (fstI 90 (vals l)).2 1 2)), .int .i64 (callV k (vals l) (fk (fstI 90 (vals l)).2 3 2))]), (21, .bool true), (20, .bool true), (19, .bool true), (18, .agg #[.int .i64 (callV k (vals l) (IntKind.wrap .i64 ((fstI 89 (vals l)).2.getD 0 0))), .int .i64 (callV k (vals l) (fld (fstI 89 (vals l)).2 0)), .int .i64 (callV k (vals l) (fld (fstI 89 (vals l)).2 1)), .int .i64 (callV k (vals l) (fld (fstI 89 (vals l)).2 2)), .int .i64 (callV k (vals l) (fld (fstI 89 (vals l)).2 3)), .int .i64 (callV k (vals l) (fld (fstI 89 (vals l)).2 4))]), (17, .agg #[.int .i64 (callV k (vals l) (IntKind.wrap .i64 ((fstI 89 (vals l)).2.getD 0 0))), .int .i64 (callV k (vals l) (fld (fstI 89 (vals l)).2 0)), .int .i64 (callV k (vals l) (fld (fstI 89 (vals l)).2 1)), .int .i64 (callV k (vals l) (fld (fstI 89 (vals l)).2 2)), .int .i64 (callV k (vals l) (fld (fstI 89 (vals l)).2 3)), .int .i64 (callV k (vals l) (fld (fstI 89 (vals l)).2 4))]), (16, .bool true), (15, .bool true), (14, .bool true), (13, .int .i64 (mcause (vals l))), (11, .int .i64 (mcause (vals l))), (12, .agg #[.int .i64 r, .bool bk, .int .i64 k, .slice A n c]), (10, .agg #[.int .i64 r, .bool bk, .int .i64 k, .slice A n c]), (9, .bool true), (8, .bool true), (7, .agg #[.int .i64 r, .bool (!bk), .int .i64 kd, .slice Aa2 1 1]), (3, .agg #[.int .i64 r, .bool (!bk), .int .i64 kd, .slice Aa1 1 1]), (6, .int .i64 ((m : Nat) : Int)), (5, .int .i64 kd), (4, .agg #[.int .i64 r, .bool bk, .int .i64 k, .slice A n c]), (2, .int .i64 ((m : Nat) : Int)), (1, .int .i64 kd), (0, .agg #[.int .i64 r, .bool bk, .int .i64 k, .slice A n c])]) (by kernel_rfl) ?_
 refine VT_end ?_
 intro w33 hs7
 replace hS := Step.trans hS hs7
 replace hA := hA.no hs7
 replace ho1 := ho1.no hs7
 replace ho4 := ho4.no hs7
 replace ho5 := ho5.no hs7
 replace ho8 := ho8.no hs7
 replace ho9 := ho9.no hs7
 replace hI1 := hI1.no hs7
 replace hlehI1 := Nat.le_trans hlehI1 (hs7).size
 replace hI2 := hI2.no hs7
 replace hlehI2 := Nat.le_trans hlehI2 (hs7).size
 refine VL_keep [59, 60, 61] [(59, .bool true), (60, .int .i64 (callE k (vals l))), (61, .int .i64 (callE k (vals l)))] (by kernel_rfl) ?_
 refine VL_pure 32 [6] [(6, .bool ((callE k (vals l)) == (callE k (vals l))))] (by kernel_rfl) rfl ?_
 refine VL_end (by kernel_rfl) ?_
 refine VQ_next ?_
 refine VC_ret ?_
 refine VQ_ret1 (.bool ((callE k (vals l)) == (callE k (vals l)))) (.inr rfl) rfl rfl ?_
 exact ⟨by first | rfl | simp [*], hS⟩

set_option maxRecDepth 100000 in
set_option maxHeartbeats 4000000 in
theorem answers_no (r : Int) (bk : Bool) (k : Int) (A : Option Addr) (n c : Nat) (l : List IeV) (kd : Int) (m : Int) (w : World) (hn : l.length = n) (hA : Ies w 0 w.heap.size A l) (hc : n ≤ c) (hl : ∀ x ∈ l, IeB x) (hmx : n ≤ 9223372036854775807) (hf : fewB l = true) (hm : ¬ (1 ≤ m ∧ m ≤ 127))  :
  CV Try.prog 8 #[.agg #[.int .i64 r, .bool bk, .int .i64 k, .slice A n c], .int .i64 kd, .int .i64 m] w (fun x w1 => x = .bool true ∧ Step No w w1) := by
 have hS : Step No w w := Step.refl _ _
 obtain ⟨hsm, hn20⟩ := fewB_yes hf
 rw [hn] at hn20
 refine CV_enter Try.f8 _ 64 [(0, .agg #[.int .i64 r, .bool bk, .int .i64 k, .slice A n c]), (1, .int .i64 kd), (2, .int .i64 m)] Try.func8 rfl rfl (by kernel_rfl) rfl ?_
 refine VC_seq ?_
 refine VC_region ?_
 have hzs1 := hS.size
 refine VL_box (d := 3) (t := 24) (c := #[.int .i64 r, .bool bk, .int .i64 k, .slice A n c]) (by kernel_rfl) (by kernel_rfl) ?_
 intro b1 w1 hn1
 replace hS := Step.trans hS (hn1.step No)
 replace hA := hA.no (hn1.step No)
 have ho1 := hn1.own
 have hzhn1 := hn1.size
 have hqhn1 := hn1.eqb
 refine VL_pure 2 [1, 2, 3] [(1, .int .i64 kd), (2, .int .i64 m), (3, .pointer (some ⟨b1, 0, none⟩))] (by kernel_rfl) rfl ?_
 refine VL_end (by kernel_rfl) ?_
 refine VQ_next ?_
 refine VC_seq ?_
 refine VC_seq ?_
 refine VC_region ?_
 have hzs2 := hS.size
 have hzl1 := ho1.lt
 refine VL_call (d := 13) (f := 9) (args := #[]) (by kernel_rfl) (by kernel_rfl) (by kernel_rfl) Try.call9 (awake_any _) ?_
 rintro _ w2 ⟨rfl, hc1⟩
 replace hS := Step.trans hS hc1
 replace hA := hA.no hc1
 replace ho1 := ho1.no hc1
 refine VL_pure 3 [1, 2, 3, 15] [(1, .int .i64 kd), (2, .int .i64 m), (3, .pointer (some ⟨b1, 0, none⟩)), (15, .bool false)] (by kernel_rfl) rfl ?_
 refine VL_load (d := 16) (t := 24) (a := ⟨b1, 0, none⟩) (v := .agg #[.int .i64 r, .bool bk, .int .i64 k, .slice A n c]) (by kernel_rfl) (by kernel_rfl) (Loads.ownL ho1 (n := 4) (by kernel_rfl) (by kernel_rfl) (by kernel_rfl)) ?_
 have hzs3 := hS.size
 have hzl2 := ho1.lt
 refine VL_call (d := 17) (f := 10) (by kernel_rfl) (by kernel_rfl) (by kernel_rfl) Try.call10 (few16_any r bk k A n c 0 w.heap.size l _ hn hA (by omega)) ?_
 rintro _ w3 ⟨rfl, hc2⟩
 replace hS := Step.trans hS hc2
 replace hA := hA.no hc2
 replace ho1 := ho1.no hc2
 refine VL_pure 7 [1, 2, 3, 19] [(1, .int .i64 kd), (2, .int .i64 m), (3, .pointer (some ⟨b1, 0, none⟩)), (19, .bool (!(fewB l)))] (by kernel_rfl) rfl ?_
 refine VL_end (by kernel_rfl) ?_
 refine VQ_next ?_
 refine VC_is (b := !(fewB l)) false (by kernel_rfl) (by rw [show (fewB l) = true from hf]; rfl) ?_
 refine VC_ite_false ?_
 refine VC_skip ?_
 refine VQ_next ?_
 refine VC_seq ?_
 refine VC_region ?_
 refine VL_load (d := 22) (t := 24) (a := ⟨b1, 0, none⟩) (v := .agg #[.int .i64 r, .bool bk, .int .i64 k, .slice A n c]) (by kernel_rfl) (by kernel_rfl) (Loads.ownL ho1 (n := 4) (by kernel_rfl) (by kernel_rfl) (by kernel_rfl)) ?_
 have hzs4 := hS.size
 have hzl3 := ho1.lt
 refine VL_call (d := 23) (f := 24) (by kernel_rfl) (by kernel_rfl) (by kernel_rfl) Try.call24 (call_any r bk k A n c 0 w.heap.size l _ hn hA (by omega) (by first | exact Nat.le_refl _ | omega) hl (fun x hx => by have hq9 := hsm x hx; omega)) ?_
 rintro _ w4 ⟨rfl, hc3⟩
 replace hS := Step.trans hS hc3
 replace hA := hA.no hc3
 replace ho1 := ho1.no hc3
 refine VL_pure 6 [1, 2, 3, 24, 25, 26] [(1, .int .i64 kd), (2, .int .i64 m), (3, .pointer (some ⟨b1, 0, none⟩)), (24, .agg #[.int .i64 (callV k (vals l) (IntKind.wrap .i64 ((fstI 89 (vals l)).2.getD 0 0))), .int .i64 (callV k (vals l) (fld (fstI 89 (vals l)).2 0)), .int .i64 (callV k (vals l) (fld (fstI 89 (vals l)).2 1)), .int .i64 (callV k (vals l) (fld (fstI 89 (vals l)).2 2)), .int .i64 (callV k (vals l) (fld (fstI 89 (vals l)).2 3)), .int .i64 (callV k (vals l) (fld (fstI 89 (vals l)).2 4))]), (25, .agg #[.int .i64 (callV k (vals l) (fk (fstI 90 (vals l)).2 0 1)), .int .i64 (callV k (vals l) (fk (fstI 90 (vals l)).2 1 2)), .int .i64 (callV k (vals l) (fk (fstI 90 (vals l)).2 3 2))]), (26, .int .i64 (callE k (vals l)))] (by kernel_rfl) rfl ?_
 have hzs5 := hS.size
 have hzl4 := ho1.lt
 refine VL_box (d := 7) (t := 52) (c := #[.int .i64 0, .int .i64 0, .int .i64 0, .int .i64 0, .int .i64 0, .int .i64 0]) (by kernel_rfl) (by kernel_rfl) ?_
 intro b2 w5 hn2
 replace hS := Step.trans hS (hn2.step No)
 replace hA := hA.no (hn2.step No)
 replace ho1 := ho1.no (hn2.step No)
 have ho2 := hn2.own
 have hzhn2 := hn2.size
 have hqhn2 := hn2.eqb
 have hzs6 := hS.size
 have hzl5 := ho1.lt
 have hzl6 := ho2.lt
 refine VL_box (d := 8) (t := 54) (c := #[.int .i64 0, .int .i64 0, .int .i64 0]) (by kernel_rfl) (by kernel_rfl) ?_
 intro b3 w6 hn3
 replace hS := Step.trans hS (hn3.step No)
 replace hA := hA.no (hn3.step No)
 replace ho1 := ho1.no (hn3.step No)
 replace ho2 := ho2.no (hn3.step No)
 have ho3 := hn3.own
 have hzhn3 := hn3.size
 have hqhn3 := hn3.eqb
 refine VL_store (b := b2) (o := 0) (vs := [.int .i64 (callV k (vals l) (IntKind.wrap .i64 ((fstI 89 (vals l)).2.getD 0 0))), .int .i64 (callV k (vals l) (fld (fstI 89 (vals l)).2 0)), .int .i64 (callV k (vals l) (fld (fstI 89 (vals l)).2 1)), .int .i64 (callV k (vals l) (fld (fstI 89 (vals l)).2 2)), .int .i64 (callV k (vals l) (fld (fstI 89 (vals l)).2 3)), .int .i64 (callV k (vals l) (fld (fstI 89 (vals l)).2 4))]) (by kernel_rfl) (by kernel_rfl) ho2 (Nat.le_of_ble_eq_true (by kernel_rfl)) ?_
 intro w7 hw1
 replace hS := Step.transNew hS hw1.step (fun _ _ _ => by omega)
 replace hA := hA.step hw1.step (fun k hk1 hk2 (hF : k = b2) => by omega)
 replace ho1 := ho1.step hw1.step (show ¬ b1 = b2 by omega)
 replace ho3 := ho3.step hw1.step (show ¬ b3 = b2 by omega)
 have ho4 : Own w7 b2 #[.int .i64 (callV k (vals l) (IntKind.wrap .i64 ((fstI 89 (vals l)).2.getD 0 0))), .int .i64 (callV k (vals l) (fld (fstI 89 (vals l)).2 0)), .int .i64 (callV k (vals l) (fld (fstI 89 (vals l)).2 1)), .int .i64 (callV k (vals l) (fld (fstI 89 (vals l)).2 2)), .int .i64 (callV k (vals l) (fld (fstI 89 (vals l)).2 3)), .int .i64 (callV k (vals l) (fld (fstI 89 (vals l)).2 4))] 52 := Own.cast hw1.own (by kernel_rfl)
 have hzhw1 := hw1.same
 refine VL_store (b := b3) (o := 0) (vs := [.int .i64 (callV k (vals l) (fk (fstI 90 (vals l)).2 0 1)), .int .i64 (callV k (vals l) (fk (fstI 90 (vals l)).2 1 2)), .int .i64 (callV k (vals l) (fk (fstI 90 (vals l)).2 3 2))]) (by kernel_rfl) (by kernel_rfl) ho3 (Nat.le_of_ble_eq_true (by kernel_rfl)) ?_
 intro w8 hw2
 replace hS := Step.transNew hS hw2.step (fun _ _ _ => by omega)
 replace hA := hA.step hw2.step (fun k hk1 hk2 (hF : k = b3) => by omega)
 replace ho1 := ho1.step hw2.step (show ¬ b1 = b3 by omega)
 replace ho4 := ho4.step hw2.step (show ¬ b2 = b3 by omega)
 have ho5 : Own w8 b3 #[.int .i64 (callV k (vals l) (fk (fstI 90 (vals l)).2 0 1)), .int .i64 (callV k (vals l) (fk (fstI 90 (vals l)).2 1 2)), .int .i64 (callV k (vals l) (fk (fstI 90 (vals l)).2 3 2))] 54 := Own.cast hw2.own (by kernel_rfl)
 have hzhw2 := hw2.same
 refine VL_pure 11 [1, 2, 3, 7, 8, 9] [(1, .int .i64 kd), (2, .int .i64 m), (3, .pointer (some ⟨b1, 0, none⟩)), (7, .pointer (some ⟨b2, 0, none⟩)), (8, .pointer (some ⟨b3, 0, none⟩)), (9, .int .i64 (callE k (vals l)))] (by kernel_rfl) rfl ?_
 refine VL_end (by kernel_rfl) ?_
 refine VQ_next ?_
 refine VC_seq ?_
 refine VC_region ?_
 refine VL_load (d := 28) (t := 24) (a := ⟨b1, 0, none⟩) (v := .agg #[.int .i64 r, .bool bk, .int .i64 k, .slice A n c]) (by kernel_rfl) (by kernel_rfl) (Loads.ownL ho1 (n := 4) (by kernel_rfl) (by kernel_rfl) (by kernel_rfl)) ?_
 have hzs7 := hS.size
 have hzl7 := ho1.lt
 have hzl8 := ho4.lt
 have hzl9 := ho5.lt
 refine VL_call (d := 29) (f := 25) (by kernel_rfl) (by kernel_rfl) (by kernel_rfl) Try.call25 (rcall_any r bk k A n c 0 w.heap.size l _ hn hA (by omega) (by first | exact Nat.le_refl _ | omega) hl (fun x hx => by have hq9 := hsm x hx; omega)) ?_
 rintro _ w9 ⟨rfl, hc4⟩
 replace hS := Step.trans hS hc4
 replace hA := hA.no hc4
 replace ho1 := ho1.no hc4
 replace ho4 := ho4.no hc4
 replace ho5 := ho5.no hc4
 refine VL_pure 6 [1, 2, 3, 7, 8, 9, 30, 31, 32] [(1, .int .i64 kd), (2, .int .i64 m), (3, .pointer (some ⟨b1, 0, none⟩)), (7, .pointer (some ⟨b2, 0, none⟩)), (8, .pointer (some ⟨b3, 0, none⟩)), (9, .int .i64 (callE k (vals l))), (30, .agg #[.int .i64 (callV k (vals l) (IntKind.wrap .i64 ((fstI 89 (vals l)).2.getD 0 0))), .int .i64 (callV k (vals l) (fld (fstI 89 (vals l)).2 0)), .int .i64 (callV k (vals l) (fld (fstI 89 (vals l)).2 1)), .int .i64 (callV k (vals l) (fld (fstI 89 (vals l)).2 2)), .int .i64 (callV k (vals l) (fld (fstI 89 (vals l)).2 3)), .int .i64 (callV k (vals l) (fld (fstI 89 (vals l)).2 4))]), (31, .agg #[.int .i64 (callV k (vals l) (fk (fstI 90 (vals l)).2 0 1)), .int .i64 (callV k (vals l) (fk (fstI 90 (vals l)).2 1 2)), .int .i64 (callV k (vals l) (fk (fstI 90 (vals l)).2 3 2))]), (32, .int .i64 (callE k (vals l)))] (by kernel_rfl) rfl ?_
 have hzs8 := hS.size
 have hzl10 := ho1.lt
 have hzl11 := ho4.lt
 have hzl12 := ho5.lt
 refine VL_box (d := 10) (t := 52) (c := #[.int .i64 0, .int .i64 0, .int .i64 0, .int .i64 0, .int .i64 0, .int .i64 0]) (by kernel_rfl) (by kernel_rfl) ?_
 intro b4 w10 hn4
 replace hS := Step.trans hS (hn4.step No)
 replace hA := hA.no (hn4.step No)
 replace ho1 := ho1.no (hn4.step No)
 replace ho4 := ho4.no (hn4.step No)
 replace ho5 := ho5.no (hn4.step No)
 have ho6 := hn4.own
 have hzhn4 := hn4.size
 have hqhn4 := hn4.eqb
 have hzs9 := hS.size
 have hzl13 := ho1.lt
 have hzl14 := ho4.lt
 have hzl15 := ho5.lt
 have hzl16 := ho6.lt
 refine VL_box (d := 11) (t := 54) (c := #[.int .i64 0, .int .i64 0, .int .i64 0]) (by kernel_rfl) (by kernel_rfl) ?_
 intro b5 w11 hn5
 replace hS := Step.trans hS (hn5.step No)
 replace hA := hA.no (hn5.step No)
 replace ho1 := ho1.no (hn5.step No)
 replace ho4 := ho4.no (hn5.step No)
 replace ho5 := ho5.no (hn5.step No)
 replace ho6 := ho6.no (hn5.step No)
 have ho7 := hn5.own
 have hzhn5 := hn5.size
 have hqhn5 := hn5.eqb
 refine VL_store (b := b4) (o := 0) (vs := [.int .i64 (callV k (vals l) (IntKind.wrap .i64 ((fstI 89 (vals l)).2.getD 0 0))), .int .i64 (callV k (vals l) (fld (fstI 89 (vals l)).2 0)), .int .i64 (callV k (vals l) (fld (fstI 89 (vals l)).2 1)), .int .i64 (callV k (vals l) (fld (fstI 89 (vals l)).2 2)), .int .i64 (callV k (vals l) (fld (fstI 89 (vals l)).2 3)), .int .i64 (callV k (vals l) (fld (fstI 89 (vals l)).2 4))]) (by kernel_rfl) (by kernel_rfl) ho6 (Nat.le_of_ble_eq_true (by kernel_rfl)) ?_
 intro w12 hw3
 replace hS := Step.transNew hS hw3.step (fun _ _ _ => by omega)
 replace hA := hA.step hw3.step (fun k hk1 hk2 (hF : k = b4) => by omega)
 replace ho1 := ho1.step hw3.step (show ¬ b1 = b4 by omega)
 replace ho4 := ho4.step hw3.step (show ¬ b2 = b4 by omega)
 replace ho5 := ho5.step hw3.step (show ¬ b3 = b4 by omega)
 replace ho7 := ho7.step hw3.step (show ¬ b5 = b4 by omega)
 have ho8 : Own w12 b4 #[.int .i64 (callV k (vals l) (IntKind.wrap .i64 ((fstI 89 (vals l)).2.getD 0 0))), .int .i64 (callV k (vals l) (fld (fstI 89 (vals l)).2 0)), .int .i64 (callV k (vals l) (fld (fstI 89 (vals l)).2 1)), .int .i64 (callV k (vals l) (fld (fstI 89 (vals l)).2 2)), .int .i64 (callV k (vals l) (fld (fstI 89 (vals l)).2 3)), .int .i64 (callV k (vals l) (fld (fstI 89 (vals l)).2 4))] 52 := Own.cast hw3.own (by kernel_rfl)
 have hzhw3 := hw3.same
 refine VL_store (b := b5) (o := 0) (vs := [.int .i64 (callV k (vals l) (fk (fstI 90 (vals l)).2 0 1)), .int .i64 (callV k (vals l) (fk (fstI 90 (vals l)).2 1 2)), .int .i64 (callV k (vals l) (fk (fstI 90 (vals l)).2 3 2))]) (by kernel_rfl) (by kernel_rfl) ho7 (Nat.le_of_ble_eq_true (by kernel_rfl)) ?_
 intro w13 hw4
 replace hS := Step.transNew hS hw4.step (fun _ _ _ => by omega)
 replace hA := hA.step hw4.step (fun k hk1 hk2 (hF : k = b5) => by omega)
 replace ho1 := ho1.step hw4.step (show ¬ b1 = b5 by omega)
 replace ho4 := ho4.step hw4.step (show ¬ b2 = b5 by omega)
 replace ho5 := ho5.step hw4.step (show ¬ b3 = b5 by omega)
 replace ho8 := ho8.step hw4.step (show ¬ b4 = b5 by omega)
 have ho9 : Own w13 b5 #[.int .i64 (callV k (vals l) (fk (fstI 90 (vals l)).2 0 1)), .int .i64 (callV k (vals l) (fk (fstI 90 (vals l)).2 1 2)), .int .i64 (callV k (vals l) (fk (fstI 90 (vals l)).2 3 2))] 54 := Own.cast hw4.own (by kernel_rfl)
 have hzhw4 := hw4.same
 refine VL_pure 11 [1, 2, 3, 7, 8, 9, 10, 11, 12] [(1, .int .i64 kd), (2, .int .i64 m), (3, .pointer (some ⟨b1, 0, none⟩)), (7, .pointer (some ⟨b2, 0, none⟩)), (8, .pointer (some ⟨b3, 0, none⟩)), (9, .int .i64 (callE k (vals l))), (10, .pointer (some ⟨b4, 0, none⟩)), (11, .pointer (some ⟨b5, 0, none⟩)), (12, .int .i64 (callE k (vals l)))] (by kernel_rfl) rfl ?_
 refine VL_end (by kernel_rfl) ?_
 refine VQ_next ?_
 refine VC_seq ?_
 have hs1 := drew_step w13
 have hs1z : w13.heap.size = w13.drew.heap.size := rfl
 refine VC_text [[], [], [], [0, 1, 2], [], [], [], [0, 1, 2, 3, 4, 5, 6], [0, 1, 2, 3, 4, 5, 6, 7], [0, 1, 2, 3, 4, 5, 6, 7, 8], [0, 1, 2, 3, 4, 5, 6, 7, 8, 9], [0, 1, 2, 3, 4, 5, 6, 7, 8, 9, 10], [0, 1, 2, 3, 4, 5, 6, 7, 8, 9], [0, 1, 2, 3, 4, 5, 6, 7, 8, 9, 10, 11, 12], [0, 1, 2, 3, 4, 5, 6, 7, 8, 9, 10, 11, 12, 13], [0, 1, 2, 3, 4, 5, 6, 7, 8, 9, 10, 11, 12, 13, 14], [0, 1, 2, 3, 4, 5, 6, 7, 8, 9, 10, 11, 12, 13, 14, 15], [0, 1, 2, 3, 4, 5, 6, 7, 8, 9, 10, 11, 12, 13, 14, 15, 16], [0, 1, 2, 3, 4, 5, 6, 7, 8, 9, 10, 11, 12, 13, 14, 15, 16], [0, 1, 2, 3, 4, 5, 6, 7, 8, 9, 10, 11, 12, 13, 14, 15, 16, 17, 18], [0, 1, 2, 3, 4, 5, 6, 7, 8, 9, 10, 11, 12, 13, 14, 15, 16, 17, 18, 19], [0, 1, 2, 3, 4, 5, 6, 7, 8, 9, 10, 11, 12, 13, 14, 15, 16, 17, 18, 19, 20], [0, 1, 2, 3, 4, 5, 6, 7, 8, 9, 10, 11, 12, 13, 14, 15, 16, 17, 18, 19, 20, 21], [0, 1, 2, 3, 4, 5, 6, 7, 8, 9, 10, 11, 12, 13, 14, 15, 16, 17, 18, 19, 20, 21], [0, 1, 2, 3, 4, 5, 6, 7, 8, 9, 10, 11, 12, 13, 14, 15, 16, 17, 18, 19, 20, 21, 22, 23], [0, 1, 2, 3, 4, 5, 6, 7, 8, 9, 10, 11, 12, 13, 14, 15, 16, 17, 18, 19, 20, 21, 22, 23, 24], [0, 1, 2, 3, 4, 5, 6, 7, 8, 9, 10, 11, 12, 13, 14, 15, 16, 17, 18, 19, 20, 21, 22, 23, 24, 25], [0, 1, 2, 3, 4, 5, 6, 7, 8, 9, 10, 11, 12, 13, 14, 15, 16, 17, 18, 19, 20, 21, 22, 23, 24, 25, 26], [0, 1, 2, 3, 4, 5, 6, 7, 8, 9, 10, 11, 12, 13, 14, 15, 16, 17, 18, 19, 20, 21, 22, 23, 24, 25, 26], [0, 1, 2, 3, 4, 5, 6, 7, 8, 9, 10, 11, 12, 13, 14, 15, 16, 17, 18, 19, 20, 21, 22, 23, 24, 25, 26, 27, 28], [0, 1, 2, 3, 4, 5, 6, 7, 8, 9, 10, 11, 12, 13, 14, 15, 16, 17, 18, 19, 20, 21, 22, 23, 24, 25, 26, 27, 28, 29], [0, 1, 2, 3, 4, 5, 6, 7, 8, 9, 10, 11, 12, 13, 14, 15, 16, 17, 18, 19, 20, 21, 22, 23, 24, 25, 26, 27, 28, 29, 30]] 29 (fun x y => Step (fun k => w13.heap.size ≤ k) x y) [3, 7, 8, 11, 13] [0, 1, 2, 4, 5, 6, 3, 7, 8, 9, 10, 12, 11, 13, 14, 15, 16, 17, 18, 19, 20, 21, 22, 23, 24, 25, 26, 27, 28] (by kernel_rfl) (by kernel_rfl) (by kernel_rfl) (by kernel_rfl) (fun x => Step.refl _ x) (fun h k => Step.trans h k) Step.weak ?_
 have hzs10 := hS.size
 have hzl17 := ho1.lt
 have hzl18 := ho4.lt
 have hzl19 := ho5.lt
 have hzl20 := ho8.lt
 have hzl21 := ho9.lt
 generalize w13.drew = w14 at hs1 hs1z ⊢
 replace hS := Step.trans hS hs1
 replace hA := hA.no hs1
 replace ho1 := ho1.no hs1
 replace ho4 := ho4.no hs1
 replace ho5 := ho5.no hs1
 replace ho8 := ho8.no hs1
 replace ho9 := ho9.no hs1
 refine VT_load (d := 33) (t := 24) (a := ⟨b1, 0, none⟩) (v := .agg #[.int .i64 r, .bool bk, .int .i64 k, .slice A n c]) (by kernel_rfl) (by kernel_rfl) ?_ ?_
 ·intro w15 hr1
  replace hS := Step.transNew hS hr1 (fun i hi hG => by (try simp only at hG); omega)
  replace hA := hA.step hr1 (fun k hk1 hk2 hG => by (try simp only at hG); omega)
  replace ho1 := ho1.step hr1 (by (try simp only); omega)
  replace ho4 := ho4.step hr1 (by (try simp only); omega)
  replace ho5 := ho5.step hr1 (by (try simp only); omega)
  replace ho8 := ho8.step hr1 (by (try simp only); omega)
  replace ho9 := ho9.step hr1 (by (try simp only); omega)
  exact (Loads.ownL ho1 (n := 4) (by kernel_rfl) (by kernel_rfl) (by kernel_rfl))
 refine VT_pures 2 (kn' := [(2, .int .i64 m), (1, .int .i64 kd), (0, .agg #[.int .i64 r, .bool bk, .int .i64 k, .slice A n c])]) (by kernel_rfl) ?_
 refine VT_load (d := 37) (t := 24) (a := ⟨b1, 0, none⟩) (v := .agg #[.int .i64 r, .bool bk, .int .i64 k, .slice A n c]) (by kernel_rfl) (by kernel_rfl) ?_ ?_
 ·intro w16 hr2
  replace hS := Step.transNew hS hr2 (fun i hi hG => by (try simp only at hG); omega)
  replace hA := hA.step hr2 (fun k hk1 hk2 hG => by (try simp only at hG); omega)
  replace ho1 := ho1.step hr2 (by (try simp only); omega)
  replace ho4 := ho4.step hr2 (by (try simp only); omega)
  replace ho5 := ho5.step hr2 (by (try simp only); omega)
  replace ho8 := ho8.step hr2 (by (try simp only); omega)
  replace ho9 := ho9.step hr2 (by (try simp only); omega)
  exact (Loads.ownL ho1 (n := 4) (by kernel_rfl) (by kernel_rfl) (by kernel_rfl))
 refine VT_pures 2 (kn' := [(6, .int .i64 m), (5, .int .i64 kd), (4, .agg #[.int .i64 r, .bool bk, .int .i64 k, .slice A n c]), (2, .int .i64 m), (1, .int .i64 kd), (0, .agg #[.int .i64 r, .bool bk, .int .i64 k, .slice A n c])]) (by kernel_rfl) ?_
 refine VT_chain (by kernel_rfl) ?_
 intro w17 hs2
 have hzhs2 := hs2.size
 replace hS := Step.trans hS hs2
 replace hA := hA.no hs2
 replace ho1 := ho1.no hs2
 replace ho4 := ho4.no hs2
 replace ho5 := ho5.no hs2
 replace ho8 := ho8.no hs2
 replace ho9 := ho9.no hs2
 have hzs11 := hS.size
 have hzl22 := ho1.lt
 have hzl23 := ho4.lt
 have hzl24 := ho5.lt
 have hzl25 := ho8.lt
 have hzl26 := ho9.lt
 refine VTc_call (d := 36) (f := 19) (by kernel_rfl) (by kernel_rfl) (by kernel_rfl) Try.call19 (ans_no r bk k A n c kd m _ (by omega)) ?_ ?_
 ·rintro _ w18 ⟨rfl, hc5⟩
  exact Step.mono hc5 (by intro i hi; first | exact hi.elim | ((try simp only at hi ⊢); omega))
 rintro _ w18 ⟨rfl, hc5⟩
 have hzhc5 := (hc5).size
 replace hS := Step.trans hS hc5
 replace hA := hA.no hc5
 replace ho1 := ho1.no hc5
 replace ho4 := ho4.no hc5
 replace ho5 := ho5.no hc5
 replace ho8 := ho8.no hc5
 replace ho9 := ho9.no hc5
 refine VT_chain (by kernel_rfl) ?_
 intro w19 hs3
 have hzhs3 := hs3.size
 replace hS := Step.trans hS hs3
 replace hA := hA.no hs3
 replace ho1 := ho1.no hs3
 replace ho4 := ho4.no hs3
 replace ho5 := ho5.no hs3
 replace ho8 := ho8.no hs3
 replace ho9 := ho9.no hs3
 have hzs12 := hS.size
 have hzl27 := ho1.lt
 have hzl28 := ho4.lt
 have hzl29 := ho5.lt
 have hzl30 := ho8.lt
 have hzl31 := ho9.lt
 refine VTc_call (d := 40) (f := 26) (by kernel_rfl) (by kernel_rfl) (by kernel_rfl) Try.call26 (rans_no r bk k A n c kd m _ (by omega)) ?_ ?_
 ·rintro _ w20 ⟨rfl, hc6⟩
  exact Step.mono hc6 (by intro i hi; first | exact hi.elim | ((try simp only at hi ⊢); omega))
 rintro _ w20 ⟨rfl, hc6⟩
 have hzhc6 := (hc6).size
 replace hS := Step.trans hS hc6
 replace hA := hA.no hc6
 replace ho1 := ho1.no hc6
 replace ho4 := ho4.no hc6
 replace ho5 := ho5.no hc6
 replace ho8 := ho8.no hc6
 replace ho9 := ho9.no hc6
 refine VT_chain (by kernel_rfl) ?_
 intro w21 hs4
 have hzhs4 := hs4.size
 replace hS := Step.trans hS hs4
 replace hA := hA.no hs4
 replace ho1 := ho1.no hs4
 replace ho4 := ho4.no hs4
 replace ho5 := ho5.no hs4
 replace ho8 := ho8.no hs4
 replace ho9 := ho9.no hs4
 have hzs13 := hS.size
 have hzl32 := ho1.lt
 have hzl33 := ho4.lt
 have hzl34 := ho5.lt
 have hzl35 := ho8.lt
 have hzl36 := ho9.lt
 refine VTc_call (d := 41) (f := 16) (by kernel_rfl) (by kernel_rfl) (by kernel_rfl) Try.call16 (same16_any r (!bk) kd r (!bk) kd none 0 0 0 0 ([]) _ rfl Ies.nil none 0 0 0 0 ([]) rfl Ies.nil   (by omega) (by simp only [List.mem_cons, List.mem_nil_iff, or_false]; intro x hx; first | exact hx.elim | (subst hx; dsimp only; omega)) (by simp only [List.mem_cons, List.mem_nil_iff, or_false]; intro x hx; first | exact hx.elim | (subst hx; dsimp only; omega)) (by first | exact Nat.le_refl _ | omega) (by first | exact Nat.le_refl _ | omega)) ?_ ?_
 ·rintro _ w22 ⟨rfl, hc7⟩
  exact Step.mono hc7 (by intro i hi; first | exact hi.elim | ((try simp only at hi ⊢); omega))
 rintro _ w22 ⟨rfl, hc7⟩
 have hzhc7 := (hc7).size
 replace hS := Step.trans hS hc7
 replace hA := hA.no hc7
 replace ho1 := ho1.no hc7
 replace ho4 := ho4.no hc7
 replace ho5 := ho5.no hc7
 replace ho8 := ho8.no hc7
 replace ho9 := ho9.no hc7
 refine VT_pures 1 (kn' := [(9, .bool (sameM r (!bk) kd (vals ([])) r (!bk) kd (vals ([])))), (8, .bool (sameM r (!bk) kd (vals ([])) r (!bk) kd (vals ([])))), (7, .agg #[.int .i64 r, .bool (!bk), .int .i64 kd, .slice none 0 0]), (3, .agg #[.int .i64 r, .bool (!bk), .int .i64 kd, .slice none 0 0]), (6, .int .i64 m), (5, .int .i64 kd), (4, .agg #[.int .i64 r, .bool bk, .int .i64 k, .slice A n c]), (2, .int .i64 m), (1, .int .i64 kd), (0, .agg #[.int .i64 r, .bool bk, .int .i64 k, .slice A n c])]) (by kernel_rfl) ?_
 have hg1 : (sameM r (!bk) kd (vals ([])) r (!bk) kd (vals ([]))) = true := (sameM_is rfl rfl rfl rfl)
 refine VT_eq [(9, .bool true), (8, .bool true), (7, .agg #[.int .i64 r, .bool (!bk), .int .i64 kd, .slice none 0 0]), (3, .agg #[.int .i64 r, .bool (!bk), .int .i64 kd, .slice none 0 0]), (6, .int .i64 m), (5, .int .i64 kd), (4, .agg #[.int .i64 r, .bool bk, .int .i64 k, .slice A n c]), (2, .int .i64 m), (1, .int .i64 kd), (0, .agg #[.int .i64 r, .bool bk, .int .i64 k, .slice A n c])] (by simp only [hg1, Bool.not_true, Bool.not_false]) ?_
 refine VT_load (d := 43) (t := 24) (a := ⟨b1, 0, none⟩) (v := .agg #[.int .i64 r, .bool bk, .int .i64 k, .slice A n c]) (by kernel_rfl) (by kernel_rfl) ?_ ?_
 ·intro w23 hr3
  replace hS := Step.transNew hS hr3 (fun i hi hG => by (try simp only at hG); omega)
  replace hA := hA.step hr3 (fun k hk1 hk2 hG => by (try simp only at hG); omega)
  replace ho1 := ho1.step hr3 (by (try simp only); omega)
  replace ho4 := ho4.step hr3 (by (try simp only); omega)
  replace ho5 := ho5.step hr3 (by (try simp only); omega)
  replace ho8 := ho8.step hr3 (by (try simp only); omega)
  replace ho9 := ho9.step hr3 (by (try simp only); omega)
  exact (Loads.ownL ho1 (n := 4) (by kernel_rfl) (by kernel_rfl) (by kernel_rfl))
 refine VT_load (d := 45) (t := 24) (a := ⟨b1, 0, none⟩) (v := .agg #[.int .i64 r, .bool bk, .int .i64 k, .slice A n c]) (by kernel_rfl) (by kernel_rfl) ?_ ?_
 ·intro w24 hr4
  replace hS := Step.transNew hS hr4 (fun i hi hG => by (try simp only at hG); omega)
  replace hA := hA.step hr4 (fun k hk1 hk2 hG => by (try simp only at hG); omega)
  replace ho1 := ho1.step hr4 (by (try simp only); omega)
  replace ho4 := ho4.step hr4 (by (try simp only); omega)
  replace ho5 := ho5.step hr4 (by (try simp only); omega)
  replace ho8 := ho8.step hr4 (by (try simp only); omega)
  replace ho9 := ho9.step hr4 (by (try simp only); omega)
  exact (Loads.ownL ho1 (n := 4) (by kernel_rfl) (by kernel_rfl) (by kernel_rfl))
 refine VT_chain (by kernel_rfl) ?_
 intro w25 hs5
 have hzhs5 := hs5.size
 replace hS := Step.trans hS hs5
 replace hA := hA.no hs5
 replace ho1 := ho1.no hs5
 replace ho4 := ho4.no hs5
 replace ho5 := ho5.no hs5
 replace ho8 := ho8.no hs5
 replace ho9 := ho9.no hs5
 have hzs14 := hS.size
 have hzl37 := ho1.lt
 have hzl38 := ho4.lt
 have hzl39 := ho5.lt
 have hzl40 := ho8.lt
 have hzl41 := ho9.lt
 refine VTc_call (d := 44) (f := 20) (by kernel_rfl) (by kernel_rfl) (by kernel_rfl) Try.call20 (mcause_any r bk k A n c 0 w.heap.size l _ hn hA (by omega) (by first | exact Nat.le_refl _ | omega) hl (fun x hx => by have hq9 := hsm x hx; omega)) ?_ ?_
 ·rintro _ w26 ⟨rfl, hc8⟩
  exact Step.mono hc8 (by intro i hi; first | exact hi.elim | ((try simp only at hi ⊢); omega))
 rintro _ w26 ⟨rfl, hc8⟩
 have hzhc8 := (hc8).size
 replace hS := Step.trans hS hc8
 replace hA := hA.no hc8
 replace ho1 := ho1.no hc8
 replace ho4 := ho4.no hc8
 replace ho5 := ho5.no hc8
 replace ho8 := ho8.no hc8
 replace ho9 := ho9.no hc8
 refine VT_chain (by kernel_rfl) ?_
 intro w27 hs6
 have hzhs6 := hs6.size
 replace hS := Step.trans hS hs6
 replace hA := hA.no hs6
 replace ho1 := ho1.no hs6
 replace ho4 := ho4.no hs6
 replace ho5 := ho5.no hs6
 replace ho8 := ho8.no hs6
 replace ho9 := ho9.no hs6
 have hzs15 := hS.size
 have hzl42 := ho1.lt
 have hzl43 := ho4.lt
 have hzl44 := ho5.lt
 have hzl45 := ho8.lt
 have hzl46 := ho9.lt
 refine VTc_call (d := 46) (f := 27) (by kernel_rfl) (by kernel_rfl) (by kernel_rfl) Try.call27 (rmcause_any r bk k A n c 0 w.heap.size l _ hn hA (by omega) (by first | exact Nat.le_refl _ | omega) hl (fun x hx => by have hq9 := hsm x hx; omega)) ?_ ?_
 ·rintro _ w28 ⟨rfl, hc9⟩
  exact Step.mono hc9 (by intro i hi; first | exact hi.elim | ((try simp only at hi ⊢); omega))
 rintro _ w28 ⟨rfl, hc9⟩
 have hzhc9 := (hc9).size
 replace hS := Step.trans hS hc9
 replace hA := hA.no hc9
 replace ho1 := ho1.no hc9
 replace ho4 := ho4.no hc9
 replace ho5 := ho5.no hc9
 replace ho8 := ho8.no hc9
 replace ho9 := ho9.no hc9
 refine VT_pures 3 (kn' := [(16, .bool ((mcause (vals l)) == (mcause (vals l)))), (15, .bool ((mcause (vals l)) == (mcause (vals l)))), (14, .bool ((mcause (vals l)) == (mcause (vals l)))), (13, .int .i64 (mcause (vals l))), (11, .int .i64 (mcause (vals l))), (12, .agg #[.int .i64 r, .bool bk, .int .i64 k, .slice A n c]), (10, .agg #[.int .i64 r, .bool bk, .int .i64 k, .slice A n c]), (9, .bool true), (8, .bool true), (7, .agg #[.int .i64 r, .bool (!bk), .int .i64 kd, .slice none 0 0]), (3, .agg #[.int .i64 r, .bool (!bk), .int .i64 kd, .slice none 0 0]), (6, .int .i64 m), (5, .int .i64 kd), (4, .agg #[.int .i64 r, .bool bk, .int .i64 k, .slice A n c]), (2, .int .i64 m), (1, .int .i64 kd), (0, .agg #[.int .i64 r, .bool bk, .int .i64 k, .slice A n c])]) (by kernel_rfl) ?_
 have hg2 : ((mcause (vals l)) == (mcause (vals l))) = true := (by simp)
 refine VT_eq [(16, .bool true), (15, .bool true), (14, .bool true), (13, .int .i64 (mcause (vals l))), (11, .int .i64 (mcause (vals l))), (12, .agg #[.int .i64 r, .bool bk, .int .i64 k, .slice A n c]), (10, .agg #[.int .i64 r, .bool bk, .int .i64 k, .slice A n c]), (9, .bool true), (8, .bool true), (7, .agg #[.int .i64 r, .bool (!bk), .int .i64 kd, .slice none 0 0]), (3, .agg #[.int .i64 r, .bool (!bk), .int .i64 kd, .slice none 0 0]), (6, .int .i64 m), (5, .int .i64 kd), (4, .agg #[.int .i64 r, .bool bk, .int .i64 k, .slice A n c]), (2, .int .i64 m), (1, .int .i64 kd), (0, .agg #[.int .i64 r, .bool bk, .int .i64 k, .slice A n c])] (by simp only [hg2, Bool.not_true, Bool.not_false]) ?_
 refine VT_load (d := 50) (t := 52) (a := ⟨b2, 0, none⟩) (v := .agg #[.int .i64 (callV k (vals l) (IntKind.wrap .i64 ((fstI 89 (vals l)).2.getD 0 0))), .int .i64 (callV k (vals l) (fld (fstI 89 (vals l)).2 0)), .int .i64 (callV k (vals l) (fld (fstI 89 (vals l)).2 1)), .int .i64 (callV k (vals l) (fld (fstI 89 (vals l)).2 2)), .int .i64 (callV k (vals l) (fld (fstI 89 (vals l)).2 3)), .int .i64 (callV k (vals l) (fld (fstI 89 (vals l)).2 4))]) (by kernel_rfl) (by kernel_rfl) ?_ ?_
 ·intro w29 hr5
  replace hS := Step.transNew hS hr5 (fun i hi hG => by (try simp only at hG); omega)
  replace hA := hA.step hr5 (fun k hk1 hk2 hG => by (try simp only at hG); omega)
  replace ho1 := ho1.step hr5 (by (try simp only); omega)
  replace ho4 := ho4.step hr5 (by (try simp only); omega)
  replace ho5 := ho5.step hr5 (by (try simp only); omega)
  replace ho8 := ho8.step hr5 (by (try simp only); omega)
  replace ho9 := ho9.step hr5 (by (try simp only); omega)
  exact (Loads.ownL ho4 (n := 6) (by kernel_rfl) (by kernel_rfl) (by kernel_rfl))
 refine VT_load (d := 51) (t := 52) (a := ⟨b4, 0, none⟩) (v := .agg #[.int .i64 (callV k (vals l) (IntKind.wrap .i64 ((fstI 89 (vals l)).2.getD 0 0))), .int .i64 (callV k (vals l) (fld (fstI 89 (vals l)).2 0)), .int .i64 (callV k (vals l) (fld (fstI 89 (vals l)).2 1)), .int .i64 (callV k (vals l) (fld (fstI 89 (vals l)).2 2)), .int .i64 (callV k (vals l) (fld (fstI 89 (vals l)).2 3)), .int .i64 (callV k (vals l) (fld (fstI 89 (vals l)).2 4))]) (by kernel_rfl) (by kernel_rfl) ?_ ?_
 ·intro w30 hr6
  replace hS := Step.transNew hS hr6 (fun i hi hG => by (try simp only at hG); omega)
  replace hA := hA.step hr6 (fun k hk1 hk2 hG => by (try simp only at hG); omega)
  replace ho1 := ho1.step hr6 (by (try simp only); omega)
  replace ho4 := ho4.step hr6 (by (try simp only); omega)
  replace ho5 := ho5.step hr6 (by (try simp only); omega)
  replace ho8 := ho8.step hr6 (by (try simp only); omega)
  replace ho9 := ho9.step hr6 (by (try simp only); omega)
  exact (Loads.ownL ho8 (n := 6) (by kernel_rfl) (by kernel_rfl) (by kernel_rfl))
 refine VT_agEq (d := 52) (dd := 9) (ls := ([.int .i64] ++ [.int .i64] ++ [.int .i64] ++ [.int .i64] ++ [.int .i64] ++ [.int .i64] ++ [])) (pos := true) (t := 52) (xs := #[.int .i64 (callV k (vals l) (IntKind.wrap .i64 ((fstI 89 (vals l)).2.getD 0 0))), .int .i64 (callV k (vals l) (fld (fstI 89 (vals l)).2 0)), .int .i64 (callV k (vals l) (fld (fstI 89 (vals l)).2 1)), .int .i64 (callV k (vals l) (fld (fstI 89 (vals l)).2 2)), .int .i64 (callV k (vals l) (fld (fstI 89 (vals l)).2 3)), .int .i64 (callV k (vals l) (fld (fstI 89 (vals l)).2 4))]) (ys := #[.int .i64 (callV k (vals l) (IntKind.wrap .i64 ((fstI 89 (vals l)).2.getD 0 0))), .int .i64 (callV k (vals l) (fld (fstI 89 (vals l)).2 0)), .int .i64 (callV k (vals l) (fld (fstI 89 (vals l)).2 1)), .int .i64 (callV k (vals l) (fld (fstI 89 (vals l)).2 2)), .int .i64 (callV k (vals l) (fld (fstI 89 (vals l)).2 3)), .int .i64 (callV k (vals l) (fld (fstI 89 (vals l)).2 4))]) (by kernel_rfl) (by kernel_rfl) (by kernel_rfl) (by kernel_rfl) (by first | exact ⟨⟨_, rfl⟩, ⟨_, rfl⟩, ⟨_, rfl⟩, ⟨_, rfl⟩, ⟨_, rfl⟩, ⟨_, rfl⟩, trivial⟩ | trivial) (by first | exact ⟨⟨_, rfl⟩, ⟨_, rfl⟩, ⟨_, rfl⟩, ⟨_, rfl⟩, ⟨_, rfl⟩, ⟨_, rfl⟩, trivial⟩ | trivial) (([callV k (vals l) (IntKind.wrap .i64 ((fstI 89 (vals l)).2.getD 0 0)), callV k (vals l) (fld (fstI 89 (vals l)).2 0), callV k (vals l) (fld (fstI 89 (vals l)).2 1), callV k (vals l) (fld (fstI 89 (vals l)).2 2), callV k (vals l) (fld (fstI 89 (vals l)).2 3), callV k (vals l) (fld (fstI 89 (vals l)).2 4)] : List Int) == [callV k (vals l) (IntKind.wrap .i64 ((fstI 89 (vals l)).2.getD 0 0)), callV k (vals l) (fld (fstI 89 (vals l)).2 0), callV k (vals l) (fld (fstI 89 (vals l)).2 1), callV k (vals l) (fld (fstI 89 (vals l)).2 2), callV k (vals l) (fld (fstI 89 (vals l)).2 3), callV k (vals l) (fld (fstI 89 (vals l)).2 4)]) (iA_eq (k := .i64) (xs := [callV k (vals l) (IntKind.wrap .i64 ((fstI 89 (vals l)).2.getD 0 0)), callV k (vals l) (fld (fstI 89 (vals l)).2 0), callV k (vals l) (fld (fstI 89 (vals l)).2 1), callV k (vals l) (fld (fstI 89 (vals l)).2 2), callV k (vals l) (fld (fstI 89 (vals l)).2 3), callV k (vals l) (fld (fstI 89 (vals l)).2 4)]) (bs := [callV k (vals l) (IntKind.wrap .i64 ((fstI 89 (vals l)).2.getD 0 0)), callV k (vals l) (fld (fstI 89 (vals l)).2 0), callV k (vals l) (fld (fstI 89 (vals l)).2 1), callV k (vals l) (fld (fstI 89 (vals l)).2 2), callV k (vals l) (fld (fstI 89 (vals l)).2 3), callV k (vals l) (fld (fstI 89 (vals l)).2 4)]) true) ?_
 refine VT_pures 2 (kn' := [(21, .bool (([callV k (vals l) (IntKind.wrap .i64 ((fstI 89 (vals l)).2.getD 0 0)), callV k (vals l) (fld (fstI 89 (vals l)).2 0), callV k (vals l) (fld (fstI 89 (vals l)).2 1), callV k (vals l) (fld (fstI 89 (vals l)).2 2), callV k (vals l) (fld (fstI 89 (vals l)).2 3), callV k (vals l) (fld (fstI 89 (vals l)).2 4)] : List Int) == [callV k (vals l) (IntKind.wrap .i64 ((fstI 89 (vals l)).2.getD 0 0)), callV k (vals l) (fld (fstI 89 (vals l)).2 0), callV k (vals l) (fld (fstI 89 (vals l)).2 1), callV k (vals l) (fld (fstI 89 (vals l)).2 2), callV k (vals l) (fld (fstI 89 (vals l)).2 3), callV k (vals l) (fld (fstI 89 (vals l)).2 4)])), (20, .bool (([callV k (vals l) (IntKind.wrap .i64 ((fstI 89 (vals l)).2.getD 0 0)), callV k (vals l) (fld (fstI 89 (vals l)).2 0), callV k (vals l) (fld (fstI 89 (vals l)).2 1), callV k (vals l) (fld (fstI 89 (vals l)).2 2), callV k (vals l) (fld (fstI 89 (vals l)).2 3), callV k (vals l) (fld (fstI 89 (vals l)).2 4)] : List Int) == [callV k (vals l) (IntKind.wrap .i64 ((fstI 89 (vals l)).2.getD 0 0)), callV k (vals l) (fld (fstI 89 (vals l)).2 0), callV k (vals l) (fld (fstI 89 (vals l)).2 1), callV k (vals l) (fld (fstI 89 (vals l)).2 2), callV k (vals l) (fld (fstI 89 (vals l)).2 3), callV k (vals l) (fld (fstI 89 (vals l)).2 4)])), (19, .bool (([callV k (vals l) (IntKind.wrap .i64 ((fstI 89 (vals l)).2.getD 0 0)), callV k (vals l) (fld (fstI 89 (vals l)).2 0), callV k (vals l) (fld (fstI 89 (vals l)).2 1), callV k (vals l) (fld (fstI 89 (vals l)).2 2), callV k (vals l) (fld (fstI 89 (vals l)).2 3), callV k (vals l) (fld (fstI 89 (vals l)).2 4)] : List Int) == [callV k (vals l) (IntKind.wrap .i64 ((fstI 89 (vals l)).2.getD 0 0)), callV k (vals l) (fld (fstI 89 (vals l)).2 0), callV k (vals l) (fld (fstI 89 (vals l)).2 1), callV k (vals l) (fld (fstI 89 (vals l)).2 2), callV k (vals l) (fld (fstI 89 (vals l)).2 3), callV k (vals l) (fld (fstI 89 (vals l)).2 4)])), (18, .agg #[.int .i64 (callV k (vals l) (IntKind.wrap .i64 ((fstI 89 (vals l)).2.getD 0 0))), .int .i64 (callV k (vals l) (fld (fstI 89 (vals l)).2 0)), .int .i64 (callV k (vals l) (fld (fstI 89 (vals l)).2 1)), .int .i64 (callV k (vals l) (fld (fstI 89 (vals l)).2 2)), .int .i64 (callV k (vals l) (fld (fstI 89 (vals l)).2 3)), .int .i64 (callV k (vals l) (fld (fstI 89 (vals l)).2 4))]), (17, .agg #[.int .i64 (callV k (vals l) (IntKind.wrap .i64 ((fstI 89 (vals l)).2.getD 0 0))), .int .i64 (callV k (vals l) (fld (fstI 89 (vals l)).2 0)), .int .i64 (callV k (vals l) (fld (fstI 89 (vals l)).2 1)), .int .i64 (callV k (vals l) (fld (fstI 89 (vals l)).2 2)), .int .i64 (callV k (vals l) (fld (fstI 89 (vals l)).2 3)), .int .i64 (callV k (vals l) (fld (fstI 89 (vals l)).2 4))]), (16, .bool true), (15, .bool true), (14, .bool true), (13, .int .i64 (mcause (vals l))), (11, .int .i64 (mcause (vals l))), (12, .agg #[.int .i64 r, .bool bk, .int .i64 k, .slice A n c]), (10, .agg #[.int .i64 r, .bool bk, .int .i64 k, .slice A n c]), (9, .bool true), (8, .bool true), (7, .agg #[.int .i64 r, .bool (!bk), .int .i64 kd, .slice none 0 0]), (3, .agg #[.int .i64 r, .bool (!bk), .int .i64 kd, .slice none 0 0]), (6, .int .i64 m), (5, .int .i64 kd), (4, .agg #[.int .i64 r, .bool bk, .int .i64 k, .slice A n c]), (2, .int .i64 m), (1, .int .i64 kd), (0, .agg #[.int .i64 r, .bool bk, .int .i64 k, .slice A n c])]) (by kernel_rfl) ?_
 have hg3 : (([callV k (vals l) (IntKind.wrap .i64 ((fstI 89 (vals l)).2.getD 0 0)), callV k (vals l) (fld (fstI 89 (vals l)).2 0), callV k (vals l) (fld (fstI 89 (vals l)).2 1), callV k (vals l) (fld (fstI 89 (vals l)).2 2), callV k (vals l) (fld (fstI 89 (vals l)).2 3), callV k (vals l) (fld (fstI 89 (vals l)).2 4)] : List Int) == [callV k (vals l) (IntKind.wrap .i64 ((fstI 89 (vals l)).2.getD 0 0)), callV k (vals l) (fld (fstI 89 (vals l)).2 0), callV k (vals l) (fld (fstI 89 (vals l)).2 1), callV k (vals l) (fld (fstI 89 (vals l)).2 2), callV k (vals l) (fld (fstI 89 (vals l)).2 3), callV k (vals l) (fld (fstI 89 (vals l)).2 4)]) = true := (by simp)
 refine VT_eq [(21, .bool true), (20, .bool true), (19, .bool true), (18, .agg #[.int .i64 (callV k (vals l) (IntKind.wrap .i64 ((fstI 89 (vals l)).2.getD 0 0))), .int .i64 (callV k (vals l) (fld (fstI 89 (vals l)).2 0)), .int .i64 (callV k (vals l) (fld (fstI 89 (vals l)).2 1)), .int .i64 (callV k (vals l) (fld (fstI 89 (vals l)).2 2)), .int .i64 (callV k (vals l) (fld (fstI 89 (vals l)).2 3)), .int .i64 (callV k (vals l) (fld (fstI 89 (vals l)).2 4))]), (17, .agg #[.int .i64 (callV k (vals l) (IntKind.wrap .i64 ((fstI 89 (vals l)).2.getD 0 0))), .int .i64 (callV k (vals l) (fld (fstI 89 (vals l)).2 0)), .int .i64 (callV k (vals l) (fld (fstI 89 (vals l)).2 1)), .int .i64 (callV k (vals l) (fld (fstI 89 (vals l)).2 2)), .int .i64 (callV k (vals l) (fld (fstI 89 (vals l)).2 3)), .int .i64 (callV k (vals l) (fld (fstI 89 (vals l)).2 4))]), (16, .bool true), (15, .bool true), (14, .bool true), (13, .int .i64 (mcause (vals l))), (11, .int .i64 (mcause (vals l))), (12, .agg #[.int .i64 r, .bool bk, .int .i64 k, .slice A n c]), (10, .agg #[.int .i64 r, .bool bk, .int .i64 k, .slice A n c]), (9, .bool true), (8, .bool true), (7, .agg #[.int .i64 r, .bool (!bk), .int .i64 kd, .slice none 0 0]), (3, .agg #[.int .i64 r, .bool (!bk), .int .i64 kd, .slice none 0 0]), (6, .int .i64 m), (5, .int .i64 kd), (4, .agg #[.int .i64 r, .bool bk, .int .i64 k, .slice A n c]), (2, .int .i64 m), (1, .int .i64 kd), (0, .agg #[.int .i64 r, .bool bk, .int .i64 k, .slice A n c])] (by simp only [hg3, Bool.not_true, Bool.not_false]) ?_
 refine VT_load (d := 55) (t := 54) (a := ⟨b3, 0, none⟩) (v := .agg #[.int .i64 (callV k (vals l) (fk (fstI 90 (vals l)).2 0 1)), .int .i64 (callV k (vals l) (fk (fstI 90 (vals l)).2 1 2)), .int .i64 (callV k (vals l) (fk (fstI 90 (vals l)).2 3 2))]) (by kernel_rfl) (by kernel_rfl) ?_ ?_
 ·intro w31 hr7
  replace hS := Step.transNew hS hr7 (fun i hi hG => by (try simp only at hG); omega)
  replace hA := hA.step hr7 (fun k hk1 hk2 hG => by (try simp only at hG); omega)
  replace ho1 := ho1.step hr7 (by (try simp only); omega)
  replace ho4 := ho4.step hr7 (by (try simp only); omega)
  replace ho5 := ho5.step hr7 (by (try simp only); omega)
  replace ho8 := ho8.step hr7 (by (try simp only); omega)
  replace ho9 := ho9.step hr7 (by (try simp only); omega)
  exact (Loads.ownL ho5 (n := 3) (by kernel_rfl) (by kernel_rfl) (by kernel_rfl))
 refine VT_load (d := 56) (t := 54) (a := ⟨b5, 0, none⟩) (v := .agg #[.int .i64 (callV k (vals l) (fk (fstI 90 (vals l)).2 0 1)), .int .i64 (callV k (vals l) (fk (fstI 90 (vals l)).2 1 2)), .int .i64 (callV k (vals l) (fk (fstI 90 (vals l)).2 3 2))]) (by kernel_rfl) (by kernel_rfl) ?_ ?_
 ·intro w32 hr8
  replace hS := Step.transNew hS hr8 (fun i hi hG => by (try simp only at hG); omega)
  replace hA := hA.step hr8 (fun k hk1 hk2 hG => by (try simp only at hG); omega)
  replace ho1 := ho1.step hr8 (by (try simp only); omega)
  replace ho4 := ho4.step hr8 (by (try simp only); omega)
  replace ho5 := ho5.step hr8 (by (try simp only); omega)
  replace ho8 := ho8.step hr8 (by (try simp only); omega)
  replace ho9 := ho9.step hr8 (by (try simp only); omega)
  exact (Loads.ownL ho9 (n := 3) (by kernel_rfl) (by kernel_rfl) (by kernel_rfl))
 refine VT_agEq (d := 57) (dd := 9) (ls := ([.int .i64] ++ [.int .i64] ++ [.int .i64] ++ [])) (pos := true) (t := 54) (xs := #[.int .i64 (callV k (vals l) (fk (fstI 90 (vals l)).2 0 1)), .int .i64 (callV k (vals l) (fk (fstI 90 (vals l)).2 1 2)), .int .i64 (callV k (vals l) (fk (fstI 90 (vals l)).2 3 2))]) (ys := #[.int .i64 (callV k (vals l) (fk (fstI 90 (vals l)).2 0 1)), .int .i64 (callV k (vals l) (fk (fstI 90 (vals l)).2 1 2)), .int .i64 (callV k (vals l) (fk (fstI 90 (vals l)).2 3 2))]) (by kernel_rfl) (by kernel_rfl) (by kernel_rfl) (by kernel_rfl) (by first | exact ⟨⟨_, rfl⟩, ⟨_, rfl⟩, ⟨_, rfl⟩, trivial⟩ | trivial) (by first | exact ⟨⟨_, rfl⟩, ⟨_, rfl⟩, ⟨_, rfl⟩, trivial⟩ | trivial) (([callV k (vals l) (fk (fstI 90 (vals l)).2 0 1), callV k (vals l) (fk (fstI 90 (vals l)).2 1 2), callV k (vals l) (fk (fstI 90 (vals l)).2 3 2)] : List Int) == [callV k (vals l) (fk (fstI 90 (vals l)).2 0 1), callV k (vals l) (fk (fstI 90 (vals l)).2 1 2), callV k (vals l) (fk (fstI 90 (vals l)).2 3 2)]) (iA_eq (k := .i64) (xs := [callV k (vals l) (fk (fstI 90 (vals l)).2 0 1), callV k (vals l) (fk (fstI 90 (vals l)).2 1 2), callV k (vals l) (fk (fstI 90 (vals l)).2 3 2)]) (bs := [callV k (vals l) (fk (fstI 90 (vals l)).2 0 1), callV k (vals l) (fk (fstI 90 (vals l)).2 1 2), callV k (vals l) (fk (fstI 90 (vals l)).2 3 2)]) true) ?_
 refine VT_pures 2 (kn' := [(26, .bool (([callV k (vals l) (fk (fstI 90 (vals l)).2 0 1), callV k (vals l) (fk (fstI 90 (vals l)).2 1 2), callV k (vals l) (fk (fstI 90 (vals l)).2 3 2)] : List Int) == [callV k (vals l) (fk (fstI 90 (vals l)).2 0 1), callV k (vals l) (fk (fstI 90 (vals l)).2 1 2), callV k (vals l) (fk (fstI 90 (vals l)).2 3 2)])), (25, .bool (([callV k (vals l) (fk (fstI 90 (vals l)).2 0 1), callV k (vals l) (fk (fstI 90 (vals l)).2 1 2), callV k (vals l) (fk (fstI 90 (vals l)).2 3 2)] : List Int) == [callV k (vals l) (fk (fstI 90 (vals l)).2 0 1), callV k (vals l) (fk (fstI 90 (vals l)).2 1 2), callV k (vals l) (fk (fstI 90 (vals l)).2 3 2)])), (24, .bool (([callV k (vals l) (fk (fstI 90 (vals l)).2 0 1), callV k (vals l) (fk (fstI 90 (vals l)).2 1 2), callV k (vals l) (fk (fstI 90 (vals l)).2 3 2)] : List Int) == [callV k (vals l) (fk (fstI 90 (vals l)).2 0 1), callV k (vals l) (fk (fstI 90 (vals l)).2 1 2), callV k (vals l) (fk (fstI 90 (vals l)).2 3 2)])), (23, .agg #[.int .i64 (callV k (vals l) (fk (fstI 90 (vals l)).2 0 1)), .int .i64 (callV k (vals l) (fk (fstI 90 (vals l)).2 1 2)), .int .i64 (callV k (vals l) (fk (fstI 90 (vals l)).2 3 2))]), (22, .agg #[.int .i64 (callV k (vals l) (fk (fstI 90 (vals l)).2 0 1)), .int .i64 (callV k (vals l) (fk (fstI 90 (vals l)).2 1 2)), .int .i64 (callV k (vals l) (fk (fstI 90 (vals l)).2 3 2))]), (21, .bool true), (20, .bool true), (19, .bool true), (18, .agg #[.int .i64 (callV k (vals l) (IntKind.wrap .i64 ((fstI 89 (vals l)).2.getD 0 0))), .int .i64 (callV k (vals l) (fld (fstI 89 (vals l)).2 0)), .int .i64 (callV k (vals l) (fld (fstI 89 (vals l)).2 1)), .int .i64 (callV k (vals l) (fld (fstI 89 (vals l)).2 2)), .int .i64 (callV k (vals l) (fld (fstI 89 (vals l)).2 3)), .int .i64 (callV k (vals l) (fld (fstI 89 (vals l)).2 4))]), (17, .agg #[.int .i64 (callV k (vals l) (IntKind.wrap .i64 ((fstI 89 (vals l)).2.getD 0 0))), .int .i64 (callV k (vals l) (fld (fstI 89 (vals l)).2 0)), .int .i64 (callV k (vals l) (fld (fstI 89 (vals l)).2 1)), .int .i64 (callV k (vals l) (fld (fstI 89 (vals l)).2 2)), .int .i64 (callV k (vals l) (fld (fstI 89 (vals l)).2 3)), .int .i64 (callV k (vals l) (fld (fstI 89 (vals l)).2 4))]), (16, .bool true), (15, .bool true), (14, .bool true), (13, .int .i64 (mcause (vals l))), (11, .int .i64 (mcause (vals l))), (12, .agg #[.int .i64 r, .bool bk, .int .i64 k, .slice A n c]), (10, .agg #[.int .i64 r, .bool bk, .int .i64 k, .slice A n c]), (9, .bool true), (8, .bool true), (7, .agg #[.int .i64 r, .bool (!bk), .int .i64 kd, .slice none 0 0]), (3, .agg #[.int .i64 r, .bool (!bk), .int .i64 kd, .slice none 0 0]), (6, .int .i64 m), (5, .int .i64 kd), (4, .agg #[.int .i64 r, .bool bk, .int .i64 k, .slice A n c]), (2, .int .i64 m), (1, .int .i64 kd), (0, .agg #[.int .i64 r, .bool bk, .int .i64 k, .slice A n c])]) (by kernel_rfl) ?_
 have hg4 : (([callV k (vals l) (fk (fstI 90 (vals l)).2 0 1), callV k (vals l) (fk (fstI 90 (vals l)).2 1 2), callV k (vals l) (fk (fstI 90 (vals l)).2 3 2)] : List Int) == [callV k (vals l) (fk (fstI 90 (vals l)).2 0 1), callV k (vals l) (fk (fstI 90 (vals l)).2 1 2), callV k (vals l) (fk (fstI 90 (vals l)).2 3 2)]) = true := (by simp)
 refine VT_eq [(26, .bool true), (25, .bool true), (24, .bool true), (23, .agg #[.int .i64 (callV k (vals l) (fk (fstI 90 (vals l)).2 0 1)), .int .i64 (callV k (vals l) (fk (fstI 90 (vals l)).2 1 2)), .int .i64 (callV k (vals l) (fk (fstI 90 (vals l)).2 3 2))]), (22, .agg #[.int .i64 (callV k (vals l) (fk (fstI 90 (vals l)).2 0 1)), .int .i64 (callV k (vals l) (fk (fstI 90 (vals l)).2 1 2)), .int .i64 (callV k (vals l) (fk (fstI 90 (vals l)).2 3 2))]), (21, .bool true), (20, .bool true), (19, .bool true), (18, .agg #[.int .i64 (callV k (vals l) (IntKind.wrap .i64 ((fstI 89 (vals l)).2.getD 0 0))), .int .i64 (callV k (vals l) (fld (fstI 89 (vals l)).2 0)), .int .i64 (callV k (vals l) (fld (fstI 89 (vals l)).2 1)), .int .i64 (callV k (vals l) (fld (fstI 89 (vals l)).2 2)), .int .i64 (callV k (vals l) (fld (fstI 89 (vals l)).2 3)), .int .i64 (callV k (vals l) (fld (fstI 89 (vals l)).2 4))]), (17, .agg #[.int .i64 (callV k (vals l) (IntKind.wrap .i64 ((fstI 89 (vals l)).2.getD 0 0))), .int .i64 (callV k (vals l) (fld (fstI 89 (vals l)).2 0)), .int .i64 (callV k (vals l) (fld (fstI 89 (vals l)).2 1)), .int .i64 (callV k (vals l) (fld (fstI 89 (vals l)).2 2)), .int .i64 (callV k (vals l) (fld (fstI 89 (vals l)).2 3)), .int .i64 (callV k (vals l) (fld (fstI 89 (vals l)).2 4))]), (16, .bool true), (15, .bool true), (14, .bool true), (13, .int .i64 (mcause (vals l))), (11, .int .i64 (mcause (vals l))), (12, .agg #[.int .i64 r, .bool bk, .int .i64 k, .slice A n c]), (10, .agg #[.int .i64 r, .bool bk, .int .i64 k, .slice A n c]), (9, .bool true), (8, .bool true), (7, .agg #[.int .i64 r, .bool (!bk), .int .i64 kd, .slice none 0 0]), (3, .agg #[.int .i64 r, .bool (!bk), .int .i64 kd, .slice none 0 0]), (6, .int .i64 m), (5, .int .i64 kd), (4, .agg #[.int .i64 r, .bool bk, .int .i64 k, .slice A n c]), (2, .int .i64 m), (1, .int .i64 kd), (0, .agg #[.int .i64 r, .bool bk, .int .i64 k, .slice A n c])] (by simp only [hg4, Bool.not_true, Bool.not_false]) ?_
 refine VT_pures 2 (kn' := [(28, .int .i64 (callE k (vals l))), (27, .int .i64 (callE k (vals l))), (26, .bool true), (25, .bool true), (24, .bool true), (23, .agg #[.int .i64 (callV k (vals l) (fk (fstI 90 (vals l)).2 0 1)), .int .i64 (callV k (vals l) (fk (fstI 90 (vals l)).2 1 2)), .int .i64 (callV k (vals l) (fk (fstI 90 (vals l)).2 3 2))]), (22, .agg #[.int .i64 (callV k (vals l) (fk (fstI 90 (vals l)).2 0 1)), .int .i64 (callV k (vals l) (fk (fstI 90 (vals l)).2 1 2)), .int .i64 (callV k (vals l) (fk (fstI 90 (vals l)).2 3 2))]), (21, .bool true), (20, .bool true), (19, .bool true), (18, .agg #[.int .i64 (callV k (vals l) (IntKind.wrap .i64 ((fstI 89 (vals l)).2.getD 0 0))), .int .i64 (callV k (vals l) (fld (fstI 89 (vals l)).2 0)), .int .i64 (callV k (vals l) (fld (fstI 89 (vals l)).2 1)), .int .i64 (callV k (vals l) (fld (fstI 89 (vals l)).2 2)), .int .i64 (callV k (vals l) (fld (fstI 89 (vals l)).2 3)), .int .i64 (callV k (vals l) (fld (fstI 89 (vals l)).2 4))]), (17, .agg #[.int .i64 (callV k (vals l) (IntKind.wrap .i64 ((fstI 89 (vals l)).2.getD 0 0))), .int .i64 (callV k (vals l) (fld (fstI 89 (vals l)).2 0)), .int .i64 (callV k (vals l) (fld (fstI 89 (vals l)).2 1)), .int .i64 (callV k (vals l) (fld (fstI 89 (vals l)).2 2)), .int .i64 (callV k (vals l) (fld (fstI 89 (vals l)).2 3)), .int .i64 (callV k (vals l) (fld (fstI 89 (vals l)).2 4))]), (16, .bool true), (15, .bool true), (14, .bool true), (13, .int .i64 (mcause (vals l))), (11, .int .i64 (mcause (vals l))), (12, .agg #[.int .i64 r, .bool bk, .int .i64 k, .slice A n c]), (10, .agg #[.int .i64 r, .bool bk, .int .i64 k, .slice A n c]), (9, .bool true), (8, .bool true), (7, .agg #[.int .i64 r, .bool (!bk), .int .i64 kd, .slice none 0 0]), (3, .agg #[.int .i64 r, .bool (!bk), .int .i64 kd, .slice none 0 0]), (6, .int .i64 m), (5, .int .i64 kd), (4, .agg #[.int .i64 r, .bool bk, .int .i64 k, .slice A n c]), (2, .int .i64 m), (1, .int .i64 kd), (0, .agg #[.int .i64 r, .bool bk, .int .i64 k, .slice A n c])]) (by kernel_rfl) ?_
 refine VT_end ?_
 intro w33 hs7
 replace hS := Step.trans hS hs7
 replace hA := hA.no hs7
 replace ho1 := ho1.no hs7
 replace ho4 := ho4.no hs7
 replace ho5 := ho5.no hs7
 replace ho8 := ho8.no hs7
 replace ho9 := ho9.no hs7
 refine VL_keep [59, 60, 61] [(59, .bool true), (60, .int .i64 (callE k (vals l))), (61, .int .i64 (callE k (vals l)))] (by kernel_rfl) ?_
 refine VL_pure 32 [6] [(6, .bool ((callE k (vals l)) == (callE k (vals l))))] (by kernel_rfl) rfl ?_
 refine VL_end (by kernel_rfl) ?_
 refine VQ_next ?_
 refine VC_ret ?_
 refine VQ_ret1 (.bool ((callE k (vals l)) == (callE k (vals l)))) (.inr rfl) rfl rfl ?_
 exact ⟨by first | rfl | simp [*], hS⟩

set_option maxRecDepth 100000 in
set_option maxHeartbeats 4000000 in
theorem answers_o1 (r : Int) (bk : Bool) (k : Int) (A : Option Addr) (n c : Nat) (l : List IeV) (kd : Int) (m : Int) (w : World) (hn : l.length = n) (hA : Ies w 0 w.heap.size A l) (hc : n ≤ c) (hl : ∀ x ∈ l, IeB x) (hmx : n ≤ 9223372036854775807) (hf : fewB l = false)  :
  CV Try.prog 8 #[.agg #[.int .i64 r, .bool bk, .int .i64 k, .slice A n c], .int .i64 kd, .int .i64 m] w (fun x w1 => x = .bool true ∧ Step No w w1) := by
 have hS : Step No w w := Step.refl _ _
 refine CV_enter Try.f8 _ 64 [(0, .agg #[.int .i64 r, .bool bk, .int .i64 k, .slice A n c]), (1, .int .i64 kd), (2, .int .i64 m)] Try.func8 rfl rfl (by kernel_rfl) rfl ?_
 refine VC_seq ?_
 refine VC_region ?_
 have hzs1 := hS.size
 refine VL_box (d := 3) (t := 24) (c := #[.int .i64 r, .bool bk, .int .i64 k, .slice A n c]) (by kernel_rfl) (by kernel_rfl) ?_
 intro b1 w1 hn1
 replace hS := Step.trans hS (hn1.step No)
 replace hA := hA.no (hn1.step No)
 have ho1 := hn1.own
 have hzhn1 := hn1.size
 have hqhn1 := hn1.eqb
 refine VL_pure 2 [1, 2, 3] [(1, .int .i64 kd), (2, .int .i64 m), (3, .pointer (some ⟨b1, 0, none⟩))] (by kernel_rfl) rfl ?_
 refine VL_end (by kernel_rfl) ?_
 refine VQ_next ?_
 refine VC_seq ?_
 refine VC_seq ?_
 refine VC_region ?_
 have hzs2 := hS.size
 have hzl1 := ho1.lt
 refine VL_call (d := 13) (f := 9) (args := #[]) (by kernel_rfl) (by kernel_rfl) (by kernel_rfl) Try.call9 (awake_any _) ?_
 rintro _ w2 ⟨rfl, hc1⟩
 replace hS := Step.trans hS hc1
 replace hA := hA.no hc1
 replace ho1 := ho1.no hc1
 refine VL_pure 3 [1, 2, 3, 15] [(1, .int .i64 kd), (2, .int .i64 m), (3, .pointer (some ⟨b1, 0, none⟩)), (15, .bool false)] (by kernel_rfl) rfl ?_
 refine VL_load (d := 16) (t := 24) (a := ⟨b1, 0, none⟩) (v := .agg #[.int .i64 r, .bool bk, .int .i64 k, .slice A n c]) (by kernel_rfl) (by kernel_rfl) (Loads.ownL ho1 (n := 4) (by kernel_rfl) (by kernel_rfl) (by kernel_rfl)) ?_
 have hzs3 := hS.size
 have hzl2 := ho1.lt
 refine VL_call (d := 17) (f := 10) (by kernel_rfl) (by kernel_rfl) (by kernel_rfl) Try.call10 (few16_any r bk k A n c 0 w.heap.size l _ hn hA (by omega)) ?_
 rintro _ w3 ⟨rfl, hc2⟩
 replace hS := Step.trans hS hc2
 replace hA := hA.no hc2
 replace ho1 := ho1.no hc2
 refine VL_pure 7 [1, 2, 3, 19] [(1, .int .i64 kd), (2, .int .i64 m), (3, .pointer (some ⟨b1, 0, none⟩)), (19, .bool (!(fewB l)))] (by kernel_rfl) rfl ?_
 refine VL_end (by kernel_rfl) ?_
 refine VQ_next ?_
 refine VC_is (b := !(fewB l)) true (by kernel_rfl) (by rw [show (fewB l) = false from hf]; rfl) ?_
 refine VC_ite_true ?_
 refine VC_seq ?_
 refine VC_region ?_
 have hzs4 := hS.size
 have hzl3 := ho1.lt
 refine VL_call (d := 20) (f := 9) (args := #[]) (by kernel_rfl) (by kernel_rfl) (by kernel_rfl) Try.call9 (awake_any _) ?_
 rintro _ w4 ⟨rfl, hc3⟩
 replace hS := Step.trans hS hc3
 replace hA := hA.no hc3
 replace ho1 := ho1.no hc3
 refine VL_pure 2 [6] [(6, .bool true)] (by kernel_rfl) rfl ?_
 refine VL_end (by kernel_rfl) ?_
 refine VQ_next ?_
 refine VC_ret ?_
 refine VQ_then_ret ?_
 refine VQ_ret1 (.bool true) (.inr rfl) rfl rfl ?_
 exact ⟨by first | rfl | simp [*], hS⟩

end Go.Proofs.Ytejpcmjokamdcaa
