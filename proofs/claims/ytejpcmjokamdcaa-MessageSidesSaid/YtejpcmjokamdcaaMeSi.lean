/- Layer 16: MessageSides. -/
import Derived.Test.YtejpcmjokamdcaaProg
import Derived.Test.YtejpcmjokamdcaaMe7
set_option linter.unusedVariables false
set_option linter.unusedSimpArgs false
namespace Go.Proofs.Ytejpcmjokamdcaa
open Go.Vc Go.RowKit

set_option maxRecDepth 100000 in
set_option maxHeartbeats 4000000 in
theorem sides_yes (r : Int) (bk : Bool) (k : Int) (A : Option Addr) (n c : Nat) (l : List IeV) (kd : Int) (m : Nat) (w : World) (hn : l.length = n) (hA : Ies w 0 w.heap.size A l) (hc : n ≤ c) (hl : ∀ x ∈ l, IeB x) (hmx : n ≤ 9223372036854775807) (hf : fewB l = true) (hm : 1 ≤ m ∧ m ≤ 127)  :
    CV Try.prog 6 #[.agg #[.int .i64 r, .bool bk, .int .i64 k, .slice A n c], .int .i64 kd, .int .i64 ((m : Nat) : Int)] w (fun x w1 => x = .bool true ∧ Step No w w1) := by
  have hS : Step No w w := Step.refl _ _
  obtain ⟨hsm, hn20⟩ := fewB_yes hf
  rw [hn] at hn20
  refine CV_enter Try.f6 _ 81 [(0, .agg #[.int .i64 r, .bool bk, .int .i64 k, .slice A n c]), (1, .int .i64 kd), (2, .int .i64 ((m : Nat) : Int))] Try.func6 rfl rfl (by kernel_rfl) rfl ?_
  refine VC_seq ?_
  refine VC_region ?_
  have hzs1 := hS.size
  refine VL_box (d := 3) (t := 24) (c := #[.int .i64 r, .bool bk, .int .i64 k, .slice A n c]) (by kernel_rfl) (by kernel_rfl) ?_
  intro b1 w1 hn1
  replace hS := Step.trans hS (hn1.step No)
  replace hA := hA.no (hn1.step No)
  have ho1 := hn1.own
  have hzhn1 := hn1.size
  have hqhn1 := hn1.eqb
  refine VL_pure 2 [1, 2, 3] [(1, .int .i64 kd), (2, .int .i64 ((m : Nat) : Int)), (3, .pointer (some ⟨b1, 0, none⟩))] (by kernel_rfl) rfl ?_
  refine VL_end (by kernel_rfl) ?_
  refine VQ_next ?_
  refine VC_seq ?_
  refine VC_seq ?_
  refine VC_region ?_
  have hzs2 := hS.size
  have hzl1 := ho1.lt
  refine VL_call (d := 10) (f := 9) (args := #[]) (by kernel_rfl) (by kernel_rfl) (by kernel_rfl) Try.call9 (awake_any _) ?_
  rintro _ w2 ⟨rfl, hc1⟩
  replace hS := Step.trans hS hc1
  replace hA := hA.no hc1
  replace ho1 := ho1.no hc1
  refine VL_pure 3 [1, 2, 3, 12] [(1, .int .i64 kd), (2, .int .i64 ((m : Nat) : Int)), (3, .pointer (some ⟨b1, 0, none⟩)), (12, .bool false)] (by kernel_rfl) rfl ?_
  refine VL_load (d := 13) (t := 24) (a := ⟨b1, 0, none⟩) (v := .agg #[.int .i64 r, .bool bk, .int .i64 k, .slice A n c]) (by kernel_rfl) (by kernel_rfl) (Loads.ownL ho1 (n := 4) (by kernel_rfl) (by kernel_rfl) (by kernel_rfl)) ?_
  have hzs3 := hS.size
  have hzl2 := ho1.lt
  refine VL_call (d := 14) (f := 10) (by kernel_rfl) (by kernel_rfl) (by kernel_rfl) Try.call10 (few16_any r bk k A n c 0 w.heap.size l _ hn hA (by omega)) ?_
  rintro _ w3 ⟨rfl, hc2⟩
  replace hS := Step.trans hS hc2
  replace hA := hA.no hc2
  replace ho1 := ho1.no hc2
  refine VL_pure 7 [1, 2, 3, 16] [(1, .int .i64 kd), (2, .int .i64 ((m : Nat) : Int)), (3, .pointer (some ⟨b1, 0, none⟩)), (16, .bool (!(fewB l)))] (by kernel_rfl) rfl ?_
  refine VL_end (by kernel_rfl) ?_
  refine VQ_next ?_
  refine VC_is (b := !(fewB l)) false (by kernel_rfl) (by rw [show (fewB l) = true from hf]; rfl) ?_
  refine VC_ite_false ?_
  refine VC_skip ?_
  refine VQ_next ?_
  refine VC_seq ?_
  refine VC_region ?_
  refine VL_load (d := 18) (t := 24) (a := ⟨b1, 0, none⟩) (v := .agg #[.int .i64 r, .bool bk, .int .i64 k, .slice A n c]) (by kernel_rfl) (by kernel_rfl) (Loads.ownL ho1 (n := 4) (by kernel_rfl) (by kernel_rfl) (by kernel_rfl)) ?_
  refine VL_pure 3 [1, 2, 3, 18, 19, 20] [(1, .int .i64 kd), (2, .int .i64 ((m : Nat) : Int)), (3, .pointer (some ⟨b1, 0, none⟩)), (18, .agg #[.int .i64 r, .bool bk, .int .i64 k, .slice A n c]), (19, .int .i64 kd), (20, .int .i64 ((m : Nat) : Int))] (by kernel_rfl) rfl ?_
  have hzs4 := hS.size
  have hzl3 := ho1.lt
  refine VL_call (d := 21) (f := 19) (by kernel_rfl) (by kernel_rfl) (by kernel_rfl) Try.call19 (ans_yes r bk k A n c kd m _ (by omega)) ?_
  rintro _ w4 ⟨Aa1, Ab1, rfl, hI1, hc3⟩
  replace hS := Step.trans hS hc3
  replace hA := hA.no hc3
  replace ho1 := ho1.no hc3
  have hlehI1 : w4.heap.size ≤ w4.heap.size := Nat.le_refl _
  have hzs5 := hS.size
  have hzl4 := ho1.lt
  have hzk1 := hlehI1
  refine VL_box (d := 7) (t := 24) (c := #[.int .i64 0, .bool false, .int .i64 0, .slice none 0 0]) (by kernel_rfl) (by kernel_rfl) ?_
  intro b2 w5 hn2
  replace hS := Step.trans hS (hn2.step No)
  replace hA := hA.no (hn2.step No)
  replace ho1 := ho1.no (hn2.step No)
  replace hI1 := hI1.no (hn2.step No)
  replace hlehI1 := Nat.le_trans hlehI1 (hn2.step No).size
  have ho2 := hn2.own
  have hzhn2 := hn2.size
  have hqhn2 := hn2.eqb
  refine VL_store (b := b2) (o := 0) (vs := [.int .i64 r, .bool (!bk), .int .i64 kd, .slice Aa1 1 1]) (by kernel_rfl) (by kernel_rfl) ho2 (Nat.le_of_ble_eq_true (by kernel_rfl)) ?_
  intro w6 hw1
  replace hS := Step.transNew hS hw1.step (fun _ _ _ => by omega)
  replace hA := hA.step hw1.step (fun k hk1 hk2 (hF : k = b2) => by omega)
  replace ho1 := ho1.step hw1.step (show ¬ b1 = b2 by omega)
  replace hI1 := hI1.step hw1.step (fun k hk1 hk2 (hF : k = b2) => by omega)
  replace hlehI1 := Nat.le_trans hlehI1 (hw1.step).size
  have ho3 : Own w6 b2 #[.int .i64 r, .bool (!bk), .int .i64 kd, .slice Aa1 1 1] 24 := Own.cast hw1.own (by kernel_rfl)
  have hzhw1 := hw1.same
  refine VL_end (by kernel_rfl) ?_
  refine VQ_next ?_
  refine VC_seq ?_
  refine VC_region ?_
  refine VL_load (d := 22) (t := 24) (a := ⟨b2, 0, none⟩) (v := .agg #[.int .i64 r, .bool (!bk), .int .i64 kd, .slice Aa1 1 1]) (by kernel_rfl) (by kernel_rfl) (Loads.ownL ho3 (n := 4) (by kernel_rfl) (by kernel_rfl) (by kernel_rfl)) ?_
  refine VL_pure 2 [1, 2, 3, 7, 22, 23] [(1, .int .i64 kd), (2, .int .i64 ((m : Nat) : Int)), (3, .pointer (some ⟨b1, 0, none⟩)), (7, .pointer (some ⟨b2, 0, none⟩)), (22, .agg #[.int .i64 r, .bool (!bk), .int .i64 kd, .slice Aa1 1 1]), (23, .int .i64 kd)] (by kernel_rfl) rfl ?_
  have hzs6 := hS.size
  have hzl5 := ho1.lt
  have hzl6 := ho3.lt
  refine VL_call (d := 24) (f := 19) (by kernel_rfl) (by kernel_rfl) (by kernel_rfl) Try.call19 (ans_no r (!bk) kd Aa1 1 1 kd 0 _ (by omega)) ?_
  rintro _ w7 ⟨rfl, hc4⟩
  replace hS := Step.trans hS hc4
  replace hA := hA.no hc4
  replace ho1 := ho1.no hc4
  replace hI1 := hI1.no hc4
  replace hlehI1 := Nat.le_trans hlehI1 (hc4).size
  replace ho3 := ho3.no hc4
  have hzs7 := hS.size
  have hzl7 := ho1.lt
  have hzk2 := hlehI1
  have hzl8 := ho3.lt
  refine VL_box (d := 8) (t := 24) (c := #[.int .i64 0, .bool false, .int .i64 0, .slice none 0 0]) (by kernel_rfl) (by kernel_rfl) ?_
  intro b3 w8 hn3
  replace hS := Step.trans hS (hn3.step No)
  replace hA := hA.no (hn3.step No)
  replace ho1 := ho1.no (hn3.step No)
  replace hI1 := hI1.no (hn3.step No)
  replace hlehI1 := Nat.le_trans hlehI1 (hn3.step No).size
  replace ho3 := ho3.no (hn3.step No)
  have ho4 := hn3.own
  have hzhn3 := hn3.size
  have hqhn3 := hn3.eqb
  refine VL_store (b := b3) (o := 0) (vs := [.int .i64 r, .bool (!(!bk)), .int .i64 kd, .slice none 0 0]) (by kernel_rfl) (by kernel_rfl) ho4 (Nat.le_of_ble_eq_true (by kernel_rfl)) ?_
  intro w9 hw2
  replace hS := Step.transNew hS hw2.step (fun _ _ _ => by omega)
  replace hA := hA.step hw2.step (fun k hk1 hk2 (hF : k = b3) => by omega)
  replace ho1 := ho1.step hw2.step (show ¬ b1 = b3 by omega)
  replace hI1 := hI1.step hw2.step (fun k hk1 hk2 (hF : k = b3) => by omega)
  replace hlehI1 := Nat.le_trans hlehI1 (hw2.step).size
  replace ho3 := ho3.step hw2.step (show ¬ b2 = b3 by omega)
  have ho5 : Own w9 b3 #[.int .i64 r, .bool (!(!bk)), .int .i64 kd, .slice none 0 0] 24 := Own.cast hw2.own (by kernel_rfl)
  have hzhw2 := hw2.same
  refine VL_end (by kernel_rfl) ?_
  refine VQ_next ?_
  refine VC_seq ?_
  refine VC_region ?_
  refine VL_pure 1 [1, 2, 3, 7, 8, 9] [(1, .int .i64 kd), (2, .int .i64 ((m : Nat) : Int)), (3, .pointer (some ⟨b1, 0, none⟩)), (7, .pointer (some ⟨b2, 0, none⟩)), (8, .pointer (some ⟨b3, 0, none⟩)), (9, .int .i64 0)] (by kernel_rfl) rfl ?_
  refine VL_end (by kernel_rfl) ?_
  refine VQ_next ?_
  refine VC_seq ?_
  refine VC_seq ?_
  refine VC_region ?_
  refine VL_pure 3 [1, 2, 3, 7, 8, 9, 27] [(1, .int .i64 kd), (2, .int .i64 ((m : Nat) : Int)), (3, .pointer (some ⟨b1, 0, none⟩)), (7, .pointer (some ⟨b2, 0, none⟩)), (8, .pointer (some ⟨b3, 0, none⟩)), (9, .int .i64 0), (27, .bool (decide (((m : Nat) : Int) ≥ 1)))] (by kernel_rfl) rfl ?_
  refine VL_known (decide (((m : Nat) : Int) ≥ 1)) (fun bV => [(1, .int .i64 kd), (2, .int .i64 ((m : Nat) : Int)), (3, .pointer (some ⟨b1, 0, none⟩)), (7, .pointer (some ⟨b2, 0, none⟩)), (8, .pointer (some ⟨b3, 0, none⟩)), (9, .int .i64 0), (27, .bool bV)]) true rfl (by simp; omega) ?_
  refine VL_pure 6 [1, 2, 3, 7, 8, 9, 30] [(1, .int .i64 kd), (2, .int .i64 ((m : Nat) : Int)), (3, .pointer (some ⟨b1, 0, none⟩)), (7, .pointer (some ⟨b2, 0, none⟩)), (8, .pointer (some ⟨b3, 0, none⟩)), (9, .int .i64 0), (30, .bool (decide (((m : Nat) : Int) ≤ 127)))] (by kernel_rfl) rfl ?_
  refine VL_end (by kernel_rfl) ?_
  refine VQ_next ?_
  refine VC_is (b := decide (((m : Nat) : Int) ≤ 127)) true (by kernel_rfl) (by simp; omega) ?_
  refine VC_ite_true ?_
  refine VC_region ?_
  refine VL_pure 2 [1, 3, 7, 8, 9] [(1, .int .i64 kd), (3, .pointer (some ⟨b1, 0, none⟩)), (7, .pointer (some ⟨b2, 0, none⟩)), (8, .pointer (some ⟨b3, 0, none⟩)), (9, .int .i64 ((m : Nat) : Int))] (by kernel_rfl) rfl ?_
  refine VL_end (by kernel_rfl) ?_
  refine VQ_next ?_
  refine VC_seq ?_
  refine VC_region ?_
  refine VL_pure 1 [1, 3, 7, 8, 9, 32] [(1, .int .i64 kd), (3, .pointer (some ⟨b1, 0, none⟩)), (7, .pointer (some ⟨b2, 0, none⟩)), (8, .pointer (some ⟨b3, 0, none⟩)), (9, .int .i64 ((m : Nat) : Int)), (32, .pointer (some ⟨b2, 1, none⟩))] (by kernel_rfl) rfl ?_
  refine VL_load (d := 33) (t := 4) (a := ⟨b2, 1, none⟩) (v := .bool (!bk)) (by kernel_rfl) (by kernel_rfl) (Loads.own1 ho3 (by kernel_rfl) (by rfl)) ?_
  refine VL_pure 3 [1, 3, 7, 8, 9, 33, 34] [(1, .int .i64 kd), (3, .pointer (some ⟨b1, 0, none⟩)), (7, .pointer (some ⟨b2, 0, none⟩)), (8, .pointer (some ⟨b3, 0, none⟩)), (9, .int .i64 ((m : Nat) : Int)), (33, .bool (!bk)), (34, .pointer (some ⟨b1, 1, none⟩))] (by kernel_rfl) rfl ?_
  refine VL_load (d := 35) (t := 4) (a := ⟨b1, 1, none⟩) (v := .bool bk) (by kernel_rfl) (by kernel_rfl) (Loads.own1 ho1 (by kernel_rfl) (by rfl)) ?_
  refine VL_pure 6 [1, 3, 7, 8, 9, 37] [(1, .int .i64 kd), (3, .pointer (some ⟨b1, 0, none⟩)), (7, .pointer (some ⟨b2, 0, none⟩)), (8, .pointer (some ⟨b3, 0, none⟩)), (9, .int .i64 ((m : Nat) : Int)), (37, .bool (!((!bk) == bk)))] (by kernel_rfl) rfl ?_
  refine VL_known (!((!bk) == bk)) (fun bV => [(1, .int .i64 kd), (3, .pointer (some ⟨b1, 0, none⟩)), (7, .pointer (some ⟨b2, 0, none⟩)), (8, .pointer (some ⟨b3, 0, none⟩)), (9, .int .i64 ((m : Nat) : Int)), (37, .bool bV)]) true rfl (by cases bk <;> rfl) ?_
  refine VL_pure 7 [1, 3, 7, 8, 9, 37, 38] [(1, .int .i64 kd), (3, .pointer (some ⟨b1, 0, none⟩)), (7, .pointer (some ⟨b2, 0, none⟩)), (8, .pointer (some ⟨b3, 0, none⟩)), (9, .int .i64 ((m : Nat) : Int)), (37, .bool true), (38, .pointer (some ⟨b3, 1, none⟩))] (by kernel_rfl) rfl ?_
  refine VL_load (d := 39) (t := 4) (a := ⟨b3, 1, none⟩) (v := .bool (!(!bk))) (by kernel_rfl) (by kernel_rfl) (Loads.own1 ho5 (by kernel_rfl) (by rfl)) ?_
  refine VL_pure 9 [1, 3, 7, 8, 9, 37, 39, 40] [(1, .int .i64 kd), (3, .pointer (some ⟨b1, 0, none⟩)), (7, .pointer (some ⟨b2, 0, none⟩)), (8, .pointer (some ⟨b3, 0, none⟩)), (9, .int .i64 ((m : Nat) : Int)), (37, .bool true), (39, .bool (!(!bk))), (40, .pointer (some ⟨b1, 1, none⟩))] (by kernel_rfl) rfl ?_
  refine VL_load (d := 41) (t := 4) (a := ⟨b1, 1, none⟩) (v := .bool bk) (by kernel_rfl) (by kernel_rfl) (Loads.own1 ho1 (by kernel_rfl) (by rfl)) ?_
  refine VL_pure 13 [1, 3, 7, 8, 9, 44] [(1, .int .i64 kd), (3, .pointer (some ⟨b1, 0, none⟩)), (7, .pointer (some ⟨b2, 0, none⟩)), (8, .pointer (some ⟨b3, 0, none⟩)), (9, .int .i64 ((m : Nat) : Int)), (44, .bool ((!(!bk)) == bk))] (by kernel_rfl) rfl ?_
  refine VL_known ((!(!bk)) == bk) (fun bV => [(1, .int .i64 kd), (3, .pointer (some ⟨b1, 0, none⟩)), (7, .pointer (some ⟨b2, 0, none⟩)), (8, .pointer (some ⟨b3, 0, none⟩)), (9, .int .i64 ((m : Nat) : Int)), (44, .bool bV)]) true rfl (by cases bk <;> rfl) ?_
  refine VL_pure 14 [1, 3, 7, 8, 9, 44, 45] [(1, .int .i64 kd), (3, .pointer (some ⟨b1, 0, none⟩)), (7, .pointer (some ⟨b2, 0, none⟩)), (8, .pointer (some ⟨b3, 0, none⟩)), (9, .int .i64 ((m : Nat) : Int)), (44, .bool true), (45, .pointer (some ⟨b2, 0, none⟩))] (by kernel_rfl) rfl ?_
  refine VL_load (d := 46) (t := 3) (a := ⟨b2, 0, none⟩) (v := .int .i64 r) (by kernel_rfl) (by kernel_rfl) (Loads.own1 ho3 (by kernel_rfl) (by rfl)) ?_
  refine VL_pure 16 [1, 3, 7, 8, 9, 44, 46, 47] [(1, .int .i64 kd), (3, .pointer (some ⟨b1, 0, none⟩)), (7, .pointer (some ⟨b2, 0, none⟩)), (8, .pointer (some ⟨b3, 0, none⟩)), (9, .int .i64 ((m : Nat) : Int)), (44, .bool true), (46, .int .i64 r), (47, .pointer (some ⟨b1, 0, none⟩))] (by kernel_rfl) rfl ?_
  refine VL_load (d := 48) (t := 3) (a := ⟨b1, 0, none⟩) (v := .int .i64 r) (by kernel_rfl) (by kernel_rfl) (Loads.own1 ho1 (by kernel_rfl) (by rfl)) ?_
  refine VL_pure 20 [1, 3, 7, 8, 9, 51] [(1, .int .i64 kd), (3, .pointer (some ⟨b1, 0, none⟩)), (7, .pointer (some ⟨b2, 0, none⟩)), (8, .pointer (some ⟨b3, 0, none⟩)), (9, .int .i64 ((m : Nat) : Int)), (51, .bool (r == r))] (by kernel_rfl) rfl ?_
  refine VL_known (r == r) (fun bV => [(1, .int .i64 kd), (3, .pointer (some ⟨b1, 0, none⟩)), (7, .pointer (some ⟨b2, 0, none⟩)), (8, .pointer (some ⟨b3, 0, none⟩)), (9, .int .i64 ((m : Nat) : Int)), (51, .bool bV)]) true rfl (by simp) ?_
  refine VL_pure 21 [1, 3, 7, 8, 9, 51, 52] [(1, .int .i64 kd), (3, .pointer (some ⟨b1, 0, none⟩)), (7, .pointer (some ⟨b2, 0, none⟩)), (8, .pointer (some ⟨b3, 0, none⟩)), (9, .int .i64 ((m : Nat) : Int)), (51, .bool true), (52, .pointer (some ⟨b3, 0, none⟩))] (by kernel_rfl) rfl ?_
  refine VL_load (d := 53) (t := 3) (a := ⟨b3, 0, none⟩) (v := .int .i64 r) (by kernel_rfl) (by kernel_rfl) (Loads.own1 ho5 (by kernel_rfl) (by rfl)) ?_
  refine VL_pure 23 [1, 7, 8, 9, 51, 53, 54] [(1, .int .i64 kd), (7, .pointer (some ⟨b2, 0, none⟩)), (8, .pointer (some ⟨b3, 0, none⟩)), (9, .int .i64 ((m : Nat) : Int)), (51, .bool true), (53, .int .i64 r), (54, .pointer (some ⟨b1, 0, none⟩))] (by kernel_rfl) rfl ?_
  refine VL_load (d := 55) (t := 3) (a := ⟨b1, 0, none⟩) (v := .int .i64 r) (by kernel_rfl) (by kernel_rfl) (Loads.own1 ho1 (by kernel_rfl) (by rfl)) ?_
  refine VL_pure 27 [1, 7, 8, 9, 58] [(1, .int .i64 kd), (7, .pointer (some ⟨b2, 0, none⟩)), (8, .pointer (some ⟨b3, 0, none⟩)), (9, .int .i64 ((m : Nat) : Int)), (58, .bool (r == r))] (by kernel_rfl) rfl ?_
  refine VL_known (r == r) (fun bV => [(1, .int .i64 kd), (7, .pointer (some ⟨b2, 0, none⟩)), (8, .pointer (some ⟨b3, 0, none⟩)), (9, .int .i64 ((m : Nat) : Int)), (58, .bool bV)]) true rfl (by simp) ?_
  refine VL_pure 28 [1, 7, 8, 9, 58, 59] [(1, .int .i64 kd), (7, .pointer (some ⟨b2, 0, none⟩)), (8, .pointer (some ⟨b3, 0, none⟩)), (9, .int .i64 ((m : Nat) : Int)), (58, .bool true), (59, .pointer (some ⟨b2, 2, none⟩))] (by kernel_rfl) rfl ?_
  refine VL_load (d := 60) (t := 3) (a := ⟨b2, 2, none⟩) (v := .int .i64 kd) (by kernel_rfl) (by kernel_rfl) (Loads.own1 ho3 (by kernel_rfl) (by rfl)) ?_
  refine VL_pure 33 [7, 8, 9, 64] [(7, .pointer (some ⟨b2, 0, none⟩)), (8, .pointer (some ⟨b3, 0, none⟩)), (9, .int .i64 ((m : Nat) : Int)), (64, .bool (kd == kd))] (by kernel_rfl) rfl ?_
  refine VL_known (kd == kd) (fun bV => [(7, .pointer (some ⟨b2, 0, none⟩)), (8, .pointer (some ⟨b3, 0, none⟩)), (9, .int .i64 ((m : Nat) : Int)), (64, .bool bV)]) true rfl (by simp) ?_
  refine VL_load (d := 65) (t := 24) (a := ⟨b2, 0, none⟩) (v := .agg #[.int .i64 r, .bool (!bk), .int .i64 kd, .slice Aa1 1 1]) (by kernel_rfl) (by kernel_rfl) (Loads.ownL ho3 (n := 4) (by kernel_rfl) (by kernel_rfl) (by kernel_rfl)) ?_
  have hzs8 := hS.size
  have hzl9 := ho1.lt
  have hzl10 := ho3.lt
  have hzl11 := ho5.lt
  refine VL_call (d := 66) (f := 20) (by kernel_rfl) (by kernel_rfl) (by kernel_rfl) Try.call20 (mcause_any r (!bk) kd Aa1 1 1 0 w4.heap.size ([⟨8, Ab1, 2, 2, [0, ((m : Nat) : Int)]⟩]) _ rfl hI1 (by omega) (by first | exact Nat.le_refl _ | omega) (ans_ieb (by omega)) (by simp only [List.mem_cons, List.mem_nil_iff, or_false]; intro x hx; first | exact hx.elim | (subst hx; dsimp only; omega))) ?_
  rintro _ w10 ⟨rfl, hc5⟩
  replace hS := Step.trans hS hc5
  replace hA := hA.no hc5
  replace ho1 := ho1.no hc5
  replace hI1 := hI1.no hc5
  replace hlehI1 := Nat.le_trans hlehI1 (hc5).size
  replace ho3 := ho3.no hc5
  replace ho5 := ho5.no hc5
  refine VL_pure 39 [8, 70] [(8, .pointer (some ⟨b3, 0, none⟩)), (70, .bool ((mcause (vals ([⟨8, Ab1, 2, 2, [0, ((m : Nat) : Int)]⟩]))) == ((m : Nat) : Int)))] (by kernel_rfl) rfl ?_
  refine VL_known ((mcause (vals ([⟨8, Ab1, 2, 2, [0, ((m : Nat) : Int)]⟩]))) == ((m : Nat) : Int)) (fun bV => [(8, .pointer (some ⟨b3, 0, none⟩)), (70, .bool bV)]) true rfl (by rw [mcause_one (by omega)]; simp) ?_
  refine VL_load (d := 71) (t := 24) (a := ⟨b3, 0, none⟩) (v := .agg #[.int .i64 r, .bool (!(!bk)), .int .i64 kd, .slice none 0 0]) (by kernel_rfl) (by kernel_rfl) (Loads.ownL ho5 (n := 4) (by kernel_rfl) (by kernel_rfl) (by kernel_rfl)) ?_
  have hzs9 := hS.size
  have hzl12 := ho1.lt
  have hzl13 := ho3.lt
  have hzl14 := ho5.lt
  refine VL_call (d := 72) (f := 20) (by kernel_rfl) (by kernel_rfl) (by kernel_rfl) Try.call20 (mcause_any r (!(!bk)) kd none 0 0 0 0 ([]) _ rfl Ies.nil (by omega) (by first | exact Nat.le_refl _ | omega) (fun x hx => by simp at hx) (by simp only [List.mem_cons, List.mem_nil_iff, or_false]; intro x hx; first | exact hx.elim | (subst hx; dsimp only; omega))) ?_
  rintro _ w11 ⟨rfl, hc6⟩
  replace hS := Step.trans hS hc6
  replace hA := hA.no hc6
  replace ho1 := ho1.no hc6
  replace hI1 := hI1.no hc6
  replace hlehI1 := Nat.le_trans hlehI1 (hc6).size
  replace ho3 := ho3.no hc6
  replace ho5 := ho5.no hc6
  refine VL_pure 44 [8, 75] [(8, .pointer (some ⟨b3, 0, none⟩)), (75, .bool ((mcause (vals ([]))) == 0))] (by kernel_rfl) rfl ?_
  refine VL_known ((mcause (vals ([]))) == 0) (fun bV => [(8, .pointer (some ⟨b3, 0, none⟩)), (75, .bool bV)]) true rfl (by rfl) ?_
  refine VL_pure 45 [75, 76] [(75, .bool true), (76, .pointer (some ⟨b3, 3, none⟩))] (by kernel_rfl) rfl ?_
  refine VL_load (d := 77) (t := 22) (a := ⟨b3, 3, none⟩) (v := .slice none 0 0) (by kernel_rfl) (by kernel_rfl) (Loads.own1 ho5 (by kernel_rfl) (by rfl)) ?_
  refine VL_pure 50 [6] [(6, .bool true)] (by kernel_rfl) rfl ?_
  refine VL_end (by kernel_rfl) ?_
  refine VQ_next ?_
  refine VC_ret ?_
  refine VQ_ret1 (.bool true) (.inr rfl) rfl rfl ?_
  exact ⟨by first | rfl | simp [*], hS⟩

set_option maxRecDepth 100000 in
set_option maxHeartbeats 4000000 in
theorem sides_no (r : Int) (bk : Bool) (k : Int) (A : Option Addr) (n c : Nat) (l : List IeV) (kd : Int) (m : Int) (w : World) (hn : l.length = n) (hA : Ies w 0 w.heap.size A l) (hc : n ≤ c) (hl : ∀ x ∈ l, IeB x) (hmx : n ≤ 9223372036854775807) (hf : fewB l = true) (hm : ¬ (1 ≤ m ∧ m ≤ 127))  :
    CV Try.prog 6 #[.agg #[.int .i64 r, .bool bk, .int .i64 k, .slice A n c], .int .i64 kd, .int .i64 m] w (fun x w1 => x = .bool true ∧ Step No w w1) := by
  have hS : Step No w w := Step.refl _ _
  obtain ⟨hsm, hn20⟩ := fewB_yes hf
  rw [hn] at hn20
  refine CV_enter Try.f6 _ 81 [(0, .agg #[.int .i64 r, .bool bk, .int .i64 k, .slice A n c]), (1, .int .i64 kd), (2, .int .i64 m)] Try.func6 rfl rfl (by kernel_rfl) rfl ?_
  refine VC_seq ?_
  refine VC_region ?_
  have hzs1 := hS.size
  refine VL_box (d := 3) (t := 24) (c := #[.int .i64 r, .bool bk, .int .i64 k, .slice A n c]) (by kernel_rfl) (by kernel_rfl) ?_
  intro b1 w1 hn1
  replace hS := Step.trans hS (hn1.step No)
  replace hA := hA.no (hn1.step No)
  have ho1 := hn1.own
  have hzhn1 := hn1.size
  have hqhn1 := hn1.eqb
  refine VL_pure 2 [1, 2, 3] [(1, .int .i64 kd), (2, .int .i64 m), (3, .pointer (some ⟨b1, 0, none⟩))] (by kernel_rfl) rfl ?_
  refine VL_end (by kernel_rfl) ?_
  refine VQ_next ?_
  refine VC_seq ?_
  refine VC_seq ?_
  refine VC_region ?_
  have hzs2 := hS.size
  have hzl1 := ho1.lt
  refine VL_call (d := 10) (f := 9) (args := #[]) (by kernel_rfl) (by kernel_rfl) (by kernel_rfl) Try.call9 (awake_any _) ?_
  rintro _ w2 ⟨rfl, hc1⟩
  replace hS := Step.trans hS hc1
  replace hA := hA.no hc1
  replace ho1 := ho1.no hc1
  refine VL_pure 3 [1, 2, 3, 12] [(1, .int .i64 kd), (2, .int .i64 m), (3, .pointer (some ⟨b1, 0, none⟩)), (12, .bool false)] (by kernel_rfl) rfl ?_
  refine VL_load (d := 13) (t := 24) (a := ⟨b1, 0, none⟩) (v := .agg #[.int .i64 r, .bool bk, .int .i64 k, .slice A n c]) (by kernel_rfl) (by kernel_rfl) (Loads.ownL ho1 (n := 4) (by kernel_rfl) (by kernel_rfl) (by kernel_rfl)) ?_
  have hzs3 := hS.size
  have hzl2 := ho1.lt
  refine VL_call (d := 14) (f := 10) (by kernel_rfl) (by kernel_rfl) (by kernel_rfl) Try.call10 (few16_any r bk k A n c 0 w.heap.size l _ hn hA (by omega)) ?_
  rintro _ w3 ⟨rfl, hc2⟩
  replace hS := Step.trans hS hc2
  replace hA := hA.no hc2
  replace ho1 := ho1.no hc2
  refine VL_pure 7 [1, 2, 3, 16] [(1, .int .i64 kd), (2, .int .i64 m), (3, .pointer (some ⟨b1, 0, none⟩)), (16, .bool (!(fewB l)))] (by kernel_rfl) rfl ?_
  refine VL_end (by kernel_rfl) ?_
  refine VQ_next ?_
  refine VC_is (b := !(fewB l)) false (by kernel_rfl) (by rw [show (fewB l) = true from hf]; rfl) ?_
  refine VC_ite_false ?_
  refine VC_skip ?_
  refine VQ_next ?_
  refine VC_seq ?_
  refine VC_region ?_
  refine VL_load (d := 18) (t := 24) (a := ⟨b1, 0, none⟩) (v := .agg #[.int .i64 r, .bool bk, .int .i64 k, .slice A n c]) (by kernel_rfl) (by kernel_rfl) (Loads.ownL ho1 (n := 4) (by kernel_rfl) (by kernel_rfl) (by kernel_rfl)) ?_
  refine VL_pure 3 [1, 2, 3, 18, 19, 20] [(1, .int .i64 kd), (2, .int .i64 m), (3, .pointer (some ⟨b1, 0, none⟩)), (18, .agg #[.int .i64 r, .bool bk, .int .i64 k, .slice A n c]), (19, .int .i64 kd), (20, .int .i64 m)] (by kernel_rfl) rfl ?_
  have hzs4 := hS.size
  have hzl3 := ho1.lt
  refine VL_call (d := 21) (f := 19) (by kernel_rfl) (by kernel_rfl) (by kernel_rfl) Try.call19 (ans_no r bk k A n c kd m _ (by omega)) ?_
  rintro _ w4 ⟨rfl, hc3⟩
  replace hS := Step.trans hS hc3
  replace hA := hA.no hc3
  replace ho1 := ho1.no hc3
  have hzs5 := hS.size
  have hzl4 := ho1.lt
  refine VL_box (d := 7) (t := 24) (c := #[.int .i64 0, .bool false, .int .i64 0, .slice none 0 0]) (by kernel_rfl) (by kernel_rfl) ?_
  intro b2 w5 hn2
  replace hS := Step.trans hS (hn2.step No)
  replace hA := hA.no (hn2.step No)
  replace ho1 := ho1.no (hn2.step No)
  have ho2 := hn2.own
  have hzhn2 := hn2.size
  have hqhn2 := hn2.eqb
  refine VL_store (b := b2) (o := 0) (vs := [.int .i64 r, .bool (!bk), .int .i64 kd, .slice none 0 0]) (by kernel_rfl) (by kernel_rfl) ho2 (Nat.le_of_ble_eq_true (by kernel_rfl)) ?_
  intro w6 hw1
  replace hS := Step.transNew hS hw1.step (fun _ _ _ => by omega)
  replace hA := hA.step hw1.step (fun k hk1 hk2 (hF : k = b2) => by omega)
  replace ho1 := ho1.step hw1.step (show ¬ b1 = b2 by omega)
  have ho3 : Own w6 b2 #[.int .i64 r, .bool (!bk), .int .i64 kd, .slice none 0 0] 24 := Own.cast hw1.own (by kernel_rfl)
  have hzhw1 := hw1.same
  refine VL_end (by kernel_rfl) ?_
  refine VQ_next ?_
  refine VC_seq ?_
  refine VC_region ?_
  refine VL_load (d := 22) (t := 24) (a := ⟨b2, 0, none⟩) (v := .agg #[.int .i64 r, .bool (!bk), .int .i64 kd, .slice none 0 0]) (by kernel_rfl) (by kernel_rfl) (Loads.ownL ho3 (n := 4) (by kernel_rfl) (by kernel_rfl) (by kernel_rfl)) ?_
  refine VL_pure 2 [1, 2, 3, 7, 22, 23] [(1, .int .i64 kd), (2, .int .i64 m), (3, .pointer (some ⟨b1, 0, none⟩)), (7, .pointer (some ⟨b2, 0, none⟩)), (22, .agg #[.int .i64 r, .bool (!bk), .int .i64 kd, .slice none 0 0]), (23, .int .i64 kd)] (by kernel_rfl) rfl ?_
  have hzs6 := hS.size
  have hzl5 := ho1.lt
  have hzl6 := ho3.lt
  refine VL_call (d := 24) (f := 19) (by kernel_rfl) (by kernel_rfl) (by kernel_rfl) Try.call19 (ans_no r (!bk) kd none 0 0 kd 0 _ (by omega)) ?_
  rintro _ w7 ⟨rfl, hc4⟩
  replace hS := Step.trans hS hc4
  replace hA := hA.no hc4
  replace ho1 := ho1.no hc4
  replace ho3 := ho3.no hc4
  have hzs7 := hS.size
  have hzl7 := ho1.lt
  have hzl8 := ho3.lt
  refine VL_box (d := 8) (t := 24) (c := #[.int .i64 0, .bool false, .int .i64 0, .slice none 0 0]) (by kernel_rfl) (by kernel_rfl) ?_
  intro b3 w8 hn3
  replace hS := Step.trans hS (hn3.step No)
  replace hA := hA.no (hn3.step No)
  replace ho1 := ho1.no (hn3.step No)
  replace ho3 := ho3.no (hn3.step No)
  have ho4 := hn3.own
  have hzhn3 := hn3.size
  have hqhn3 := hn3.eqb
  refine VL_store (b := b3) (o := 0) (vs := [.int .i64 r, .bool (!(!bk)), .int .i64 kd, .slice none 0 0]) (by kernel_rfl) (by kernel_rfl) ho4 (Nat.le_of_ble_eq_true (by kernel_rfl)) ?_
  intro w9 hw2
  replace hS := Step.transNew hS hw2.step (fun _ _ _ => by omega)
  replace hA := hA.step hw2.step (fun k hk1 hk2 (hF : k = b3) => by omega)
  replace ho1 := ho1.step hw2.step (show ¬ b1 = b3 by omega)
  replace ho3 := ho3.step hw2.step (show ¬ b2 = b3 by omega)
  have ho5 : Own w9 b3 #[.int .i64 r, .bool (!(!bk)), .int .i64 kd, .slice none 0 0] 24 := Own.cast hw2.own (by kernel_rfl)
  have hzhw2 := hw2.same
  refine VL_end (by kernel_rfl) ?_
  refine VQ_next ?_
  refine VC_seq ?_
  refine VC_region ?_
  refine VL_pure 1 [1, 2, 3, 7, 8, 9] [(1, .int .i64 kd), (2, .int .i64 m), (3, .pointer (some ⟨b1, 0, none⟩)), (7, .pointer (some ⟨b2, 0, none⟩)), (8, .pointer (some ⟨b3, 0, none⟩)), (9, .int .i64 0)] (by kernel_rfl) rfl ?_
  refine VL_end (by kernel_rfl) ?_
  refine VQ_next ?_
  refine VC_seq ?_
  refine VC_seq ?_
  refine VC_region ?_
  refine VL_pure 3 [1, 2, 3, 7, 8, 9, 27] [(1, .int .i64 kd), (2, .int .i64 m), (3, .pointer (some ⟨b1, 0, none⟩)), (7, .pointer (some ⟨b2, 0, none⟩)), (8, .pointer (some ⟨b3, 0, none⟩)), (9, .int .i64 0), (27, .bool (decide (m ≥ 1)))] (by kernel_rfl) rfl ?_
  refine VL_dec (m ≥ 1) (fun bV => [(1, .int .i64 kd), (2, .int .i64 m), (3, .pointer (some ⟨b1, 0, none⟩)), (7, .pointer (some ⟨b2, 0, none⟩)), (8, .pointer (some ⟨b3, 0, none⟩)), (9, .int .i64 0), (27, .bool bV)]) rfl (fun hg1 => ?_) (fun hg1 => ?_)
  · refine VL_pure 6 [1, 2, 3, 7, 8, 9, 30] [(1, .int .i64 kd), (2, .int .i64 m), (3, .pointer (some ⟨b1, 0, none⟩)), (7, .pointer (some ⟨b2, 0, none⟩)), (8, .pointer (some ⟨b3, 0, none⟩)), (9, .int .i64 0), (30, .bool (decide (m ≤ 127)))] (by kernel_rfl) rfl ?_
    refine VL_end (by kernel_rfl) ?_
    refine VQ_next ?_
    refine VC_is (b := decide (m ≤ 127)) false (by kernel_rfl) (by simp; omega) ?_
    refine VC_ite_false ?_
    refine VC_skip ?_
    refine VQ_next ?_
    refine VC_seq ?_
    refine VC_region ?_
    refine VL_pure 1 [1, 3, 7, 8, 9, 32] [(1, .int .i64 kd), (3, .pointer (some ⟨b1, 0, none⟩)), (7, .pointer (some ⟨b2, 0, none⟩)), (8, .pointer (some ⟨b3, 0, none⟩)), (9, .int .i64 0), (32, .pointer (some ⟨b2, 1, none⟩))] (by kernel_rfl) rfl ?_
    refine VL_load (d := 33) (t := 4) (a := ⟨b2, 1, none⟩) (v := .bool (!bk)) (by kernel_rfl) (by kernel_rfl) (Loads.own1 ho3 (by kernel_rfl) (by rfl)) ?_
    refine VL_pure 3 [1, 3, 7, 8, 9, 33, 34] [(1, .int .i64 kd), (3, .pointer (some ⟨b1, 0, none⟩)), (7, .pointer (some ⟨b2, 0, none⟩)), (8, .pointer (some ⟨b3, 0, none⟩)), (9, .int .i64 0), (33, .bool (!bk)), (34, .pointer (some ⟨b1, 1, none⟩))] (by kernel_rfl) rfl ?_
    refine VL_load (d := 35) (t := 4) (a := ⟨b1, 1, none⟩) (v := .bool bk) (by kernel_rfl) (by kernel_rfl) (Loads.own1 ho1 (by kernel_rfl) (by rfl)) ?_
    refine VL_pure 6 [1, 3, 7, 8, 9, 37] [(1, .int .i64 kd), (3, .pointer (some ⟨b1, 0, none⟩)), (7, .pointer (some ⟨b2, 0, none⟩)), (8, .pointer (some ⟨b3, 0, none⟩)), (9, .int .i64 0), (37, .bool (!((!bk) == bk)))] (by kernel_rfl) rfl ?_
    refine VL_known (!((!bk) == bk)) (fun bV => [(1, .int .i64 kd), (3, .pointer (some ⟨b1, 0, none⟩)), (7, .pointer (some ⟨b2, 0, none⟩)), (8, .pointer (some ⟨b3, 0, none⟩)), (9, .int .i64 0), (37, .bool bV)]) true rfl (by cases bk <;> rfl) ?_
    refine VL_pure 7 [1, 3, 7, 8, 9, 37, 38] [(1, .int .i64 kd), (3, .pointer (some ⟨b1, 0, none⟩)), (7, .pointer (some ⟨b2, 0, none⟩)), (8, .pointer (some ⟨b3, 0, none⟩)), (9, .int .i64 0), (37, .bool true), (38, .pointer (some ⟨b3, 1, none⟩))] (by kernel_rfl) rfl ?_
    refine VL_load (d := 39) (t := 4) (a := ⟨b3, 1, none⟩) (v := .bool (!(!bk))) (by kernel_rfl) (by kernel_rfl) (Loads.own1 ho5 (by kernel_rfl) (by rfl)) ?_
    refine VL_pure 9 [1, 3, 7, 8, 9, 37, 39, 40] [(1, .int .i64 kd), (3, .pointer (some ⟨b1, 0, none⟩)), (7, .pointer (some ⟨b2, 0, none⟩)), (8, .pointer (some ⟨b3, 0, none⟩)), (9, .int .i64 0), (37, .bool true), (39, .bool (!(!bk))), (40, .pointer (some ⟨b1, 1, none⟩))] (by kernel_rfl) rfl ?_
    refine VL_load (d := 41) (t := 4) (a := ⟨b1, 1, none⟩) (v := .bool bk) (by kernel_rfl) (by kernel_rfl) (Loads.own1 ho1 (by kernel_rfl) (by rfl)) ?_
    refine VL_pure 13 [1, 3, 7, 8, 9, 44] [(1, .int .i64 kd), (3, .pointer (some ⟨b1, 0, none⟩)), (7, .pointer (some ⟨b2, 0, none⟩)), (8, .pointer (some ⟨b3, 0, none⟩)), (9, .int .i64 0), (44, .bool ((!(!bk)) == bk))] (by kernel_rfl) rfl ?_
    refine VL_known ((!(!bk)) == bk) (fun bV => [(1, .int .i64 kd), (3, .pointer (some ⟨b1, 0, none⟩)), (7, .pointer (some ⟨b2, 0, none⟩)), (8, .pointer (some ⟨b3, 0, none⟩)), (9, .int .i64 0), (44, .bool bV)]) true rfl (by cases bk <;> rfl) ?_
    refine VL_pure 14 [1, 3, 7, 8, 9, 44, 45] [(1, .int .i64 kd), (3, .pointer (some ⟨b1, 0, none⟩)), (7, .pointer (some ⟨b2, 0, none⟩)), (8, .pointer (some ⟨b3, 0, none⟩)), (9, .int .i64 0), (44, .bool true), (45, .pointer (some ⟨b2, 0, none⟩))] (by kernel_rfl) rfl ?_
    refine VL_load (d := 46) (t := 3) (a := ⟨b2, 0, none⟩) (v := .int .i64 r) (by kernel_rfl) (by kernel_rfl) (Loads.own1 ho3 (by kernel_rfl) (by rfl)) ?_
    refine VL_pure 16 [1, 3, 7, 8, 9, 44, 46, 47] [(1, .int .i64 kd), (3, .pointer (some ⟨b1, 0, none⟩)), (7, .pointer (some ⟨b2, 0, none⟩)), (8, .pointer (some ⟨b3, 0, none⟩)), (9, .int .i64 0), (44, .bool true), (46, .int .i64 r), (47, .pointer (some ⟨b1, 0, none⟩))] (by kernel_rfl) rfl ?_
    refine VL_load (d := 48) (t := 3) (a := ⟨b1, 0, none⟩) (v := .int .i64 r) (by kernel_rfl) (by kernel_rfl) (Loads.own1 ho1 (by kernel_rfl) (by rfl)) ?_
    refine VL_pure 20 [1, 3, 7, 8, 9, 51] [(1, .int .i64 kd), (3, .pointer (some ⟨b1, 0, none⟩)), (7, .pointer (some ⟨b2, 0, none⟩)), (8, .pointer (some ⟨b3, 0, none⟩)), (9, .int .i64 0), (51, .bool (r == r))] (by kernel_rfl) rfl ?_
    refine VL_known (r == r) (fun bV => [(1, .int .i64 kd), (3, .pointer (some ⟨b1, 0, none⟩)), (7, .pointer (some ⟨b2, 0, none⟩)), (8, .pointer (some ⟨b3, 0, none⟩)), (9, .int .i64 0), (51, .bool bV)]) true rfl (by simp) ?_
    refine VL_pure 21 [1, 3, 7, 8, 9, 51, 52] [(1, .int .i64 kd), (3, .pointer (some ⟨b1, 0, none⟩)), (7, .pointer (some ⟨b2, 0, none⟩)), (8, .pointer (some ⟨b3, 0, none⟩)), (9, .int .i64 0), (51, .bool true), (52, .pointer (some ⟨b3, 0, none⟩))] (by kernel_rfl) rfl ?_
    refine VL_load (d := 53) (t := 3) (a := ⟨b3, 0, none⟩) (v := .int .i64 r) (by kernel_rfl) (by kernel_rfl) (Loads.own1 ho5 (by kernel_rfl) (by rfl)) ?_
    refine VL_pure 23 [1, 7, 8, 9, 51, 53, 54] [(1, .int .i64 kd), (7, .pointer (some ⟨b2, 0, none⟩)), (8, .pointer (some ⟨b3, 0, none⟩)), (9, .int .i64 0), (51, .bool true), (53, .int .i64 r), (54, .pointer (some ⟨b1, 0, none⟩))] (by kernel_rfl) rfl ?_
    refine VL_load (d := 55) (t := 3) (a := ⟨b1, 0, none⟩) (v := .int .i64 r) (by kernel_rfl) (by kernel_rfl) (Loads.own1 ho1 (by kernel_rfl) (by rfl)) ?_
    refine VL_pure 27 [1, 7, 8, 9, 58] [(1, .int .i64 kd), (7, .pointer (some ⟨b2, 0, none⟩)), (8, .pointer (some ⟨b3, 0, none⟩)), (9, .int .i64 0), (58, .bool (r == r))] (by kernel_rfl) rfl ?_
    refine VL_known (r == r) (fun bV => [(1, .int .i64 kd), (7, .pointer (some ⟨b2, 0, none⟩)), (8, .pointer (some ⟨b3, 0, none⟩)), (9, .int .i64 0), (58, .bool bV)]) true rfl (by simp) ?_
    refine VL_pure 28 [1, 7, 8, 9, 58, 59] [(1, .int .i64 kd), (7, .pointer (some ⟨b2, 0, none⟩)), (8, .pointer (some ⟨b3, 0, none⟩)), (9, .int .i64 0), (58, .bool true), (59, .pointer (some ⟨b2, 2, none⟩))] (by kernel_rfl) rfl ?_
    refine VL_load (d := 60) (t := 3) (a := ⟨b2, 2, none⟩) (v := .int .i64 kd) (by kernel_rfl) (by kernel_rfl) (Loads.own1 ho3 (by kernel_rfl) (by rfl)) ?_
    refine VL_pure 33 [7, 8, 9, 64] [(7, .pointer (some ⟨b2, 0, none⟩)), (8, .pointer (some ⟨b3, 0, none⟩)), (9, .int .i64 0), (64, .bool (kd == kd))] (by kernel_rfl) rfl ?_
    refine VL_known (kd == kd) (fun bV => [(7, .pointer (some ⟨b2, 0, none⟩)), (8, .pointer (some ⟨b3, 0, none⟩)), (9, .int .i64 0), (64, .bool bV)]) true rfl (by simp) ?_
    refine VL_load (d := 65) (t := 24) (a := ⟨b2, 0, none⟩) (v := .agg #[.int .i64 r, .bool (!bk), .int .i64 kd, .slice none 0 0]) (by kernel_rfl) (by kernel_rfl) (Loads.ownL ho3 (n := 4) (by kernel_rfl) (by kernel_rfl) (by kernel_rfl)) ?_
    have hzs8 := hS.size
    have hzl9 := ho1.lt
    have hzl10 := ho3.lt
    have hzl11 := ho5.lt
    refine VL_call (d := 66) (f := 20) (by kernel_rfl) (by kernel_rfl) (by kernel_rfl) Try.call20 (mcause_any r (!bk) kd none 0 0 0 0 ([]) _ rfl Ies.nil (by omega) (by first | exact Nat.le_refl _ | omega) (fun x hx => by simp at hx) (by simp only [List.mem_cons, List.mem_nil_iff, or_false]; intro x hx; first | exact hx.elim | (subst hx; dsimp only; omega))) ?_
    rintro _ w10 ⟨rfl, hc5⟩
    replace hS := Step.trans hS hc5
    replace hA := hA.no hc5
    replace ho1 := ho1.no hc5
    replace ho3 := ho3.no hc5
    replace ho5 := ho5.no hc5
    refine VL_pure 39 [8, 70] [(8, .pointer (some ⟨b3, 0, none⟩)), (70, .bool ((mcause (vals ([]))) == 0))] (by kernel_rfl) rfl ?_
    refine VL_known ((mcause (vals ([]))) == 0) (fun bV => [(8, .pointer (some ⟨b3, 0, none⟩)), (70, .bool bV)]) true rfl (by rfl) ?_
    refine VL_load (d := 71) (t := 24) (a := ⟨b3, 0, none⟩) (v := .agg #[.int .i64 r, .bool (!(!bk)), .int .i64 kd, .slice none 0 0]) (by kernel_rfl) (by kernel_rfl) (Loads.ownL ho5 (n := 4) (by kernel_rfl) (by kernel_rfl) (by kernel_rfl)) ?_
    have hzs9 := hS.size
    have hzl12 := ho1.lt
    have hzl13 := ho3.lt
    have hzl14 := ho5.lt
    refine VL_call (d := 72) (f := 20) (by kernel_rfl) (by kernel_rfl) (by kernel_rfl) Try.call20 (mcause_any r (!(!bk)) kd none 0 0 0 0 ([]) _ rfl Ies.nil (by omega) (by first | exact Nat.le_refl _ | omega) (fun x hx => by simp at hx) (by simp only [List.mem_cons, List.mem_nil_iff, or_false]; intro x hx; first | exact hx.elim | (subst hx; dsimp only; omega))) ?_
    rintro _ w11 ⟨rfl, hc6⟩
    replace hS := Step.trans hS hc6
    replace hA := hA.no hc6
    replace ho1 := ho1.no hc6
    replace ho3 := ho3.no hc6
    replace ho5 := ho5.no hc6
    refine VL_pure 44 [8, 75] [(8, .pointer (some ⟨b3, 0, none⟩)), (75, .bool ((mcause (vals ([]))) == 0))] (by kernel_rfl) rfl ?_
    refine VL_known ((mcause (vals ([]))) == 0) (fun bV => [(8, .pointer (some ⟨b3, 0, none⟩)), (75, .bool bV)]) true rfl (by rfl) ?_
    refine VL_pure 45 [75, 76] [(75, .bool true), (76, .pointer (some ⟨b3, 3, none⟩))] (by kernel_rfl) rfl ?_
    refine VL_load (d := 77) (t := 22) (a := ⟨b3, 3, none⟩) (v := .slice none 0 0) (by kernel_rfl) (by kernel_rfl) (Loads.own1 ho5 (by kernel_rfl) (by rfl)) ?_
    refine VL_pure 50 [6] [(6, .bool true)] (by kernel_rfl) rfl ?_
    refine VL_end (by kernel_rfl) ?_
    refine VQ_next ?_
    refine VC_ret ?_
    refine VQ_ret1 (.bool true) (.inr rfl) rfl rfl ?_
    exact ⟨by first | rfl | simp [*], hS⟩
  · refine VL_pure 6 [1, 2, 3, 7, 8, 9, 30] [(1, .int .i64 kd), (2, .int .i64 m), (3, .pointer (some ⟨b1, 0, none⟩)), (7, .pointer (some ⟨b2, 0, none⟩)), (8, .pointer (some ⟨b3, 0, none⟩)), (9, .int .i64 0), (30, .bool false)] (by kernel_rfl) rfl ?_
    refine VL_end (by kernel_rfl) ?_
    refine VQ_next ?_
    refine VC_false (by kernel_rfl) ?_
    refine VC_skip ?_
    refine VQ_next ?_
    refine VC_seq ?_
    refine VC_region ?_
    refine VL_pure 1 [1, 3, 7, 8, 9, 32] [(1, .int .i64 kd), (3, .pointer (some ⟨b1, 0, none⟩)), (7, .pointer (some ⟨b2, 0, none⟩)), (8, .pointer (some ⟨b3, 0, none⟩)), (9, .int .i64 0), (32, .pointer (some ⟨b2, 1, none⟩))] (by kernel_rfl) rfl ?_
    refine VL_load (d := 33) (t := 4) (a := ⟨b2, 1, none⟩) (v := .bool (!bk)) (by kernel_rfl) (by kernel_rfl) (Loads.own1 ho3 (by kernel_rfl) (by rfl)) ?_
    refine VL_pure 3 [1, 3, 7, 8, 9, 33, 34] [(1, .int .i64 kd), (3, .pointer (some ⟨b1, 0, none⟩)), (7, .pointer (some ⟨b2, 0, none⟩)), (8, .pointer (some ⟨b3, 0, none⟩)), (9, .int .i64 0), (33, .bool (!bk)), (34, .pointer (some ⟨b1, 1, none⟩))] (by kernel_rfl) rfl ?_
    refine VL_load (d := 35) (t := 4) (a := ⟨b1, 1, none⟩) (v := .bool bk) (by kernel_rfl) (by kernel_rfl) (Loads.own1 ho1 (by kernel_rfl) (by rfl)) ?_
    refine VL_pure 6 [1, 3, 7, 8, 9, 37] [(1, .int .i64 kd), (3, .pointer (some ⟨b1, 0, none⟩)), (7, .pointer (some ⟨b2, 0, none⟩)), (8, .pointer (some ⟨b3, 0, none⟩)), (9, .int .i64 0), (37, .bool (!((!bk) == bk)))] (by kernel_rfl) rfl ?_
    refine VL_known (!((!bk) == bk)) (fun bV => [(1, .int .i64 kd), (3, .pointer (some ⟨b1, 0, none⟩)), (7, .pointer (some ⟨b2, 0, none⟩)), (8, .pointer (some ⟨b3, 0, none⟩)), (9, .int .i64 0), (37, .bool bV)]) true rfl (by cases bk <;> rfl) ?_
    refine VL_pure 7 [1, 3, 7, 8, 9, 37, 38] [(1, .int .i64 kd), (3, .pointer (some ⟨b1, 0, none⟩)), (7, .pointer (some ⟨b2, 0, none⟩)), (8, .pointer (some ⟨b3, 0, none⟩)), (9, .int .i64 0), (37, .bool true), (38, .pointer (some ⟨b3, 1, none⟩))] (by kernel_rfl) rfl ?_
    refine VL_load (d := 39) (t := 4) (a := ⟨b3, 1, none⟩) (v := .bool (!(!bk))) (by kernel_rfl) (by kernel_rfl) (Loads.own1 ho5 (by kernel_rfl) (by rfl)) ?_
    refine VL_pure 9 [1, 3, 7, 8, 9, 37, 39, 40] [(1, .int .i64 kd), (3, .pointer (some ⟨b1, 0, none⟩)), (7, .pointer (some ⟨b2, 0, none⟩)), (8, .pointer (some ⟨b3, 0, none⟩)), (9, .int .i64 0), (37, .bool true), (39, .bool (!(!bk))), (40, .pointer (some ⟨b1, 1, none⟩))] (by kernel_rfl) rfl ?_
    refine VL_load (d := 41) (t := 4) (a := ⟨b1, 1, none⟩) (v := .bool bk) (by kernel_rfl) (by kernel_rfl) (Loads.own1 ho1 (by kernel_rfl) (by rfl)) ?_
    refine VL_pure 13 [1, 3, 7, 8, 9, 44] [(1, .int .i64 kd), (3, .pointer (some ⟨b1, 0, none⟩)), (7, .pointer (some ⟨b2, 0, none⟩)), (8, .pointer (some ⟨b3, 0, none⟩)), (9, .int .i64 0), (44, .bool ((!(!bk)) == bk))] (by kernel_rfl) rfl ?_
    refine VL_known ((!(!bk)) == bk) (fun bV => [(1, .int .i64 kd), (3, .pointer (some ⟨b1, 0, none⟩)), (7, .pointer (some ⟨b2, 0, none⟩)), (8, .pointer (some ⟨b3, 0, none⟩)), (9, .int .i64 0), (44, .bool bV)]) true rfl (by cases bk <;> rfl) ?_
    refine VL_pure 14 [1, 3, 7, 8, 9, 44, 45] [(1, .int .i64 kd), (3, .pointer (some ⟨b1, 0, none⟩)), (7, .pointer (some ⟨b2, 0, none⟩)), (8, .pointer (some ⟨b3, 0, none⟩)), (9, .int .i64 0), (44, .bool true), (45, .pointer (some ⟨b2, 0, none⟩))] (by kernel_rfl) rfl ?_
    refine VL_load (d := 46) (t := 3) (a := ⟨b2, 0, none⟩) (v := .int .i64 r) (by kernel_rfl) (by kernel_rfl) (Loads.own1 ho3 (by kernel_rfl) (by rfl)) ?_
    refine VL_pure 16 [1, 3, 7, 8, 9, 44, 46, 47] [(1, .int .i64 kd), (3, .pointer (some ⟨b1, 0, none⟩)), (7, .pointer (some ⟨b2, 0, none⟩)), (8, .pointer (some ⟨b3, 0, none⟩)), (9, .int .i64 0), (44, .bool true), (46, .int .i64 r), (47, .pointer (some ⟨b1, 0, none⟩))] (by kernel_rfl) rfl ?_
    refine VL_load (d := 48) (t := 3) (a := ⟨b1, 0, none⟩) (v := .int .i64 r) (by kernel_rfl) (by kernel_rfl) (Loads.own1 ho1 (by kernel_rfl) (by rfl)) ?_
    refine VL_pure 20 [1, 3, 7, 8, 9, 51] [(1, .int .i64 kd), (3, .pointer (some ⟨b1, 0, none⟩)), (7, .pointer (some ⟨b2, 0, none⟩)), (8, .pointer (some ⟨b3, 0, none⟩)), (9, .int .i64 0), (51, .bool (r == r))] (by kernel_rfl) rfl ?_
    refine VL_known (r == r) (fun bV => [(1, .int .i64 kd), (3, .pointer (some ⟨b1, 0, none⟩)), (7, .pointer (some ⟨b2, 0, none⟩)), (8, .pointer (some ⟨b3, 0, none⟩)), (9, .int .i64 0), (51, .bool bV)]) true rfl (by simp) ?_
    refine VL_pure 21 [1, 3, 7, 8, 9, 51, 52] [(1, .int .i64 kd), (3, .pointer (some ⟨b1, 0, none⟩)), (7, .pointer (some ⟨b2, 0, none⟩)), (8, .pointer (some ⟨b3, 0, none⟩)), (9, .int .i64 0), (51, .bool true), (52, .pointer (some ⟨b3, 0, none⟩))] (by kernel_rfl) rfl ?_
    refine VL_load (d := 53) (t := 3) (a := ⟨b3, 0, none⟩) (v := .int .i64 r) (by kernel_rfl) (by kernel_rfl) (Loads.own1 ho5 (by kernel_rfl) (by rfl)) ?_
    refine VL_pure 23 [1, 7, 8, 9, 51, 53, 54] [(1, .int .i64 kd), (7, .pointer (some ⟨b2, 0, none⟩)), (8, .pointer (some ⟨b3, 0, none⟩)), (9, .int .i64 0), (51, .bool true), (53, .int .i64 r), (54, .pointer (some ⟨b1, 0, none⟩))] (by kernel_rfl) rfl ?_
    refine VL_load (d := 55) (t := 3) (a := ⟨b1, 0, none⟩) (v := .int .i64 r) (by kernel_rfl) (by kernel_rfl) (Loads.own1 ho1 (by kernel_rfl) (by rfl)) ?_
    refine VL_pure 27 [1, 7, 8, 9, 58] [(1, .int .i64 kd), (7, .pointer (some ⟨b2, 0, none⟩)), (8, .pointer (some ⟨b3, 0, none⟩)), (9, .int .i64 0), (58, .bool (r == r))] (by kernel_rfl) rfl ?_
    refine VL_known (r == r) (fun bV => [(1, .int .i64 kd), (7, .pointer (some ⟨b2, 0, none⟩)), (8, .pointer (some ⟨b3, 0, none⟩)), (9, .int .i64 0), (58, .bool bV)]) true rfl (by simp) ?_
    refine VL_pure 28 [1, 7, 8, 9, 58, 59] [(1, .int .i64 kd), (7, .pointer (some ⟨b2, 0, none⟩)), (8, .pointer (some ⟨b3, 0, none⟩)), (9, .int .i64 0), (58, .bool true), (59, .pointer (some ⟨b2, 2, none⟩))] (by kernel_rfl) rfl ?_
    refine VL_load (d := 60) (t := 3) (a := ⟨b2, 2, none⟩) (v := .int .i64 kd) (by kernel_rfl) (by kernel_rfl) (Loads.own1 ho3 (by kernel_rfl) (by rfl)) ?_
    refine VL_pure 33 [7, 8, 9, 64] [(7, .pointer (some ⟨b2, 0, none⟩)), (8, .pointer (some ⟨b3, 0, none⟩)), (9, .int .i64 0), (64, .bool (kd == kd))] (by kernel_rfl) rfl ?_
    refine VL_known (kd == kd) (fun bV => [(7, .pointer (some ⟨b2, 0, none⟩)), (8, .pointer (some ⟨b3, 0, none⟩)), (9, .int .i64 0), (64, .bool bV)]) true rfl (by simp) ?_
    refine VL_load (d := 65) (t := 24) (a := ⟨b2, 0, none⟩) (v := .agg #[.int .i64 r, .bool (!bk), .int .i64 kd, .slice none 0 0]) (by kernel_rfl) (by kernel_rfl) (Loads.ownL ho3 (n := 4) (by kernel_rfl) (by kernel_rfl) (by kernel_rfl)) ?_
    have hzs10 := hS.size
    have hzl15 := ho1.lt
    have hzl16 := ho3.lt
    have hzl17 := ho5.lt
    refine VL_call (d := 66) (f := 20) (by kernel_rfl) (by kernel_rfl) (by kernel_rfl) Try.call20 (mcause_any r (!bk) kd none 0 0 0 0 ([]) _ rfl Ies.nil (by omega) (by first | exact Nat.le_refl _ | omega) (fun x hx => by simp at hx) (by simp only [List.mem_cons, List.mem_nil_iff, or_false]; intro x hx; first | exact hx.elim | (subst hx; dsimp only; omega))) ?_
    rintro _ w12 ⟨rfl, hc7⟩
    replace hS := Step.trans hS hc7
    replace hA := hA.no hc7
    replace ho1 := ho1.no hc7
    replace ho3 := ho3.no hc7
    replace ho5 := ho5.no hc7
    refine VL_pure 39 [8, 70] [(8, .pointer (some ⟨b3, 0, none⟩)), (70, .bool ((mcause (vals ([]))) == 0))] (by kernel_rfl) rfl ?_
    refine VL_known ((mcause (vals ([]))) == 0) (fun bV => [(8, .pointer (some ⟨b3, 0, none⟩)), (70, .bool bV)]) true rfl (by rfl) ?_
    refine VL_load (d := 71) (t := 24) (a := ⟨b3, 0, none⟩) (v := .agg #[.int .i64 r, .bool (!(!bk)), .int .i64 kd, .slice none 0 0]) (by kernel_rfl) (by kernel_rfl) (Loads.ownL ho5 (n := 4) (by kernel_rfl) (by kernel_rfl) (by kernel_rfl)) ?_
    have hzs11 := hS.size
    have hzl18 := ho1.lt
    have hzl19 := ho3.lt
    have hzl20 := ho5.lt
    refine VL_call (d := 72) (f := 20) (by kernel_rfl) (by kernel_rfl) (by kernel_rfl) Try.call20 (mcause_any r (!(!bk)) kd none 0 0 0 0 ([]) _ rfl Ies.nil (by omega) (by first | exact Nat.le_refl _ | omega) (fun x hx => by simp at hx) (by simp only [List.mem_cons, List.mem_nil_iff, or_false]; intro x hx; first | exact hx.elim | (subst hx; dsimp only; omega))) ?_
    rintro _ w13 ⟨rfl, hc8⟩
    replace hS := Step.trans hS hc8
    replace hA := hA.no hc8
    replace ho1 := ho1.no hc8
    replace ho3 := ho3.no hc8
    replace ho5 := ho5.no hc8
    refine VL_pure 44 [8, 75] [(8, .pointer (some ⟨b3, 0, none⟩)), (75, .bool ((mcause (vals ([]))) == 0))] (by kernel_rfl) rfl ?_
    refine VL_known ((mcause (vals ([]))) == 0) (fun bV => [(8, .pointer (some ⟨b3, 0, none⟩)), (75, .bool bV)]) true rfl (by rfl) ?_
    refine VL_pure 45 [75, 76] [(75, .bool true), (76, .pointer (some ⟨b3, 3, none⟩))] (by kernel_rfl) rfl ?_
    refine VL_load (d := 77) (t := 22) (a := ⟨b3, 3, none⟩) (v := .slice none 0 0) (by kernel_rfl) (by kernel_rfl) (Loads.own1 ho5 (by kernel_rfl) (by rfl)) ?_
    refine VL_pure 50 [6] [(6, .bool true)] (by kernel_rfl) rfl ?_
    refine VL_end (by kernel_rfl) ?_
    refine VQ_next ?_
    refine VC_ret ?_
    refine VQ_ret1 (.bool true) (.inr rfl) rfl rfl ?_
    exact ⟨by first | rfl | simp [*], hS⟩

set_option maxRecDepth 100000 in
set_option maxHeartbeats 4000000 in
theorem sides_o1 (r : Int) (bk : Bool) (k : Int) (A : Option Addr) (n c : Nat) (l : List IeV) (kd : Int) (m : Int) (w : World) (hn : l.length = n) (hA : Ies w 0 w.heap.size A l) (hc : n ≤ c) (hl : ∀ x ∈ l, IeB x) (hmx : n ≤ 9223372036854775807) (hf : fewB l = false)  :
    CV Try.prog 6 #[.agg #[.int .i64 r, .bool bk, .int .i64 k, .slice A n c], .int .i64 kd, .int .i64 m] w (fun x w1 => x = .bool true ∧ Step No w w1) := by
  have hS : Step No w w := Step.refl _ _
  refine CV_enter Try.f6 _ 81 [(0, .agg #[.int .i64 r, .bool bk, .int .i64 k, .slice A n c]), (1, .int .i64 kd), (2, .int .i64 m)] Try.func6 rfl rfl (by kernel_rfl) rfl ?_
  refine VC_seq ?_
  refine VC_region ?_
  have hzs1 := hS.size
  refine VL_box (d := 3) (t := 24) (c := #[.int .i64 r, .bool bk, .int .i64 k, .slice A n c]) (by kernel_rfl) (by kernel_rfl) ?_
  intro b1 w1 hn1
  replace hS := Step.trans hS (hn1.step No)
  replace hA := hA.no (hn1.step No)
  have ho1 := hn1.own
  have hzhn1 := hn1.size
  have hqhn1 := hn1.eqb
  refine VL_pure 2 [1, 2, 3] [(1, .int .i64 kd), (2, .int .i64 m), (3, .pointer (some ⟨b1, 0, none⟩))] (by kernel_rfl) rfl ?_
  refine VL_end (by kernel_rfl) ?_
  refine VQ_next ?_
  refine VC_seq ?_
  refine VC_seq ?_
  refine VC_region ?_
  have hzs2 := hS.size
  have hzl1 := ho1.lt
  refine VL_call (d := 10) (f := 9) (args := #[]) (by kernel_rfl) (by kernel_rfl) (by kernel_rfl) Try.call9 (awake_any _) ?_
  rintro _ w2 ⟨rfl, hc1⟩
  replace hS := Step.trans hS hc1
  replace hA := hA.no hc1
  replace ho1 := ho1.no hc1
  refine VL_pure 3 [1, 2, 3, 12] [(1, .int .i64 kd), (2, .int .i64 m), (3, .pointer (some ⟨b1, 0, none⟩)), (12, .bool false)] (by kernel_rfl) rfl ?_
  refine VL_load (d := 13) (t := 24) (a := ⟨b1, 0, none⟩) (v := .agg #[.int .i64 r, .bool bk, .int .i64 k, .slice A n c]) (by kernel_rfl) (by kernel_rfl) (Loads.ownL ho1 (n := 4) (by kernel_rfl) (by kernel_rfl) (by kernel_rfl)) ?_
  have hzs3 := hS.size
  have hzl2 := ho1.lt
  refine VL_call (d := 14) (f := 10) (by kernel_rfl) (by kernel_rfl) (by kernel_rfl) Try.call10 (few16_any r bk k A n c 0 w.heap.size l _ hn hA (by omega)) ?_
  rintro _ w3 ⟨rfl, hc2⟩
  replace hS := Step.trans hS hc2
  replace hA := hA.no hc2
  replace ho1 := ho1.no hc2
  refine VL_pure 7 [1, 2, 3, 16] [(1, .int .i64 kd), (2, .int .i64 m), (3, .pointer (some ⟨b1, 0, none⟩)), (16, .bool (!(fewB l)))] (by kernel_rfl) rfl ?_
  refine VL_end (by kernel_rfl) ?_
  refine VQ_next ?_
  refine VC_is (b := !(fewB l)) true (by kernel_rfl) (by rw [show (fewB l) = false from hf]; rfl) ?_
  refine VC_ite_true ?_
  refine VC_seq ?_
  refine VC_region ?_
  have hzs4 := hS.size
  have hzl3 := ho1.lt
  refine VL_call (d := 17) (f := 9) (args := #[]) (by kernel_rfl) (by kernel_rfl) (by kernel_rfl) Try.call9 (awake_any _) ?_
  rintro _ w4 ⟨rfl, hc3⟩
  replace hS := Step.trans hS hc3
  replace hA := hA.no hc3
  replace ho1 := ho1.no hc3
  refine VL_pure 2 [6] [(6, .bool true)] (by kernel_rfl) rfl ?_
  refine VL_end (by kernel_rfl) ?_
  refine VQ_next ?_
  refine VC_ret ?_
  refine VQ_then_ret ?_
  refine VQ_ret1 (.bool true) (.inr rfl) rfl rfl ?_
  exact ⟨by first | rfl | simp [*], hS⟩

end Go.Proofs.Ytejpcmjokamdcaa
