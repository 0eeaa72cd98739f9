/- Layer 16: MessagePacks. -/
import Derived.Test.YtejpcmjokamdcaaProg
import Derived.Test.YtejpcmjokamdcaaMe4
set_option linter.unusedVariables false
set_option linter.unusedSimpArgs false
namespace Go.Proofs.Ytejpcmjokamdcaa
open Go.Vc Go.RowKit

set_option maxRecDepth 100000 in
set_option maxHeartbeats 4000000 in
theorem packs_yes (r : Int) (bk : Bool) (k : Int) (A : Option Addr) (n c : Nat) (l : List IeV) (D : Option Addr) (nD cD : Nat) (bt : List Int) (w : World) (hn : l.length = n) (hA : Ies w 0 w.heap.size A l) (hc : n ≤ c) (hl : ∀ x ∈ l, IeB x) (hmx : n ≤ 9223372036854775807) (hnD : bt.length = nD) (hD : Sl w w.heap.size D (iL .u8 bt)) (hcD : nD ≤ cD) (hb : Bytes bt) (hf : fewB l = true) (hlonD : 0 ≤ nD) (hhinD : nD ≤ 1500) :
    CV Try.prog 3 #[.agg #[.int .i64 r, .bool bk, .int .i64 k, .slice A n c], .slice D nD cD] w (fun x w1 => x = .bool true ∧ Step No w w1) := by
  have hS : Step No w w := Step.refl _ _
  obtain ⟨hsm, hn20⟩ := fewB_yes hf
  rw [hn] at hn20
  refine CV_enter Try.f3 _ 71 [(0, .agg #[.int .i64 r, .bool bk, .int .i64 k, .slice A n c]), (1, .slice D nD cD)] Try.func3 rfl rfl (by kernel_rfl) rfl ?_
  refine VC_seq ?_
  refine VC_region ?_
  have hzs1 := hS.size
  refine VL_box (d := 2) (t := 24) (c := #[.int .i64 r, .bool bk, .int .i64 k, .slice A n c]) (by kernel_rfl) (by kernel_rfl) ?_
  intro b1 w1 hn1
  replace hS := Step.trans hS (hn1.step No)
  replace hA := hA.no (hn1.step No)
  replace hD := hD.no (hn1.step No)
  have ho1 := hn1.own
  have hzhn1 := hn1.size
  have hqhn1 := hn1.eqb
  refine VL_pure 2 [1, 2] [(1, .slice D nD cD), (2, .pointer (some ⟨b1, 0, none⟩))] (by kernel_rfl) rfl ?_
  refine VL_end (by kernel_rfl) ?_
  refine VQ_next ?_
  refine VC_seq ?_
  refine VC_seq ?_
  refine VC_region ?_
  have hzs2 := hS.size
  have hzl1 := ho1.lt
  refine VL_call (d := 13) (f := 9) (args := #[]) (by kernel_rfl) (by kernel_rfl) (by kernel_rfl) Try.call9 (awake_any _) ?_
  rintro _ w2 ⟨rfl, hc1⟩
  replace hS := Step.trans hS hc1
  replace hA := hA.no hc1
  replace hD := hD.no hc1
  replace ho1 := ho1.no hc1
  refine VL_pure 3 [1, 2, 15] [(1, .slice D nD cD), (2, .pointer (some ⟨b1, 0, none⟩)), (15, .bool false)] (by kernel_rfl) rfl ?_
  refine VL_load (d := 16) (t := 24) (a := ⟨b1, 0, none⟩) (v := .agg #[.int .i64 r, .bool bk, .int .i64 k, .slice A n c]) (by kernel_rfl) (by kernel_rfl) (Loads.ownL ho1 (n := 4) (by kernel_rfl) (by kernel_rfl) (by kernel_rfl)) ?_
  have hzs3 := hS.size
  have hzl2 := ho1.lt
  refine VL_call (d := 17) (f := 10) (by kernel_rfl) (by kernel_rfl) (by kernel_rfl) Try.call10 (few16_any r bk k A n c 0 w.heap.size l _ hn hA (by omega)) ?_
  rintro _ w3 ⟨rfl, hc2⟩
  replace hS := Step.trans hS hc2
  replace hA := hA.no hc2
  replace hD := hD.no hc2
  replace ho1 := ho1.no hc2
  refine VL_pure 8 [1, 2, 20] [(1, .slice D nD cD), (2, .pointer (some ⟨b1, 0, none⟩)), (20, .bool (!(fewB l)))] (by kernel_rfl) rfl ?_
  refine VL_known (fewB l) (fun bV => [(1, .slice D nD cD), (2, .pointer (some ⟨b1, 0, none⟩)), (20, .bool (!bV))]) true rfl hf ?_
  refine VL_pure 12 [1, 2, 24] [(1, .slice D nD cD), (2, .pointer (some ⟨b1, 0, none⟩)), (24, .bool (decide (((nD : Nat) : Int) > 1500)))] (by kernel_rfl) rfl ?_
  refine VL_end (by kernel_rfl) ?_
  refine VQ_next ?_
  refine VC_is (b := decide (((nD : Nat) : Int) > 1500)) false (by kernel_rfl) (by first | (simp; omega) | (simp; done) | simp [*]) ?_
  refine VC_ite_false ?_
  refine VC_skip ?_
  refine VQ_next ?_
  refine VC_seq ?_
  refine VC_region ?_
  refine VL_load (d := 27) (t := 24) (a := ⟨b1, 0, none⟩) (v := .agg #[.int .i64 r, .bool bk, .int .i64 k, .slice A n c]) (by kernel_rfl) (by kernel_rfl) (Loads.ownL ho1 (n := 4) (by kernel_rfl) (by kernel_rfl) (by kernel_rfl)) ?_
  have hzs4 := hS.size
  have hzl3 := ho1.lt
  refine VL_call (d := 28) (f := 11) (by kernel_rfl) (by kernel_rfl) (by kernel_rfl) Try.call11 (msgpack_any r bk k A n c 0 w.heap.size l _ hn hA (by omega) (by first | exact Nat.le_refl _ | omega)) ?_
  rintro _ w4 ⟨A1, c1, rfl, hr1, hc3⟩
  replace hS := Step.trans hS hc3
  replace hA := hA.no hc3
  replace hD := hD.no hc3
  replace ho1 := ho1.no hc3
  obtain ⟨base1, hbase1E⟩ : ∃ x, x = w3.heap.size := ⟨_, rfl⟩
  rw [← hbase1E] at hr1
  have hbase1 : base1 ≤ w4.heap.size := by rw [hbase1E]; exact hc3.size
  have hmlq1 := msgT_le r bk k (vals l)
  refine VL_pure 7 [1, 2, 5, 6] [(1, .slice D nD cD), (2, .pointer (some ⟨b1, 0, none⟩)), (5, .slice A1 ((msgT r bk k (vals l)).length) c1), (6, .int .i64 (msgE r bk k (vals l)))] (by kernel_rfl) rfl ?_
  refine VL_end (by kernel_rfl) ?_
  refine VQ_next ?_
  refine VC_seq ?_
  refine VC_region ?_
  refine VL_load (d := 32) (t := 24) (a := ⟨b1, 0, none⟩) (v := .agg #[.int .i64 r, .bool bk, .int .i64 k, .slice A n c]) (by kernel_rfl) (by kernel_rfl) (Loads.ownL ho1 (n := 4) (by kernel_rfl) (by kernel_rfl) (by kernel_rfl)) ?_
  have hzs5 := hS.size
  have hzl4 := ho1.lt
  refine VL_call (d := 33) (f := 12) (by kernel_rfl) (by kernel_rfl) (by kernel_rfl) Try.call12 (rmsgpack_any r bk k A n c 0 w.heap.size l _ hn hA (by omega) (by first | exact Nat.le_refl _ | omega)) ?_
  rintro _ w5 ⟨A2, c2, rfl, hr2, hc4⟩
  replace hS := Step.trans hS hc4
  replace hA := hA.no hc4
  replace hD := hD.no hc4
  replace ho1 := ho1.no hc4
  replace hbase1 := Nat.le_trans hbase1 (hc4).size
  replace hr1 := hr1.no hc4
  obtain ⟨base2, hbase2E⟩ : ∃ x, x = w4.heap.size := ⟨_, rfl⟩
  rw [← hbase2E] at hr2
  have hbase2 : base2 ≤ w5.heap.size := by rw [hbase2E]; exact hc4.size
  have hmlq2 := msgT_le r bk k (vals l)
  refine VL_pure 7 [1, 2, 5, 6, 7, 8] [(1, .slice D nD cD), (2, .pointer (some ⟨b1, 0, none⟩)), (5, .slice A1 ((msgT r bk k (vals l)).length) c1), (6, .int .i64 (msgE r bk k (vals l))), (7, .slice A2 ((msgT r bk k (vals l)).length) c2), (8, .int .i64 (msgE r bk k (vals l)))] (by kernel_rfl) rfl ?_
  refine VL_end (by kernel_rfl) ?_
  refine VQ_next ?_
  refine VC_seq ?_
  refine VC_region ?_
  refine VL_pure 1 [1, 2, 5, 6, 7, 8, 37] [(1, .slice D nD cD), (2, .pointer (some ⟨b1, 0, none⟩)), (5, .slice A1 ((msgT r bk k (vals l)).length) c1), (6, .int .i64 (msgE r bk k (vals l))), (7, .slice A2 ((msgT r bk k (vals l)).length) c2), (8, .int .i64 (msgE r bk k (vals l))), (37, .slice D nD cD)] (by kernel_rfl) rfl ?_
  have hzs6 := hS.size
  have hzl5 := ho1.lt
  refine VL_call (d := 38) (f := 13) (by kernel_rfl) (by kernel_rfl) (by kernel_rfl) Try.call13 (msgun_any D nD cD _ bt _ hnD hD (by omega) hb (by omega) (by first | exact Nat.le_refl _ | omega)) ?_
  rintro _ w6 ⟨Ai1, ci1, li1, rfl, hv1, hI1, hc5⟩
  replace hS := Step.trans hS hc5
  replace hA := hA.no hc5
  replace hD := hD.no hc5
  replace ho1 := ho1.no hc5
  replace hbase1 := Nat.le_trans hbase1 (hc5).size
  replace hr1 := hr1.no hc5
  replace hbase2 := Nat.le_trans hbase2 (hc5).size
  replace hr2 := hr2.no hc5
  have hleli1 : w6.heap.size ≤ w6.heap.size := Nat.le_refl _
  have hV1 := Ier.ies hI1
  have hcntli1 : li1.length ≤ 16 := by rw [← vals_len, hv1]; exact muL_count bt
  have hcali1 : li1.length ≤ ci1 := RwS.cap hI1.row
  have hibli1 : ∀ x ∈ li1, IeB x := mu_ieb hv1 hb
  have hsmli1 : ∀ x ∈ li1, x.n ≤ 200 := mu_small hV1 hv1 hb
  refine VL_pure 5 [1, 2, 5, 6, 7, 8, 39, 40] [(1, .slice D nD cD), (2, .pointer (some ⟨b1, 0, none⟩)), (5, .slice A1 ((msgT r bk k (vals l)).length) c1), (6, .int .i64 (msgE r bk k (vals l))), (7, .slice A2 ((msgT r bk k (vals l)).length) c2), (8, .int .i64 (msgE r bk k (vals l))), (39, .agg #[.int .i64 (muR bt), .bool (muB bt), .int .i64 (muK bt), .slice Ai1 li1.length ci1]), (40, .int .i64 (muE bt))] (by kernel_rfl) rfl ?_
  have hzs7 := hS.size
  have hzl6 := ho1.lt
  have hzk1 := hbase1
  have hzk2 := hbase2
  have hzk3 := hleli1
  have hub1 := hr1.ub
  have hub2 := hr2.ub
  refine VL_box (d := 9) (t := 24) (c := #[.int .i64 0, .bool false, .int .i64 0, .slice none 0 0]) (by kernel_rfl) (by kernel_rfl) ?_
  intro b2 w7 hn2
  replace hS := Step.trans hS (hn2.step No)
  replace hA := hA.no (hn2.step No)
  replace hD := hD.no (hn2.step No)
  replace ho1 := ho1.no (hn2.step No)
  replace hbase1 := Nat.le_trans hbase1 (hn2.step No).size
  replace hr1 := hr1.no (hn2.step No)
  replace hbase2 := Nat.le_trans hbase2 (hn2.step No).size
  replace hr2 := hr2.no (hn2.step No)
  replace hV1 := hV1.no (hn2.step No)
  replace hleli1 := Nat.le_trans hleli1 (hn2.step No).size
  have ho2 := hn2.own
  have hzhn2 := hn2.size
  have hqhn2 := hn2.eqb
  refine VL_store (b := b2) (o := 0) (vs := [.int .i64 (muR bt), .bool (muB bt), .int .i64 (muK bt), .slice Ai1 li1.length ci1]) (by kernel_rfl) (by kernel_rfl) ho2 (Nat.le_of_ble_eq_true (by kernel_rfl)) ?_
  intro w8 hw1
  replace hS := Step.transNew hS hw1.step (fun _ _ _ => by omega)
  replace hA := hA.step hw1.step (fun k hk1 hk2 (hF : k = b2) => by omega)
  replace hD := hD.step hw1.step (fun k hk (hF : k = b2) => by omega)
  replace ho1 := ho1.step hw1.step (show ¬ b1 = b2 by omega)
  replace hbase1 := Nat.le_trans hbase1 (hw1.step).size
  replace hr1 := hr1.stepU hub1 hw1.step (fun k hk1 hk2 (hF : k = b2) => by omega)
  replace hbase2 := Nat.le_trans hbase2 (hw1.step).size
  replace hr2 := hr2.stepU hub2 hw1.step (fun k hk1 hk2 (hF : k = b2) => by omega)
  replace hV1 := hV1.step hw1.step (fun k hk1 hk2 (hF : k = b2) => by omega)
  replace hleli1 := Nat.le_trans hleli1 (hw1.step).size
  have ho3 : Own w8 b2 #[.int .i64 (muR bt), .bool (muB bt), .int .i64 (muK bt), .slice Ai1 li1.length ci1] 24 := Own.cast hw1.own (by kernel_rfl)
  have hzhw1 := hw1.same
  refine VL_pure 8 [1, 2, 5, 6, 7, 8, 9, 10] [(1, .slice D nD cD), (2, .pointer (some ⟨b1, 0, none⟩)), (5, .slice A1 ((msgT r bk k (vals l)).length) c1), (6, .int .i64 (msgE r bk k (vals l))), (7, .slice A2 ((msgT r bk k (vals l)).length) c2), (8, .int .i64 (msgE r bk k (vals l))), (9, .pointer (some ⟨b2, 0, none⟩)), (10, .int .i64 (muE bt))] (by kernel_rfl) rfl ?_
  refine VL_end (by kernel_rfl) ?_
  refine VQ_next ?_
  refine VC_seq ?_
  refine VC_region ?_
  refine VL_pure 1 [2, 5, 6, 7, 8, 9, 10, 42] [(2, .pointer (some ⟨b1, 0, none⟩)), (5, .slice A1 ((msgT r bk k (vals l)).length) c1), (6, .int .i64 (msgE r bk k (vals l))), (7, .slice A2 ((msgT r bk k (vals l)).length) c2), (8, .int .i64 (msgE r bk k (vals l))), (9, .pointer (some ⟨b2, 0, none⟩)), (10, .int .i64 (muE bt)), (42, .slice D nD cD)] (by kernel_rfl) rfl ?_
  have hzs8 := hS.size
  have hzl7 := ho1.lt
  have hzl8 := ho3.lt
  refine VL_call (d := 43) (f := 14) (by kernel_rfl) (by kernel_rfl) (by kernel_rfl) Try.call14 (rmsgun_any D nD cD _ bt _ hnD hD (by omega) hb (by omega) (by first | exact Nat.le_refl _ | omega)) ?_
  rintro _ w9 ⟨Ai2, ci2, li2, rfl, hv2, hI2, hc6⟩
  replace hS := Step.trans hS hc6
  replace hA := hA.no hc6
  replace hD := hD.no hc6
  replace ho1 := ho1.no hc6
  replace hbase1 := Nat.le_trans hbase1 (hc6).size
  replace hr1 := hr1.no hc6
  replace hbase2 := Nat.le_trans hbase2 (hc6).size
  replace hr2 := hr2.no hc6
  replace hV1 := hV1.no hc6
  replace hleli1 := Nat.le_trans hleli1 (hc6).size
  replace ho3 := ho3.no hc6
  have hleli2 : w9.heap.size ≤ w9.heap.size := Nat.le_refl _
  have hV2 := Ier.ies hI2
  have hcntli2 : li2.length ≤ 16 := by rw [← vals_len, hv2]; exact muL_count bt
  have hcali2 : li2.length ≤ ci2 := RwS.cap hI2.row
  have hibli2 : ∀ x ∈ li2, IeB x := mu_ieb hv2 hb
  have hsmli2 : ∀ x ∈ li2, x.n ≤ 200 := mu_small hV2 hv2 hb
  refine VL_pure 5 [2, 5, 6, 7, 8, 9, 10, 44, 45] [(2, .pointer (some ⟨b1, 0, none⟩)), (5, .slice A1 ((msgT r bk k (vals l)).length) c1), (6, .int .i64 (msgE r bk k (vals l))), (7, .slice A2 ((msgT r bk k (vals l)).length) c2), (8, .int .i64 (msgE r bk k (vals l))), (9, .pointer (some ⟨b2, 0, none⟩)), (10, .int .i64 (muE bt)), (44, .agg #[.int .i64 (muR bt), .bool (muB bt), .int .i64 (muK bt), .slice Ai2 li2.length ci2]), (45, .int .i64 (muE bt))] (by kernel_rfl) rfl ?_
  have hzs9 := hS.size
  have hzl9 := ho1.lt
  have hzk4 := hbase1
  have hzk5 := hbase2
  have hzk6 := hleli1
  have hzl10 := ho3.lt
  have hzk7 := hleli2
  refine VL_box (d := 11) (t := 24) (c := #[.int .i64 0, .bool false, .int .i64 0, .slice none 0 0]) (by kernel_rfl) (by kernel_rfl) ?_
  intro b3 w10 hn3
  replace hS := Step.trans hS (hn3.step No)
  replace hA := hA.no (hn3.step No)
  replace hD := hD.no (hn3.step No)
  replace ho1 := ho1.no (hn3.step No)
  replace hbase1 := Nat.le_trans hbase1 (hn3.step No).size
  replace hr1 := hr1.no (hn3.step No)
  replace hbase2 := Nat.le_trans hbase2 (hn3.step No).size
  replace hr2 := hr2.no (hn3.step No)
  replace hV1 := hV1.no (hn3.step No)
  replace hleli1 := Nat.le_trans hleli1 (hn3.step No).size
  replace ho3 := ho3.no (hn3.step No)
  replace hV2 := hV2.no (hn3.step No)
  replace hleli2 := Nat.le_trans hleli2 (hn3.step No).size
  have ho4 := hn3.own
  have hzhn3 := hn3.size
  have hqhn3 := hn3.eqb
  refine VL_store (b := b3) (o := 0) (vs := [.int .i64 (muR bt), .bool (muB bt), .int .i64 (muK bt), .slice Ai2 li2.length ci2]) (by kernel_rfl) (by kernel_rfl) ho4 (Nat.le_of_ble_eq_true (by kernel_rfl)) ?_
  intro w11 hw2
  replace hS := Step.transNew hS hw2.step (fun _ _ _ => by omega)
  replace hA := hA.step hw2.step (fun k hk1 hk2 (hF : k = b3) => by omega)
  replace hD := hD.step hw2.step (fun k hk (hF : k = b3) => by omega)
  replace ho1 := ho1.step hw2.step (show ¬ b1 = b3 by omega)
  replace hbase1 := Nat.le_trans hbase1 (hw2.step).size
  replace hr1 := hr1.stepU hub1 hw2.step (fun k hk1 hk2 (hF : k = b3) => by omega)
  replace hbase2 := Nat.le_trans hbase2 (hw2.step).size
  replace hr2 := hr2.stepU hub2 hw2.step (fun k hk1 hk2 (hF : k = b3) => by omega)
  replace hV1 := hV1.step hw2.step (fun k hk1 hk2 (hF : k = b3) => by omega)
  replace hleli1 := Nat.le_trans hleli1 (hw2.step).size
  replace ho3 := ho3.step hw2.step (show ¬ b2 = b3 by omega)
  replace hV2 := hV2.step hw2.step (fun k hk1 hk2 (hF : k = b3) => by omega)
  replace hleli2 := Nat.le_trans hleli2 (hw2.step).size
  have ho5 : Own w11 b3 #[.int .i64 (muR bt), .bool (muB bt), .int .i64 (muK bt), .slice Ai2 li2.length ci2] 24 := Own.cast hw2.own (by kernel_rfl)
  have hzhw2 := hw2.same
  refine VL_pure 8 [2, 5, 6, 7, 8, 9, 10, 11, 12] [(2, .pointer (some ⟨b1, 0, none⟩)), (5, .slice A1 ((msgT r bk k (vals l)).length) c1), (6, .int .i64 (msgE r bk k (vals l))), (7, .slice A2 ((msgT r bk k (vals l)).length) c2), (8, .int .i64 (msgE r bk k (vals l))), (9, .pointer (some ⟨b2, 0, none⟩)), (10, .int .i64 (muE bt)), (11, .pointer (some ⟨b3, 0, none⟩)), (12, .int .i64 (muE bt))] (by kernel_rfl) rfl ?_
  refine VL_end (by kernel_rfl) ?_
  refine VQ_next ?_
  refine VC_seq ?_
  have hs1 := drew_step w11
  have hs1z : w11.heap.size = w11.drew.heap.size := rfl
  refine VC_text [[], [], [0, 1], [0, 1, 2], [0, 1, 2, 3], [0, 1, 2, 3], [0, 1, 2, 3, 4, 5], [0, 1, 2, 3, 4, 5, 6], [0, 1, 2, 3, 4, 5, 6, 7], [0, 1, 2, 3, 4, 5, 6, 7, 8], [0, 1, 2, 3, 4, 5, 6, 7, 8], [0, 1, 2, 3, 4, 5, 6, 7, 8, 9, 10], [0, 1, 2, 3, 4, 5, 6, 7, 8, 9, 10, 11], [0, 1, 2, 3, 4, 5, 6, 7, 8, 9, 10, 11, 12], [0, 1, 2, 3, 4, 5, 6, 7, 8, 9, 10, 11, 12, 13], [0, 1, 2, 3, 4, 5, 6, 7, 8, 9, 10, 11, 12, 13], [0, 1, 2, 3, 4, 5, 6, 7, 8, 9, 10, 11, 12, 13, 14, 15], [0, 1, 2, 3, 4, 5, 6, 7, 8, 9, 10, 11, 12, 13, 14, 15, 16], [0, 1, 2, 3, 4, 5, 6, 7, 8, 9, 10, 11, 12, 13, 14, 15, 16, 17], [0, 1, 2, 3, 4, 5, 6, 7, 8, 9, 10, 11, 12, 13, 14, 15, 16, 17, 18], [0, 1, 2, 3, 4, 5, 6, 7, 8, 9, 10, 11, 12, 13, 14, 15, 16, 17, 18, 19], [0, 1, 2, 3, 4, 5, 6, 7, 8, 9, 10, 11, 12, 13, 14, 15, 16, 17, 18], [0, 1, 2, 3, 4, 5, 6, 7, 8, 9, 10, 11, 12, 13, 14, 15, 16, 17, 18, 19, 20, 21], [0, 1, 2, 3, 4, 5, 6, 7, 8, 9, 10, 11, 12, 13, 14, 15, 16, 17, 18, 19, 20, 21, 22], [0, 1, 2, 3, 4, 5, 6, 7, 8, 9, 10, 11, 12, 13, 14, 15, 16, 17, 18, 19, 20, 21, 22, 23], [0, 1, 2, 3, 4, 5, 6, 7, 8, 9, 10, 11, 12, 13, 14, 15, 16, 17, 18, 19, 20, 21, 22, 23, 24]] 22 (fun x y => Step (fun k => w11.heap.size ≤ k) x y) [2, 11, 20] [0, 1, 2, 3, 4, 5, 6, 7, 8, 9, 10, 11, 12, 13, 14, 15, 16, 17, 18, 19, 21, 20] (by kernel_rfl) (by kernel_rfl) (by kernel_rfl) (by kernel_rfl) (fun x => Step.refl _ x) (fun h k => Step.trans h k) Step.weak ?_
  have hzs10 := hS.size
  have hzl11 := ho1.lt
  have hzl12 := ho3.lt
  have hzl13 := ho5.lt
  generalize w11.drew = w12 at hs1 hs1z ⊢
  replace hS := Step.trans hS hs1
  replace hA := hA.no hs1
  replace hD := hD.no hs1
  replace ho1 := ho1.no hs1
  replace hbase1 := Nat.le_trans hbase1 (hs1).size
  replace hr1 := hr1.no hs1
  replace hbase2 := Nat.le_trans hbase2 (hs1).size
  replace hr2 := hr2.no hs1
  replace hV1 := hV1.no hs1
  replace hleli1 := Nat.le_trans hleli1 (hs1).size
  replace ho3 := ho3.no hs1
  replace hV2 := hV2.no hs1
  replace hleli2 := Nat.le_trans hleli2 (hs1).size
  replace ho5 := ho5.no hs1
  refine VT_pures 2 (kn' := [(1, .slice A2 ((msgT r bk k (vals l)).length) c2), (0, .slice A1 ((msgT r bk k (vals l)).length) c1)]) (by kernel_rfl) ?_
  refine VT_chain (by kernel_rfl) ?_
  intro w13 hs2
  have hzhs2 := hs2.size
  replace hS := Step.trans hS hs2
  replace hA := hA.no hs2
  replace hD := hD.no hs2
  replace ho1 := ho1.no hs2
  replace hbase1 := Nat.le_trans hbase1 (hs2).size
  replace hr1 := hr1.no hs2
  replace hbase2 := Nat.le_trans hbase2 (hs2).size
  replace hr2 := hr2.no hs2
  replace hV1 := hV1.no hs2
  replace hleli1 := Nat.le_trans hleli1 (hs2).size
  replace ho3 := ho3.no hs2
  replace hV2 := hV2.no hs2
  replace hleli2 := Nat.le_trans hleli2 (hs2).size
  replace ho5 := ho5.no hs2
  have hzs11 := hS.size
  have hzl14 := ho1.lt
  have hzl15 := ho3.lt
  have hzl16 := ho5.lt
  refine VTc_call (d := 48) (f := 15) (args := #[.slice A1 ((msgT r bk k (vals l)).length) c1, .slice A2 ((msgT r bk k (vals l)).length) c2]) (by kernel_rfl) (by kernel_rfl) (by kernel_rfl) Try.call15 (same_any A1 ((msgT r bk k (vals l)).length) c1 _ (msgT r bk k (vals l)) A2 ((msgT r bk k (vals l)).length) c2 _ (msgT r bk k (vals l)) _ (Rw.lenI hr1) (Rw.slI hr1) (Rw.lenI hr2) (Rw.slI hr2) (by omega) (by omega) (by first | exact Nat.le_refl _ | omega) (by first | exact Nat.le_refl _ | omega)) ?_ ?_
  · rintro _ w14 ⟨rfl, hc7⟩
    exact Step.mono hc7 (by intro i hi; first | exact hi.elim | ((try simp only at hi ⊢); omega))
  rintro _ w14 ⟨rfl, hc7⟩
  have hzhc7 := (hc7).size
  replace hS := Step.trans hS hc7
  replace hA := hA.no hc7
  replace hD := hD.no hc7
  replace ho1 := ho1.no hc7
  replace hbase1 := Nat.le_trans hbase1 (hc7).size
  replace hr1 := hr1.no hc7
  replace hbase2 := Nat.le_trans hbase2 (hc7).size
  replace hr2 := hr2.no hc7
  replace hV1 := hV1.no hc7
  replace hleli1 := Nat.le_trans hleli1 (hc7).size
  replace ho3 := ho3.no hc7
  replace hV2 := hV2.no hc7
  replace hleli2 := Nat.le_trans hleli2 (hc7).size
  replace ho5 := ho5.no hc7
  refine VT_pures 1 (kn' := [(3, .bool ((msgT r bk k (vals l)) == (msgT r bk k (vals l)))), (2, .bool ((msgT r bk k (vals l)) == (msgT r bk k (vals l)))), (1, .slice A2 ((msgT r bk k (vals l)).length) c2), (0, .slice A1 ((msgT r bk k (vals l)).length) c1)]) (by kernel_rfl) ?_
  have hg1 : ((msgT r bk k (vals l)) == (msgT r bk k (vals l))) = true := (by simp)
  refine VT_eq [(3, .bool true), (2, .bool true), (1, .slice A2 ((msgT r bk k (vals l)).length) c2), (0, .slice A1 ((msgT r bk k (vals l)).length) c1)] (by simp only [hg1, Bool.not_true, Bool.not_false]) ?_
  refine VT_pures 5 (kn' := [(8, .bool ((msgE r bk k (vals l)) == (msgE r bk k (vals l)))), (7, .bool ((msgE r bk k (vals l)) == (msgE r bk k (vals l)))), (6, .bool ((msgE r bk k (vals l)) == (msgE r bk k (vals l)))), (5, .int .i64 (msgE r bk k (vals l))), (4, .int .i64 (msgE r bk k (vals l))), (3, .bool true), (2, .bool true), (1, .slice A2 ((msgT r bk k (vals l)).length) c2), (0, .slice A1 ((msgT r bk k (vals l)).length) c1)]) (by kernel_rfl) ?_
  have hg2 : ((msgE r bk k (vals l)) == (msgE r bk k (vals l))) = true := (by simp)
  refine VT_eq [(8, .bool true), (7, .bool true), (6, .bool true), (5, .int .i64 (msgE r bk k (vals l))), (4, .int .i64 (msgE r bk k (vals l))), (3, .bool true), (2, .bool true), (1, .slice A2 ((msgT r bk k (vals l)).length) c2), (0, .slice A1 ((msgT r bk k (vals l)).length) c1)] (by simp only [hg2, Bool.not_true, Bool.not_false]) ?_
  refine VT_load (d := 55) (t := 24) (a := ⟨b2, 0, none⟩) (v := .agg #[.int .i64 (muR bt), .bool (muB bt), .int .i64 (muK bt), .slice Ai1 li1.length ci1]) (by kernel_rfl) (by kernel_rfl) ?_ ?_
  · intro w15 hr3
    replace hS := Step.transNew hS hr3 (fun i hi hG => by (try simp only at hG); omega)
    replace hA := hA.step hr3 (fun k hk1 hk2 hG => by (try simp only at hG); omega)
    replace hD := hD.step hr3 (fun k hk hG => by (try simp only at hG); omega)
    replace ho1 := ho1.step hr3 (by (try simp only); omega)
    replace hbase1 := Nat.le_trans hbase1 (hr3).size
    replace hr1 := hr1.stepU hub1 hr3 (fun k hk hk2 hG => by (try simp only at hG); omega)
    replace hbase2 := Nat.le_trans hbase2 (hr3).size
    replace hr2 := hr2.stepU hub2 hr3 (fun k hk hk2 hG => by (try simp only at hG); omega)
    replace hV1 := hV1.step hr3 (fun k hk1 hk2 hG => by (try simp only at hG); omega)
    replace hleli1 := Nat.le_trans hleli1 (hr3).size
    replace ho3 := ho3.step hr3 (by (try simp only); omega)
    replace hV2 := hV2.step hr3 (fun k hk1 hk2 hG => by (try simp only at hG); omega)
    replace hleli2 := Nat.le_trans hleli2 (hr3).size
    replace ho5 := ho5.step hr3 (by (try simp only); omega)
    exact (Loads.ownL ho3 (n := 4) (by kernel_rfl) (by kernel_rfl) (by kernel_rfl))
  refine VT_load (d := 56) (t := 24) (a := ⟨b3, 0, none⟩) (v := .agg #[.int .i64 (muR bt), .bool (muB bt), .int .i64 (muK bt), .slice Ai2 li2.length ci2]) (by kernel_rfl) (by kernel_rfl) ?_ ?_
  · intro w16 hr4
    replace hS := Step.transNew hS hr4 (fun i hi hG => by (try simp only at hG); omega)
    replace hA := hA.step hr4 (fun k hk1 hk2 hG => by (try simp only at hG); omega)
    replace hD := hD.step hr4 (fun k hk hG => by (try simp only at hG); omega)
    replace ho1 := ho1.step hr4 (by (try simp only); omega)
    replace hbase1 := Nat.le_trans hbase1 (hr4).size
    replace hr1 := hr1.stepU hub1 hr4 (fun k hk hk2 hG => by (try simp only at hG); omega)
    replace hbase2 := Nat.le_trans hbase2 (hr4).size
    replace hr2 := hr2.stepU hub2 hr4 (fun k hk hk2 hG => by (try simp only at hG); omega)
    replace hV1 := hV1.step hr4 (fun k hk1 hk2 hG => by (try simp only at hG); omega)
    replace hleli1 := Nat.le_trans hleli1 (hr4).size
    replace ho3 := ho3.step hr4 (by (try simp only); omega)
    replace hV2 := hV2.step hr4 (fun k hk1 hk2 hG => by (try simp only at hG); omega)
    replace hleli2 := Nat.le_trans hleli2 (hr4).size
    replace ho5 := ho5.step hr4 (by (try simp only); omega)
    exact (Loads.ownL ho5 (n := 4) (by kernel_rfl) (by kernel_rfl) (by kernel_rfl))
  refine VT_chain (by kernel_rfl) ?_
  intro w17 hs3
  have hzhs3 := hs3.size
  replace hS := Step.trans hS hs3
  replace hA := hA.no hs3
  replace hD := hD.no hs3
  replace ho1 := ho1.no hs3
  replace hbase1 := Nat.le_trans hbase1 (hs3).size
  replace hr1 := hr1.no hs3
  replace hbase2 := Nat.le_trans hbase2 (hs3).size
  replace hr2 := hr2.no hs3
  replace hV1 := hV1.no hs3
  replace hleli1 := Nat.le_trans hleli1 (hs3).size
  replace ho3 := ho3.no hs3
  replace hV2 := hV2.no hs3
  replace hleli2 := Nat.le_trans hleli2 (hs3).size
  replace ho5 := ho5.no hs3
  have hzs12 := hS.size
  have hzl17 := ho1.lt
  have hzl18 := ho3.lt
  have hzl19 := ho5.lt
  refine VTc_call (d := 57) (f := 16) (by kernel_rfl) (by kernel_rfl) (by kernel_rfl) Try.call16 (same16_any (muR bt) (muB bt) (muK bt) (muR bt) (muB bt) (muK bt) Ai1 li1.length ci1 w5.heap.size w6.heap.size li1 _ rfl hV1 Ai2 li2.length ci2 w8.heap.size w9.heap.size li2 rfl hV2   (by omega) (fun x hx => by have hq9 := hsmli1 x hx; omega) (fun x hx => by have hq9 := hsmli2 x hx; omega) (by first | exact Nat.le_refl _ | omega) (by first | exact Nat.le_refl _ | omega)) ?_ ?_
  · rintro _ w18 ⟨rfl, hc8⟩
    exact Step.mono hc8 (by intro i hi; first | exact hi.elim | ((try simp only at hi ⊢); omega))
  rintro _ w18 ⟨rfl, hc8⟩
  have hzhc8 := (hc8).size
  replace hS := Step.trans hS hc8
  replace hA := hA.no hc8
  replace hD := hD.no hc8
  replace ho1 := ho1.no hc8
  replace hbase1 := Nat.le_trans hbase1 (hc8).size
  replace hr1 := hr1.no hc8
  replace hbase2 := Nat.le_trans hbase2 (hc8).size
  replace hr2 := hr2.no hc8
  replace hV1 := hV1.no hc8
  replace hleli1 := Nat.le_trans hleli1 (hc8).size
  replace ho3 := ho3.no hc8
  replace hV2 := hV2.no hc8
  replace hleli2 := Nat.le_trans hleli2 (hc8).size
  replace ho5 := ho5.no hc8
  refine VT_pures 2 (kn' := [(13, .bool (sameM (muR bt) (muB bt) (muK bt) (vals li1) (muR bt) (muB bt) (muK bt) (vals li2))), (12, .bool (sameM (muR bt) (muB bt) (muK bt) (vals li1) (muR bt) (muB bt) (muK bt) (vals li2))), (11, .bool (sameM (muR bt) (muB bt) (muK bt) (vals li1) (muR bt) (muB bt) (muK bt) (vals li2))), (10, .agg #[.int .i64 (muR bt), .bool (muB bt), .int .i64 (muK bt), .slice Ai2 li2.length ci2]), (9, .agg #[.int .i64 (muR bt), .bool (muB bt), .int .i64 (muK bt), .slice Ai1 li1.length ci1]), (8, .bool true), (7, .bool true), (6, .bool true), (5, .int .i64 (msgE r bk k (vals l))), (4, .int .i64 (msgE r bk k (vals l))), (3, .bool true), (2, .bool true), (1, .slice A2 ((msgT r bk k (vals l)).length) c2), (0, .slice A1 ((msgT r bk k (vals l)).length) c1)]) (by kernel_rfl) ?_
  have hg3 : (sameM (muR bt) (muB bt) (muK bt) (vals li1) (muR bt) (muB bt) (muK bt) (vals li2)) = true := (sameM_is rfl rfl rfl (by rw [hv1, hv2]))
  refine VT_eq [(13, .bool true), (12, .bool true), (11, .bool true), (10, .agg #[.int .i64 (muR bt), .bool (muB bt), .int .i64 (muK bt), .slice Ai2 li2.length ci2]), (9, .agg #[.int .i64 (muR bt), .bool (muB bt), .int .i64 (muK bt), .slice Ai1 li1.length ci1]), (8, .bool true), (7, .bool true), (6, .bool true), (5, .int .i64 (msgE r bk k (vals l))), (4, .int .i64 (msgE r bk k (vals l))), (3, .bool true), (2, .bool true), (1, .slice A2 ((msgT r bk k (vals l)).length) c2), (0, .slice A1 ((msgT r bk k (vals l)).length) c1)] (by simp only [hg3, Bool.not_true, Bool.not_false]) ?_
  refine VT_pures 5 (kn' := [(18, .bool ((muE bt) == (muE bt))), (17, .bool ((muE bt) == (muE bt))), (16, .bool ((muE bt) == (muE bt))), (15, .int .i64 (muE bt)), (14, .int .i64 (muE bt)), (13, .bool true), (12, .bool true), (11, .bool true), (10, .agg #[.int .i64 (muR bt), .bool (muB bt), .int .i64 (muK bt), .slice Ai2 li2.length ci2]), (9, .agg #[.int .i64 (muR bt), .bool (muB bt), .int .i64 (muK bt), .slice Ai1 li1.length ci1]), (8, .bool true), (7, .bool true), (6, .bool true), (5, .int .i64 (msgE r bk k (vals l))), (4, .int .i64 (msgE r bk k (vals l))), (3, .bool true), (2, .bool true), (1, .slice A2 ((msgT r bk k (vals l)).length) c2), (0, .slice A1 ((msgT r bk k (vals l)).length) c1)]) (by kernel_rfl) ?_
  have hg4 : ((muE bt) == (muE bt)) = true := (by simp)
  refine VT_eq [(18, .bool true), (17, .bool true), (16, .bool true), (15, .int .i64 (muE bt)), (14, .int .i64 (muE bt)), (13, .bool true), (12, .bool true), (11, .bool true), (10, .agg #[.int .i64 (muR bt), .bool (muB bt), .int .i64 (muK bt), .slice Ai2 li2.length ci2]), (9, .agg #[.int .i64 (muR bt), .bool (muB bt), .int .i64 (muK bt), .slice Ai1 li1.length ci1]), (8, .bool true), (7, .bool true), (6, .bool true), (5, .int .i64 (msgE r bk k (vals l))), (4, .int .i64 (msgE r bk k (vals l))), (3, .bool true), (2, .bool true), (1, .slice A2 ((msgT r bk k (vals l)).length) c2), (0, .slice A1 ((msgT r bk k (vals l)).length) c1)] (by simp only [hg4, Bool.not_true, Bool.not_false]) ?_
  refine VT_load (d := 65) (t := 24) (a := ⟨b1, 0, none⟩) (v := .agg #[.int .i64 r, .bool bk, .int .i64 k, .slice A n c]) (by kernel_rfl) (by kernel_rfl) ?_ ?_
  · intro w19 hr5
    replace hS := Step.transNew hS hr5 (fun i hi hG => by (try simp only at hG); omega)
    replace hA := hA.step hr5 (fun k hk1 hk2 hG => by (try simp only at hG); omega)
    replace hD := hD.step hr5 (fun k hk hG => by (try simp only at hG); omega)
    replace ho1 := ho1.step hr5 (by (try simp only); omega)
    replace hbase1 := Nat.le_trans hbase1 (hr5).size
    replace hr1 := hr1.stepU hub1 hr5 (fun k hk hk2 hG => by (try simp only at hG); omega)
    replace hbase2 := Nat.le_trans hbase2 (hr5).size
    replace hr2 := hr2.stepU hub2 hr5 (fun k hk hk2 hG => by (try simp only at hG); omega)
    replace hV1 := hV1.step hr5 (fun k hk1 hk2 hG => by (try simp only at hG); omega)
    replace hleli1 := Nat.le_trans hleli1 (hr5).size
    replace ho3 := ho3.step hr5 (by (try simp only); omega)
    replace hV2 := hV2.step hr5 (fun k hk1 hk2 hG => by (try simp only at hG); omega)
    replace hleli2 := Nat.le_trans hleli2 (hr5).size
    replace ho5 := ho5.step hr5 (by (try simp only); omega)
    exact (Loads.ownL ho1 (n := 4) (by kernel_rfl) (by kernel_rfl) (by kernel_rfl))
  refine VT_load (d := 67) (t := 24) (a := ⟨b1, 0, none⟩) (v := .agg #[.int .i64 r, .bool bk, .int .i64 k, .slice A n c]) (by kernel_rfl) (by kernel_rfl) ?_ ?_
  · intro w20 hr6
    replace hS := Step.transNew hS hr6 (fun i hi hG => by (try simp only at hG); omega)
    replace hA := hA.step hr6 (fun k hk1 hk2 hG => by (try simp only at hG); omega)
    replace hD := hD.step hr6 (fun k hk hG => by (try simp only at hG); omega)
    replace ho1 := ho1.step hr6 (by (try simp only); omega)
    replace hbase1 := Nat.le_trans hbase1 (hr6).size
    replace hr1 := hr1.stepU hub1 hr6 (fun k hk hk2 hG => by (try simp only at hG); omega)
    replace hbase2 := Nat.le_trans hbase2 (hr6).size
    replace hr2 := hr2.stepU hub2 hr6 (fun k hk hk2 hG => by (try simp only at hG); omega)
    replace hV1 := hV1.step hr6 (fun k hk1 hk2 hG => by (try simp only at hG); omega)
    replace hleli1 := Nat.le_trans hleli1 (hr6).size
    replace ho3 := ho3.step hr6 (by (try simp only); omega)
    replace hV2 := hV2.step hr6 (fun k hk1 hk2 hG => by (try simp only at hG); omega)
    replace hleli2 := Nat.le_trans hleli2 (hr6).size
    replace ho5 := ho5.step hr6 (by (try simp only); omega)
    exact (Loads.ownL ho1 (n := 4) (by kernel_rfl) (by kernel_rfl) (by kernel_rfl))
  refine VT_chain (by kernel_rfl) ?_
  intro w21 hs4
  have hzhs4 := hs4.size
  replace hS := Step.trans hS hs4
  replace hA := hA.no hs4
  replace hD := hD.no hs4
  replace ho1 := ho1.no hs4
  replace hbase1 := Nat.le_trans hbase1 (hs4).size
  replace hr1 := hr1.no hs4
  replace hbase2 := Nat.le_trans hbase2 (hs4).size
  replace hr2 := hr2.no hs4
  replace hV1 := hV1.no hs4
  replace hleli1 := Nat.le_trans hleli1 (hs4).size
  replace ho3 := ho3.no hs4
  replace hV2 := hV2.no hs4
  replace hleli2 := Nat.le_trans hleli2 (hs4).size
  replace ho5 := ho5.no hs4
  have hzs13 := hS.size
  have hzl20 := ho1.lt
  have hzl21 := ho3.lt
  have hzl22 := ho5.lt
  refine VTc_call (d := 66) (f := 17) (by kernel_rfl) (by kernel_rfl) (by kernel_rfl) Try.call17 (right16_any r bk k A n c 0 w.heap.size l _ hn hA (by omega) (by first | exact Nat.le_refl _ | omega)) ?_ ?_
  · rintro _ w22 ⟨rfl, hc9⟩
    exact Step.mono hc9 (by intro i hi; first | exact hi.elim | ((try simp only at hi ⊢); omega))
  rintro _ w22 ⟨rfl, hc9⟩
  have hzhc9 := (hc9).size
  replace hS := Step.trans hS hc9
  replace hA := hA.no hc9
  replace hD := hD.no hc9
  replace ho1 := ho1.no hc9
  replace hbase1 := Nat.le_trans hbase1 (hc9).size
  replace hr1 := hr1.no hc9
  replace hbase2 := Nat.le_trans hbase2 (hc9).size
  replace hr2 := hr2.no hc9
  replace hV1 := hV1.no hc9
  replace hleli1 := Nat.le_trans hleli1 (hc9).size
  replace ho3 := ho3.no hc9
  replace hV2 := hV2.no hc9
  replace hleli2 := Nat.le_trans hleli2 (hc9).size
  replace ho5 := ho5.no hc9
  refine VT_end ?_
  intro w23 hs5
  replace hS := Step.trans hS hs5
  replace hA := hA.no hs5
  replace hD := hD.no hs5
  replace ho1 := ho1.no hs5
  replace hbase1 := Nat.le_trans hbase1 (hs5).size
  replace hr1 := hr1.no hs5
  replace hbase2 := Nat.le_trans hbase2 (hs5).size
  replace hr2 := hr2.no hs5
  replace hV1 := hV1.no hs5
  replace hleli1 := Nat.le_trans hleli1 (hs5).size
  replace ho3 := ho3.no hs5
  replace hV2 := hV2.no hs5
  replace hleli2 := Nat.le_trans hleli2 (hs5).size
  replace ho5 := ho5.no hs5
  refine VL_keep [64, 67, 66] [(64, .bool true), (67, .agg #[.int .i64 r, .bool bk, .int .i64 k, .slice A n c]), (66, .bool (rightM r k (vals l)))] (by kernel_rfl) ?_
  have hzs14 := hS.size
  have hzl23 := ho1.lt
  have hzl24 := ho3.lt
  have hzl25 := ho5.lt
  refine VL_call (d := 68) (f := 18) (by kernel_rfl) (by kernel_rfl) (by kernel_rfl) Try.call18 (rright16_any r bk k A n c 0 w.heap.size l _ hn hA (by omega) (by first | exact Nat.le_refl _ | omega)) ?_
  rintro _ w24 ⟨rfl, hc10⟩
  replace hS := Step.trans hS hc10
  replace hA := hA.no hc10
  replace hD := hD.no hc10
  replace ho1 := ho1.no hc10
  replace hbase1 := Nat.le_trans hbase1 (hc10).size
  replace hr1 := hr1.no hc10
  replace hbase2 := Nat.le_trans hbase2 (hc10).size
  replace hr2 := hr2.no hc10
  replace hV1 := hV1.no hc10
  replace hleli1 := Nat.le_trans hleli1 (hc10).size
  replace ho3 := ho3.no hc10
  replace hV2 := hV2.no hc10
  replace hleli2 := Nat.le_trans hleli2 (hc10).size
  replace ho5 := ho5.no hc10
  refine VL_pure 26 [4] [(4, .bool ((rightM r k (vals l)) == (rightM r k (vals l))))] (by kernel_rfl) rfl ?_
  refine VL_end (by kernel_rfl) ?_
  refine VQ_next ?_
  refine VC_ret ?_
  refine VQ_ret1 (.bool ((rightM r k (vals l)) == (rightM r k (vals l)))) (.inr rfl) rfl rfl ?_
  exact ⟨by first | rfl | simp [*], hS⟩

set_option maxRecDepth 100000 in
set_option maxHeartbeats 4000000 in
theorem packs_o1 (r : Int) (bk : Bool) (k : Int) (A : Option Addr) (n c : Nat) (l : List IeV) (D : Option Addr) (nD cD : Nat) (bt : List Int) (w : World) (hn : l.length = n) (hA : Ies w 0 w.heap.size A l) (hc : n ≤ c) (hl : ∀ x ∈ l, IeB x) (hmx : n ≤ 9223372036854775807) (hnD : bt.length = nD) (hD : Sl w w.heap.size D (iL .u8 bt)) (hcD : nD ≤ cD) (hb : Bytes bt) (hf : fewB l = false)  :
    CV Try.prog 3 #[.agg #[.int .i64 r, .bool bk, .int .i64 k, .slice A n c], .slice D nD cD] w (fun x w1 => x = .bool true ∧ Step No w w1) := by
  have hS : Step No w w := Step.refl _ _
  refine CV_enter Try.f3 _ 71 [(0, .agg #[.int .i64 r, .bool bk, .int .i64 k, .slice A n c]), (1, .slice D nD cD)] Try.func3 rfl rfl (by kernel_rfl) rfl ?_
  refine VC_seq ?_
  refine VC_region ?_
  have hzs1 := hS.size
  refine VL_box (d := 2) (t := 24) (c := #[.int .i64 r, .bool bk, .int .i64 k, .slice A n c]) (by kernel_rfl) (by kernel_rfl) ?_
  intro b1 w1 hn1
  replace hS := Step.trans hS (hn1.step No)
  replace hA := hA.no (hn1.step No)
  replace hD := hD.no (hn1.step No)
  have ho1 := hn1.own
  have hzhn1 := hn1.size
  have hqhn1 := hn1.eqb
  refine VL_pure 2 [1, 2] [(1, .slice D nD cD), (2, .pointer (some ⟨b1, 0, none⟩))] (by kernel_rfl) rfl ?_
  refine VL_end (by kernel_rfl) ?_
  refine VQ_next ?_
  refine VC_seq ?_
  refine VC_seq ?_
  refine VC_region ?_
  have hzs2 := hS.size
  have hzl1 := ho1.lt
  refine VL_call (d := 13) (f := 9) (args := #[]) (by kernel_rfl) (by kernel_rfl) (by kernel_rfl) Try.call9 (awake_any _) ?_
  rintro _ w2 ⟨rfl, hc1⟩
  replace hS := Step.trans hS hc1
  replace hA := hA.no hc1
  replace hD := hD.no hc1
  replace ho1 := ho1.no hc1
  refine VL_pure 3 [1, 2, 15] [(1, .slice D nD cD), (2, .pointer (some ⟨b1, 0, none⟩)), (15, .bool false)] (by kernel_rfl) rfl ?_
  refine VL_load (d := 16) (t := 24) (a := ⟨b1, 0, none⟩) (v := .agg #[.int .i64 r, .bool bk, .int .i64 k, .slice A n c]) (by kernel_rfl) (by kernel_rfl) (Loads.ownL ho1 (n := 4) (by kernel_rfl) (by kernel_rfl) (by kernel_rfl)) ?_
  have hzs3 := hS.size
  have hzl2 := ho1.lt
  refine VL_call (d := 17) (f := 10) (by kernel_rfl) (by kernel_rfl) (by kernel_rfl) Try.call10 (few16_any r bk k A n c 0 w.heap.size l _ hn hA (by omega)) ?_
  rintro _ w3 ⟨rfl, hc2⟩
  replace hS := Step.trans hS hc2
  replace hA := hA.no hc2
  replace hD := hD.no hc2
  replace ho1 := ho1.no hc2
  refine VL_pure 8 [1, 2, 20] [(1, .slice D nD cD), (2, .pointer (some ⟨b1, 0, none⟩)), (20, .bool (!(fewB l)))] (by kernel_rfl) rfl ?_
  refine VL_known (fewB l) (fun bV => [(1, .slice D nD cD), (2, .pointer (some ⟨b1, 0, none⟩)), (20, .bool (!bV))]) false rfl hf ?_
  refine VL_pure 12 [1, 2, 24] [(1, .slice D nD cD), (2, .pointer (some ⟨b1, 0, none⟩)), (24, .bool true)] (by kernel_rfl) rfl ?_
  refine VL_end (by kernel_rfl) ?_
  refine VQ_next ?_
  refine VC_true (by kernel_rfl) ?_
  refine VC_seq ?_
  refine VC_region ?_
  have hzs4 := hS.size
  have hzl3 := ho1.lt
  refine VL_call (d := 25) (f := 9) (args := #[]) (by kernel_rfl) (by kernel_rfl) (by kernel_rfl) Try.call9 (awake_any _) ?_
  rintro _ w4 ⟨rfl, hc3⟩
  replace hS := Step.trans hS hc3
  replace hA := hA.no hc3
  replace hD := hD.no hc3
  replace ho1 := ho1.no hc3
  refine VL_pure 2 [4] [(4, .bool true)] (by kernel_rfl) rfl ?_
  refine VL_end (by kernel_rfl) ?_
  refine VQ_next ?_
  refine VC_ret ?_
  refine VQ_then_ret ?_
  refine VQ_ret1 (.bool true) (.inr rfl) rfl rfl ?_
  exact ⟨by first | rfl | simp [*], hS⟩

set_option maxRecDepth 100000 in
set_option maxHeartbeats 4000000 in
theorem packs_o2 (r : Int) (bk : Bool) (k : Int) (A : Option Addr) (n c : Nat) (l : List IeV) (D : Option Addr) (nD cD : Nat) (bt : List Int) (w : World) (hn : l.length = n) (hA : Ies w 0 w.heap.size A l) (hc : n ≤ c) (hl : ∀ x ∈ l, IeB x) (hmx : n ≤ 9223372036854775807) (hnD : bt.length = nD) (hD : Sl w w.heap.size D (iL .u8 bt)) (hcD : nD ≤ cD) (hb : Bytes bt) (hf : fewB l = true) (hlonD : 1501 ≤ nD) :
    CV Try.prog 3 #[.agg #[.int .i64 r, .bool bk, .int .i64 k, .slice A n c], .slice D nD cD] w (fun x w1 => x = .bool true ∧ Step No w w1) := by
  have hS : Step No w w := Step.refl _ _
  obtain ⟨hsm, hn20⟩ := fewB_yes hf
  rw [hn] at hn20
  refine CV_enter Try.f3 _ 71 [(0, .agg #[.int .i64 r, .bool bk, .int .i64 k, .slice A n c]), (1, .slice D nD cD)] Try.func3 rfl rfl (by kernel_rfl) rfl ?_
  refine VC_seq ?_
  refine VC_region ?_
  have hzs1 := hS.size
  refine VL_box (d := 2) (t := 24) (c := #[.int .i64 r, .bool bk, .int .i64 k, .slice A n c]) (by kernel_rfl) (by kernel_rfl) ?_
  intro b1 w1 hn1
  replace hS := Step.trans hS (hn1.step No)
  replace hA := hA.no (hn1.step No)
  replace hD := hD.no (hn1.step No)
  have ho1 := hn1.own
  have hzhn1 := hn1.size
  have hqhn1 := hn1.eqb
  refine VL_pure 2 [1, 2] [(1, .slice D nD cD), (2, .pointer (some ⟨b1, 0, none⟩))] (by kernel_rfl) rfl ?_
  refine VL_end (by kernel_rfl) ?_
  refine VQ_next ?_
  refine VC_seq ?_
  refine VC_seq ?_
  refine VC_region ?_
  have hzs2 := hS.size
  have hzl1 := ho1.lt
  refine VL_call (d := 13) (f := 9) (args := #[]) (by kernel_rfl) (by kernel_rfl) (by kernel_rfl) Try.call9 (awake_any _) ?_
  rintro _ w2 ⟨rfl, hc1⟩
  replace hS := Step.trans hS hc1
  replace hA := hA.no hc1
  replace hD := hD.no hc1
  replace ho1 := ho1.no hc1
  refine VL_pure 3 [1, 2, 15] [(1, .slice D nD cD), (2, .pointer (some ⟨b1, 0, none⟩)), (15, .bool false)] (by kernel_rfl) rfl ?_
  refine VL_load (d := 16) (t := 24) (a := ⟨b1, 0, none⟩) (v := .agg #[.int .i64 r, .bool bk, .int .i64 k, .slice A n c]) (by kernel_rfl) (by kernel_rfl) (Loads.ownL ho1 (n := 4) (by kernel_rfl) (by kernel_rfl) (by kernel_rfl)) ?_
  have hzs3 := hS.size
  have hzl2 := ho1.lt
  refine VL_call (d := 17) (f := 10) (by kernel_rfl) (by kernel_rfl) (by kernel_rfl) Try.call10 (few16_any r bk k A n c 0 w.heap.size l _ hn hA (by omega)) ?_
  rintro _ w3 ⟨rfl, hc2⟩
  replace hS := Step.trans hS hc2
  replace hA := hA.no hc2
  replace hD := hD.no hc2
  replace ho1 := ho1.no hc2
  refine VL_pure 8 [1, 2, 20] [(1, .slice D nD cD), (2, .pointer (some ⟨b1, 0, none⟩)), (20, .bool (!(fewB l)))] (by kernel_rfl) rfl ?_
  refine VL_known (fewB l) (fun bV => [(1, .slice D nD cD), (2, .pointer (some ⟨b1, 0, none⟩)), (20, .bool (!bV))]) true rfl hf ?_
  refine VL_pure 12 [1, 2, 24] [(1, .slice D nD cD), (2, .pointer (some ⟨b1, 0, none⟩)), (24, .bool (decide (((nD : Nat) : Int) > 1500)))] (by kernel_rfl) rfl ?_
  refine VL_end (by kernel_rfl) ?_
  refine VQ_next ?_
  refine VC_is (b := decide (((nD : Nat) : Int) > 1500)) true (by kernel_rfl) (by first | (simp; omega) | (simp; done) | simp [*]) ?_
  refine VC_ite_true ?_
  refine VC_seq ?_
  refine VC_region ?_
  have hzs4 := hS.size
  have hzl3 := ho1.lt
  refine VL_call (d := 25) (f := 9) (args := #[]) (by kernel_rfl) (by kernel_rfl) (by kernel_rfl) Try.call9 (awake_any _) ?_
  rintro _ w4 ⟨rfl, hc3⟩
  replace hS := Step.trans hS hc3
  replace hA := hA.no hc3
  replace hD := hD.no hc3
  replace ho1 := ho1.no hc3
  refine VL_pure 2 [4] [(4, .bool true)] (by kernel_rfl) rfl ?_
  refine VL_end (by kernel_rfl) ?_
  refine VQ_next ?_
  refine VC_ret ?_
  refine VQ_then_ret ?_
  refine VQ_ret1 (.bool true) (.inr rfl) rfl rfl ?_
  exact ⟨by first | rfl | simp [*], hS⟩

end Go.Proofs.Ytejpcmjokamdcaa
