/- Layer 16: MessageBack. -/
import Derived.Test.YtejpcmjokamdcaaProg
import Derived.Test.YtejpcmjokamdcaaMe4
import Derived.Test.YtejpcmjokamdcaaMe5
set_option linter.unusedVariables false
set_option linter.unusedSimpArgs false
namespace Go.Proofs.Ytejpcmjokamdcaa
open Go.Vc Go.RowKit

set_option maxRecDepth 100000 in
set_option maxHeartbeats 4000000 in
theorem back_yes (r : Int) (bk : Bool) (k : Int) (A : Option Addr) (n c : Nat) (l : List IeV) (D : Option Addr) (nD cD : Nat) (bt : List Int) (q : Nat) (x : Int) (w : World) (hn : l.length = n) (hA : Ies w 0 w.heap.size A l) (hc : n ≤ c) (hl : ∀ x ∈ l, IeB x) (hmx : n ≤ 9223372036854775807) (hnD : bt.length = nD) (hD : Sl w w.heap.size D (iL .u8 bt)) (hcD : nD ≤ cD) (hb : Bytes bt) (hq : q < 65536) (hx : 0 ≤ x ∧ x < 256) (hf : fewB l = true) (hlonD : 0 ≤ nD) (hhinD : nD ≤ 1500) :
    CV Try.prog 4 #[.agg #[.int .i64 r, .bool bk, .int .i64 k, .slice A n c], .slice D nD cD, .int .u16 ((q : Nat) : Int), .int .u8 x] w (fun x w1 => x = .bool true ∧ Step No w w1) := by
  have hS : Step No w w := Step.refl _ _
  obtain ⟨hsm, hn20⟩ := fewB_yes hf
  rw [hn] at hn20
  refine CV_enter Try.f4 _ 124 [(0, .agg #[.int .i64 r, .bool bk, .int .i64 k, .slice A n c]), (1, .slice D nD cD), (2, .int .u16 ((q : Nat) : Int)), (3, .int .u8 x)] Try.func4 rfl rfl (by kernel_rfl) rfl ?_
  refine VC_seq ?_
  refine VC_region ?_
  have hzs1 := hS.size
  refine VL_box (d := 4) (t := 24) (c := #[.int .i64 r, .bool bk, .int .i64 k, .slice A n c]) (by kernel_rfl) (by kernel_rfl) ?_
  intro b1 w1 hn1
  replace hS := Step.trans hS (hn1.step No)
  replace hA := hA.no (hn1.step No)
  replace hD := hD.no (hn1.step No)
  have ho1 := hn1.own
  have hzhn1 := hn1.size
  have hqhn1 := hn1.eqb
  refine VL_pure 2 [1, 2, 3, 4] [(1, .slice D nD cD), (2, .int .u16 ((q : Nat) : Int)), (3, .int .u8 x), (4, .pointer (some ⟨b1, 0, none⟩))] (by kernel_rfl) rfl ?_
  refine VL_end (by kernel_rfl) ?_
  refine VQ_next ?_
  refine VC_seq ?_
  refine VC_seq ?_
  refine VC_region ?_
  have hzs2 := hS.size
  have hzl1 := ho1.lt
  refine VL_call (d := 21) (f := 9) (args := #[]) (by kernel_rfl) (by kernel_rfl) (by kernel_rfl) Try.call9 (awake_any _) ?_
  rintro _ w2 ⟨rfl, hc1⟩
  replace hS := Step.trans hS hc1
  replace hA := hA.no hc1
  replace hD := hD.no hc1
  replace ho1 := ho1.no hc1
  refine VL_pure 3 [1, 2, 3, 4, 23] [(1, .slice D nD cD), (2, .int .u16 ((q : Nat) : Int)), (3, .int .u8 x), (4, .pointer (some ⟨b1, 0, none⟩)), (23, .bool false)] (by kernel_rfl) rfl ?_
  refine VL_load (d := 24) (t := 24) (a := ⟨b1, 0, none⟩) (v := .agg #[.int .i64 r, .bool bk, .int .i64 k, .slice A n c]) (by kernel_rfl) (by kernel_rfl) (Loads.ownL ho1 (n := 4) (by kernel_rfl) (by kernel_rfl) (by kernel_rfl)) ?_
  have hzs3 := hS.size
  have hzl2 := ho1.lt
  refine VL_call (d := 25) (f := 10) (by kernel_rfl) (by kernel_rfl) (by kernel_rfl) Try.call10 (few16_any r bk k A n c 0 w.heap.size l _ hn hA (by omega)) ?_
  rintro _ w3 ⟨rfl, hc2⟩
  replace hS := Step.trans hS hc2
  replace hA := hA.no hc2
  replace hD := hD.no hc2
  replace ho1 := ho1.no hc2
  refine VL_pure 8 [1, 2, 3, 4, 28] [(1, .slice D nD cD), (2, .int .u16 ((q : Nat) : Int)), (3, .int .u8 x), (4, .pointer (some ⟨b1, 0, none⟩)), (28, .bool (!(fewB l)))] (by kernel_rfl) rfl ?_
  refine VL_known (fewB l) (fun bV => [(1, .slice D nD cD), (2, .int .u16 ((q : Nat) : Int)), (3, .int .u8 x), (4, .pointer (some ⟨b1, 0, none⟩)), (28, .bool (!bV))]) true rfl hf ?_
  refine VL_pure 12 [1, 2, 3, 4, 32] [(1, .slice D nD cD), (2, .int .u16 ((q : Nat) : Int)), (3, .int .u8 x), (4, .pointer (some ⟨b1, 0, none⟩)), (32, .bool (decide (((nD : Nat) : Int) > 1500)))] (by kernel_rfl) rfl ?_
  refine VL_end (by kernel_rfl) ?_
  refine VQ_next ?_
  refine VC_is (b := decide (((nD : Nat) : Int) > 1500)) false (by kernel_rfl) (by first | (simp; omega) | (simp; done) | simp [*]) ?_
  refine VC_ite_false ?_
  refine VC_skip ?_
  refine VQ_next ?_
  refine VC_seq ?_
  refine VC_region ?_
  refine VL_load (d := 35) (t := 24) (a := ⟨b1, 0, none⟩) (v := .agg #[.int .i64 r, .bool bk, .int .i64 k, .slice A n c]) (by kernel_rfl) (by kernel_rfl) (Loads.ownL ho1 (n := 4) (by kernel_rfl) (by kernel_rfl) (by kernel_rfl)) ?_
  have hzs4 := hS.size
  have hzl3 := ho1.lt
  refine VL_call (d := 36) (f := 11) (by kernel_rfl) (by kernel_rfl) (by kernel_rfl) Try.call11 (msgpack_any r bk k A n c 0 w.heap.size l _ hn hA (by omega) (by first | exact Nat.le_refl _ | omega)) ?_
  rintro _ w4 ⟨A1, c1, rfl, hr1, hc3⟩
  replace hS := Step.trans hS hc3
  replace hA := hA.no hc3
  replace hD := hD.no hc3
  replace ho1 := ho1.no hc3
  obtain ⟨base1, hbase1E⟩ : ∃ x, x = w3.heap.size := ⟨_, rfl⟩
  rw [← hbase1E] at hr1
  have hbase1 : base1 ≤ w4.heap.size := by rw [hbase1E]; exact hc3.size
  have hmlq1 := msgT_le r bk k (vals l)
  refine VL_pure 7 [1, 2, 3, 4, 9, 10] [(1, .slice D nD cD), (2, .int .u16 ((q : Nat) : Int)), (3, .int .u8 x), (4, .pointer (some ⟨b1, 0, none⟩)), (9, .slice A1 ((msgT r bk k (vals l)).length) c1), (10, .int .i64 (msgE r bk k (vals l)))] (by kernel_rfl) rfl ?_
  refine VL_end (by kernel_rfl) ?_
  refine VQ_next ?_
  refine VC_seq ?_
  refine VC_seq ?_
  refine VC_region ?_
  refine VL_pure 2 [1, 2, 3, 4, 9, 40] [(1, .slice D nD cD), (2, .int .u16 ((q : Nat) : Int)), (3, .int .u8 x), (4, .pointer (some ⟨b1, 0, none⟩)), (9, .slice A1 ((msgT r bk k (vals l)).length) c1), (40, .bool ((msgE r bk k (vals l)) == 0))] (by kernel_rfl) rfl ?_
  refine VL_end (by kernel_rfl) ?_
  refine VQ_next ?_
  refine VC_eq (msgE r bk k (vals l)) 0 (by kernel_rfl) (fun h1 => ?_) (fun h1 => ?_)
  · refine VC_seq ?_
    refine VC_region ?_
    refine VL_pure 1 [1, 2, 3, 4, 9, 42] [(1, .slice D nD cD), (2, .int .u16 ((q : Nat) : Int)), (3, .int .u8 x), (4, .pointer (some ⟨b1, 0, none⟩)), (9, .slice A1 ((msgT r bk k (vals l)).length) c1), (42, .slice A1 ((msgT r bk k (vals l)).length) c1)] (by kernel_rfl) rfl ?_
    have hzs5 := hS.size
    have hzl4 := ho1.lt
    refine VL_call (d := 43) (f := 13) (by kernel_rfl) (by kernel_rfl) (by kernel_rfl) Try.call13 (msgun_any A1 ((msgT r bk k (vals l)).length) c1 _ (msgT r bk k (vals l)) _ (Rw.lenI hr1) (Rw.slI hr1) (by have hq9 := Rw.cap hr1; omega) (msgT_bytes hl) (by omega) (by first | exact Nat.le_refl _ | omega)) ?_
    rintro _ w5 ⟨Ai1, ci1, li1, rfl, hv1, hI1, hc4⟩
    replace hS := Step.trans hS hc4
    replace hA := hA.no hc4
    replace hD := hD.no hc4
    replace ho1 := ho1.no hc4
    replace hbase1 := Nat.le_trans hbase1 (hc4).size
    replace hr1 := hr1.no hc4
    have hleli1 : w5.heap.size ≤ w5.heap.size := Nat.le_refl _
    have hV1 := Ier.ies hI1
    have hcntli1 : li1.length ≤ 16 := by rw [← vals_len, hv1]; exact muL_count (msgT r bk k (vals l))
    have hcali1 : li1.length ≤ ci1 := RwS.cap hI1.row
    have hibli1 : ∀ x ∈ li1, IeB x := mu_ieb hv1 (msgT_bytes hl)
    have hsmli1 : ∀ x ∈ li1, x.n ≤ 200 := mu_small hV1 hv1 (msgT_bytes hl)
    refine VL_pure 5 [1, 2, 3, 4, 9, 44, 45] [(1, .slice D nD cD), (2, .int .u16 ((q : Nat) : Int)), (3, .int .u8 x), (4, .pointer (some ⟨b1, 0, none⟩)), (9, .slice A1 ((msgT r bk k (vals l)).length) c1), (44, .agg #[.int .i64 (muR (msgT r bk k (vals l))), .bool (muB (msgT r bk k (vals l))), .int .i64 (muK (msgT r bk k (vals l))), .slice Ai1 li1.length ci1]), (45, .int .i64 (muE (msgT r bk k (vals l))))] (by kernel_rfl) rfl ?_
    have hzs6 := hS.size
    have hzl5 := ho1.lt
    have hzk1 := hbase1
    have hzk2 := hleli1
    have hub1 := hr1.ub
    refine VL_box (d := 11) (t := 24) (c := #[.int .i64 0, .bool false, .int .i64 0, .slice none 0 0]) (by kernel_rfl) (by kernel_rfl) ?_
    intro b2 w6 hn2
    replace hS := Step.trans hS (hn2.step No)
    replace hA := hA.no (hn2.step No)
    replace hD := hD.no (hn2.step No)
    replace ho1 := ho1.no (hn2.step No)
    replace hbase1 := Nat.le_trans hbase1 (hn2.step No).size
    replace hr1 := hr1.no (hn2.step No)
    replace hV1 := hV1.no (hn2.step No)
    replace hleli1 := Nat.le_trans hleli1 (hn2.step No).size
    have ho2 := hn2.own
    have hzhn2 := hn2.size
    have hqhn2 := hn2.eqb
    refine VL_store (b := b2) (o := 0) (vs := [.int .i64 (muR (msgT r bk k (vals l))), .bool (muB (msgT r bk k (vals l))), .int .i64 (muK (msgT r bk k (vals l))), .slice Ai1 li1.length ci1]) (by kernel_rfl) (by kernel_rfl) ho2 (Nat.le_of_ble_eq_true (by kernel_rfl)) ?_
    intro w7 hw1
    replace hS := Step.transNew hS hw1.step (fun _ _ _ => by omega)
    replace hA := hA.step hw1.step (fun k hk1 hk2 (hF : k = b2) => by omega)
    replace hD := hD.step hw1.step (fun k hk (hF : k = b2) => by omega)
    replace ho1 := ho1.step hw1.step (show ¬ b1 = b2 by omega)
    replace hbase1 := Nat.le_trans hbase1 (hw1.step).size
    replace hr1 := hr1.stepU hub1 hw1.step (fun k hk1 hk2 (hF : k = b2) => by omega)
    replace hV1 := hV1.step hw1.step (fun k hk1 hk2 (hF : k = b2) => by omega)
    replace hleli1 := Nat.le_trans hleli1 (hw1.step).size
    have ho3 : Own w7 b2 #[.int .i64 (muR (msgT r bk k (vals l))), .bool (muB (msgT r bk k (vals l))), .int .i64 (muK (msgT r bk k (vals l))), .slice Ai1 li1.length ci1] 24 := Own.cast hw1.own (by kernel_rfl)
    have hzhw1 := hw1.same
    refine VL_pure 8 [1, 2, 3, 4, 9, 11, 12] [(1, .slice D nD cD), (2, .int .u16 ((q : Nat) : Int)), (3, .int .u8 x), (4, .pointer (some ⟨b1, 0, none⟩)), (9, .slice A1 ((msgT r bk k (vals l)).length) c1), (11, .pointer (some ⟨b2, 0, none⟩)), (12, .int .i64 (muE (msgT r bk k (vals l))))] (by kernel_rfl) rfl ?_
    refine VL_end (by kernel_rfl) ?_
    refine VQ_next ?_
    refine VC_seq ?_
    have hml9 := msg_len (r := r) (back := bk) (k := k) (L := vals l) (by assumption)
    refine VC_region ?_
    refine VL_pure 3 [1, 3, 4, 9, 11, 12, 47, 49] [(1, .slice D nD cD), (3, .int .u8 x), (4, .pointer (some ⟨b1, 0, none⟩)), (9, .slice A1 ((msgT r bk k (vals l)).length) c1), (11, .pointer (some ⟨b2, 0, none⟩)), (12, .int .i64 (muE (msgT r bk k (vals l)))), (47, .slice A1 ((msgT r bk k (vals l)).length) c1), (49, .int .i64 (IntKind.wrap .i64 ((q : Nat) : Int)))] (by kernel_rfl) rfl ?_
    have he1 : IntKind.wrap .i64 ((q : Nat) : Int) = ((q : Nat) : Int) := (by rw [wrap_i64 _ (by omega) (by omega)])
    refine VL_eq [(1, .slice D nD cD), (3, .int .u8 x), (4, .pointer (some ⟨b1, 0, none⟩)), (9, .slice A1 ((msgT r bk k (vals l)).length) c1), (11, .pointer (some ⟨b2, 0, none⟩)), (12, .int .i64 (muE (msgT r bk k (vals l)))), (47, .slice A1 ((msgT r bk k (vals l)).length) c1), (49, .int .i64 ((q : Nat) : Int))] (by rw [he1]) ?_
    refine VL_pure 5 [1, 3, 4, 9, 11, 12, 47, 49, 51] [(1, .slice D nD cD), (3, .int .u8 x), (4, .pointer (some ⟨b1, 0, none⟩)), (9, .slice A1 ((msgT r bk k (vals l)).length) c1), (11, .pointer (some ⟨b2, 0, none⟩)), (12, .int .i64 (muE (msgT r bk k (vals l)))), (47, .slice A1 ((msgT r bk k (vals l)).length) c1), (49, .int .i64 ((q : Nat) : Int)), (51, .int .i64 (((msgT r bk k (vals l)).length : Nat) : Int))] (by kernel_rfl) rfl ?_
    refine VL_rem (d := 52) (k := .i64) (x := ((q : Nat) : Int)) (y := (((msgT r bk k (vals l)).length : Nat) : Int)) (by kernel_rfl) (by kernel_rfl) (by omega) ?_
    refine VL_keep [1, 3, 4, 9, 11, 12, 47, 49, 51, 52] [(1, .slice D nD cD), (3, .int .u8 x), (4, .pointer (some ⟨b1, 0, none⟩)), (9, .slice A1 ((msgT r bk k (vals l)).length) c1), (11, .pointer (some ⟨b2, 0, none⟩)), (12, .int .i64 (muE (msgT r bk k (vals l)))), (47, .slice A1 ((msgT r bk k (vals l)).length) c1), (49, .int .i64 ((q : Nat) : Int)), (51, .int .i64 (((msgT r bk k (vals l)).length : Nat) : Int)), (52, .int .i64 (((q : Nat) : Int).tmod (((msgT r bk k (vals l)).length : Nat) : Int)))] (by kernel_rfl) ?_
    have hqm := Nat.mod_lt q (show 0 < (msgT r bk k (vals l)).length by omega)
    refine VL_eq [(1, .slice D nD cD), (3, .int .u8 x), (4, .pointer (some ⟨b1, 0, none⟩)), (9, .slice A1 ((msgT r bk k (vals l)).length) c1), (11, .pointer (some ⟨b2, 0, none⟩)), (12, .int .i64 (muE (msgT r bk k (vals l)))), (47, .slice A1 ((msgT r bk k (vals l)).length) c1), (49, .int .i64 ((q : Nat) : Int)), (51, .int .i64 (((msgT r bk k (vals l)).length : Nat) : Int)), (52, .int .i64 ((q % ((msgT r bk k (vals l)).length) : Nat) : Int))] (by rw [tmod_nat]) ?_
    obtain ⟨g1, cur1, rfl, hgbg1, hglg1, -⟩ := hr1.open (by omega)
    have hcap1 := Rw.cap hr1
    have hln1 := Rw.lenI hr1
    refine VL_slice (d := 53) (b := g1) (o := 0) (sz := 1) (len := ((msgT r bk k (vals l)).length)) (cap := c1) (lo := none) (hi := (some ((q % ((msgT r bk k (vals l)).length) : Nat) : Int))) (mx := none) (by kernel_rfl) (by kernel_rfl) (fun h => by first | exact absurd rfl h | exact (fun h => by cases h)) 0 (q % ((msgT r bk k (vals l)).length)) c1 rfl rfl rfl (by omega) (by omega) (by omega) 0 (by split <;> omega) (q % ((msgT r bk k (vals l)).length)) (by omega) c1 (by omega) ?_
    have hsl1 := Sl.takeI (Rw.slI hr1) (q % ((msgT r bk k (vals l)).length))
    have hzs7 := hS.size
    have hzl6 := ho1.lt
    have hzl7 := ho3.lt
    refine VL_call (d := 54) (f := 13) (by kernel_rfl) (by kernel_rfl) (by kernel_rfl) Try.call13 (msgun_any (some ⟨g1, 0, none⟩) (q % ((msgT r bk k (vals l)).length)) c1 _ ((msgT r bk k (vals l)).take (q % ((msgT r bk k (vals l)).length))) _ (by simp only [List.length_take, List.length_drop]; omega) hsl1 (by omega) ((msgT_bytes hl).take _) (by omega) (by first | exact Nat.le_refl _ | omega)) ?_
    rintro _ w8 ⟨Ai2, ci2, li2, rfl, hv2, hI2, hc5⟩
    replace hS := Step.trans hS hc5
    replace hA := hA.no hc5
    replace hD := hD.no hc5
    replace ho1 := ho1.no hc5
    replace hbase1 := Nat.le_trans hbase1 (hc5).size
    replace hr1 := hr1.no hc5
    replace hV1 := hV1.no hc5
    replace hleli1 := Nat.le_trans hleli1 (hc5).size
    replace ho3 := ho3.no hc5
    replace hglg1 := Nat.lt_of_lt_of_le hglg1 (hc5).size
    replace hsl1 := hsl1.no hc5
    have hleli2 : w8.heap.size ≤ w8.heap.size := Nat.le_refl _
    have hV2 := Ier.ies hI2
    have hcntli2 : li2.length ≤ 16 := by rw [← vals_len, hv2]; exact muL_count ((msgT r bk k (vals l)).take (q % ((msgT r bk k (vals l)).length)))
    have hcali2 : li2.length ≤ ci2 := RwS.cap hI2.row
    have hibli2 : ∀ x ∈ li2, IeB x := mu_ieb hv2 ((msgT_bytes hl).take _)
    have hsmli2 : ∀ x ∈ li2, x.n ≤ 200 := mu_small hV2 hv2 ((msgT_bytes hl).take _)
    refine VL_pure 11 [1, 3, 4, 9, 11, 12, 55, 56] [(1, .slice D nD cD), (3, .int .u8 x), (4, .pointer (some ⟨b1, 0, none⟩)), (9, .slice (some ⟨g1, 0, none⟩) ((msgT r bk k (vals l)).length) c1), (11, .pointer (some ⟨b2, 0, none⟩)), (12, .int .i64 (muE (msgT r bk k (vals l)))), (55, .agg #[.int .i64 (muR ((msgT r bk k (vals l)).take (q % ((msgT r bk k (vals l)).length)))), .bool (muB ((msgT r bk k (vals l)).take (q % ((msgT r bk k (vals l)).length)))), .int .i64 (muK ((msgT r bk k (vals l)).take (q % ((msgT r bk k (vals l)).length)))), .slice Ai2 li2.length ci2]), (56, .int .i64 (muE ((msgT r bk k (vals l)).take (q % ((msgT r bk k (vals l)).length)))))] (by kernel_rfl) rfl ?_
    have hzs8 := hS.size
    have hzl8 := ho1.lt
    have hzk3 := hbase1
    have hzk4 := hleli1
    have hzl9 := ho3.lt
    have hzk5 := hglg1
    have hzk6 := hleli2
    refine VL_box (d := 13) (t := 24) (c := #[.int .i64 0, .bool false, .int .i64 0, .slice none 0 0]) (by kernel_rfl) (by kernel_rfl) ?_
    intro b3 w9 hn3
    replace hS := Step.trans hS (hn3.step No)
    replace hA := hA.no (hn3.step No)
    replace hD := hD.no (hn3.step No)
    replace ho1 := ho1.no (hn3.step No)
    replace hbase1 := Nat.le_trans hbase1 (hn3.step No).size
    replace hr1 := hr1.no (hn3.step No)
    replace hV1 := hV1.no (hn3.step No)
    replace hleli1 := Nat.le_trans hleli1 (hn3.step No).size
    replace ho3 := ho3.no (hn3.step No)
    replace hglg1 := Nat.lt_of_lt_of_le hglg1 (hn3.step No).size
    replace hsl1 := hsl1.no (hn3.step No)
    replace hV2 := hV2.no (hn3.step No)
    replace hleli2 := Nat.le_trans hleli2 (hn3.step No).size
    have ho4 := hn3.own
    have hzhn3 := hn3.size
    have hqhn3 := hn3.eqb
    refine VL_store (b := b3) (o := 0) (vs := [.int .i64 (muR ((msgT r bk k (vals l)).take (q % ((msgT r bk k (vals l)).length)))), .bool (muB ((msgT r bk k (vals l)).take (q % ((msgT r bk k (vals l)).length)))), .int .i64 (muK ((msgT r bk k (vals l)).take (q % ((msgT r bk k (vals l)).length)))), .slice Ai2 li2.length ci2]) (by kernel_rfl) (by kernel_rfl) ho4 (Nat.le_of_ble_eq_true (by kernel_rfl)) ?_
    intro w10 hw2
    replace hS := Step.transNew hS hw2.step (fun _ _ _ => by omega)
    replace hA := hA.step hw2.step (fun k hk1 hk2 (hF : k = b3) => by omega)
    replace hD := hD.step hw2.step (fun k hk (hF : k = b3) => by omega)
    replace ho1 := ho1.step hw2.step (show ¬ b1 = b3 by omega)
    replace hbase1 := Nat.le_trans hbase1 (hw2.step).size
    replace hr1 := hr1.keepG hw2.step (show ¬ g1 = b3 by omega)
    replace hV1 := hV1.step hw2.step (fun k hk1 hk2 (hF : k = b3) => by omega)
    replace hleli1 := Nat.le_trans hleli1 (hw2.step).size
    replace ho3 := ho3.step hw2.step (show ¬ b2 = b3 by omega)
    replace hglg1 := Nat.lt_of_lt_of_le hglg1 (hw2.step).size
    replace hsl1 := hsl1.keepB hw2.step (show ¬ g1 = b3 by omega)
    replace hV2 := hV2.step hw2.step (fun k hk1 hk2 (hF : k = b3) => by omega)
    replace hleli2 := Nat.le_trans hleli2 (hw2.step).size
    have ho5 : Own w10 b3 #[.int .i64 (muR ((msgT r bk k (vals l)).take (q % ((msgT r bk k (vals l)).length)))), .bool (muB ((msgT r bk k (vals l)).take (q % ((msgT r bk k (vals l)).length)))), .int .i64 (muK ((msgT r bk k (vals l)).take (q % ((msgT r bk k (vals l)).length)))), .slice Ai2 li2.length ci2] 24 := Own.cast hw2.own (by kernel_rfl)
    have hzhw2 := hw2.same
    refine VL_pure 14 [1, 3, 4, 9, 11, 12, 14] [(1, .slice D nD cD), (3, .int .u8 x), (4, .pointer (some ⟨b1, 0, none⟩)), (9, .slice (some ⟨g1, 0, none⟩) ((msgT r bk k (vals l)).length) c1), (11, .pointer (some ⟨b2, 0, none⟩)), (12, .int .i64 (muE (msgT r bk k (vals l)))), (14, .int .i64 (muE ((msgT r bk k (vals l)).take (q % ((msgT r bk k (vals l)).length)))))] (by kernel_rfl) rfl ?_
    refine VL_end (by kernel_rfl) ?_
    refine VQ_next ?_
    refine VC_seq ?_
    refine VC_region ?_
    have hzs9 := hS.size
    have hzl10 := ho1.lt
    have hzk7 := hbase1
    have hzk8 := hleli1
    have hzl11 := ho3.lt
    have hzk9 := hglg1
    have hzk10 := hleli2
    have hzl12 := ho5.lt
    refine VL_bs (d := 58) (e := 5) (c := #[]) (len := 0) (by kernel_rfl) (by kernel_rfl) ?_
    intro b4 w11 hn4
    replace hS := Step.trans hS (hn4.step No)
    replace hA := hA.no (hn4.step No)
    replace hD := hD.no (hn4.step No)
    replace ho1 := ho1.no (hn4.step No)
    replace hbase1 := Nat.le_trans hbase1 (hn4.step No).size
    replace hr1 := hr1.no (hn4.step No)
    replace hV1 := hV1.no (hn4.step No)
    replace hleli1 := Nat.le_trans hleli1 (hn4.step No).size
    replace ho3 := ho3.no (hn4.step No)
    replace hglg1 := Nat.lt_of_lt_of_le hglg1 (hn4.step No).size
    replace hsl1 := hsl1.no (hn4.step No)
    replace hV2 := hV2.no (hn4.step No)
    replace hleli2 := Nat.le_trans hleli2 (hn4.step No).size
    replace ho5 := ho5.no (hn4.step No)
    have ho6 := hn4.own
    have hzhn4 := hn4.size
    have hqhn4 := hn4.eqb
    refine VL_pure 2 [1, 3, 4, 11, 12, 14, 58, 59] [(1, .slice D nD cD), (3, .int .u8 x), (4, .pointer (some ⟨b1, 0, none⟩)), (11, .pointer (some ⟨b2, 0, none⟩)), (12, .int .i64 (muE (msgT r bk k (vals l)))), (14, .int .i64 (muE ((msgT r bk k (vals l)).take (q % ((msgT r bk k (vals l)).length))))), (58, .slice (some ⟨b4, 0, none⟩) 0 0), (59, .slice (some ⟨g1, 0, none⟩) ((msgT r bk k (vals l)).length) c1)] (by kernel_rfl) rfl ?_
    have hzs10 := hS.size
    have hzl13 := ho1.lt
    have hzk11 := hbase1
    have hzk12 := hleli1
    have hzl14 := ho3.lt
    have hzk13 := hglg1
    have hzk14 := hleli2
    have hzl15 := ho5.lt
    have hzl16 := ho6.lt
    have hbase2 := Nat.le_of_lt ho6.lt
    refine VL_appendT (d := 60) (e := 5) (A := (some ⟨b4, 0, none⟩)) (m := 0) (c := 0) (A2 := (some ⟨g1, 0, none⟩)) (m2 := ((msgT r bk k (vals l)).length)) (c2 := c1) (bytes := 1) (by kernel_rfl) (by kernel_rfl) (by kernel_rfl) b4 w11.heap.size (iL .u8 ([])) (iL .u8 (msgT r bk k (vals l))) (Rw.of_new ho6 (Nat.le_refl _) (Nat.le_of_ble_eq_true (by kernel_rfl))) (by rw [iL_length]; first | done | exact (Rw.lenI hr1)) (Sl.mono (Rw.slI hr1) (by first | exact Nat.le_refl _ | omega)) iL_one ((msgT r bk k (vals l)).length) (by omega) (by simp only [maxLen]; omega) (by omega) (by omega) ?_
    intro A2 c2 w12 hr2 hg1
    replace hr2 : Rw w12 b4 5 A2 ((msgT r bk k (vals l)).length) c2 (iL .u8 (msgT r bk k (vals l))) := Rw.cast hr2 rfl (by simp only [iL, List.map_append, List.map_cons, List.map_nil, List.append_assoc, List.cons_append, List.nil_append, List.append_nil])
    have hzhg1 := hg1.size
    have hg1S : Step (fun k => b4 ≤ k ∧ (k < b1 ∨ b1 < k) ∧ (k < b2 ∨ b2 < k) ∧ (k < b3 ∨ b3 < k)) _ _ := Step.mono hg1 (fun i hi => ⟨hi.1, Nat.lt_or_gt_of_ne (hi.2.ne ho1 (by decide)), Nat.lt_or_gt_of_ne (hi.2.ne ho3 (by decide)), Nat.lt_or_gt_of_ne (hi.2.ne ho5 (by decide))⟩)
    replace hS := Step.transNew hS hg1S (fun i hi hG => by (try simp only at hG); omega)
    replace hA := hA.step hg1S (fun k hk1 hk2 hG => by (try simp only at hG); omega)
    replace hD := hD.step hg1S (fun k hk hG => by (try simp only at hG); omega)
    replace ho1 := ho1.step hg1S (by (try simp only); omega)
    replace hbase1 := Nat.le_trans hbase1 (hg1S).size
    replace hr1 := hr1.keepG hg1S (by (try simp only); omega)
    replace hV1 := hV1.step hg1S (fun k hk1 hk2 hG => by (try simp only at hG); omega)
    replace hleli1 := Nat.le_trans hleli1 (hg1S).size
    replace ho3 := ho3.step hg1S (by (try simp only); omega)
    replace hglg1 := Nat.lt_of_lt_of_le hglg1 (hg1S).size
    replace hsl1 := hsl1.keepB hg1S (by (try simp only); omega)
    replace hV2 := hV2.step hg1S (fun k hk1 hk2 hG => by (try simp only at hG); omega)
    replace hleli2 := Nat.le_trans hleli2 (hg1S).size
    replace ho5 := ho5.step hg1S (by (try simp only); omega)
    replace hbase2 := Nat.le_trans hbase2 (hg1S).size
    refine VL_pure 4 [1, 4, 11, 12, 14, 60, 61] [(1, .slice D nD cD), (4, .pointer (some ⟨b1, 0, none⟩)), (11, .pointer (some ⟨b2, 0, none⟩)), (12, .int .i64 (muE (msgT r bk k (vals l)))), (14, .int .i64 (muE ((msgT r bk k (vals l)).take (q % ((msgT r bk k (vals l)).length))))), (60, .slice A2 ((msgT r bk k (vals l)).length) c2), (61, .int .u8 x)] (by kernel_rfl) rfl ?_
    have hzs11 := hS.size
    have hzl17 := ho1.lt
    have hzk15 := hbase1
    have hzk16 := hleli1
    have hzl18 := ho3.lt
    have hzk17 := hglg1
    have hzk18 := hleli2
    have hzl19 := ho5.lt
    have hzk19 := hbase2
    have hub2 := hr2.ub
    refine VL_bs (d := 62) (e := 5) (c := #[.int .u8 x]) (len := 1) (by kernel_rfl) (by kernel_rfl) ?_
    intro b5 w13 hn5
    replace hS := Step.trans hS (hn5.step No)
    replace hA := hA.no (hn5.step No)
    replace hD := hD.no (hn5.step No)
    replace ho1 := ho1.no (hn5.step No)
    replace hbase1 := Nat.le_trans hbase1 (hn5.step No).size
    replace hr1 := hr1.no (hn5.step No)
    replace hV1 := hV1.no (hn5.step No)
    replace hleli1 := Nat.le_trans hleli1 (hn5.step No).size
    replace ho3 := ho3.no (hn5.step No)
    replace hglg1 := Nat.lt_of_lt_of_le hglg1 (hn5.step No).size
    replace hsl1 := hsl1.no (hn5.step No)
    replace hV2 := hV2.no (hn5.step No)
    replace hleli2 := Nat.le_trans hleli2 (hn5.step No).size
    replace ho5 := ho5.no (hn5.step No)
    replace hbase2 := Nat.le_trans hbase2 (hn5.step No).size
    replace hr2 := hr2.no (hn5.step No)
    have ho7 := hn5.own
    have hzhn5 := hn5.size
    have hqhn5 := hn5.eqb
    have hzs12 := hS.size
    have hzl20 := ho1.lt
    have hzk20 := hbase1
    have hzk21 := hleli1
    have hzl21 := ho3.lt
    have hzk22 := hglg1
    have hzk23 := hleli2
    have hzl22 := ho5.lt
    have hzk24 := hbase2
    have hzl23 := ho7.lt
    refine VL_appendT (d := 63) (e := 5) (A := A2) (m := ((msgT r bk k (vals l)).length)) (c := c2) (A2 := (some ⟨b5, 0, none⟩)) (m2 := 1) (c2 := 1) (bytes := 1) (by kernel_rfl) (by kernel_rfl) (by kernel_rfl) b4 w13.heap.size (iL .u8 (msgT r bk k (vals l))) (iL .u8 ([x])) hr2 (by rw [iL_length]; first | done | exact rfl) (Sl.mono (Own.sl ho7 ho7.lt) (by first | exact Nat.le_refl _ | omega)) iL_one ((msgT r bk k (vals l)).length + 1) (by omega) (by simp only [maxLen]; omega) (by omega) (by omega) ?_
    intro A3 c3 w14 hr3 hg2
    replace hr3 : Rw w14 b4 5 A3 ((msgT r bk k (vals l)).length + 1) c3 (iL .u8 ((msgT r bk k (vals l)) ++ ([x]))) := Rw.cast hr3 rfl (by simp only [iL, List.map_append, List.map_cons, List.map_nil, List.append_assoc, List.cons_append, List.nil_append, List.append_nil])
    have hzhg2 := hg2.size
    have hg2S : Step (fun k => b4 ≤ k ∧ (k < b1 ∨ b1 < k) ∧ (k < b2 ∨ b2 < k) ∧ (k < b3 ∨ b3 < k)) _ _ := Step.mono hg2 (fun i hi => ⟨hi.1, Nat.lt_or_gt_of_ne (hi.2.ne ho1 (by decide)), Nat.lt_or_gt_of_ne (hi.2.ne ho3 (by decide)), Nat.lt_or_gt_of_ne (hi.2.ne ho5 (by decide))⟩)
    replace hS := Step.transNew hS hg2S (fun i hi hG => by (try simp only at hG); omega)
    replace hA := hA.step hg2S (fun k hk1 hk2 hG => by (try simp only at hG); omega)
    replace hD := hD.step hg2S (fun k hk hG => by (try simp only at hG); omega)
    replace ho1 := ho1.step hg2S (by (try simp only); omega)
    replace hbase1 := Nat.le_trans hbase1 (hg2S).size
    replace hr1 := hr1.keepG hg2S (by (try simp only); omega)
    replace hV1 := hV1.step hg2S (fun k hk1 hk2 hG => by (try simp only at hG); omega)
    replace hleli1 := Nat.le_trans hleli1 (hg2S).size
    replace ho3 := ho3.step hg2S (by (try simp only); omega)
    replace hglg1 := Nat.lt_of_lt_of_le hglg1 (hg2S).size
    replace hsl1 := hsl1.keepB hg2S (by (try simp only); omega)
    replace hV2 := hV2.step hg2S (fun k hk1 hk2 hG => by (try simp only at hG); omega)
    replace hleli2 := Nat.le_trans hleli2 (hg2S).size
    replace ho5 := ho5.step hg2S (by (try simp only); omega)
    replace hbase2 := Nat.le_trans hbase2 (hg2S).size
    have hzs13 := hS.size
    have hzl24 := ho1.lt
    have hzl25 := ho3.lt
    have hzl26 := ho5.lt
    refine VL_call (d := 64) (f := 13) (by kernel_rfl) (by kernel_rfl) (by kernel_rfl) Try.call13 (msgun_any A3 ((msgT r bk k (vals l)).length + 1) c3 _ ((msgT r bk k (vals l)) ++ ([x])) _ (Rw.lenI hr3) (Rw.slI hr3) (by have hq9 := Rw.cap hr3; omega) ((msgT_bytes hl).app (Bytes.cons hx Bytes.nil)) (by omega) (by first | exact Nat.le_refl _ | omega)) ?_
    rintro _ w15 ⟨Ai3, ci3, li3, rfl, hv3, hI3, hc6⟩
    replace hS := Step.trans hS hc6
    replace hA := hA.no hc6
    replace hD := hD.no hc6
    replace ho1 := ho1.no hc6
    replace hbase1 := Nat.le_trans hbase1 (hc6).size
    replace hr1 := hr1.no hc6
    replace hV1 := hV1.no hc6
    replace hleli1 := Nat.le_trans hleli1 (hc6).size
    replace ho3 := ho3.no hc6
    replace hglg1 := Nat.lt_of_lt_of_le hglg1 (hc6).size
    replace hsl1 := hsl1.no hc6
    replace hV2 := hV2.no hc6
    replace hleli2 := Nat.le_trans hleli2 (hc6).size
    replace ho5 := ho5.no hc6
    replace hbase2 := Nat.le_trans hbase2 (hc6).size
    replace hr3 := hr3.no hc6
    have hleli3 : w15.heap.size ≤ w15.heap.size := Nat.le_refl _
    have hV3 := Ier.ies hI3
    have hcntli3 : li3.length ≤ 16 := by rw [← vals_len, hv3]; exact muL_count ((msgT r bk k (vals l)) ++ ([x]))
    have hcali3 : li3.length ≤ ci3 := RwS.cap hI3.row
    have hibli3 : ∀ x ∈ li3, IeB x := mu_ieb hv3 ((msgT_bytes hl).app (Bytes.cons hx Bytes.nil))
    have hsmli3 : ∀ x ∈ li3, x.n ≤ 200 := mu_small hV3 hv3 ((msgT_bytes hl).app (Bytes.cons hx Bytes.nil))
    refine VL_pure 10 [1, 4, 11, 12, 14, 65, 66] [(1, .slice D nD cD), (4, .pointer (some ⟨b1, 0, none⟩)), (11, .pointer (some ⟨b2, 0, none⟩)), (12, .int .i64 (muE (msgT r bk k (vals l)))), (14, .int .i64 (muE ((msgT r bk k (vals l)).take (q % ((msgT r bk k (vals l)).length))))), (65, .agg #[.int .i64 (muR ((msgT r bk k (vals l)) ++ ([x]))), .bool (muB ((msgT r bk k (vals l)) ++ ([x]))), .int .i64 (muK ((msgT r bk k (vals l)) ++ ([x]))), .slice Ai3 li3.length ci3]), (66, .int .i64 (muE ((msgT r bk k (vals l)) ++ ([x]))))] (by kernel_rfl) rfl ?_
    have hzs14 := hS.size
    have hzl27 := ho1.lt
    have hzk25 := hbase1
    have hzk26 := hleli1
    have hzl28 := ho3.lt
    have hzk27 := hglg1
    have hzk28 := hleli2
    have hzl29 := ho5.lt
    have hzk29 := hbase2
    have hzk30 := hleli3
    have hub3 := hr3.ub
    refine VL_box (d := 15) (t := 24) (c := #[.int .i64 0, .bool false, .int .i64 0, .slice none 0 0]) (by kernel_rfl) (by kernel_rfl) ?_
    intro b6 w16 hn6
    replace hS := Step.trans hS (hn6.step No)
    replace hA := hA.no (hn6.step No)
    replace hD := hD.no (hn6.step No)
    replace ho1 := ho1.no (hn6.step No)
    replace hbase1 := Nat.le_trans hbase1 (hn6.step No).size
    replace hr1 := hr1.no (hn6.step No)
    replace hV1 := hV1.no (hn6.step No)
    replace hleli1 := Nat.le_trans hleli1 (hn6.step No).size
    replace ho3 := ho3.no (hn6.step No)
    replace hglg1 := Nat.lt_of_lt_of_le hglg1 (hn6.step No).size
    replace hsl1 := hsl1.no (hn6.step No)
    replace hV2 := hV2.no (hn6.step No)
    replace hleli2 := Nat.le_trans hleli2 (hn6.step No).size
    replace ho5 := ho5.no (hn6.step No)
    replace hbase2 := Nat.le_trans hbase2 (hn6.step No).size
    replace hr3 := hr3.no (hn6.step No)
    replace hV3 := hV3.no (hn6.step No)
    replace hleli3 := Nat.le_trans hleli3 (hn6.step No).size
    have ho8 := hn6.own
    have hzhn6 := hn6.size
    have hqhn6 := hn6.eqb
    refine VL_store (b := b6) (o := 0) (vs := [.int .i64 (muR ((msgT r bk k (vals l)) ++ ([x]))), .bool (muB ((msgT r bk k (vals l)) ++ ([x]))), .int .i64 (muK ((msgT r bk k (vals l)) ++ ([x]))), .slice Ai3 li3.length ci3]) (by kernel_rfl) (by kernel_rfl) ho8 (Nat.le_of_ble_eq_true (by kernel_rfl)) ?_
    intro w17 hw3
    replace hS := Step.transNew hS hw3.step (fun _ _ _ => by omega)
    replace hA := hA.step hw3.step (fun k hk1 hk2 (hF : k = b6) => by omega)
    replace hD := hD.step hw3.step (fun k hk (hF : k = b6) => by omega)
    replace ho1 := ho1.step hw3.step (show ¬ b1 = b6 by omega)
    replace hbase1 := Nat.le_trans hbase1 (hw3.step).size
    replace hV1 := hV1.step hw3.step (fun k hk1 hk2 (hF : k = b6) => by omega)
    replace hleli1 := Nat.le_trans hleli1 (hw3.step).size
    replace ho3 := ho3.step hw3.step (show ¬ b2 = b6 by omega)
    replace hglg1 := Nat.lt_of_lt_of_le hglg1 (hw3.step).size
    replace hsl1 := hsl1.keepB hw3.step (show ¬ g1 = b6 by omega)
    replace hV2 := hV2.step hw3.step (fun k hk1 hk2 (hF : k = b6) => by omega)
    replace hleli2 := Nat.le_trans hleli2 (hw3.step).size
    replace ho5 := ho5.step hw3.step (show ¬ b3 = b6 by omega)
    replace hbase2 := Nat.le_trans hbase2 (hw3.step).size
    replace hV3 := hV3.step hw3.step (fun k hk1 hk2 (hF : k = b6) => by omega)
    replace hleli3 := Nat.le_trans hleli3 (hw3.step).size
    have ho9 : Own w17 b6 #[.int .i64 (muR ((msgT r bk k (vals l)) ++ ([x]))), .bool (muB ((msgT r bk k (vals l)) ++ ([x]))), .int .i64 (muK ((msgT r bk k (vals l)) ++ ([x]))), .slice Ai3 li3.length ci3] 24 := Own.cast hw3.own (by kernel_rfl)
    have hzhw3 := hw3.same
    refine VL_pure 13 [1, 4, 11, 12, 14, 16] [(1, .slice D nD cD), (4, .pointer (some ⟨b1, 0, none⟩)), (11, .pointer (some ⟨b2, 0, none⟩)), (12, .int .i64 (muE (msgT r bk k (vals l)))), (14, .int .i64 (muE ((msgT r bk k (vals l)).take (q % ((msgT r bk k (vals l)).length))))), (16, .int .i64 (muE ((msgT r bk k (vals l)) ++ ([x]))))] (by kernel_rfl) rfl ?_
    refine VL_end (by kernel_rfl) ?_
    refine VQ_next ?_
    refine VC_seq ?_
    refine VC_region ?_
    refine VL_pure 3 [1, 4, 11, 14, 16, 69] [(1, .slice D nD cD), (4, .pointer (some ⟨b1, 0, none⟩)), (11, .pointer (some ⟨b2, 0, none⟩)), (14, .int .i64 (muE ((msgT r bk k (vals l)).take (q % ((msgT r bk k (vals l)).length))))), (16, .int .i64 (muE ((msgT r bk k (vals l)) ++ ([x])))), (69, .bool ((muE (msgT r bk k (vals l))) != 0))] (by kernel_rfl) rfl ?_
    refine VL_known ((muE (msgT r bk k (vals l))) != 0) (fun bV => [(1, .slice D nD cD), (4, .pointer (some ⟨b1, 0, none⟩)), (11, .pointer (some ⟨b2, 0, none⟩)), (14, .int .i64 (muE ((msgT r bk k (vals l)).take (q % ((msgT r bk k (vals l)).length))))), (16, .int .i64 (muE ((msgT r bk k (vals l)) ++ ([x])))), (69, .bool bV)]) false rfl (by rw [(msg_there (by assumption)).1]; rfl) ?_
    refine VL_load (d := 70) (t := 24) (a := ⟨b2, 0, none⟩) (v := .agg #[.int .i64 (muR (msgT r bk k (vals l))), .bool (muB (msgT r bk k (vals l))), .int .i64 (muK (msgT r bk k (vals l))), .slice Ai1 li1.length ci1]) (by kernel_rfl) (by kernel_rfl) (Loads.ownL ho3 (n := 4) (by kernel_rfl) (by kernel_rfl) (by kernel_rfl)) ?_
    refine VL_load (d := 71) (t := 24) (a := ⟨b1, 0, none⟩) (v := .agg #[.int .i64 r, .bool bk, .int .i64 k, .slice A n c]) (by kernel_rfl) (by kernel_rfl) (Loads.ownL ho1 (n := 4) (by kernel_rfl) (by kernel_rfl) (by kernel_rfl)) ?_
    have hzs15 := hS.size
    have hzl30 := ho1.lt
    have hzl31 := ho3.lt
    have hzl32 := ho5.lt
    have hzl33 := ho9.lt
    refine VL_call (d := 72) (f := 16) (by kernel_rfl) (by kernel_rfl) (by kernel_rfl) Try.call16 (same16_any (muR (msgT r bk k (vals l))) (muB (msgT r bk k (vals l))) (muK (msgT r bk k (vals l))) r bk k Ai1 li1.length ci1 w4.heap.size w5.heap.size li1 _ rfl hV1 A n c 0 w.heap.size l hn hA   (by omega) (fun x hx => by have hq9 := hsmli1 x hx; omega) (fun x hx => by have hq9 := hsm x hx; omega) (by first | exact Nat.le_refl _ | omega) (by first | exact Nat.le_refl _ | omega)) ?_
    rintro _ w18 ⟨rfl, hc7⟩
    replace hS := Step.trans hS hc7
    replace hA := hA.no hc7
    replace hD := hD.no hc7
    replace ho1 := ho1.no hc7
    replace hbase1 := Nat.le_trans hbase1 (hc7).size
    replace hV1 := hV1.no hc7
    replace hleli1 := Nat.le_trans hleli1 (hc7).size
    replace ho3 := ho3.no hc7
    replace hglg1 := Nat.lt_of_lt_of_le hglg1 (hc7).size
    replace hsl1 := hsl1.no hc7
    replace hV2 := hV2.no hc7
    replace hleli2 := Nat.le_trans hleli2 (hc7).size
    replace ho5 := ho5.no hc7
    replace hbase2 := Nat.le_trans hbase2 (hc7).size
    replace hV3 := hV3.no hc7
    replace hleli3 := Nat.le_trans hleli3 (hc7).size
    replace ho9 := ho9.no hc7
    refine VL_pure 9 [1, 14, 16, 75] [(1, .slice D nD cD), (14, .int .i64 (muE ((msgT r bk k (vals l)).take (q % ((msgT r bk k (vals l)).length))))), (16, .int .i64 (muE ((msgT r bk k (vals l)) ++ ([x])))), (75, .bool (!(sameM (muR (msgT r bk k (vals l))) (muB (msgT r bk k (vals l))) (muK (msgT r bk k (vals l))) (vals li1) r bk k (vals l))))] (by kernel_rfl) rfl ?_
    refine VL_known (sameM (muR (msgT r bk k (vals l))) (muB (msgT r bk k (vals l))) (muK (msgT r bk k (vals l))) (vals li1) r bk k (vals l)) (fun bV => [(1, .slice D nD cD), (14, .int .i64 (muE ((msgT r bk k (vals l)).take (q % ((msgT r bk k (vals l)).length))))), (16, .int .i64 (muE ((msgT r bk k (vals l)) ++ ([x])))), (75, .bool (!bV))]) true rfl (sameM_is (msg_there (by assumption)).2.1 (msg_there (by assumption)).2.2.1 (msg_there (by assumption)).2.2.2.1 (by rw [hv1]; exact (msg_there (by assumption)).2.2.2.2)) ?_
    refine VL_pure 13 [1, 16, 79] [(1, .slice D nD cD), (16, .int .i64 (muE ((msgT r bk k (vals l)) ++ ([x])))), (79, .bool ((muE ((msgT r bk k (vals l)).take (q % ((msgT r bk k (vals l)).length)))) != 2))] (by kernel_rfl) rfl ?_
    refine VL_known ((muE ((msgT r bk k (vals l)).take (q % ((msgT r bk k (vals l)).length)))) != 2) (fun bV => [(1, .slice D nD cD), (16, .int .i64 (muE ((msgT r bk k (vals l)) ++ ([x])))), (79, .bool bV)]) false rfl (by rw [msg_cut (by assumption) (Nat.mod_lt _ (by omega))]; rfl) ?_
    refine VL_pure 16 [1, 16, 79, 82] [(1, .slice D nD cD), (16, .int .i64 (muE ((msgT r bk k (vals l)) ++ ([x])))), (79, .bool false), (82, .bool ((muE ((msgT r bk k (vals l)) ++ ([x]))) != 3))] (by kernel_rfl) rfl ?_
    refine VL_bne (muE ((msgT r bk k (vals l)) ++ ([x]))) 3 (fun bV => [(1, .slice D nD cD), (16, .int .i64 (muE ((msgT r bk k (vals l)) ++ ([x])))), (79, .bool false), (82, .bool bV)]) rfl (fun hg3 => ?_) (fun hg3 => ?_)
    · refine VL_pure 20 [1, 86] [(1, .slice D nD cD), (86, .bool ((muE ((msgT r bk k (vals l)) ++ ([x]))) != 6))] (by kernel_rfl) rfl ?_
      refine VL_end (by kernel_rfl) ?_
      refine VQ_next ?_
      refine VC_is (b := (muE ((msgT r bk k (vals l)) ++ ([x]))) != 6) false (by kernel_rfl) (by rcases msg_more (r := r) (back := bk) (k := k) (L := vals l) (by assumption) x with h9 | h9; exact absurd h9 (by assumption); rw [h9]; rfl) ?_
      refine VC_ite_false ?_
      refine VC_skip ?_
      refine VQ_next ?_
      refine VC_seq ?_
      refine VC_region ?_
      refine VL_pure 1 [1, 88] [(1, .slice D nD cD), (88, .slice D nD cD)] (by kernel_rfl) rfl ?_
      have hzs16 := hS.size
      have hzl34 := ho1.lt
      have hzl35 := ho3.lt
      have hzl36 := ho5.lt
      have hzl37 := ho9.lt
      refine VL_call (d := 89) (f := 13) (by kernel_rfl) (by kernel_rfl) (by kernel_rfl) Try.call13 (msgun_any D nD cD _ bt _ hnD hD (by omega) hb (by omega) (by first | exact Nat.le_refl _ | omega)) ?_
      rintro _ w19 ⟨Ai4, ci4, li4, rfl, hv4, hI4, hc8⟩
      replace hS := Step.trans hS hc8
      replace hA := hA.no hc8
      replace hD := hD.no hc8
      replace ho1 := ho1.no hc8
      replace hbase1 := Nat.le_trans hbase1 (hc8).size
      replace hV1 := hV1.no hc8
      replace hleli1 := Nat.le_trans hleli1 (hc8).size
      replace ho3 := ho3.no hc8
      replace hglg1 := Nat.lt_of_lt_of_le hglg1 (hc8).size
      replace hsl1 := hsl1.no hc8
      replace hV2 := hV2.no hc8
      replace hleli2 := Nat.le_trans hleli2 (hc8).size
      replace ho5 := ho5.no hc8
      replace hbase2 := Nat.le_trans hbase2 (hc8).size
      replace hV3 := hV3.no hc8
      replace hleli3 := Nat.le_trans hleli3 (hc8).size
      replace ho9 := ho9.no hc8
      have hleli4 : w19.heap.size ≤ w19.heap.size := Nat.le_refl _
      have hV4 := Ier.ies hI4
      have hcntli4 : li4.length ≤ 16 := by rw [← vals_len, hv4]; exact muL_count bt
      have hcali4 : li4.length ≤ ci4 := RwS.cap hI4.row
      have hibli4 : ∀ x ∈ li4, IeB x := mu_ieb hv4 hb
      have hsmli4 : ∀ x ∈ li4, x.n ≤ 200 := mu_small hV4 hv4 hb
      refine VL_pure 5 [1, 90, 91] [(1, .slice D nD cD), (90, .agg #[.int .i64 (muR bt), .bool (muB bt), .int .i64 (muK bt), .slice Ai4 li4.length ci4]), (91, .int .i64 (muE bt))] (by kernel_rfl) rfl ?_
      have hzs17 := hS.size
      have hzl38 := ho1.lt
      have hzk31 := hbase1
      have hzk32 := hleli1
      have hzl39 := ho3.lt
      have hzk33 := hglg1
      have hzk34 := hleli2
      have hzl40 := ho5.lt
      have hzk35 := hbase2
      have hzk36 := hleli3
      have hzl41 := ho9.lt
      have hzk37 := hleli4
      refine VL_box (d := 17) (t := 24) (c := #[.int .i64 0, .bool false, .int .i64 0, .slice none 0 0]) (by kernel_rfl) (by kernel_rfl) ?_
      intro b7 w20 hn7
      replace hS := Step.trans hS (hn7.step No)
      replace hA := hA.no (hn7.step No)
      replace hD := hD.no (hn7.step No)
      replace ho1 := ho1.no (hn7.step No)
      replace hbase1 := Nat.le_trans hbase1 (hn7.step No).size
      replace hV1 := hV1.no (hn7.step No)
      replace hleli1 := Nat.le_trans hleli1 (hn7.step No).size
      replace ho3 := ho3.no (hn7.step No)
      replace hglg1 := Nat.lt_of_lt_of_le hglg1 (hn7.step No).size
      replace hsl1 := hsl1.no (hn7.step No)
      replace hV2 := hV2.no (hn7.step No)
      replace hleli2 := Nat.le_trans hleli2 (hn7.step No).size
      replace ho5 := ho5.no (hn7.step No)
      replace hbase2 := Nat.le_trans hbase2 (hn7.step No).size
      replace hV3 := hV3.no (hn7.step No)
      replace hleli3 := Nat.le_trans hleli3 (hn7.step No).size
      replace ho9 := ho9.no (hn7.step No)
      replace hV4 := hV4.no (hn7.step No)
      replace hleli4 := Nat.le_trans hleli4 (hn7.step No).size
      have ho10 := hn7.own
      have hzhn7 := hn7.size
      have hqhn7 := hn7.eqb
      refine VL_store (b := b7) (o := 0) (vs := [.int .i64 (muR bt), .bool (muB bt), .int .i64 (muK bt), .slice Ai4 li4.length ci4]) (by kernel_rfl) (by kernel_rfl) ho10 (Nat.le_of_ble_eq_true (by kernel_rfl)) ?_
      intro w21 hw4
      replace hS := Step.transNew hS hw4.step (fun _ _ _ => by omega)
      replace hA := hA.step hw4.step (fun k hk1 hk2 (hF : k = b7) => by omega)
      replace hD := hD.step hw4.step (fun k hk (hF : k = b7) => by omega)
      replace ho1 := ho1.step hw4.step (show ¬ b1 = b7 by omega)
      replace hbase1 := Nat.le_trans hbase1 (hw4.step).size
      replace hV1 := hV1.step hw4.step (fun k hk1 hk2 (hF : k = b7) => by omega)
      replace hleli1 := Nat.le_trans hleli1 (hw4.step).size
      replace ho3 := ho3.step hw4.step (show ¬ b2 = b7 by omega)
      replace hglg1 := Nat.lt_of_lt_of_le hglg1 (hw4.step).size
      replace hsl1 := hsl1.keepB hw4.step (show ¬ g1 = b7 by omega)
      replace hV2 := hV2.step hw4.step (fun k hk1 hk2 (hF : k = b7) => by omega)
      replace hleli2 := Nat.le_trans hleli2 (hw4.step).size
      replace ho5 := ho5.step hw4.step (show ¬ b3 = b7 by omega)
      replace hbase2 := Nat.le_trans hbase2 (hw4.step).size
      replace hV3 := hV3.step hw4.step (fun k hk1 hk2 (hF : k = b7) => by omega)
      replace hleli3 := Nat.le_trans hleli3 (hw4.step).size
      replace ho9 := ho9.step hw4.step (show ¬ b6 = b7 by omega)
      replace hV4 := hV4.step hw4.step (fun k hk1 hk2 (hF : k = b7) => by omega)
      replace hleli4 := Nat.le_trans hleli4 (hw4.step).size
      have ho11 : Own w21 b7 #[.int .i64 (muR bt), .bool (muB bt), .int .i64 (muK bt), .slice Ai4 li4.length ci4] 24 := Own.cast hw4.own (by kernel_rfl)
      have hzhw4 := hw4.same
      refine VL_pure 8 [1, 17, 18] [(1, .slice D nD cD), (17, .pointer (some ⟨b7, 0, none⟩)), (18, .int .i64 (muE bt))] (by kernel_rfl) rfl ?_
      refine VL_end (by kernel_rfl) ?_
      refine VQ_next ?_
      refine VC_seq ?_
      refine VC_seq ?_
      refine VC_region ?_
      refine VL_pure 2 [1, 17, 93] [(1, .slice D nD cD), (17, .pointer (some ⟨b7, 0, none⟩)), (93, .bool ((muE bt) != 0))] (by kernel_rfl) rfl ?_
      refine VL_end (by kernel_rfl) ?_
      refine VQ_next ?_
      refine VC_ne (muE bt) 0 (by kernel_rfl) (fun h2 => ?_) (fun h2 => ?_)
      · refine VC_seq ?_
        refine VC_region ?_
        refine VL_pure 1 [17, 94] [(17, .pointer (some ⟨b7, 0, none⟩)), (94, .pointer (some ⟨b7, 0, none⟩))] (by kernel_rfl) rfl ?_
        refine VL_load (d := 95) (t := 3) (a := ⟨b7, 0, none⟩) (v := .int .i64 (muR bt)) (by kernel_rfl) (by kernel_rfl) (Loads.own1 ho11 (by kernel_rfl) (by rfl)) ?_
        refine VL_pure 4 [17, 97] [(17, .pointer (some ⟨b7, 0, none⟩)), (97, .bool ((muR bt) == 0))] (by kernel_rfl) rfl ?_
        refine VL_known ((muR bt) == 0) (fun bV => [(17, .pointer (some ⟨b7, 0, none⟩)), (97, .bool bV)]) true rfl (by rw [(mu_n (by assumption)).1]; rfl) ?_
        refine VL_pure 5 [17, 97, 98] [(17, .pointer (some ⟨b7, 0, none⟩)), (97, .bool true), (98, .pointer (some ⟨b7, 2, none⟩))] (by kernel_rfl) rfl ?_
        refine VL_load (d := 99) (t := 3) (a := ⟨b7, 2, none⟩) (v := .int .i64 (muK bt)) (by kernel_rfl) (by kernel_rfl) (Loads.own1 ho11 (by kernel_rfl) (by rfl)) ?_
        refine VL_pure 9 [17, 102] [(17, .pointer (some ⟨b7, 0, none⟩)), (102, .bool ((muK bt) == 0))] (by kernel_rfl) rfl ?_
        refine VL_known ((muK bt) == 0) (fun bV => [(17, .pointer (some ⟨b7, 0, none⟩)), (102, .bool bV)]) true rfl (by rw [(mu_n (by assumption)).2.2.1]; rfl) ?_
        refine VL_pure 10 [102, 103] [(102, .bool true), (103, .pointer (some ⟨b7, 3, none⟩))] (by kernel_rfl) rfl ?_
        refine VL_load (d := 104) (t := 22) (a := ⟨b7, 3, none⟩) (v := .slice Ai4 li4.length ci4) (by kernel_rfl) (by kernel_rfl) (Loads.own1 ho11 (by kernel_rfl) (by rfl)) ?_
        refine VL_pure 15 [8] [(8, .bool (((li4.length : Nat) : Int) == 0))] (by kernel_rfl) rfl ?_
        refine VL_end (by kernel_rfl) ?_
        refine VQ_next ?_
        refine VC_ret ?_
        refine VQ_then_ret ?_
        refine VQ_ret1 (.bool (((li4.length : Nat) : Int) == 0)) (.inr rfl) rfl rfl ?_
        exact ⟨congrArg Value.bool (by rw [beq_iff_eq]; have hq9 := mu_none (by assumption) (by assumption); omega), hS⟩
      · refine VC_skip ?_
        refine VQ_next ?_
        refine VC_seq ?_
        have hvb := hv4
        refine VC_region ?_
        refine VL_load (d := 109) (t := 24) (a := ⟨b7, 0, none⟩) (v := .agg #[.int .i64 (muR bt), .bool (muB bt), .int .i64 (muK bt), .slice Ai4 li4.length ci4]) (by kernel_rfl) (by kernel_rfl) (Loads.ownL ho11 (n := 4) (by kernel_rfl) (by kernel_rfl) (by kernel_rfl)) ?_
        have hzs18 := hS.size
        have hzl42 := ho1.lt
        have hzl43 := ho3.lt
        have hzl44 := ho5.lt
        have hzl45 := ho9.lt
        have hzl46 := ho11.lt
        refine VL_call (d := 110) (f := 11) (by kernel_rfl) (by kernel_rfl) (by kernel_rfl) Try.call11 (msgpack_any (muR bt) (muB bt) (muK bt) Ai4 li4.length ci4 w18.heap.size w19.heap.size li4 _ rfl hV4 (by omega) (by first | exact Nat.le_refl _ | omega)) ?_
        rintro _ w22 ⟨A4, c4, rfl, hr4, hc9⟩
        replace hS := Step.trans hS hc9
        replace hA := hA.no hc9
        replace hD := hD.no hc9
        replace ho1 := ho1.no hc9
        replace hbase1 := Nat.le_trans hbase1 (hc9).size
        replace hV1 := hV1.no hc9
        replace hleli1 := Nat.le_trans hleli1 (hc9).size
        replace ho3 := ho3.no hc9
        replace hglg1 := Nat.lt_of_lt_of_le hglg1 (hc9).size
        replace hsl1 := hsl1.no hc9
        replace hV2 := hV2.no hc9
        replace hleli2 := Nat.le_trans hleli2 (hc9).size
        replace ho5 := ho5.no hc9
        replace hbase2 := Nat.le_trans hbase2 (hc9).size
        replace hV3 := hV3.no hc9
        replace hleli3 := Nat.le_trans hleli3 (hc9).size
        replace ho9 := ho9.no hc9
        replace hV4 := hV4.no hc9
        replace hleli4 := Nat.le_trans hleli4 (hc9).size
        replace ho11 := ho11.no hc9
        obtain ⟨base2, hbase3E⟩ : ∃ x, x = w21.heap.size := ⟨_, rfl⟩
        rw [← hbase3E] at hr4
        have hbase3 : base2 ≤ w22.heap.size := by rw [hbase3E]; exact hc9.size
        have hmlq2 := msgT_le (muR bt) (muB bt) (muK bt) (vals li4)
        refine VL_pure 7 [1, 17, 19, 20] [(1, .slice D nD cD), (17, .pointer (some ⟨b7, 0, none⟩)), (19, .slice A4 ((msgT (muR bt) (muB bt) (muK bt) (vals li4)).length) c4), (20, .int .i64 (msgE (muR bt) (muB bt) (muK bt) (vals li4)))] (by kernel_rfl) rfl ?_
        refine VL_end (by kernel_rfl) ?_
        refine VQ_next ?_
        refine VC_seq ?_
        refine VC_region ?_
        refine VL_pure 3 [1, 17, 19, 115] [(1, .slice D nD cD), (17, .pointer (some ⟨b7, 0, none⟩)), (19, .slice A4 ((msgT (muR bt) (muB bt) (muK bt) (vals li4)).length) c4), (115, .bool ((msgE (muR bt) (muB bt) (muK bt) (vals li4)) == 0))] (by kernel_rfl) rfl ?_
        refine VL_known ((msgE (muR bt) (muB bt) (muK bt) (vals li4)) == 0) (fun bV => [(1, .slice D nD cD), (17, .pointer (some ⟨b7, 0, none⟩)), (19, .slice A4 ((msgT (muR bt) (muB bt) (muK bt) (vals li4)).length) c4), (115, .bool bV)]) true rfl (by rw [hvb, (msg_back hb (by first | assumption | exact Classical.not_not.1 (by assumption))).1]; rfl) ?_
        refine VL_pure 5 [17, 115, 116, 117] [(17, .pointer (some ⟨b7, 0, none⟩)), (115, .bool true), (116, .slice A4 ((msgT (muR bt) (muB bt) (muK bt) (vals li4)).length) c4), (117, .slice D nD cD)] (by kernel_rfl) rfl ?_
        have hzs19 := hS.size
        have hzl47 := ho1.lt
        have hzl48 := ho3.lt
        have hzl49 := ho5.lt
        have hzl50 := ho9.lt
        have hzl51 := ho11.lt
        refine VL_call (d := 118) (f := 15) (args := #[.slice A4 ((msgT (muR bt) (muB bt) (muK bt) (vals li4)).length) c4, .slice D nD cD]) (by kernel_rfl) (by kernel_rfl) (by kernel_rfl) Try.call15 (same_any A4 ((msgT (muR bt) (muB bt) (muK bt) (vals li4)).length) c4 _ (msgT (muR bt) (muB bt) (muK bt) (vals li4)) D nD cD _ bt _ (Rw.lenI hr4) (Rw.slI hr4) hnD hD (by omega) (by omega) (by first | exact Nat.le_refl _ | omega) (by first | exact Nat.le_refl _ | omega)) ?_
        rintro _ w23 ⟨rfl, hc10⟩
        replace hS := Step.trans hS hc10
        replace hA := hA.no hc10
        replace hD := hD.no hc10
        replace ho1 := ho1.no hc10
        replace hbase1 := Nat.le_trans hbase1 (hc10).size
        replace hV1 := hV1.no hc10
        replace hleli1 := Nat.le_trans hleli1 (hc10).size
        replace ho3 := ho3.no hc10
        replace hglg1 := Nat.lt_of_lt_of_le hglg1 (hc10).size
        replace hsl1 := hsl1.no hc10
        replace hV2 := hV2.no hc10
        replace hleli2 := Nat.le_trans hleli2 (hc10).size
        replace ho5 := ho5.no hc10
        replace hbase2 := Nat.le_trans hbase2 (hc10).size
        replace hV3 := hV3.no hc10
        replace hleli3 := Nat.le_trans hleli3 (hc10).size
        replace ho9 := ho9.no hc10
        replace hV4 := hV4.no hc10
        replace hleli4 := Nat.le_trans hleli4 (hc10).size
        replace ho11 := ho11.no hc10
        replace hbase3 := Nat.le_trans hbase3 (hc10).size
        replace hr4 := hr4.no hc10
        refine VL_pure 8 [17, 120] [(17, .pointer (some ⟨b7, 0, none⟩)), (120, .bool ((msgT (muR bt) (muB bt) (muK bt) (vals li4)) == bt))] (by kernel_rfl) rfl ?_
        refine VL_known ((msgT (muR bt) (muB bt) (muK bt) (vals li4)) == bt) (fun bV => [(17, .pointer (some ⟨b7, 0, none⟩)), (120, .bool bV)]) true rfl (by rw [hvb, (msg_back hb (by first | assumption | exact Classical.not_not.1 (by assumption))).2]; simp) ?_
        refine VL_load (d := 121) (t := 24) (a := ⟨b7, 0, none⟩) (v := .agg #[.int .i64 (muR bt), .bool (muB bt), .int .i64 (muK bt), .slice Ai4 li4.length ci4]) (by kernel_rfl) (by kernel_rfl) (Loads.ownL ho11 (n := 4) (by kernel_rfl) (by kernel_rfl) (by kernel_rfl)) ?_
        have hzs20 := hS.size
        have hzl52 := ho1.lt
        have hzl53 := ho3.lt
        have hzl54 := ho5.lt
        have hzl55 := ho9.lt
        have hzl56 := ho11.lt
        refine VL_call (d := 122) (f := 17) (by kernel_rfl) (by kernel_rfl) (by kernel_rfl) Try.call17 (right16_any (muR bt) (muB bt) (muK bt) Ai4 li4.length ci4 w18.heap.size w19.heap.size li4 _ rfl hV4 (by omega) (by first | exact Nat.le_refl _ | omega)) ?_
        rintro _ w24 ⟨rfl, hc11⟩
        replace hS := Step.trans hS hc11
        replace hA := hA.no hc11
        replace hD := hD.no hc11
        replace ho1 := ho1.no hc11
        replace hbase1 := Nat.le_trans hbase1 (hc11).size
        replace hV1 := hV1.no hc11
        replace hleli1 := Nat.le_trans hleli1 (hc11).size
        replace ho3 := ho3.no hc11
        replace hglg1 := Nat.lt_of_lt_of_le hglg1 (hc11).size
        replace hsl1 := hsl1.no hc11
        replace hV2 := hV2.no hc11
        replace hleli2 := Nat.le_trans hleli2 (hc11).size
        replace ho5 := ho5.no hc11
        replace hbase2 := Nat.le_trans hbase2 (hc11).size
        replace hV3 := hV3.no hc11
        replace hleli3 := Nat.le_trans hleli3 (hc11).size
        replace ho9 := ho9.no hc11
        replace hV4 := hV4.no hc11
        replace hleli4 := Nat.le_trans hleli4 (hc11).size
        replace ho11 := ho11.no hc11
        replace hbase3 := Nat.le_trans hbase3 (hc11).size
        replace hr4 := hr4.no hc11
        refine VL_pure 12 [8] [(8, .bool (rightM (muR bt) (muK bt) (vals li4)))] (by kernel_rfl) rfl ?_
        refine VL_end (by kernel_rfl) ?_
        refine VQ_next ?_
        refine VC_ret ?_
        refine VQ_ret1 (.bool (rightM (muR bt) (muK bt) (vals li4))) (.inr rfl) rfl rfl ?_
        exact ⟨congrArg Value.bool (by rw [hvb]; exact (msg_of (msg_back hb (by first | assumption | exact Classical.not_not.1 (by assumption))).1).1), hS⟩
    · refine VL_pure 20 [1, 86] [(1, .slice D nD cD), (86, .bool false)] (by kernel_rfl) rfl ?_
      refine VL_end (by kernel_rfl) ?_
      refine VQ_next ?_
      refine VC_false (by kernel_rfl) ?_
      refine VC_skip ?_
      refine VQ_next ?_
      refine VC_seq ?_
      refine VC_region ?_
      refine VL_pure 1 [1, 88] [(1, .slice D nD cD), (88, .slice D nD cD)] (by kernel_rfl) rfl ?_
      have hzs21 := hS.size
      have hzl57 := ho1.lt
      have hzl58 := ho3.lt
      have hzl59 := ho5.lt
      have hzl60 := ho9.lt
      refine VL_call (d := 89) (f := 13) (by kernel_rfl) (by kernel_rfl) (by kernel_rfl) Try.call13 (msgun_any D nD cD _ bt _ hnD hD (by omega) hb (by omega) (by first | exact Nat.le_refl _ | omega)) ?_
      rintro _ w25 ⟨Ai5, ci5, li5, rfl, hv5, hI5, hc12⟩
      replace hS := Step.trans hS hc12
      replace hA := hA.no hc12
      replace hD := hD.no hc12
      replace ho1 := ho1.no hc12
      replace hbase1 := Nat.le_trans hbase1 (hc12).size
      replace hV1 := hV1.no hc12
      replace hleli1 := Nat.le_trans hleli1 (hc12).size
      replace ho3 := ho3.no hc12
      replace hglg1 := Nat.lt_of_lt_of_le hglg1 (hc12).size
      replace hsl1 := hsl1.no hc12
      replace hV2 := hV2.no hc12
      replace hleli2 := Nat.le_trans hleli2 (hc12).size
      replace ho5 := ho5.no hc12
      replace hbase2 := Nat.le_trans hbase2 (hc12).size
      replace hV3 := hV3.no hc12
      replace hleli3 := Nat.le_trans hleli3 (hc12).size
      replace ho9 := ho9.no hc12
      have hleli5 : w25.heap.size ≤ w25.heap.size := Nat.le_refl _
      have hV5 := Ier.ies hI5
      have hcntli5 : li5.length ≤ 16 := by rw [← vals_len, hv5]; exact muL_count bt
      have hcali5 : li5.length ≤ ci5 := RwS.cap hI5.row
      have hibli5 : ∀ x ∈ li5, IeB x := mu_ieb hv5 hb
      have hsmli5 : ∀ x ∈ li5, x.n ≤ 200 := mu_small hV5 hv5 hb
      refine VL_pure 5 [1, 90, 91] [(1, .slice D nD cD), (90, .agg #[.int .i64 (muR bt), .bool (muB bt), .int .i64 (muK bt), .slice Ai5 li5.length ci5]), (91, .int .i64 (muE bt))] (by kernel_rfl) rfl ?_
      have hzs22 := hS.size
      have hzl61 := ho1.lt
      have hzk38 := hbase1
      have hzk39 := hleli1
      have hzl62 := ho3.lt
      have hzk40 := hglg1
      have hzk41 := hleli2
      have hzl63 := ho5.lt
      have hzk42 := hbase2
      have hzk43 := hleli3
      have hzl64 := ho9.lt
      have hzk44 := hleli5
      refine VL_box (d := 17) (t := 24) (c := #[.int .i64 0, .bool false, .int .i64 0, .slice none 0 0]) (by kernel_rfl) (by kernel_rfl) ?_
      intro b8 w26 hn8
      replace hS := Step.trans hS (hn8.step No)
      replace hA := hA.no (hn8.step No)
      replace hD := hD.no (hn8.step No)
      replace ho1 := ho1.no (hn8.step No)
      replace hbase1 := Nat.le_trans hbase1 (hn8.step No).size
      replace hV1 := hV1.no (hn8.step No)
      replace hleli1 := Nat.le_trans hleli1 (hn8.step No).size
      replace ho3 := ho3.no (hn8.step No)
      replace hglg1 := Nat.lt_of_lt_of_le hglg1 (hn8.step No).size
      replace hsl1 := hsl1.no (hn8.step No)
      replace hV2 := hV2.no (hn8.step No)
      replace hleli2 := Nat.le_trans hleli2 (hn8.step No).size
      replace ho5 := ho5.no (hn8.step No)
      replace hbase2 := Nat.le_trans hbase2 (hn8.step No).size
      replace hV3 := hV3.no (hn8.step No)
      replace hleli3 := Nat.le_trans hleli3 (hn8.step No).size
      replace ho9 := ho9.no (hn8.step No)
      replace hV5 := hV5.no (hn8.step No)
      replace hleli5 := Nat.le_trans hleli5 (hn8.step No).size
      have ho12 := hn8.own
      have hzhn8 := hn8.size
      have hqhn8 := hn8.eqb
      refine VL_store (b := b8) (o := 0) (vs := [.int .i64 (muR bt), .bool (muB bt), .int .i64 (muK bt), .slice Ai5 li5.length ci5]) (by kernel_rfl) (by kernel_rfl) ho12 (Nat.le_of_ble_eq_true (by kernel_rfl)) ?_
      intro w27 hw5
      replace hS := Step.transNew hS hw5.step (fun _ _ _ => by omega)
      replace hA := hA.step hw5.step (fun k hk1 hk2 (hF : k = b8) => by omega)
      replace hD := hD.step hw5.step (fun k hk (hF : k = b8) => by omega)
      replace ho1 := ho1.step hw5.step (show ¬ b1 = b8 by omega)
      replace hbase1 := Nat.le_trans hbase1 (hw5.step).size
      replace hV1 := hV1.step hw5.step (fun k hk1 hk2 (hF : k = b8) => by omega)
      replace hleli1 := Nat.le_trans hleli1 (hw5.step).size
      replace ho3 := ho3.step hw5.step (show ¬ b2 = b8 by omega)
      replace hglg1 := Nat.lt_of_lt_of_le hglg1 (hw5.step).size
      replace hsl1 := hsl1.keepB hw5.step (show ¬ g1 = b8 by omega)
      replace hV2 := hV2.step hw5.step (fun k hk1 hk2 (hF : k = b8) => by omega)
      replace hleli2 := Nat.le_trans hleli2 (hw5.step).size
      replace ho5 := ho5.step hw5.step (show ¬ b3 = b8 by omega)
      replace hbase2 := Nat.le_trans hbase2 (hw5.step).size
      replace hV3 := hV3.step hw5.step (fun k hk1 hk2 (hF : k = b8) => by omega)
      replace hleli3 := Nat.le_trans hleli3 (hw5.step).size
      replace ho9 := ho9.step hw5.step (show ¬ b6 = b8 by omega)
      replace hV5 := hV5.step hw5.step (fun k hk1 hk2 (hF : k = b8) => by omega)
      replace hleli5 := Nat.le_trans hleli5 (hw5.step).size
      have ho13 : Own w27 b8 #[.int .i64 (muR bt), .bool (muB bt), .int .i64 (muK bt), .slice Ai5 li5.length ci5] 24 := Own.cast hw5.own (by kernel_rfl)
      have hzhw5 := hw5.same
      refine VL_pure 8 [1, 17, 18] [(1, .slice D nD cD), (17, .pointer (some ⟨b8, 0, none⟩)), (18, .int .i64 (muE bt))] (by kernel_rfl) rfl ?_
      refine VL_end (by kernel_rfl) ?_
      refine VQ_next ?_
      refine VC_seq ?_
      refine VC_seq ?_
      refine VC_region ?_
      refine VL_pure 2 [1, 17, 93] [(1, .slice D nD cD), (17, .pointer (some ⟨b8, 0, none⟩)), (93, .bool ((muE bt) != 0))] (by kernel_rfl) rfl ?_
      refine VL_end (by kernel_rfl) ?_
      refine VQ_next ?_
      refine VC_ne (muE bt) 0 (by kernel_rfl) (fun h3 => ?_) (fun h3 => ?_)
      · refine VC_seq ?_
        refine VC_region ?_
        refine VL_pure 1 [17, 94] [(17, .pointer (some ⟨b8, 0, none⟩)), (94, .pointer (some ⟨b8, 0, none⟩))] (by kernel_rfl) rfl ?_
        refine VL_load (d := 95) (t := 3) (a := ⟨b8, 0, none⟩) (v := .int .i64 (muR bt)) (by kernel_rfl) (by kernel_rfl) (Loads.own1 ho13 (by kernel_rfl) (by rfl)) ?_
        refine VL_pure 4 [17, 97] [(17, .pointer (some ⟨b8, 0, none⟩)), (97, .bool ((muR bt) == 0))] (by kernel_rfl) rfl ?_
        refine VL_known ((muR bt) == 0) (fun bV => [(17, .pointer (some ⟨b8, 0, none⟩)), (97, .bool bV)]) true rfl (by rw [(mu_n (by assumption)).1]; rfl) ?_
        refine VL_pure 5 [17, 97, 98] [(17, .pointer (some ⟨b8, 0, none⟩)), (97, .bool true), (98, .pointer (some ⟨b8, 2, none⟩))] (by kernel_rfl) rfl ?_
        refine VL_load (d := 99) (t := 3) (a := ⟨b8, 2, none⟩) (v := .int .i64 (muK bt)) (by kernel_rfl) (by kernel_rfl) (Loads.own1 ho13 (by kernel_rfl) (by rfl)) ?_
        refine VL_pure 9 [17, 102] [(17, .pointer (some ⟨b8, 0, none⟩)), (102, .bool ((muK bt) == 0))] (by kernel_rfl) rfl ?_
        refine VL_known ((muK bt) == 0) (fun bV => [(17, .pointer (some ⟨b8, 0, none⟩)), (102, .bool bV)]) true rfl (by rw [(mu_n (by assumption)).2.2.1]; rfl) ?_
        refine VL_pure 10 [102, 103] [(102, .bool true), (103, .pointer (some ⟨b8, 3, none⟩))] (by kernel_rfl) rfl ?_
        refine VL_load (d := 104) (t := 22) (a := ⟨b8, 3, none⟩) (v := .slice Ai5 li5.length ci5) (by kernel_rfl) (by kernel_rfl) (Loads.own1 ho13 (by kernel_rfl) (by rfl)) ?_
        refine VL_pure 15 [8] [(8, .bool (((li5.length : Nat) : Int) == 0))] (by kernel_rfl) rfl ?_
        refine VL_end (by kernel_rfl) ?_
        refine VQ_next ?_
        refine VC_ret ?_
        refine VQ_then_ret ?_
        refine VQ_ret1 (.bool (((li5.length : Nat) : Int) == 0)) (.inr rfl) rfl rfl ?_
        exact ⟨congrArg Value.bool (by rw [beq_iff_eq]; have hq9 := mu_none (by assumption) (by assumption); omega), hS⟩
      · refine VC_skip ?_
        refine VQ_next ?_
        refine VC_seq ?_
        have hvb := hv5
        refine VC_region ?_
        refine VL_load (d := 109) (t := 24) (a := ⟨b8, 0, none⟩) (v := .agg #[.int .i64 (muR bt), .bool (muB bt), .int .i64 (muK bt), .slice Ai5 li5.length ci5]) (by kernel_rfl) (by kernel_rfl) (Loads.ownL ho13 (n := 4) (by kernel_rfl) (by kernel_rfl) (by kernel_rfl)) ?_
        have hzs23 := hS.size
        have hzl65 := ho1.lt
        have hzl66 := ho3.lt
        have hzl67 := ho5.lt
        have hzl68 := ho9.lt
        have hzl69 := ho13.lt
        refine VL_call (d := 110) (f := 11) (by kernel_rfl) (by kernel_rfl) (by kernel_rfl) Try.call11 (msgpack_any (muR bt) (muB bt) (muK bt) Ai5 li5.length ci5 w18.heap.size w25.heap.size li5 _ rfl hV5 (by omega) (by first | exact Nat.le_refl _ | omega)) ?_
        rintro _ w28 ⟨A5, c5, rfl, hr5, hc13⟩
        replace hS := Step.trans hS hc13
        replace hA := hA.no hc13
        replace hD := hD.no hc13
        replace ho1 := ho1.no hc13
        replace hbase1 := Nat.le_trans hbase1 (hc13).size
        replace hV1 := hV1.no hc13
        replace hleli1 := Nat.le_trans hleli1 (hc13).size
        replace ho3 := ho3.no hc13
        replace hglg1 := Nat.lt_of_lt_of_le hglg1 (hc13).size
        replace hsl1 := hsl1.no hc13
        replace hV2 := hV2.no hc13
        replace hleli2 := Nat.le_trans hleli2 (hc13).size
        replace ho5 := ho5.no hc13
        replace hbase2 := Nat.le_trans hbase2 (hc13).size
        replace hV3 := hV3.no hc13
        replace hleli3 := Nat.le_trans hleli3 (hc13).size
        replace ho9 := ho9.no hc13
        replace hV5 := hV5.no hc13
        replace hleli5 := Nat.le_trans hleli5 (hc13).size
        replace ho13 := ho13.no hc13
        obtain ⟨base3, hbase4E⟩ : ∃ x, x = w27.heap.size := ⟨_, rfl⟩
        rw [← hbase4E] at hr5
        have hbase4 : base3 ≤ w28.heap.size := by rw [hbase4E]; exact hc13.size
        have hmlq3 := msgT_le (muR bt) (muB bt) (muK bt) (vals li5)
        refine VL_pure 7 [1, 17, 19, 20] [(1, .slice D nD cD), (17, .pointer (some ⟨b8, 0, none⟩)), (19, .slice A5 ((msgT (muR bt) (muB bt) (muK bt) (vals li5)).length) c5), (20, .int .i64 (msgE (muR bt) (muB bt) (muK bt) (vals li5)))] (by kernel_rfl) rfl ?_
        refine VL_end (by kernel_rfl) ?_
        refine VQ_next ?_
        refine VC_seq ?_
        refine VC_region ?_
        refine VL_pure 3 [1, 17, 19, 115] [(1, .slice D nD cD), (17, .pointer (some ⟨b8, 0, none⟩)), (19, .slice A5 ((msgT (muR bt) (muB bt) (muK bt) (vals li5)).length) c5), (115, .bool ((msgE (muR bt) (muB bt) (muK bt) (vals li5)) == 0))] (by kernel_rfl) rfl ?_
        refine VL_known ((msgE (muR bt) (muB bt) (muK bt) (vals li5)) == 0) (fun bV => [(1, .slice D nD cD), (17, .pointer (some ⟨b8, 0, none⟩)), (19, .slice A5 ((msgT (muR bt) (muB bt) (muK bt) (vals li5)).length) c5), (115, .bool bV)]) true rfl (by rw [hvb, (msg_back hb (by first | assumption | exact Classical.not_not.1 (by assumption))).1]; rfl) ?_
        refine VL_pure 5 [17, 115, 116, 117] [(17, .pointer (some ⟨b8, 0, none⟩)), (115, .bool true), (116, .slice A5 ((msgT (muR bt) (muB bt) (muK bt) (vals li5)).length) c5), (117, .slice D nD cD)] (by kernel_rfl) rfl ?_
        have hzs24 := hS.size
        have hzl70 := ho1.lt
        have hzl71 := ho3.lt
        have hzl72 := ho5.lt
        have hzl73 := ho9.lt
        have hzl74 := ho13.lt
        refine VL_call (d := 118) (f := 15) (args := #[.slice A5 ((msgT (muR bt) (muB bt) (muK bt) (vals li5)).length) c5, .slice D nD cD]) (by kernel_rfl) (by kernel_rfl) (by kernel_rfl) Try.call15 (same_any A5 ((msgT (muR bt) (muB bt) (muK bt) (vals li5)).length) c5 _ (msgT (muR bt) (muB bt) (muK bt) (vals li5)) D nD cD _ bt _ (Rw.lenI hr5) (Rw.slI hr5) hnD hD (by omega) (by omega) (by first | exact Nat.le_refl _ | omega) (by first | exact Nat.le_refl _ | omega)) ?_
        rintro _ w29 ⟨rfl, hc14⟩
        replace hS := Step.trans hS hc14
        replace hA := hA.no hc14
        replace hD := hD.no hc14
        replace ho1 := ho1.no hc14
        replace hbase1 := Nat.le_trans hbase1 (hc14).size
        replace hV1 := hV1.no hc14
        replace hleli1 := Nat.le_trans hleli1 (hc14).size
        replace ho3 := ho3.no hc14
        replace hglg1 := Nat.lt_of_lt_of_le hglg1 (hc14).size
        replace hsl1 := hsl1.no hc14
        replace hV2 := hV2.no hc14
        replace hleli2 := Nat.le_trans hleli2 (hc14).size
        replace ho5 := ho5.no hc14
        replace hbase2 := Nat.le_trans hbase2 (hc14).size
        replace hV3 := hV3.no hc14
        replace hleli3 := Nat.le_trans hleli3 (hc14).size
        replace ho9 := ho9.no hc14
        replace hV5 := hV5.no hc14
        replace hleli5 := Nat.le_trans hleli5 (hc14).size
        replace ho13 := ho13.no hc14
        replace hbase4 := Nat.le_trans hbase4 (hc14).size
        replace hr5 := hr5.no hc14
        refine VL_pure 8 [17, 120] [(17, .pointer (some ⟨b8, 0, none⟩)), (120, .bool ((msgT (muR bt) (muB bt) (muK bt) (vals li5)) == bt))] (by kernel_rfl) rfl ?_
        refine VL_known ((msgT (muR bt) (muB bt) (muK bt) (vals li5)) == bt) (fun bV => [(17, .pointer (some ⟨b8, 0, none⟩)), (120, .bool bV)]) true rfl (by rw [hvb, (msg_back hb (by first | assumption | exact Classical.not_not.1 (by assumption))).2]; simp) ?_
        refine VL_load (d := 121) (t := 24) (a := ⟨b8, 0, none⟩) (v := .agg #[.int .i64 (muR bt), .bool (muB bt), .int .i64 (muK bt), .slice Ai5 li5.length ci5]) (by kernel_rfl) (by kernel_rfl) (Loads.ownL ho13 (n := 4) (by kernel_rfl) (by kernel_rfl) (by kernel_rfl)) ?_
        have hzs25 := hS.size
        have hzl75 := ho1.lt
        have hzl76 := ho3.lt
        have hzl77 := ho5.lt
        have hzl78 := ho9.lt
        have hzl79 := ho13.lt
        refine VL_call (d := 122) (f := 17) (by kernel_rfl) (by kernel_rfl) (by kernel_rfl) Try.call17 (right16_any (muR bt) (muB bt) (muK bt) Ai5 li5.length ci5 w18.heap.size w25.heap.size li5 _ rfl hV5 (by omega) (by first | exact Nat.le_refl _ | omega)) ?_
        rintro _ w30 ⟨rfl, hc15⟩
        replace hS := Step.trans hS hc15
        replace hA := hA.no hc15
        replace hD := hD.no hc15
        replace ho1 := ho1.no hc15
        replace hbase1 := Nat.le_trans hbase1 (hc15).size
        replace hV1 := hV1.no hc15
        replace hleli1 := Nat.le_trans hleli1 (hc15).size
        replace ho3 := ho3.no hc15
        replace hglg1 := Nat.lt_of_lt_of_le hglg1 (hc15).size
        replace hsl1 := hsl1.no hc15
        replace hV2 := hV2.no hc15
        replace hleli2 := Nat.le_trans hleli2 (hc15).size
        replace ho5 := ho5.no hc15
        replace hbase2 := Nat.le_trans hbase2 (hc15).size
        replace hV3 := hV3.no hc15
        replace hleli3 := Nat.le_trans hleli3 (hc15).size
        replace ho9 := ho9.no hc15
        replace hV5 := hV5.no hc15
        replace hleli5 := Nat.le_trans hleli5 (hc15).size
        replace ho13 := ho13.no hc15
        replace hbase4 := Nat.le_trans hbase4 (hc15).size
        replace hr5 := hr5.no hc15
        refine VL_pure 12 [8] [(8, .bool (rightM (muR bt) (muK bt) (vals li5)))] (by kernel_rfl) rfl ?_
        refine VL_end (by kernel_rfl) ?_
        refine VQ_next ?_
        refine VC_ret ?_
        refine VQ_ret1 (.bool (rightM (muR bt) (muK bt) (vals li5))) (.inr rfl) rfl rfl ?_
        exact ⟨congrArg Value.bool (by rw [hvb]; exact (msg_of (msg_back hb (by first | assumption | exact Classical.not_not.1 (by assumption))).1).1), hS⟩
  · refine VC_skip ?_
    refine VQ_next ?_
    refine VC_seq ?_
    refine VC_region ?_
    refine VL_pure 1 [1, 88] [(1, .slice D nD cD), (88, .slice D nD cD)] (by kernel_rfl) rfl ?_
    have hzs26 := hS.size
    have hzl80 := ho1.lt
    refine VL_call (d := 89) (f := 13) (by kernel_rfl) (by kernel_rfl) (by kernel_rfl) Try.call13 (msgun_any D nD cD _ bt _ hnD hD (by omega) hb (by omega) (by first | exact Nat.le_refl _ | omega)) ?_
    rintro _ w31 ⟨Ai6, ci6, li6, rfl, hv6, hI6, hc16⟩
    replace hS := Step.trans hS hc16
    replace hA := hA.no hc16
    replace hD := hD.no hc16
    replace ho1 := ho1.no hc16
    replace hbase1 := Nat.le_trans hbase1 (hc16).size
    replace hr1 := hr1.no hc16
    have hleli6 : w31.heap.size ≤ w31.heap.size := Nat.le_refl _
    have hV6 := Ier.ies hI6
    have hcntli6 : li6.length ≤ 16 := by rw [← vals_len, hv6]; exact muL_count bt
    have hcali6 : li6.length ≤ ci6 := RwS.cap hI6.row
    have hibli6 : ∀ x ∈ li6, IeB x := mu_ieb hv6 hb
    have hsmli6 : ∀ x ∈ li6, x.n ≤ 200 := mu_small hV6 hv6 hb
    refine VL_pure 5 [1, 90, 91] [(1, .slice D nD cD), (90, .agg #[.int .i64 (muR bt), .bool (muB bt), .int .i64 (muK bt), .slice Ai6 li6.length ci6]), (91, .int .i64 (muE bt))] (by kernel_rfl) rfl ?_
    have hzs27 := hS.size
    have hzl81 := ho1.lt
    have hzk45 := hbase1
    have hzk46 := hleli6
    have hub4 := hr1.ub
    refine VL_box (d := 17) (t := 24) (c := #[.int .i64 0, .bool false, .int .i64 0, .slice none 0 0]) (by kernel_rfl) (by kernel_rfl) ?_
    intro b9 w32 hn9
    replace hS := Step.trans hS (hn9.step No)
    replace hA := hA.no (hn9.step No)
    replace hD := hD.no (hn9.step No)
    replace ho1 := ho1.no (hn9.step No)
    replace hbase1 := Nat.le_trans hbase1 (hn9.step No).size
    replace hr1 := hr1.no (hn9.step No)
    replace hV6 := hV6.no (hn9.step No)
    replace hleli6 := Nat.le_trans hleli6 (hn9.step No).size
    have ho14 := hn9.own
    have hzhn9 := hn9.size
    have hqhn9 := hn9.eqb
    refine VL_store (b := b9) (o := 0) (vs := [.int .i64 (muR bt), .bool (muB bt), .int .i64 (muK bt), .slice Ai6 li6.length ci6]) (by kernel_rfl) (by kernel_rfl) ho14 (Nat.le_of_ble_eq_true (by kernel_rfl)) ?_
    intro w33 hw6
    replace hS := Step.transNew hS hw6.step (fun _ _ _ => by omega)
    replace hA := hA.step hw6.step (fun k hk1 hk2 (hF : k = b9) => by omega)
    replace hD := hD.step hw6.step (fun k hk (hF : k = b9) => by omega)
    replace ho1 := ho1.step hw6.step (show ¬ b1 = b9 by omega)
    replace hbase1 := Nat.le_trans hbase1 (hw6.step).size
    replace hV6 := hV6.step hw6.step (fun k hk1 hk2 (hF : k = b9) => by omega)
    replace hleli6 := Nat.le_trans hleli6 (hw6.step).size
    have ho15 : Own w33 b9 #[.int .i64 (muR bt), .bool (muB bt), .int .i64 (muK bt), .slice Ai6 li6.length ci6] 24 := Own.cast hw6.own (by kernel_rfl)
    have hzhw6 := hw6.same
    refine VL_pure 8 [1, 17, 18] [(1, .slice D nD cD), (17, .pointer (some ⟨b9, 0, none⟩)), (18, .int .i64 (muE bt))] (by kernel_rfl) rfl ?_
    refine VL_end (by kernel_rfl) ?_
    refine VQ_next ?_
    refine VC_seq ?_
    refine VC_seq ?_
    refine VC_region ?_
    refine VL_pure 2 [1, 17, 93] [(1, .slice D nD cD), (17, .pointer (some ⟨b9, 0, none⟩)), (93, .bool ((muE bt) != 0))] (by kernel_rfl) rfl ?_
    refine VL_end (by kernel_rfl) ?_
    refine VQ_next ?_
    refine VC_ne (muE bt) 0 (by kernel_rfl) (fun h4 => ?_) (fun h4 => ?_)
    · refine VC_seq ?_
      refine VC_region ?_
      refine VL_pure 1 [17, 94] [(17, .pointer (some ⟨b9, 0, none⟩)), (94, .pointer (some ⟨b9, 0, none⟩))] (by kernel_rfl) rfl ?_
      refine VL_load (d := 95) (t := 3) (a := ⟨b9, 0, none⟩) (v := .int .i64 (muR bt)) (by kernel_rfl) (by kernel_rfl) (Loads.own1 ho15 (by kernel_rfl) (by rfl)) ?_
      refine VL_pure 4 [17, 97] [(17, .pointer (some ⟨b9, 0, none⟩)), (97, .bool ((muR bt) == 0))] (by kernel_rfl) rfl ?_
      refine VL_known ((muR bt) == 0) (fun bV => [(17, .pointer (some ⟨b9, 0, none⟩)), (97, .bool bV)]) true rfl (by rw [(mu_n (by assumption)).1]; rfl) ?_
      refine VL_pure 5 [17, 97, 98] [(17, .pointer (some ⟨b9, 0, none⟩)), (97, .bool true), (98, .pointer (some ⟨b9, 2, none⟩))] (by kernel_rfl) rfl ?_
      refine VL_load (d := 99) (t := 3) (a := ⟨b9, 2, none⟩) (v := .int .i64 (muK bt)) (by kernel_rfl) (by kernel_rfl) (Loads.own1 ho15 (by kernel_rfl) (by rfl)) ?_
      refine VL_pure 9 [17, 102] [(17, .pointer (some ⟨b9, 0, none⟩)), (102, .bool ((muK bt) == 0))] (by kernel_rfl) rfl ?_
      refine VL_known ((muK bt) == 0) (fun bV => [(17, .pointer (some ⟨b9, 0, none⟩)), (102, .bool bV)]) true rfl (by rw [(mu_n (by assumption)).2.2.1]; rfl) ?_
      refine VL_pure 10 [102, 103] [(102, .bool true), (103, .pointer (some ⟨b9, 3, none⟩))] (by kernel_rfl) rfl ?_
      refine VL_load (d := 104) (t := 22) (a := ⟨b9, 3, none⟩) (v := .slice Ai6 li6.length ci6) (by kernel_rfl) (by kernel_rfl) (Loads.own1 ho15 (by kernel_rfl) (by rfl)) ?_
      refine VL_pure 15 [8] [(8, .bool (((li6.length : Nat) : Int) == 0))] (by kernel_rfl) rfl ?_
      refine VL_end (by kernel_rfl) ?_
      refine VQ_next ?_
      refine VC_ret ?_
      refine VQ_then_ret ?_
      refine VQ_ret1 (.bool (((li6.length : Nat) : Int) == 0)) (.inr rfl) rfl rfl ?_
      exact ⟨congrArg Value.bool (by rw [beq_iff_eq]; have hq9 := mu_none (by assumption) (by assumption); omega), hS⟩
    · refine VC_skip ?_
      refine VQ_next ?_
      refine VC_seq ?_
      have hvb := hv6
      refine VC_region ?_
      refine VL_load (d := 109) (t := 24) (a := ⟨b9, 0, none⟩) (v := .agg #[.int .i64 (muR bt), .bool (muB bt), .int .i64 (muK bt), .slice Ai6 li6.length ci6]) (by kernel_rfl) (by kernel_rfl) (Loads.ownL ho15 (n := 4) (by kernel_rfl) (by kernel_rfl) (by kernel_rfl)) ?_
      have hzs28 := hS.size
      have hzl82 := ho1.lt
      have hzl83 := ho15.lt
      refine VL_call (d := 110) (f := 11) (by kernel_rfl) (by kernel_rfl) (by kernel_rfl) Try.call11 (msgpack_any (muR bt) (muB bt) (muK bt) Ai6 li6.length ci6 w4.heap.size w31.heap.size li6 _ rfl hV6 (by omega) (by first | exact Nat.le_refl _ | omega)) ?_
      rintro _ w34 ⟨A6, c6, rfl, hr6, hc17⟩
      replace hS := Step.trans hS hc17
      replace hA := hA.no hc17
      replace hD := hD.no hc17
      replace ho1 := ho1.no hc17
      replace hbase1 := Nat.le_trans hbase1 (hc17).size
      replace hV6 := hV6.no hc17
      replace hleli6 := Nat.le_trans hleli6 (hc17).size
      replace ho15 := ho15.no hc17
      obtain ⟨base4, hbase5E⟩ : ∃ x, x = w33.heap.size := ⟨_, rfl⟩
      rw [← hbase5E] at hr6
      have hbase5 : base4 ≤ w34.heap.size := by rw [hbase5E]; exact hc17.size
      have hmlq4 := msgT_le (muR bt) (muB bt) (muK bt) (vals li6)
      refine VL_pure 7 [1, 17, 19, 20] [(1, .slice D nD cD), (17, .pointer (some ⟨b9, 0, none⟩)), (19, .slice A6 ((msgT (muR bt) (muB bt) (muK bt) (vals li6)).length) c6), (20, .int .i64 (msgE (muR bt) (muB bt) (muK bt) (vals li6)))] (by kernel_rfl) rfl ?_
      refine VL_end (by kernel_rfl) ?_
      refine VQ_next ?_
      refine VC_seq ?_
      refine VC_region ?_
      refine VL_pure 3 [1, 17, 19, 115] [(1, .slice D nD cD), (17, .pointer (some ⟨b9, 0, none⟩)), (19, .slice A6 ((msgT (muR bt) (muB bt) (muK bt) (vals li6)).length) c6), (115, .bool ((msgE (muR bt) (muB bt) (muK bt) (vals li6)) == 0))] (by kernel_rfl) rfl ?_
      refine VL_known ((msgE (muR bt) (muB bt) (muK bt) (vals li6)) == 0) (fun bV => [(1, .slice D nD cD), (17, .pointer (some ⟨b9, 0, none⟩)), (19, .slice A6 ((msgT (muR bt) (muB bt) (muK bt) (vals li6)).length) c6), (115, .bool bV)]) true rfl (by rw [hvb, (msg_back hb (by first | assumption | exact Classical.not_not.1 (by assumption))).1]; rfl) ?_
      refine VL_pure 5 [17, 115, 116, 117] [(17, .pointer (some ⟨b9, 0, none⟩)), (115, .bool true), (116, .slice A6 ((msgT (muR bt) (muB bt) (muK bt) (vals li6)).length) c6), (117, .slice D nD cD)] (by kernel_rfl) rfl ?_
      have hzs29 := hS.size
      have hzl84 := ho1.lt
      have hzl85 := ho15.lt
      refine VL_call (d := 118) (f := 15) (args := #[.slice A6 ((msgT (muR bt) (muB bt) (muK bt) (vals li6)).length) c6, .slice D nD cD]) (by kernel_rfl) (by kernel_rfl) (by kernel_rfl) Try.call15 (same_any A6 ((msgT (muR bt) (muB bt) (muK bt) (vals li6)).length) c6 _ (msgT (muR bt) (muB bt) (muK bt) (vals li6)) D nD cD _ bt _ (Rw.lenI hr6) (Rw.slI hr6) hnD hD (by omega) (by omega) (by first | exact Nat.le_refl _ | omega) (by first | exact Nat.le_refl _ | omega)) ?_
      rintro _ w35 ⟨rfl, hc18⟩
      replace hS := Step.trans hS hc18
      replace hA := hA.no hc18
      replace hD := hD.no hc18
      replace ho1 := ho1.no hc18
      replace hbase1 := Nat.le_trans hbase1 (hc18).size
      replace hV6 := hV6.no hc18
      replace hleli6 := Nat.le_trans hleli6 (hc18).size
      replace ho15 := ho15.no hc18
      replace hbase5 := Nat.le_trans hbase5 (hc18).size
      replace hr6 := hr6.no hc18
      refine VL_pure 8 [17, 120] [(17, .pointer (some ⟨b9, 0, none⟩)), (120, .bool ((msgT (muR bt) (muB bt) (muK bt) (vals li6)) == bt))] (by kernel_rfl) rfl ?_
      refine VL_known ((msgT (muR bt) (muB bt) (muK bt) (vals li6)) == bt) (fun bV => [(17, .pointer (some ⟨b9, 0, none⟩)), (120, .bool bV)]) true rfl (by rw [hvb, (msg_back hb (by first | assumption | exact Classical.not_not.1 (by assumption))).2]; simp) ?_
      refine VL_load (d := 121) (t := 24) (a := ⟨b9, 0, none⟩) (v := .agg #[.int .i64 (muR bt), .bool (muB bt), .int .i64 (muK bt), .slice Ai6 li6.length ci6]) (by kernel_rfl) (by kernel_rfl) (Loads.ownL ho15 (n := 4) (by kernel_rfl) (by kernel_rfl) (by kernel_rfl)) ?_
      have hzs30 := hS.size
      have hzl86 := ho1.lt
      have hzl87 := ho15.lt
      refine VL_call (d := 122) (f := 17) (by kernel_rfl) (by kernel_rfl) (by kernel_rfl) Try.call17 (right16_any (muR bt) (muB bt) (muK bt) Ai6 li6.length ci6 w4.heap.size w31.heap.size li6 _ rfl hV6 (by omega) (by first | exact Nat.le_refl _ | omega)) ?_
      rintro _ w36 ⟨rfl, hc19⟩
      replace hS := Step.trans hS hc19
      replace hA := hA.no hc19
      replace hD := hD.no hc19
      replace ho1 := ho1.no hc19
      replace hbase1 := Nat.le_trans hbase1 (hc19).size
      replace hV6 := hV6.no hc19
      replace hleli6 := Nat.le_trans hleli6 (hc19).size
      replace ho15 := ho15.no hc19
      replace hbase5 := Nat.le_trans hbase5 (hc19).size
      replace hr6 := hr6.no hc19
      refine VL_pure 12 [8] [(8, .bool (rightM (muR bt) (muK bt) (vals li6)))] (by kernel_rfl) rfl ?_
      refine VL_end (by kernel_rfl) ?_
      refine VQ_next ?_
      refine VC_ret ?_
      refine VQ_ret1 (.bool (rightM (muR bt) (muK bt) (vals li6))) (.inr rfl) rfl rfl ?_
      exact ⟨congrArg Value.bool (by rw [hvb]; exact (msg_of (msg_back hb (by first | assumption | exact Classical.not_not.1 (by assumption))).1).1), hS⟩

set_option maxRecDepth 100000 in
set_option maxHeartbeats 4000000 in
theorem back_o1 (r : Int) (bk : Bool) (k : Int) (A : Option Addr) (n c : Nat) (l : List IeV) (D : Option Addr) (nD cD : Nat) (bt : List Int) (q : Nat) (x : Int) (w : World) (hn : l.length = n) (hA : Ies w 0 w.heap.size A l) (hc : n ≤ c) (hl : ∀ x ∈ l, IeB x) (hmx : n ≤ 9223372036854775807) (hnD : bt.length = nD) (hD : Sl w w.heap.size D (iL .u8 bt)) (hcD : nD ≤ cD) (hb : Bytes bt) (hq : q < 65536) (hx : 0 ≤ x ∧ x < 256) (hf : fewB l = false)  :
    CV Try.prog 4 #[.agg #[.int .i64 r, .bool bk, .int .i64 k, .slice A n c], .slice D nD cD, .int .u16 ((q : Nat) : Int), .int .u8 x] w (fun x w1 => x = .bool true ∧ Step No w w1) := by
  have hS : Step No w w := Step.refl _ _
  refine CV_enter Try.f4 _ 124 [(0, .agg #[.int .i64 r, .bool bk, .int .i64 k, .slice A n c]), (1, .slice D nD cD), (2, .int .u16 ((q : Nat) : Int)), (3, .int .u8 x)] Try.func4 rfl rfl (by kernel_rfl) rfl ?_
  refine VC_seq ?_
  refine VC_region ?_
  have hzs1 := hS.size
  refine VL_box (d := 4) (t := 24) (c := #[.int .i64 r, .bool bk, .int .i64 k, .slice A n c]) (by kernel_rfl) (by kernel_rfl) ?_
  intro b1 w1 hn1
  replace hS := Step.trans hS (hn1.step No)
  replace hA := hA.no (hn1.step No)
  replace hD := hD.no (hn1.step No)
  have ho1 := hn1.own
  have hzhn1 := hn1.size
  have hqhn1 := hn1.eqb
  refine VL_pure 2 [1, 2, 3, 4] [(1, .slice D nD cD), (2, .int .u16 ((q : Nat) : Int)), (3, .int .u8 x), (4, .pointer (some ⟨b1, 0, none⟩))] (by kernel_rfl) rfl ?_
  refine VL_end (by kernel_rfl) ?_
  refine VQ_next ?_
  refine VC_seq ?_
  refine VC_seq ?_
  refine VC_region ?_
  have hzs2 := hS.size
  have hzl1 := ho1.lt
  refine VL_call (d := 21) (f := 9) (args := #[]) (by kernel_rfl) (by kernel_rfl) (by kernel_rfl) Try.call9 (awake_any _) ?_
  rintro _ w2 ⟨rfl, hc1⟩
  replace hS := Step.trans hS hc1
  replace hA := hA.no hc1
  replace hD := hD.no hc1
  replace ho1 := ho1.no hc1
  refine VL_pure 3 [1, 2, 3, 4, 23] [(1, .slice D nD cD), (2, .int .u16 ((q : Nat) : Int)), (3, .int .u8 x), (4, .pointer (some ⟨b1, 0, none⟩)), (23, .bool false)] (by kernel_rfl) rfl ?_
  refine VL_load (d := 24) (t := 24) (a := ⟨b1, 0, none⟩) (v := .agg #[.int .i64 r, .bool bk, .int .i64 k, .slice A n c]) (by kernel_rfl) (by kernel_rfl) (Loads.ownL ho1 (n := 4) (by kernel_rfl) (by kernel_rfl) (by kernel_rfl)) ?_
  have hzs3 := hS.size
  have hzl2 := ho1.lt
  refine VL_call (d := 25) (f := 10) (by kernel_rfl) (by kernel_rfl) (by kernel_rfl) Try.call10 (few16_any r bk k A n c 0 w.heap.size l _ hn hA (by omega)) ?_
  rintro _ w3 ⟨rfl, hc2⟩
  replace hS := Step.trans hS hc2
  replace hA := hA.no hc2
  replace hD := hD.no hc2
  replace ho1 := ho1.no hc2
  refine VL_pure 8 [1, 2, 3, 4, 28] [(1, .slice D nD cD), (2, .int .u16 ((q : Nat) : Int)), (3, .int .u8 x), (4, .pointer (some ⟨b1, 0, none⟩)), (28, .bool (!(fewB l)))] (by kernel_rfl) rfl ?_
  refine VL_known (fewB l) (fun bV => [(1, .slice D nD cD), (2, .int .u16 ((q : Nat) : Int)), (3, .int .u8 x), (4, .pointer (some ⟨b1, 0, none⟩)), (28, .bool (!bV))]) false rfl hf ?_
  refine VL_pure 12 [1, 2, 3, 4, 32] [(1, .slice D nD cD), (2, .int .u16 ((q : Nat) : Int)), (3, .int .u8 x), (4, .pointer (some ⟨b1, 0, none⟩)), (32, .bool true)] (by kernel_rfl) rfl ?_
  refine VL_end (by kernel_rfl) ?_
  refine VQ_next ?_
  refine VC_true (by kernel_rfl) ?_
  refine VC_seq ?_
  refine VC_region ?_
  have hzs4 := hS.size
  have hzl3 := ho1.lt
  refine VL_call (d := 33) (f := 9) (args := #[]) (by kernel_rfl) (by kernel_rfl) (by kernel_rfl) Try.call9 (awake_any _) ?_
  rintro _ w4 ⟨rfl, hc3⟩
  replace hS := Step.trans hS hc3
  replace hA := hA.no hc3
  replace hD := hD.no hc3
  replace ho1 := ho1.no hc3
  refine VL_pure 2 [8] [(8, .bool true)] (by kernel_rfl) rfl ?_
  refine VL_end (by kernel_rfl) ?_
  refine VQ_next ?_
  refine VC_ret ?_
  refine VQ_then_ret ?_
  refine VQ_ret1 (.bool true) (.inr rfl) rfl rfl ?_
  exact ⟨rfl, hS⟩

set_option maxRecDepth 100000 in
set_option maxHeartbeats 4000000 in
theorem back_o2 (r : Int) (bk : Bool) (k : Int) (A : Option Addr) (n c : Nat) (l : List IeV) (D : Option Addr) (nD cD : Nat) (bt : List Int) (q : Nat) (x : Int) (w : World) (hn : l.length = n) (hA : Ies w 0 w.heap.size A l) (hc : n ≤ c) (hl : ∀ x ∈ l, IeB x) (hmx : n ≤ 9223372036854775807) (hnD : bt.length = nD) (hD : Sl w w.heap.size D (iL .u8 bt)) (hcD : nD ≤ cD) (hb : Bytes bt) (hq : q < 65536) (hx : 0 ≤ x ∧ x < 256) (hf : fewB l = true) (hlonD : 1501 ≤ nD) :
    CV Try.prog 4 #[.agg #[.int .i64 r, .bool bk, .int .i64 k, .slice A n c], .slice D nD cD, .int .u16 ((q : Nat) : Int), .int .u8 x] w (fun x w1 => x = .bool true ∧ Step No w w1) := by
  have hS : Step No w w := Step.refl _ _
  obtain ⟨hsm, hn20⟩ := fewB_yes hf
  rw [hn] at hn20
  refine CV_enter Try.f4 _ 124 [(0, .agg #[.int .i64 r, .bool bk, .int .i64 k, .slice A n c]), (1, .slice D nD cD), (2, .int .u16 ((q : Nat) : Int)), (3, .int .u8 x)] Try.func4 rfl rfl (by kernel_rfl) rfl ?_
  refine VC_seq ?_
  refine VC_region ?_
  have hzs1 := hS.size
  refine VL_box (d := 4) (t := 24) (c := #[.int .i64 r, .bool bk, .int .i64 k, .slice A n c]) (by kernel_rfl) (by kernel_rfl) ?_
  intro b1 w1 hn1
  replace hS := Step.trans hS (hn1.step No)
  replace hA := hA.no (hn1.step No)
  replace hD := hD.no (hn1.step No)
  have ho1 := hn1.own
  have hzhn1 := hn1.size
  have hqhn1 := hn1.eqb
  refine VL_pure 2 [1, 2, 3, 4] [(1, .slice D nD cD), (2, .int .u16 ((q : Nat) : Int)), (3, .int .u8 x), (4, .pointer (some ⟨b1, 0, none⟩))] (by kernel_rfl) rfl ?_
  refine VL_end (by kernel_rfl) ?_
  refine VQ_next ?_
  refine VC_seq ?_
  refine VC_seq ?_
  refine VC_region ?_
  have hzs2 := hS.size
  have hzl1 := ho1.lt
  refine VL_call (d := 21) (f := 9) (args := #[]) (by kernel_rfl) (by kernel_rfl) (by kernel_rfl) Try.call9 (awake_any _) ?_
  rintro _ w2 ⟨rfl, hc1⟩
  replace hS := Step.trans hS hc1
  replace hA := hA.no hc1
  replace hD := hD.no hc1
  replace ho1 := ho1.no hc1
  refine VL_pure 3 [1, 2, 3, 4, 23] [(1, .slice D nD cD), (2, .int .u16 ((q : Nat) : Int)), (3, .int .u8 x), (4, .pointer (some ⟨b1, 0, none⟩)), (23, .bool false)] (by kernel_rfl) rfl ?_
  refine VL_load (d := 24) (t := 24) (a := ⟨b1, 0, none⟩) (v := .agg #[.int .i64 r, .bool bk, .int .i64 k, .slice A n c]) (by kernel_rfl) (by kernel_rfl) (Loads.ownL ho1 (n := 4) (by kernel_rfl) (by kernel_rfl) (by kernel_rfl)) ?_
  have hzs3 := hS.size
  have hzl2 := ho1.lt
  refine VL_call (d := 25) (f := 10) (by kernel_rfl) (by kernel_rfl) (by kernel_rfl) Try.call10 (few16_any r bk k A n c 0 w.heap.size l _ hn hA (by omega)) ?_
  rintro _ w3 ⟨rfl, hc2⟩
  replace hS := Step.trans hS hc2
  replace hA := hA.no hc2
  replace hD := hD.no hc2
  replace ho1 := ho1.no hc2
  refine VL_pure 8 [1, 2, 3, 4, 28] [(1, .slice D nD cD), (2, .int .u16 ((q : Nat) : Int)), (3, .int .u8 x), (4, .pointer (some ⟨b1, 0, none⟩)), (28, .bool (!(fewB l)))] (by kernel_rfl) rfl ?_
  refine VL_known (fewB l) (fun bV => [(1, .slice D nD cD), (2, .int .u16 ((q : Nat) : Int)), (3, .int .u8 x), (4, .pointer (some ⟨b1, 0, none⟩)), (28, .bool (!bV))]) true rfl hf ?_
  refine VL_pure 12 [1, 2, 3, 4, 32] [(1, .slice D nD cD), (2, .int .u16 ((q : Nat) : Int)), (3, .int .u8 x), (4, .pointer (some ⟨b1, 0, none⟩)), (32, .bool (decide (((nD : Nat) : Int) > 1500)))] (by kernel_rfl) rfl ?_
  refine VL_end (by kernel_rfl) ?_
  refine VQ_next ?_
  refine VC_is (b := decide (((nD : Nat) : Int) > 1500)) true (by kernel_rfl) (by first | (simp; omega) | (simp; done) | simp [*]) ?_
  refine VC_ite_true ?_
  refine VC_seq ?_
  refine VC_region ?_
  have hzs4 := hS.size
  have hzl3 := ho1.lt
  refine VL_call (d := 33) (f := 9) (args := #[]) (by kernel_rfl) (by kernel_rfl) (by kernel_rfl) Try.call9 (awake_any _) ?_
  rintro _ w4 ⟨rfl, hc3⟩
  replace hS := Step.trans hS hc3
  replace hA := hA.no hc3
  replace hD := hD.no hc3
  replace ho1 := ho1.no hc3
  refine VL_pure 2 [8] [(8, .bool true)] (by kernel_rfl) rfl ?_
  refine VL_end (by kernel_rfl) ?_
  refine VQ_next ?_
  refine VC_ret ?_
  refine VQ_then_ret ?_
  refine VQ_ret1 (.bool true) (.inr rfl) rfl rfl ?_
  exact ⟨rfl, hS⟩

end Go.Proofs.Ytejpcmjokamdcaa
