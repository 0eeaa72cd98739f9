/- Layer 11: GatherLate. -/
import Derived.Test.YtgiefcolkohgkaaProg
import Derived.Test.YtgiefcolkohgkaaGa4
import Derived.Test.YtgiefcolkohgkaaGa6
import Derived.Test.YtgiefcolkohgkaaCe1
set_option linter.unusedVariables false
set_option linter.unusedSimpArgs false
namespace Go.Proofs.Ytgiefcolkohgkaa
open Go.Vc Go.RowKit

set_option maxRecDepth 100000 in
set_option maxHeartbeats 4000000 in
theorem late_yes (A : Option Addr) (n c : Nat) (bs : List Int) (D : Option Addr) (nD cD : Nat) (bt : List Int) (cut m : Nat) (tk : Bool) (w : World) (hn : bs.length = n) (hA : Sl w w.heap.size A (iL .u8 bs)) (hc : n ≤ c) (hb : Bytes bs) (hnD : bt.length = nD) (hDs : Sl w w.heap.size D (iL .u8 bt)) (hcD : nD ≤ cD) (hbD : Bytes bt) (hcut : cut < 256) (hm : m < 65536) (hlon : 41 ≤ n) (hhin : n ≤ 1000) (hlonD : 1 ≤ nD) (hhinD : nD ≤ 1000) :
    CV Try.prog 6 #[.slice A n c, .slice D nD cD, .int .u8 ((cut : Nat) : Int), .int .u16 ((m : Nat) : Int), .bool tk] w (fun x w1 => x = .bool true ∧ Step No w w1) := by
  have hS : Step No w w := Step.refl _ _
  refine CV_enterM Try.f6 _ 148 [(0, .slice A n c), (1, .slice D nD cD), (2, .int .u8 ((cut : Nat) : Int)), (3, .int .u16 ((m : Nat) : Int)), (4, .bool tk)] Try.func6 rfl rfl (by kernel_rfl) rfl ?_
  refine VC_seq ?_
  refine VC_region ?_
  have hzs1 := hS.size
  refine VL_box (d := 6) (t := 32) (c := #[.slice D nD cD]) (by kernel_rfl) (by kernel_rfl) ?_
  intro b1 w1 hn1
  replace hS := Step.trans hS (hn1.step No)
  replace hA := hA.no (hn1.step No)
  replace hDs := hDs.no (hn1.step No)
  have ho1 := hn1.own
  have hzhn1 := hn1.size
  have hqhn1 := hn1.eqb
  have hzs2 := hS.size
  have hzl1 := ho1.lt
  refine VL_box (d := 10) (t := 4) (c := #[.bool false]) (by kernel_rfl) (by kernel_rfl) ?_
  intro b2 w2 hn2
  replace hS := Step.trans hS (hn2.step No)
  replace hA := hA.no (hn2.step No)
  replace hDs := hDs.no (hn2.step No)
  replace ho1 := ho1.no (hn2.step No)
  have ho2 := hn2.own
  have hzhn2 := hn2.size
  have hqhn2 := hn2.eqb
  refine VL_end (by kernel_rfl) ?_
  refine VQ_next ?_
  refine VC_seq ?_
  refine VC_seq ?_
  refine VC_region ?_
  have hzs3 := hS.size
  have hzl2 := ho1.lt
  have hzl3 := ho2.lt
  refine VL_call (d := 24) (f := 9) (args := #[]) (by kernel_rfl) (by kernel_rfl) (by kernel_rfl) Try.call9 (awake_any _) ?_
  rintro _ w3 ⟨rfl, hc1⟩
  replace hS := Step.trans hS hc1
  replace hA := hA.no hc1
  replace hDs := hDs.no hc1
  replace ho1 := ho1.no hc1
  replace ho2 := ho2.no hc1
  refine VL_pure 8 [0, 2, 3, 4, 6, 10, 31] [(0, .slice A n c), (2, .int .u8 ((cut : Nat) : Int)), (3, .int .u16 ((m : Nat) : Int)), (4, .bool tk), (6, .pointer (some ⟨b1, 0, none⟩)), (10, .pointer (some ⟨b2, 0, none⟩)), (31, .bool (decide (((n : Nat) : Int) > 1000)))] (by kernel_rfl) rfl ?_
  refine VL_known (decide (((n : Nat) : Int) > 1000)) (fun bV => [(0, .slice A n c), (2, .int .u8 ((cut : Nat) : Int)), (3, .int .u16 ((m : Nat) : Int)), (4, .bool tk), (6, .pointer (some ⟨b1, 0, none⟩)), (10, .pointer (some ⟨b2, 0, none⟩)), (31, .bool bV)]) false rfl (by first | (simp; omega) | (simp; done) | simp [*]) ?_
  refine VL_load (d := 32) (t := 32) (a := ⟨b1, 0, none⟩) (v := .slice D nD cD) (by kernel_rfl) (by kernel_rfl) (Loads.own1 ho1 (by kernel_rfl) (by rfl)) ?_
  refine VL_pure 13 [0, 2, 3, 4, 6, 10, 36] [(0, .slice A n c), (2, .int .u8 ((cut : Nat) : Int)), (3, .int .u16 ((m : Nat) : Int)), (4, .bool tk), (6, .pointer (some ⟨b1, 0, none⟩)), (10, .pointer (some ⟨b2, 0, none⟩)), (36, .bool (decide (((nD : Nat) : Int) > 1000)))] (by kernel_rfl) rfl ?_
  refine VL_known (decide (((nD : Nat) : Int) > 1000)) (fun bV => [(0, .slice A n c), (2, .int .u8 ((cut : Nat) : Int)), (3, .int .u16 ((m : Nat) : Int)), (4, .bool tk), (6, .pointer (some ⟨b1, 0, none⟩)), (10, .pointer (some ⟨b2, 0, none⟩)), (36, .bool bV)]) false rfl (by first | (simp; omega) | (simp; done) | simp [*]) ?_
  refine VL_pure 18 [0, 2, 3, 4, 6, 10, 41] [(0, .slice A n c), (2, .int .u8 ((cut : Nat) : Int)), (3, .int .u16 ((m : Nat) : Int)), (4, .bool tk), (6, .pointer (some ⟨b1, 0, none⟩)), (10, .pointer (some ⟨b2, 0, none⟩)), (41, .bool (decide (((n : Nat) : Int) ≤ 40)))] (by kernel_rfl) rfl ?_
  refine VL_known (decide (((n : Nat) : Int) ≤ 40)) (fun bV => [(0, .slice A n c), (2, .int .u8 ((cut : Nat) : Int)), (3, .int .u16 ((m : Nat) : Int)), (4, .bool tk), (6, .pointer (some ⟨b1, 0, none⟩)), (10, .pointer (some ⟨b2, 0, none⟩)), (41, .bool bV)]) false rfl (by first | (simp; omega) | (simp; done) | simp [*]) ?_
  refine VL_load (d := 42) (t := 32) (a := ⟨b1, 0, none⟩) (v := .slice D nD cD) (by kernel_rfl) (by kernel_rfl) (Loads.own1 ho1 (by kernel_rfl) (by rfl)) ?_
  refine VL_pure 22 [0, 2, 3, 4, 6, 10, 45] [(0, .slice A n c), (2, .int .u8 ((cut : Nat) : Int)), (3, .int .u16 ((m : Nat) : Int)), (4, .bool tk), (6, .pointer (some ⟨b1, 0, none⟩)), (10, .pointer (some ⟨b2, 0, none⟩)), (45, .bool (((nD : Nat) : Int) == 0))] (by kernel_rfl) rfl ?_
  refine VL_end (by kernel_rfl) ?_
  refine VQ_next ?_
  refine VC_is (b := ((nD : Nat) : Int) == 0) false (by kernel_rfl) (by first | (simp; omega) | (simp; done) | simp [*]) ?_
  refine VC_ite_false ?_
  refine VC_skip ?_
  refine VQ_next ?_
  refine VC_seq ?_
  refine VC_region ?_
  refine VL_pure 2 [0, 2, 4, 6, 10, 48] [(0, .slice A n c), (2, .int .u8 ((cut : Nat) : Int)), (4, .bool tk), (6, .pointer (some ⟨b1, 0, none⟩)), (10, .pointer (some ⟨b2, 0, none⟩)), (48, .int .i64 (IntKind.wrap .i64 ((m : Nat) : Int)))] (by kernel_rfl) rfl ?_
  have he1 : IntKind.wrap .i64 ((m : Nat) : Int) = ((m : Nat) : Int) := (by rw [wrap_i64 _ (by omega) (by omega)])
  refine VL_eq [(0, .slice A n c), (2, .int .u8 ((cut : Nat) : Int)), (4, .bool tk), (6, .pointer (some ⟨b1, 0, none⟩)), (10, .pointer (some ⟨b2, 0, none⟩)), (48, .int .i64 ((m : Nat) : Int))] (by rw [he1]) ?_
  refine VL_pure 3 [0, 2, 4, 6, 10, 49] [(0, .slice A n c), (2, .int .u8 ((cut : Nat) : Int)), (4, .bool tk), (6, .pointer (some ⟨b1, 0, none⟩)), (10, .pointer (some ⟨b2, 0, none⟩)), (49, .int .i64 (IntKind.wrap .i64 (1 + ((m : Nat) : Int))))] (by kernel_rfl) rfl ?_
  have he2 : IntKind.wrap .i64 (1 + ((m : Nat) : Int)) = ((m + 1 : Nat) : Int) := (by rw [wrap_i64 _ (by omega) (by omega)]; omega)
  refine VL_eq [(0, .slice A n c), (2, .int .u8 ((cut : Nat) : Int)), (4, .bool tk), (6, .pointer (some ⟨b1, 0, none⟩)), (10, .pointer (some ⟨b2, 0, none⟩)), (49, .int .i64 ((m + 1 : Nat) : Int))] (by rw [he2]) ?_
  have hzs4 := hS.size
  have hzl4 := ho1.lt
  have hzl5 := ho2.lt
  refine VL_box (d := 11) (t := 3) (c := #[.int .i64 0]) (by kernel_rfl) (by kernel_rfl) ?_
  intro b3 w4 hn3
  replace hS := Step.trans hS (hn3.step No)
  replace hA := hA.no (hn3.step No)
  replace hDs := hDs.no (hn3.step No)
  replace ho1 := ho1.no (hn3.step No)
  replace ho2 := ho2.no (hn3.step No)
  have ho3 := hn3.own
  have hzhn3 := hn3.size
  have hqhn3 := hn3.eqb
  refine VL_store (b := b3) (o := 0) (vs := [.int .i64 ((m + 1 : Nat) : Int)]) (by kernel_rfl) (by kernel_rfl) ho3 (Nat.le_of_ble_eq_true (by kernel_rfl)) ?_
  intro w5 hw1
  replace hS := Step.transNew hS hw1.step (fun _ _ _ => by omega)
  replace hA := hA.step hw1.step (fun k hk (hF : k = b3) => by omega)
  replace hDs := hDs.step hw1.step (fun k hk (hF : k = b3) => by omega)
  replace ho1 := ho1.step hw1.step (show ¬ b1 = b3 by omega)
  replace ho2 := ho2.step hw1.step (show ¬ b2 = b3 by omega)
  have ho4 : Own w5 b3 #[.int .i64 ((m + 1 : Nat) : Int)] 3 := Own.cast hw1.own (by kernel_rfl)
  have hzhw1 := hw1.same
  refine VL_end (by kernel_rfl) ?_
  refine VQ_next ?_
  refine VC_seq ?_
  have hU2 := frame_un (bs := bt) (m := 2) (by omega) (by omega) hbD (by decide)
  refine VC_region ?_
  refine VL_load (d := 50) (t := 3) (a := ⟨b3, 0, none⟩) (v := .int .i64 ((m + 1 : Nat) : Int)) (by kernel_rfl) (by kernel_rfl) (Loads.own1 ho4 (by kernel_rfl) (by rfl)) ?_
  have hzs5 := hS.size
  have hzl6 := ho1.lt
  have hzl7 := ho2.lt
  have hzl8 := ho4.lt
  refine VL_call (d := 51) (f := 10) (by kernel_rfl) (by kernel_rfl) (by kernel_rfl) Try.call10 (gnew_any ((m + 1 : Nat) : Int) _) ?_
  rintro _ w6 ⟨gp1, rfl, hfgp1, hg1, hc2⟩
  replace hS := Step.trans hS hc2
  replace hA := hA.no hc2
  replace hDs := hDs.no hc2
  replace ho1 := ho1.no hc2
  replace ho2 := ho2.no hc2
  replace ho4 := ho4.no hc2
  have hltgp1 := GaOf.lt hg1
  have hgigp1 : GaI (newG ((m + 1 : Nat) : Int)) 0 := GaI.new _
  have hzzgp1 := hc2.size
  have hzs6 := hS.size
  have hzl9 := ho1.lt
  have hzl10 := ho2.lt
  have hzl11 := ho4.lt
  have hzl12 := GaOf.lt hg1
  refine VL_box (d := 12) (t := 24) (c := #[.pointer none]) (by kernel_rfl) (by kernel_rfl) ?_
  intro b4 w7 hn4
  replace hS := Step.trans hS (hn4.step No)
  replace hA := hA.no (hn4.step No)
  replace hDs := hDs.no (hn4.step No)
  replace ho1 := ho1.no (hn4.step No)
  replace ho2 := ho2.no (hn4.step No)
  replace ho4 := ho4.no (hn4.step No)
  replace hg1 := GaOf.no hg1 (hn4.step No)
  have ho5 := hn4.own
  have hzhn4 := hn4.size
  have hqhn4 := hn4.eqb
  refine VL_store (b := b4) (o := 0) (vs := [.pointer (some ⟨gp1, 0, none⟩)]) (by kernel_rfl) (by kernel_rfl) ho5 (Nat.le_of_ble_eq_true (by kernel_rfl)) ?_
  intro w8 hw2
  replace hS := Step.transNew hS hw2.step (fun _ _ _ => by omega)
  replace hA := hA.step hw2.step (fun k hk (hF : k = b4) => by omega)
  replace hDs := hDs.step hw2.step (fun k hk (hF : k = b4) => by omega)
  replace ho1 := ho1.step hw2.step (show ¬ b1 = b4 by omega)
  replace ho2 := ho2.step hw2.step (show ¬ b2 = b4 by omega)
  replace ho4 := ho4.step hw2.step (show ¬ b3 = b4 by omega)
  replace hg1 := GaOf.keep hg1 ho5 (by decide) (by omega) hw2.step
  have ho6 : Own w8 b4 #[.pointer (some ⟨gp1, 0, none⟩)] 24 := Own.cast hw2.own (by kernel_rfl)
  have hzhw2 := hw2.same
  refine VL_end (by kernel_rfl) ?_
  refine VQ_next ?_
  refine VC_seq ?_
  refine VC_region ?_
  refine VL_pure 1 [2, 4, 6, 10, 11, 12, 53] [(2, .int .u8 ((cut : Nat) : Int)), (4, .bool tk), (6, .pointer (some ⟨b1, 0, none⟩)), (10, .pointer (some ⟨b2, 0, none⟩)), (11, .pointer (some ⟨b3, 0, none⟩)), (12, .pointer (some ⟨b4, 0, none⟩)), (53, .slice A n c)] (by kernel_rfl) rfl ?_
  have hzs7 := hS.size
  have hzl13 := ho1.lt
  have hzl14 := ho2.lt
  have hzl15 := ho4.lt
  have hzl16 := GaOf.lt hg1
  have hzl17 := ho6.lt
  refine VL_call (d := 54) (f := 20) (by kernel_rfl) (by kernel_rfl) (by kernel_rfl) Try.call20 (pack_yes A n c _ bs _ hn hA 1 (by first | exact Nat.le_refl _ | omega) (by omega) (by omega)) ?_
  rintro _ w9 ⟨g1, c1, rfl, hggg1, hr1, hc3⟩
  replace hS := Step.trans hS hc3
  replace hA := hA.no hc3
  replace hDs := hDs.no hc3
  replace ho1 := ho1.no hc3
  replace ho2 := ho2.no hc3
  replace ho4 := ho4.no hc3
  replace hg1 := GaOf.no hg1 hc3
  replace ho6 := ho6.no hc3
  have hxhr1 := SlX.of_rw (X := fun _ => True) hr1 (fun _ _ => trivial)
  have hcapg1 := Rw.cap hr1
  have hflq1 := Rw.lenI hr1
  have hmmq1 := (many_le n).2 (by omega)
  refine VL_pure 7 [2, 4, 6, 10, 11, 12, 13] [(2, .int .u8 ((cut : Nat) : Int)), (4, .bool tk), (6, .pointer (some ⟨b1, 0, none⟩)), (10, .pointer (some ⟨b2, 0, none⟩)), (11, .pointer (some ⟨b3, 0, none⟩)), (12, .pointer (some ⟨b4, 0, none⟩)), (13, .slice (some ⟨g1, 0, none⟩) (48 * manyN n) c1)] (by kernel_rfl) rfl ?_
  refine VL_end (by kernel_rfl) ?_
  refine VQ_next ?_
  refine VC_seq ?_
  refine VC_region ?_
  refine VL_load (d := 58) (t := 32) (a := ⟨b1, 0, none⟩) (v := .slice D nD cD) (by kernel_rfl) (by kernel_rfl) (Loads.own1 ho1 (by kernel_rfl) (by rfl)) ?_
  have hzs8 := hS.size
  have hzl18 := ho1.lt
  have hzl19 := ho2.lt
  have hzl20 := ho4.lt
  have hzl21 := GaOf.lt hg1
  have hzl22 := ho6.lt
  refine VL_call (d := 59) (f := 20) (by kernel_rfl) (by kernel_rfl) (by kernel_rfl) Try.call20 (pack_yes D nD cD _ bt _ hnD hDs 2 (by first | exact Nat.le_refl _ | omega) (by omega) (by omega)) ?_
  rintro _ w10 ⟨g2, c2, rfl, hggg2, hr2, hc4⟩
  replace hS := Step.trans hS hc4
  replace hA := hA.no hc4
  replace hDs := hDs.no hc4
  replace ho1 := ho1.no hc4
  replace ho2 := ho2.no hc4
  replace ho4 := ho4.no hc4
  replace hg1 := GaOf.no hg1 hc4
  replace ho6 := ho6.no hc4
  replace hxhr1 := hxhr1.no hc4
  have hxhr2 := SlX.of_rw (X := fun _ => True) hr2 (fun _ _ => trivial)
  have hcapg2 := Rw.cap hr2
  have hflq2 := Rw.lenI hr2
  have hmmq2 := (many_le nD).2 (by omega)
  refine VL_pure 7 [2, 4, 6, 10, 11, 12, 13, 15] [(2, .int .u8 ((cut : Nat) : Int)), (4, .bool tk), (6, .pointer (some ⟨b1, 0, none⟩)), (10, .pointer (some ⟨b2, 0, none⟩)), (11, .pointer (some ⟨b3, 0, none⟩)), (12, .pointer (some ⟨b4, 0, none⟩)), (13, .slice (some ⟨g1, 0, none⟩) (48 * manyN n) c1), (15, .slice (some ⟨g2, 0, none⟩) (48 * manyN nD) c2)] (by kernel_rfl) rfl ?_
  refine VL_end (by kernel_rfl) ?_
  refine VQ_next ?_
  refine VC_seq ?_
  refine VC_region ?_
  refine VL_pure 2 [4, 6, 10, 11, 12, 13, 15, 63] [(4, .bool tk), (6, .pointer (some ⟨b1, 0, none⟩)), (10, .pointer (some ⟨b2, 0, none⟩)), (11, .pointer (some ⟨b3, 0, none⟩)), (12, .pointer (some ⟨b4, 0, none⟩)), (13, .slice (some ⟨g1, 0, none⟩) (48 * manyN n) c1), (15, .slice (some ⟨g2, 0, none⟩) (48 * manyN nD) c2), (63, .int .i64 (IntKind.wrap .i64 ((cut : Nat) : Int)))] (by kernel_rfl) rfl ?_
  have he3 : IntKind.wrap .i64 ((cut : Nat) : Int) = ((cut : Nat) : Int) := (by rw [wrap_i64 _ (by omega) (by omega)])
  refine VL_eq [(4, .bool tk), (6, .pointer (some ⟨b1, 0, none⟩)), (10, .pointer (some ⟨b2, 0, none⟩)), (11, .pointer (some ⟨b3, 0, none⟩)), (12, .pointer (some ⟨b4, 0, none⟩)), (13, .slice (some ⟨g1, 0, none⟩) (48 * manyN n) c1), (15, .slice (some ⟨g2, 0, none⟩) (48 * manyN nD) c2), (63, .int .i64 ((cut : Nat) : Int))] (by rw [he3]) ?_
  refine VL_pure 5 [4, 6, 10, 11, 12, 13, 15, 63, 66] [(4, .bool tk), (6, .pointer (some ⟨b1, 0, none⟩)), (10, .pointer (some ⟨b2, 0, none⟩)), (11, .pointer (some ⟨b3, 0, none⟩)), (12, .pointer (some ⟨b4, 0, none⟩)), (13, .slice (some ⟨g1, 0, none⟩) (48 * manyN n) c1), (15, .slice (some ⟨g2, 0, none⟩) (48 * manyN nD) c2), (63, .int .i64 ((cut : Nat) : Int)), (66, .int .i64 (IntKind.wrap .i64 (((48 * manyN n : Nat) : Int).tdiv 48)))] (by kernel_rfl) rfl ?_
  have he4 : IntKind.wrap .i64 (((48 * manyN n : Nat) : Int).tdiv 48) = (((48 * manyN n) / 48 : Nat) : Int) := (by rw [show ((48 * manyN n : Nat) : Int).tdiv 48 = (((48 * manyN n) / 48 : Nat) : Int) from tdiv_nat (48 * manyN n) 48, wrap_i64 _ (by omega) (by omega)])
  refine VL_eq [(4, .bool tk), (6, .pointer (some ⟨b1, 0, none⟩)), (10, .pointer (some ⟨b2, 0, none⟩)), (11, .pointer (some ⟨b3, 0, none⟩)), (12, .pointer (some ⟨b4, 0, none⟩)), (13, .slice (some ⟨g1, 0, none⟩) (48 * manyN n) c1), (15, .slice (some ⟨g2, 0, none⟩) (48 * manyN nD) c2), (63, .int .i64 ((cut : Nat) : Int)), (66, .int .i64 (((48 * manyN n) / 48 : Nat) : Int))] (by rw [he4]) ?_
  refine VL_pure 6 [4, 6, 10, 11, 12, 13, 15, 63, 67] [(4, .bool tk), (6, .pointer (some ⟨b1, 0, none⟩)), (10, .pointer (some ⟨b2, 0, none⟩)), (11, .pointer (some ⟨b3, 0, none⟩)), (12, .pointer (some ⟨b4, 0, none⟩)), (13, .slice (some ⟨g1, 0, none⟩) (48 * manyN n) c1), (15, .slice (some ⟨g2, 0, none⟩) (48 * manyN nD) c2), (63, .int .i64 ((cut : Nat) : Int)), (67, .int .i64 (IntKind.wrap .i64 ((((48 * manyN n) / 48 : Nat) : Int) - 1)))] (by kernel_rfl) rfl ?_
  have he5 : IntKind.wrap .i64 ((((48 * manyN n) / 48 : Nat) : Int) - 1) = ((((48 * manyN n) / 48) - 1 : Nat) : Int) := (by rw [wrap_i64 _ (by omega) (by omega)]; omega)
  refine VL_eq [(4, .bool tk), (6, .pointer (some ⟨b1, 0, none⟩)), (10, .pointer (some ⟨b2, 0, none⟩)), (11, .pointer (some ⟨b3, 0, none⟩)), (12, .pointer (some ⟨b4, 0, none⟩)), (13, .slice (some ⟨g1, 0, none⟩) (48 * manyN n) c1), (15, .slice (some ⟨g2, 0, none⟩) (48 * manyN nD) c2), (63, .int .i64 ((cut : Nat) : Int)), (67, .int .i64 ((((48 * manyN n) / 48) - 1 : Nat) : Int))] (by rw [he5]) ?_
  refine VL_rem (d := 68) (k := .i64) (x := ((cut : Nat) : Int)) (y := ((((48 * manyN n) / 48) - 1 : Nat) : Int)) (by kernel_rfl) (by kernel_rfl) (by omega) ?_
  refine VL_keep [4, 6, 10, 11, 12, 13, 15, 63, 67, 68] [(4, .bool tk), (6, .pointer (some ⟨b1, 0, none⟩)), (10, .pointer (some ⟨b2, 0, none⟩)), (11, .pointer (some ⟨b3, 0, none⟩)), (12, .pointer (some ⟨b4, 0, none⟩)), (13, .slice (some ⟨g1, 0, none⟩) (48 * manyN n) c1), (15, .slice (some ⟨g2, 0, none⟩) (48 * manyN nD) c2), (63, .int .i64 ((cut : Nat) : Int)), (67, .int .i64 ((((48 * manyN n) / 48) - 1 : Nat) : Int)), (68, .int .i64 (((cut : Nat) : Int).tmod ((((48 * manyN n) / 48) - 1 : Nat) : Int)))] (by kernel_rfl) ?_
  have hcm := Nat.mod_lt cut (show 0 < 48 * manyN n / 48 - 1 by omega)
  refine VL_eq [(4, .bool tk), (6, .pointer (some ⟨b1, 0, none⟩)), (10, .pointer (some ⟨b2, 0, none⟩)), (11, .pointer (some ⟨b3, 0, none⟩)), (12, .pointer (some ⟨b4, 0, none⟩)), (13, .slice (some ⟨g1, 0, none⟩) (48 * manyN n) c1), (15, .slice (some ⟨g2, 0, none⟩) (48 * manyN nD) c2), (63, .int .i64 ((cut : Nat) : Int)), (67, .int .i64 ((((48 * manyN n) / 48) - 1 : Nat) : Int)), (68, .int .i64 ((cut % (((48 * manyN n) / 48) - 1) : Nat) : Int))] (by rw [tmod_nat]) ?_
  refine VL_pure 8 [4, 6, 10, 11, 12, 13, 15, 69] [(4, .bool tk), (6, .pointer (some ⟨b1, 0, none⟩)), (10, .pointer (some ⟨b2, 0, none⟩)), (11, .pointer (some ⟨b3, 0, none⟩)), (12, .pointer (some ⟨b4, 0, none⟩)), (13, .slice (some ⟨g1, 0, none⟩) (48 * manyN n) c1), (15, .slice (some ⟨g2, 0, none⟩) (48 * manyN nD) c2), (69, .int .i64 (IntKind.wrap .i64 (1 + ((cut % (((48 * manyN n) / 48) - 1) : Nat) : Int))))] (by kernel_rfl) rfl ?_
  have he6 : IntKind.wrap .i64 (1 + ((cut % (((48 * manyN n) / 48) - 1) : Nat) : Int)) = (((cut % (((48 * manyN n) / 48) - 1)) + 1 : Nat) : Int) := (by rw [wrap_i64 _ (by omega) (by omega)]; omega)
  refine VL_eq [(4, .bool tk), (6, .pointer (some ⟨b1, 0, none⟩)), (10, .pointer (some ⟨b2, 0, none⟩)), (11, .pointer (some ⟨b3, 0, none⟩)), (12, .pointer (some ⟨b4, 0, none⟩)), (13, .slice (some ⟨g1, 0, none⟩) (48 * manyN n) c1), (15, .slice (some ⟨g2, 0, none⟩) (48 * manyN nD) c2), (69, .int .i64 (((cut % (((48 * manyN n) / 48) - 1)) + 1 : Nat) : Int))] (by rw [he6]) ?_
  refine VL_pure 9 [4, 6, 10, 11, 12, 13, 15, 17] [(4, .bool tk), (6, .pointer (some ⟨b1, 0, none⟩)), (10, .pointer (some ⟨b2, 0, none⟩)), (11, .pointer (some ⟨b3, 0, none⟩)), (12, .pointer (some ⟨b4, 0, none⟩)), (13, .slice (some ⟨g1, 0, none⟩) (48 * manyN n) c1), (15, .slice (some ⟨g2, 0, none⟩) (48 * manyN nD) c2), (17, .int .i64 (((cut % (((48 * manyN n) / 48) - 1)) + 1 : Nat) : Int))] (by kernel_rfl) rfl ?_
  refine VL_end (by kernel_rfl) ?_
  refine VQ_next ?_
  refine VC_seq ?_
  refine VC_seq ?_
  obtain ⟨N, hN⟩ : ∃ N, N = (cut % (((48 * manyN n) / 48) - 1)) + 1 := ⟨_, rfl⟩
  refine VC_eqL [(4, .bool tk), (6, .pointer (some ⟨b1, 0, none⟩)), (10, .pointer (some ⟨b2, 0, none⟩)), (11, .pointer (some ⟨b3, 0, none⟩)), (12, .pointer (some ⟨b4, 0, none⟩)), (13, .slice (some ⟨g1, 0, none⟩) (48 * manyN n) c1), (15, .slice (some ⟨g2, 0, none⟩) (48 * manyN nD) c2), (17, .int .i64 ((N : Nat) : Int))] (by rw [hN]) ?_
  have hNm := Nat.mod_lt cut (show 0 < 48 * manyN n / 48 - 1 by omega)
  have hN1 : 0 < N ∧ 48 * N + 48 ≤ 48 * manyN n ∧ 48 * N < 1008 := by omega
  have hPl : (((frameF bs 1).take (48 * N))).length = 48 * N := by rw [List.length_take, show (frameF bs 1).length = 48 * manyN n by assumption]; omega
  have hgi0 := hgigp1
  refine VC_region ?_
  refine VL_pure 3 [4, 6, 10, 11, 12, 15, 17, 70, 72] [(4, .bool tk), (6, .pointer (some ⟨b1, 0, none⟩)), (10, .pointer (some ⟨b2, 0, none⟩)), (11, .pointer (some ⟨b3, 0, none⟩)), (12, .pointer (some ⟨b4, 0, none⟩)), (15, .slice (some ⟨g2, 0, none⟩) (48 * manyN nD) c2), (17, .int .i64 ((N : Nat) : Int)), (70, .slice (some ⟨g1, 0, none⟩) (48 * manyN n) c1), (72, .int .i64 (IntKind.wrap .i64 (48 * ((N : Nat) : Int))))] (by kernel_rfl) rfl ?_
  have he7 : IntKind.wrap .i64 (48 * ((N : Nat) : Int)) = ((48 * N : Nat) : Int) := (by rw [wrap_i64 _ (by omega) (by omega)]; omega)
  refine VL_eq [(4, .bool tk), (6, .pointer (some ⟨b1, 0, none⟩)), (10, .pointer (some ⟨b2, 0, none⟩)), (11, .pointer (some ⟨b3, 0, none⟩)), (12, .pointer (some ⟨b4, 0, none⟩)), (15, .slice (some ⟨g2, 0, none⟩) (48 * manyN nD) c2), (17, .int .i64 ((N : Nat) : Int)), (70, .slice (some ⟨g1, 0, none⟩) (48 * manyN n) c1), (72, .int .i64 ((48 * N : Nat) : Int))] (by rw [he7]) ?_
  refine VL_slice (d := 73) (b := g1) (o := 0) (sz := 1) (len := (48 * manyN n)) (cap := c1) (lo := none) (hi := (some ((48 * N : Nat) : Int))) (mx := none) (by kernel_rfl) (by kernel_rfl) (fun h => by first | exact absurd rfl h | exact (fun h => by cases h)) 0 (48 * N) c1 rfl rfl rfl (by omega) (by omega) (by omega) 0 (by split <;> omega) (48 * N) (by omega) c1 (by omega) ?_
  have hsl1 := SlX.takeI hxhr1 (48 * N)
  have hzs9 := hS.size
  have hzl23 := ho1.lt
  have hzl24 := ho2.lt
  have hzl25 := ho4.lt
  have hzl26 := GaOf.lt hg1
  have hzl27 := ho6.lt
  refine VL_call (d := 74) (f := 21) (args := #[.slice (some ⟨g1, 0, none⟩) (48 * N) c1]) (by kernel_rfl) (by kernel_rfl) (by kernel_rfl) Try.call21 (cells_any (some ⟨g1, 0, none⟩) (48 * N) c1 _) ?_
  rintro _ w11 ⟨bb1, rfl, hfbb1, hbb1, hc5⟩
  replace hS := Step.trans hS hc5
  replace hA := hA.no hc5
  replace hDs := hDs.no hc5
  replace ho1 := ho1.no hc5
  replace ho2 := ho2.no hc5
  replace ho4 := ho4.no hc5
  replace hg1 := GaOf.no hg1 hc5
  replace ho6 := ho6.no hc5
  replace hxhr1 := hxhr1.no hc5
  replace hxhr2 := hxhr2.no hc5
  replace hsl1 := hsl1.no hc5
  have hzbb1 := hbb1.lt
  refine VL_end (by kernel_rfl) ?_
  refine VQ_next ?_
  refine VC_block ?_
  have hzs10 := hS.size
  have hzl28 := ho1.lt
  have hzl29 := ho2.lt
  have hzl30 := ho4.lt
  have hzl31 := GaOf.lt hg1
  have hzl32 := ho6.lt
  have hzl33 := hbb1.lt
  have hvx1 := SlX.mono (Y := (fun k9 => k9 < w11.heap.size)) hxhr1 (fun b _ hb => hb)
  have hvx2 := SlX.mono (Y := (fun k9 => k9 < w11.heap.size)) hxhr2 (fun b _ hb => hb)
  have hvx3 := SlX.mono (Y := (fun k9 => k9 < w11.heap.size)) hsl1 (fun b _ hb => hb)
  have hgx1 := GaOf.mono (Y := (fun k9 => k9 ≠ (w11.heap.size + 1))) hg1 (fun b _ hb => by (try simp only); omega)
  have hzs11 := hS.size
  have hzl34 := ho1.lt
  have hzl35 := ho2.lt
  have hzl36 := ho4.lt
  have hzl37 := GaOf.lt hg1
  have hzl38 := ho6.lt
  have hzl39 := hbb1.lt
  refine VC_range (gf := 28) (lb := #[.pointer (some ⟨bb1, 0, none⟩)]) (xs := (cellsV ((frameF bs 1).take (48 * N)))) (by kernel_rfl) Try.call28 (cells_iter bb1 (48 * N) c1 (w11.heap.size) (some ⟨g1, 0, none⟩) ((frameF bs 1).take (48 * N)) hPl (by omega) (by omega)) (fun a ha => by obtain ⟨x, _, rfl⟩ := List.mem_map.1 ha; rfl) (by kernel_rfl) (fun M i => i = gp1 ∨ M ≤ i) (fun M i hi => by (try simp only at hi); omega) (fun M k W => w11.heap.size + 2 ≤ M ∧ Step No w W ∧ Sl W (w.heap.size) A (iL .u8 bs) ∧ Sl W (w.heap.size) D (iL .u8 bt) ∧ Own W b1 #[.slice D nD cD] 32 ∧ Own W b2 #[.bool false] 4 ∧ Own W b3 #[.int .i64 ((m + 1 : Nat) : Int)] 3 ∧ GaOf W 58 gp1 (fun k9 => k9 ≠ (w11.heap.size + 1)) (feedG (newG ((m + 1 : Nat) : Int)) 5 ((frameF bs 1).take (48 * N)) (fun _ => false) k) ∧ Own W b4 #[.pointer (some ⟨gp1, 0, none⟩)] 24 ∧ SlX W 5 (fun k9 => k9 < w11.heap.size) (some ⟨g1, 0, none⟩) (iL .u8 (frameF bs 1)) ∧ SlX W 5 (fun k9 => k9 < w11.heap.size) (some ⟨g2, 0, none⟩) (iL .u8 (frameF bt 2)) ∧ SlX W 5 (fun k9 => k9 < w11.heap.size) (some ⟨g1, 0, none⟩) (iL .u8 ((frameF bs 1).take (48 * N))) ∧ Own W bb1 #[.slice (some ⟨g1, 0, none⟩) (48 * N) c1] 32) (fun e W => False) (by rintro M k W W' ⟨hMm, hS, hA, hDs, ho1, ho2, ho4, hgx1, ho6, hvx1, hvx2, hvx3, hbb1⟩ hs; exact ⟨hMm, Step.transNew hS hs (fun i hi hG => by have : i = (w11.heap.size + 1) := hG; omega), hA.step hs (fun k hk (hF : k = (w11.heap.size + 1)) => by omega), hDs.step hs (fun k hk (hF : k = (w11.heap.size + 1)) => by omega), ho1.step hs (show ¬ b1 = (w11.heap.size + 1) by omega), ho2.step hs (show ¬ b2 = (w11.heap.size + 1) by omega), ho4.step hs (show ¬ b3 = (w11.heap.size + 1) by omega), GaOf.mark hgx1 (fun b hb => hb) (by omega) hs, ho6.step hs (show ¬ b4 = (w11.heap.size + 1) by omega), SlX.mark hvx1 (fun b hb => by (try simp only at hb); omega) hs, SlX.mark hvx2 (fun b hb => by (try simp only at hb); omega) hs, SlX.mark hvx3 (fun b hb => by (try simp only at hb); omega) hs, hbb1.step hs (show ¬ bb1 = (w11.heap.size + 1) by omega)⟩) (by rintro e W W' h; exact h.elim) (by rintro M k W W' ⟨hMm, hS, hA, hDs, ho1, ho2, ho4, hgx1, ho6, hvx1, hvx2, hvx3, hbb1⟩ hs; exact ⟨hMm, Step.trans hS hs, hA.no hs, hDs.no hs, ho1.no hs, ho2.no hs, ho4.no hs, GaOf.no hgx1 hs, ho6.no hs, hvx1.no hs, hvx2.no hs, hvx3.no hs, hbb1.no hs⟩) (by rintro e W W' h; exact h.elim) (by rintro M k W ⟨hMm, hS, hA, hDs, ho1, ho2, ho4, hgx1, ho6, hvx1, hvx2, hvx3, hbb1⟩; exact ⟨hbb1, SlX.below hvx3⟩) (fun W hs => ⟨hbb1.no hs, SlX.below (hvx3.no hs)⟩) (fun M W hMm hM2 hs _ => ⟨hMm, Step.trans hS hs, hA.no hs, hDs.no hs, ho1.no hs, ho2.no hs, ho4.no hs, GaOf.no hgx1 hs, ho6.no hs, hvx1.no hs, hvx2.no hs, hvx3.no hs, hbb1.no hs⟩) ?_ ?_ ?_
  · intro M k w12 args hM hM2 hx hJ0 hsz
    obtain ⟨hMm, hS, hA, hDs, ho1, ho2, ho4, hgx1, ho6, hvx1, hvx2, hvx3, hbb1⟩ := hJ0
    obtain ⟨hk9, rfl⟩ := cellsV_inv hPl hx
    have hML : M ≤ w12.heap.size := hM2
    have hAs : Step No w12 w12 := Step.refl _ _
    have hgiK := feed_I (F := ((frameF bs 1).take (48 * N))) (n := 48 * N) (t := 5) hgi0 hPl ((frame_bytes hb (by decide)).take _) (by decide) (by decide) (fun _ => false) k (by omega)
    refine VC_keep [12, 75] [(12, .pointer (some ⟨b4, 0, none⟩)), (75, .agg (iA .u8 ((((frameF bs 1).take (48 * N)).drop (48 * k)).take 48)))] (by kernel_rfl) ?_
    refine VC_region ?_
    have hzs12 := hS.size
    have hzl40 := ho1.lt
    have hzl41 := ho2.lt
    have hzl42 := ho4.lt
    have hzl43 := GaOf.lt hgx1
    have hzl44 := ho6.lt
    have hzl45 := hbb1.lt
    have hzk1 := hML
    have hzs13 := hAs.size
    have hzs14 := hS.size
    have hzl46 := ho1.lt
    have hzl47 := ho2.lt
    have hzl48 := ho4.lt
    have hzl49 := GaOf.lt hgx1
    have hzl50 := ho6.lt
    have hzl51 := hbb1.lt
    have hzk2 := hML
    have hzs15 := hAs.size
    refine VL_box (d := 18) (t := 28) (c := iA .u8 (List.replicate 48 0)) (by kernel_rfl) (by kernel_rfl) ?_
    intro b5 w13 hn5
    replace hS := Step.trans hS (hn5.step No)
    replace hA := hA.no (hn5.step No)
    replace hDs := hDs.no (hn5.step No)
    replace ho1 := ho1.no (hn5.step No)
    replace ho2 := ho2.no (hn5.step No)
    replace ho4 := ho4.no (hn5.step No)
    replace hgx1 := GaOf.no hgx1 (hn5.step No)
    replace ho6 := ho6.no (hn5.step No)
    replace hvx1 := hvx1.no (hn5.step No)
    replace hvx2 := hvx2.no (hn5.step No)
    replace hvx3 := hvx3.no (hn5.step No)
    replace hbb1 := hbb1.no (hn5.step No)
    replace hML := Nat.le_trans hML (hn5.step No).size
    replace hAs := Step.trans hAs (hn5.step No)
    have ho7 := hn5.own
    have hzhn5 := hn5.size
    have hqhn5 := hn5.eqb
    refine VL_storeA (b := b5) (sz := 48) (k := .u8) (bs := (((frameF bs 1).take (48 * N)).drop (48 * k)).take 48) (by kernel_rfl) (by kernel_rfl) (by (try simp only [List.length_set, List.length_append, List.length_map, List.length_replicate, List.length_cons, List.length_nil, List.length_take, List.length_drop, List.length_range]) <;> omega) ho7 (iA_size.trans (by (try simp only [List.length_set, List.length_append, List.length_map, List.length_replicate, List.length_cons, List.length_nil, List.length_take, List.length_drop, List.length_range]) <;> omega)) ?_
    intro w14 hw3
    replace hS := Step.transNew hS hw3.step (fun _ _ _ => by omega)
    replace hA := hA.step hw3.step (fun k hk (hF : k = b5) => by omega)
    replace hDs := hDs.step hw3.step (fun k hk (hF : k = b5) => by omega)
    replace ho1 := ho1.step hw3.step (show ¬ b1 = b5 by omega)
    replace ho2 := ho2.step hw3.step (show ¬ b2 = b5 by omega)
    replace ho4 := ho4.step hw3.step (show ¬ b3 = b5 by omega)
    replace hgx1 := GaOf.keep hgx1 ho7 (by decide) (by omega) hw3.step
    replace ho6 := ho6.step hw3.step (show ¬ b4 = b5 by omega)
    replace hvx1 := hvx1.own ho7 (by decide) hw3.step
    replace hvx2 := hvx2.own ho7 (by decide) hw3.step
    replace hvx3 := hvx3.own ho7 (by decide) hw3.step
    replace hbb1 := hbb1.step hw3.step (show ¬ bb1 = b5 by omega)
    replace hML := Nat.le_trans hML (hw3.step).size
    replace hAs := Step.transNew hAs hw3.step (fun _ _ _ => by omega)
    have ho8 := hw3.own
    have hzhw3 := hw3.same
    refine VL_end (by kernel_rfl) ?_
    refine VQ_begin hAs ?_
    intro w15 hb1 hzhb1
    have hzs16 := hS.size
    have hzl52 := ho1.lt
    have hzl53 := ho2.lt
    have hzl54 := ho4.lt
    have hzl55 := GaOf.lt hgx1
    have hzl56 := ho6.lt
    have hzl57 := hbb1.lt
    have hzk3 := hML
    have hzl58 := ho8.lt
    replace hS := Step.transNew hS hb1 (fun _ _ _ => by omega)
    replace hA := hA.step hb1 (fun k hk (hF : k = (w11.heap.size + 1)) => by omega)
    replace hDs := hDs.step hb1 (fun k hk (hF : k = (w11.heap.size + 1)) => by omega)
    replace ho1 := ho1.step hb1 (show ¬ b1 = (w11.heap.size + 1) by omega)
    replace ho2 := ho2.step hb1 (show ¬ b2 = (w11.heap.size + 1) by omega)
    replace ho4 := ho4.step hb1 (show ¬ b3 = (w11.heap.size + 1) by omega)
    replace hgx1 := GaOf.mark hgx1 (fun b hb => hb) (by omega) hb1
    replace ho6 := ho6.step hb1 (show ¬ b4 = (w11.heap.size + 1) by omega)
    replace hvx1 := SlX.mark hvx1 (fun b hb => by (try simp only at hb); omega) hb1
    replace hvx2 := SlX.mark hvx2 (fun b hb => by (try simp only at hb); omega) hb1
    replace hvx3 := SlX.mark hvx3 (fun b hb => by (try simp only at hb); omega) hb1
    replace hbb1 := hbb1.step hb1 (show ¬ bb1 = (w11.heap.size + 1) by omega)
    replace hML := Nat.le_trans hML (hb1).size
    replace ho8 := ho8.step hb1 (show ¬ b5 = (w11.heap.size + 1) by omega)
    have hR1 : Step ((fun M i => i = gp1 ∨ M ≤ i) M) w15 w15 := Step.refl _ _
    refine VC_block ?_
    refine VC_region ?_
    refine VL_load (d := 77) (t := 24) (a := ⟨b4, 0, none⟩) (v := .pointer (some ⟨gp1, 0, none⟩)) (by kernel_rfl) (by kernel_rfl) (Loads.own1 ho6 (by kernel_rfl) (by rfl)) ?_
    refine VL_load (d := 78) (t := 28) (a := ⟨b5, 0, none⟩) (v := .agg (iA .u8 ((((frameF bs 1).take (48 * N)).drop (48 * k)).take 48))) (by kernel_rfl) (by kernel_rfl) (Loads.arr (N := 48) ho8 (by kernel_rfl) (by (try simp only [List.length_set, List.length_append, List.length_map, List.length_replicate, List.length_cons, List.length_nil, List.length_take, List.length_drop, List.length_range]) <;> omega)) ?_
    have hzs17 := hS.size
    have hzl59 := ho1.lt
    have hzl60 := ho2.lt
    have hzl61 := ho4.lt
    have hzl62 := GaOf.lt hgx1
    have hzl63 := ho6.lt
    have hzl64 := hbb1.lt
    have hzl65 := ho8.lt
    have hzs18 := hR1.size
    refine VL_call (d := 79) (f := 15) (by kernel_rfl) (by kernel_rfl) (by kernel_rfl) Try.call15 (take_any gp1 (feedG (newG ((m + 1 : Nat) : Int)) 5 ((frameF bs 1).take (48 * N)) (fun _ => false) k) (fun k9 => k9 ≠ (w11.heap.size + 1)) _ (fun k9 h9 => by (try simp only); omega) hgx1 _ hgiK (by omega) 5 (by omega) (by omega) ((((frameF bs 1).take (48 * N)).drop (48 * k)).take 48) (part_I (F := ((frameF bs 1).take (48 * N))) (n := 48 * N) (k := k) hPl ((frame_bytes hb (by decide)).take _) hk9).1 (part_I (F := ((frameF bs 1).take (48 * N))) (n := 48 * N) (k := k) hPl ((frame_bytes hb (by decide)).take _) hk9).2 false) ?_
    rintro _ w16 ⟨A1, c3, rfl, hr3, hg2, hc6⟩
    replace hS := Step.transNew hS hc6 (fun _ _ _ => by omega)
    replace hA := hA.step hc6 (fun k hk (hF : k = gp1) => by omega)
    replace hDs := hDs.step hc6 (fun k hk (hF : k = gp1) => by omega)
    replace ho1 := ho1.step hc6 (show ¬ b1 = gp1 by omega)
    replace ho2 := ho2.step hc6 (show ¬ b2 = gp1 by omega)
    replace ho4 := ho4.step hc6 (show ¬ b3 = gp1 by omega)
    replace ho6 := ho6.step hc6 (show ¬ b4 = gp1 by omega)
    replace hvx1 := SlX_ga hvx1 hgx1 (by decide) hc6
    replace hvx2 := SlX_ga hvx2 hgx1 (by decide) hc6
    replace hvx3 := SlX_ga hvx3 hgx1 (by decide) hc6
    replace hbb1 := hbb1.step hc6 (show ¬ bb1 = gp1 by omega)
    replace hML := Nat.le_trans hML (hc6).size
    replace ho8 := ho8.step hc6 (show ¬ b5 = gp1 by omega)
    replace hR1 := Step.trans hR1 (Step.mono hc6 (by intro i hi; first | exact hi | (have hi9 : i = gp1 := hi; (first | show _ ∨ _ | show _ = _); omega)))
    have hxhr3 := SlX.of_rw (X := fun _ => True) hr3 (fun _ _ => trivial)
    have hlthg2 := GaOf.lt hg2
    have hgihg2 := GaI.take (t := 5) (p := ((((frameF bs 1).take (48 * N)).drop (48 * k)).take 48)) hgiK false (by omega) (by omega) (part_I (F := ((frameF bs 1).take (48 * N))) (n := 48 * N) (k := k) hPl ((frame_bytes hb (by decide)).take _) hk9).1 (part_I (F := ((frameF bs 1).take (48 * N))) (n := 48 * N) (k := k) hPl ((frame_bytes hb (by decide)).take _) hk9).2
    have htlhg2 := takeT_le hgiK 5 ((((frameF bs 1).take (48 * N)).drop (48 * k)).take 48) false (part_I (F := ((frameF bs 1).take (48 * N))) (n := 48 * N) (k := k) hPl ((frame_bytes hb (by decide)).take _) hk9).1
    refine VL_end (by kernel_rfl) ?_
    refine VQ_block_normal ?_
    exact VQ_round_end hR1 ⟨hMm, hS, hA, hDs, ho1, ho2, ho4, hg2, ho6, hvx1, hvx2, hvx3, hbb1⟩
  · intro M w17 hM hzM hJ0 hD
    rw [cellsV_len, hPl] at hJ0
    obtain ⟨K1, hK1⟩ : ∃ K, K = (48 * N) / 48 := ⟨_, rfl⟩
    rw [← hK1] at hJ0
    obtain ⟨-, hS, hA, hDs, ho1, ho2, ho4, hgx1, ho6, hvx1, hvx2, hvx3, hbb1⟩ := hJ0
    have hgiK1 := feed_I (F := ((frameF bs 1).take (48 * N))) (n := 48 * N) (t := 5) hgi0 hPl ((frame_bytes hb (by decide)).take _) (by decide) (by decide) (fun _ => false) K1 (by omega)
    replace hgx1 := GaOf.mono (Y := (fun _ => True)) hgx1 (fun b _ hb => trivial)
    have hKN : K1 = N := by omega
    rw [hKN] at hgx1 hgiK1
    have hL1 := late_fed (W := ((m + 1 : Nat) : Int)) (by omega) (by omega) hPl (by omega) (by omega)
    have hmk1 := hD
    refine VQ_block_normal ?_
    refine VQ_next ?_
    refine VC_seq ?_
    refine VC_seq ?_
    refine VC_region ?_
    refine VL_load (d := 80) (t := 24) (a := ⟨b4, 0, none⟩) (v := .pointer (some ⟨gp1, 0, none⟩)) (by kernel_rfl) (by kernel_rfl) (Loads.own1 ho6 (by kernel_rfl) (by rfl)) ?_
    have hzs19 := hS.size
    have hzl66 := ho1.lt
    have hzl67 := ho2.lt
    have hzl68 := ho4.lt
    have hzl69 := GaOf.lt hgx1
    have hzl70 := ho6.lt
    have hzl71 := hbb1.lt
    have hzl72 := hmk1.lt
    refine VL_call (d := 81) (f := 18) (by kernel_rfl) (by kernel_rfl) (by kernel_rfl) Try.call18 (parts_any gp1 (feedG (newG ((m + 1 : Nat) : Int)) 5 ((frameF bs 1).take (48 * N)) (fun _ => false) N) (fun _ => True) _ hgx1 (by have h9 := (hgiK1).len_le; omega)) ?_
    rintro _ w18 ⟨rfl, hc7⟩
    replace hS := Step.trans hS hc7
    replace hA := hA.no hc7
    replace hDs := hDs.no hc7
    replace ho1 := ho1.no hc7
    replace ho2 := ho2.no hc7
    replace ho4 := ho4.no hc7
    replace hgx1 := GaOf.no hgx1 hc7
    replace ho6 := ho6.no hc7
    replace hvx1 := hvx1.no hc7
    replace hvx2 := hvx2.no hc7
    replace hvx3 := hvx3.no hc7
    replace hbb1 := hbb1.no hc7
    replace hmk1 := hmk1.no hc7
    refine VL_pure 5 [4, 6, 10, 11, 12, 15, 17, 84] [(4, .bool tk), (6, .pointer (some ⟨b1, 0, none⟩)), (10, .pointer (some ⟨b2, 0, none⟩)), (11, .pointer (some ⟨b3, 0, none⟩)), (12, .pointer (some ⟨b4, 0, none⟩)), (15, .slice (some ⟨g2, 0, none⟩) (48 * manyN nD) c2), (17, .int .i64 ((N : Nat) : Int)), (84, .bool (((((feedG (newG ((m + 1 : Nat) : Int)) 5 ((frameF bs 1).take (48 * N)) (fun _ => false) N)).bs.length / 48 : Nat) : Int) != ((N : Nat) : Int)))] (by kernel_rfl) rfl ?_
    refine VL_known (((((feedG (newG ((m + 1 : Nat) : Int)) 5 ((frameF bs 1).take (48 * N)) (fun _ => false) N)).bs.length / 48 : Nat) : Int) != ((N : Nat) : Int)) (fun bV => [(4, .bool tk), (6, .pointer (some ⟨b1, 0, none⟩)), (10, .pointer (some ⟨b2, 0, none⟩)), (11, .pointer (some ⟨b3, 0, none⟩)), (12, .pointer (some ⟨b4, 0, none⟩)), (15, .slice (some ⟨g2, 0, none⟩) (48 * manyN nD) c2), (17, .int .i64 ((N : Nat) : Int)), (84, .bool bV)]) false rfl (by first | (rw [hL1.bs, Nat.mul_div_cancel_left _ (by decide)]; simp; done) | (rw [(hL1.no (by omega)).2, hL1.bs, Nat.mul_div_cancel_left _ (by decide)]; simp; done)) ?_
    refine VL_load (d := 85) (t := 24) (a := ⟨b4, 0, none⟩) (v := .pointer (some ⟨gp1, 0, none⟩)) (by kernel_rfl) (by kernel_rfl) (Loads.own1 ho6 (by kernel_rfl) (by rfl)) ?_
    refine VL_load (d := 86) (t := 3) (a := ⟨b3, 0, none⟩) (v := .int .i64 ((m + 1 : Nat) : Int)) (by kernel_rfl) (by kernel_rfl) (Loads.own1 ho4 (by kernel_rfl) (by rfl)) ?_
    refine VL_pure 8 [4, 6, 10, 11, 12, 15, 17, 84, 85, 87] [(4, .bool tk), (6, .pointer (some ⟨b1, 0, none⟩)), (10, .pointer (some ⟨b2, 0, none⟩)), (11, .pointer (some ⟨b3, 0, none⟩)), (12, .pointer (some ⟨b4, 0, none⟩)), (15, .slice (some ⟨g2, 0, none⟩) (48 * manyN nD) c2), (17, .int .i64 ((N : Nat) : Int)), (84, .bool false), (85, .pointer (some ⟨gp1, 0, none⟩)), (87, .int .i64 (IntKind.wrap .i64 (5 + ((m + 1 : Nat) : Int))))] (by kernel_rfl) rfl ?_
    have he8 : IntKind.wrap .i64 (5 + ((m + 1 : Nat) : Int)) = ((m + 1 + 5 : Nat) : Int) := (by rw [wrap_i64 _ (by omega) (by omega)]; omega)
    refine VL_eq [(4, .bool tk), (6, .pointer (some ⟨b1, 0, none⟩)), (10, .pointer (some ⟨b2, 0, none⟩)), (11, .pointer (some ⟨b3, 0, none⟩)), (12, .pointer (some ⟨b4, 0, none⟩)), (15, .slice (some ⟨g2, 0, none⟩) (48 * manyN nD) c2), (17, .int .i64 ((N : Nat) : Int)), (84, .bool false), (85, .pointer (some ⟨gp1, 0, none⟩)), (87, .int .i64 ((m + 1 + 5 : Nat) : Int))] (by rw [he8]) ?_
    refine VL_pure 9 [4, 6, 10, 11, 12, 15, 17, 84, 85, 88] [(4, .bool tk), (6, .pointer (some ⟨b1, 0, none⟩)), (10, .pointer (some ⟨b2, 0, none⟩)), (11, .pointer (some ⟨b3, 0, none⟩)), (12, .pointer (some ⟨b4, 0, none⟩)), (15, .slice (some ⟨g2, 0, none⟩) (48 * manyN nD) c2), (17, .int .i64 ((N : Nat) : Int)), (84, .bool false), (85, .pointer (some ⟨gp1, 0, none⟩)), (88, .int .i64 (IntKind.wrap .i64 (((m + 1 + 5 : Nat) : Int) - 1)))] (by kernel_rfl) rfl ?_
    have he9 : IntKind.wrap .i64 (((m + 1 + 5 : Nat) : Int) - 1) = (((m + 1 + 5) - 1 : Nat) : Int) := (by rw [wrap_i64 _ (by omega) (by omega)]; omega)
    refine VL_eq [(4, .bool tk), (6, .pointer (some ⟨b1, 0, none⟩)), (10, .pointer (some ⟨b2, 0, none⟩)), (11, .pointer (some ⟨b3, 0, none⟩)), (12, .pointer (some ⟨b4, 0, none⟩)), (15, .slice (some ⟨g2, 0, none⟩) (48 * manyN nD) c2), (17, .int .i64 ((N : Nat) : Int)), (84, .bool false), (85, .pointer (some ⟨gp1, 0, none⟩)), (88, .int .i64 (((m + 1 + 5) - 1 : Nat) : Int))] (by rw [he9]) ?_
    have hzs20 := hS.size
    have hzl73 := ho1.lt
    have hzl74 := ho2.lt
    have hzl75 := ho4.lt
    have hzl76 := GaOf.lt hgx1
    have hzl77 := ho6.lt
    have hzl78 := hbb1.lt
    have hzl79 := hmk1.lt
    refine VL_call (d := 89) (f := 13) (by kernel_rfl) (by kernel_rfl) (by kernel_rfl) Try.call13 (tick_any gp1 (feedG (newG ((m + 1 : Nat) : Int)) 5 ((frameF bs 1).take (48 * N)) (fun _ => false) N) (fun _ => True) _ (fun _ _ => trivial) hgx1 _ hgiK1 (by omega) (((m + 1 + 5) - 1 : Nat) : Int) (by omega) (by omega)) ?_
    rintro _ w19 ⟨rfl, hg3, hc8⟩
    replace hS := Step.transNew hS hc8 (fun _ _ _ => by omega)
    replace hA := hA.step hc8 (fun k hk (hF : k = gp1) => by omega)
    replace hDs := hDs.step hc8 (fun k hk (hF : k = gp1) => by omega)
    replace ho1 := ho1.step hc8 (show ¬ b1 = gp1 by omega)
    replace ho2 := ho2.step hc8 (show ¬ b2 = gp1 by omega)
    replace ho4 := ho4.step hc8 (show ¬ b3 = gp1 by omega)
    replace ho6 := ho6.step hc8 (show ¬ b4 = gp1 by omega)
    replace hvx1 := SlX_ga hvx1 hgx1 (by decide) hc8
    replace hvx2 := SlX_ga hvx2 hgx1 (by decide) hc8
    replace hvx3 := SlX_ga hvx3 hgx1 (by decide) hc8
    replace hbb1 := hbb1.step hc8 (show ¬ bb1 = gp1 by omega)
    replace hmk1 := hmk1.step hc8 (show ¬ w11.heap.size = gp1 by omega)
    have hlthg3 := GaOf.lt hg3
    have hgihg3 := (hgiK1).tick (((m + 1 + 5) - 1 : Nat) : Int)
    refine VL_pure 12 [4, 6, 10, 11, 12, 15, 17, 91] [(4, .bool tk), (6, .pointer (some ⟨b1, 0, none⟩)), (10, .pointer (some ⟨b2, 0, none⟩)), (11, .pointer (some ⟨b3, 0, none⟩)), (12, .pointer (some ⟨b4, 0, none⟩)), (15, .slice (some ⟨g2, 0, none⟩) (48 * manyN nD) c2), (17, .int .i64 ((N : Nat) : Int)), (91, .bool (tickB (feedG (newG ((m + 1 : Nat) : Int)) 5 ((frameF bs 1).take (48 * N)) (fun _ => false) N) (((m + 1 + 5) - 1 : Nat) : Int)))] (by kernel_rfl) rfl ?_
    refine VL_known (tickB (feedG (newG ((m + 1 : Nat) : Int)) 5 ((frameF bs 1).take (48 * N)) (fun _ => false) N) (((m + 1 + 5) - 1 : Nat) : Int)) (fun bV => [(4, .bool tk), (6, .pointer (some ⟨b1, 0, none⟩)), (10, .pointer (some ⟨b2, 0, none⟩)), (11, .pointer (some ⟨b3, 0, none⟩)), (12, .pointer (some ⟨b4, 0, none⟩)), (15, .slice (some ⟨g2, 0, none⟩) (48 * manyN nD) c2), (17, .int .i64 ((N : Nat) : Int)), (91, .bool bV)]) false rfl (by first | exact (hL1.yes (by omega) (by omega)).1 | exact (hL1.no (by omega)).1) ?_
    refine VL_load (d := 92) (t := 24) (a := ⟨b4, 0, none⟩) (v := .pointer (some ⟨gp1, 0, none⟩)) (by kernel_rfl) (by kernel_rfl) (Loads.own1 ho6 (by kernel_rfl) (by rfl)) ?_
    have hzs21 := hS.size
    have hzl80 := ho1.lt
    have hzl81 := ho2.lt
    have hzl82 := ho4.lt
    have hzl83 := ho6.lt
    have hzl84 := hbb1.lt
    have hzl85 := hmk1.lt
    have hzl86 := GaOf.lt hg3
    refine VL_call (d := 93) (f := 18) (by kernel_rfl) (by kernel_rfl) (by kernel_rfl) Try.call18 (parts_any gp1 (tickF (feedG (newG ((m + 1 : Nat) : Int)) 5 ((frameF bs 1).take (48 * N)) (fun _ => false) N) (((m + 1 + 5) - 1 : Nat) : Int)) (fun _ => True) _ hg3 (by have h9 := (hgihg3).len_le; omega)) ?_
    rintro _ w20 ⟨rfl, hc9⟩
    replace hS := Step.trans hS hc9
    replace hA := hA.no hc9
    replace hDs := hDs.no hc9
    replace ho1 := ho1.no hc9
    replace ho2 := ho2.no hc9
    replace ho4 := ho4.no hc9
    replace ho6 := ho6.no hc9
    replace hvx1 := hvx1.no hc9
    replace hvx2 := hvx2.no hc9
    replace hvx3 := hvx3.no hc9
    replace hbb1 := hbb1.no hc9
    replace hmk1 := hmk1.no hc9
    replace hg3 := GaOf.no hg3 hc9
    refine VL_pure 17 [4, 6, 10, 11, 12, 15, 96] [(4, .bool tk), (6, .pointer (some ⟨b1, 0, none⟩)), (10, .pointer (some ⟨b2, 0, none⟩)), (11, .pointer (some ⟨b3, 0, none⟩)), (12, .pointer (some ⟨b4, 0, none⟩)), (15, .slice (some ⟨g2, 0, none⟩) (48 * manyN nD) c2), (96, .bool (((((tickF (feedG (newG ((m + 1 : Nat) : Int)) 5 ((frameF bs 1).take (48 * N)) (fun _ => false) N) (((m + 1 + 5) - 1 : Nat) : Int))).bs.length / 48 : Nat) : Int) != ((N : Nat) : Int)))] (by kernel_rfl) rfl ?_
    refine VL_end (by kernel_rfl) ?_
    refine VQ_next ?_
    refine VC_is (b := ((((tickF (feedG (newG ((m + 1 : Nat) : Int)) 5 ((frameF bs 1).take (48 * N)) (fun _ => false) N) (((m + 1 + 5) - 1 : Nat) : Int))).bs.length / 48 : Nat) : Int) != ((N : Nat) : Int)) false (by kernel_rfl) (by first | (rw [hL1.bs, Nat.mul_div_cancel_left _ (by decide)]; simp; done) | (rw [(hL1.no (by omega)).2, hL1.bs, Nat.mul_div_cancel_left _ (by decide)]; simp; done)) ?_
    refine VC_ite_false ?_
    refine VC_skip ?_
    refine VQ_next ?_
    refine VC_seq ?_
    refine VC_seq ?_
    have hg4 := GaOf.cast hg3 ((hL1.no (by omega)).2)
    refine VC_region ?_
    refine VL_pure 2 [6, 10, 11, 12, 15, 98] [(6, .pointer (some ⟨b1, 0, none⟩)), (10, .pointer (some ⟨b2, 0, none⟩)), (11, .pointer (some ⟨b3, 0, none⟩)), (12, .pointer (some ⟨b4, 0, none⟩)), (15, .slice (some ⟨g2, 0, none⟩) (48 * manyN nD) c2), (98, .bool tk)] (by kernel_rfl) rfl ?_
    refine VL_bool tk (fun bV => [(6, .pointer (some ⟨b1, 0, none⟩)), (10, .pointer (some ⟨b2, 0, none⟩)), (11, .pointer (some ⟨b3, 0, none⟩)), (12, .pointer (some ⟨b4, 0, none⟩)), (15, .slice (some ⟨g2, 0, none⟩) (48 * manyN nD) c2), (98, .bool bV)]) rfl (fun hg5 => ?_) (fun hg5 => ?_)
    · refine VL_load (d := 99) (t := 24) (a := ⟨b4, 0, none⟩) (v := .pointer (some ⟨gp1, 0, none⟩)) (by kernel_rfl) (by kernel_rfl) (Loads.own1 ho6 (by kernel_rfl) (by rfl)) ?_
      refine VL_load (d := 100) (t := 3) (a := ⟨b3, 0, none⟩) (v := .int .i64 ((m + 1 : Nat) : Int)) (by kernel_rfl) (by kernel_rfl) (Loads.own1 ho4 (by kernel_rfl) (by rfl)) ?_
      refine VL_pure 5 [6, 10, 11, 12, 15, 98, 99, 101] [(6, .pointer (some ⟨b1, 0, none⟩)), (10, .pointer (some ⟨b2, 0, none⟩)), (11, .pointer (some ⟨b3, 0, none⟩)), (12, .pointer (some ⟨b4, 0, none⟩)), (15, .slice (some ⟨g2, 0, none⟩) (48 * manyN nD) c2), (98, .bool true), (99, .pointer (some ⟨gp1, 0, none⟩)), (101, .int .i64 (IntKind.wrap .i64 (5 + ((m + 1 : Nat) : Int))))] (by kernel_rfl) rfl ?_
      have he10 : IntKind.wrap .i64 (5 + ((m + 1 : Nat) : Int)) = ((m + 1 + 5 : Nat) : Int) := (by rw [wrap_i64 _ (by omega) (by omega)]; omega)
      refine VL_eq [(6, .pointer (some ⟨b1, 0, none⟩)), (10, .pointer (some ⟨b2, 0, none⟩)), (11, .pointer (some ⟨b3, 0, none⟩)), (12, .pointer (some ⟨b4, 0, none⟩)), (15, .slice (some ⟨g2, 0, none⟩) (48 * manyN nD) c2), (98, .bool true), (99, .pointer (some ⟨gp1, 0, none⟩)), (101, .int .i64 ((m + 1 + 5 : Nat) : Int))] (by rw [he10]) ?_
      have hzs22 := hS.size
      have hzl87 := ho1.lt
      have hzl88 := ho2.lt
      have hzl89 := ho4.lt
      have hzl90 := ho6.lt
      have hzl91 := hbb1.lt
      have hzl92 := hmk1.lt
      have hzl93 := GaOf.lt hg4
      refine VL_call (d := 102) (f := 13) (by kernel_rfl) (by kernel_rfl) (by kernel_rfl) Try.call13 (tick_any gp1 (feedG (newG ((m + 1 : Nat) : Int)) 5 ((frameF bs 1).take (48 * N)) (fun _ => false) N) (fun _ => True) _ (fun _ _ => trivial) hg4 _ hgiK1 (by omega) ((m + 1 + 5 : Nat) : Int) (by omega) (by omega)) ?_
      rintro _ w21 ⟨rfl, hg6, hc10⟩
      replace hS := Step.transNew hS hc10 (fun _ _ _ => by omega)
      replace hA := hA.step hc10 (fun k hk (hF : k = gp1) => by omega)
      replace hDs := hDs.step hc10 (fun k hk (hF : k = gp1) => by omega)
      replace ho1 := ho1.step hc10 (show ¬ b1 = gp1 by omega)
      replace ho2 := ho2.step hc10 (show ¬ b2 = gp1 by omega)
      replace ho4 := ho4.step hc10 (show ¬ b3 = gp1 by omega)
      replace ho6 := ho6.step hc10 (show ¬ b4 = gp1 by omega)
      replace hvx1 := SlX_ga hvx1 hg4 (by decide) hc10
      replace hvx2 := SlX_ga hvx2 hg4 (by decide) hc10
      replace hvx3 := SlX_ga hvx3 hg4 (by decide) hc10
      replace hbb1 := hbb1.step hc10 (show ¬ bb1 = gp1 by omega)
      replace hmk1 := hmk1.step hc10 (show ¬ w11.heap.size = gp1 by omega)
      have hlthg6 := GaOf.lt hg6
      have hgihg6 := (hgiK1).tick ((m + 1 + 5 : Nat) : Int)
      refine VL_pure 8 [6, 10, 11, 12, 15, 98, 104] [(6, .pointer (some ⟨b1, 0, none⟩)), (10, .pointer (some ⟨b2, 0, none⟩)), (11, .pointer (some ⟨b3, 0, none⟩)), (12, .pointer (some ⟨b4, 0, none⟩)), (15, .slice (some ⟨g2, 0, none⟩) (48 * manyN nD) c2), (98, .bool true), (104, .bool (!(tickB (feedG (newG ((m + 1 : Nat) : Int)) 5 ((frameF bs 1).take (48 * N)) (fun _ => false) N) ((m + 1 + 5 : Nat) : Int))))] (by kernel_rfl) rfl ?_
      refine VL_known (tickB (feedG (newG ((m + 1 : Nat) : Int)) 5 ((frameF bs 1).take (48 * N)) (fun _ => false) N) ((m + 1 + 5 : Nat) : Int)) (fun bV => [(6, .pointer (some ⟨b1, 0, none⟩)), (10, .pointer (some ⟨b2, 0, none⟩)), (11, .pointer (some ⟨b3, 0, none⟩)), (12, .pointer (some ⟨b4, 0, none⟩)), (15, .slice (some ⟨g2, 0, none⟩) (48 * manyN nD) c2), (98, .bool true), (104, .bool (!bV))]) true rfl (by first | exact (hL1.yes (by omega) (by omega)).1 | exact (hL1.no (by omega)).1) ?_
      refine VL_load (d := 105) (t := 24) (a := ⟨b4, 0, none⟩) (v := .pointer (some ⟨gp1, 0, none⟩)) (by kernel_rfl) (by kernel_rfl) (Loads.own1 ho6 (by kernel_rfl) (by rfl)) ?_
      have hzs23 := hS.size
      have hzl94 := ho1.lt
      have hzl95 := ho2.lt
      have hzl96 := ho4.lt
      have hzl97 := ho6.lt
      have hzl98 := hbb1.lt
      have hzl99 := hmk1.lt
      have hzl100 := GaOf.lt hg6
      refine VL_call (d := 106) (f := 18) (by kernel_rfl) (by kernel_rfl) (by kernel_rfl) Try.call18 (parts_any gp1 (tickF (feedG (newG ((m + 1 : Nat) : Int)) 5 ((frameF bs 1).take (48 * N)) (fun _ => false) N) ((m + 1 + 5 : Nat) : Int)) (fun _ => True) _ hg6 (by have h9 := (hgihg6).len_le; omega)) ?_
      rintro _ w22 ⟨rfl, hc11⟩
      replace hS := Step.trans hS hc11
      replace hA := hA.no hc11
      replace hDs := hDs.no hc11
      replace ho1 := ho1.no hc11
      replace ho2 := ho2.no hc11
      replace ho4 := ho4.no hc11
      replace ho6 := ho6.no hc11
      replace hvx1 := hvx1.no hc11
      replace hvx2 := hvx2.no hc11
      replace hvx3 := hvx3.no hc11
      replace hbb1 := hbb1.no hc11
      replace hmk1 := hmk1.no hc11
      replace hg6 := GaOf.no hg6 hc11
      refine VL_pure 13 [6, 10, 11, 12, 15, 98, 109] [(6, .pointer (some ⟨b1, 0, none⟩)), (10, .pointer (some ⟨b2, 0, none⟩)), (11, .pointer (some ⟨b3, 0, none⟩)), (12, .pointer (some ⟨b4, 0, none⟩)), (15, .slice (some ⟨g2, 0, none⟩) (48 * manyN nD) c2), (98, .bool true), (109, .bool (((((tickF (feedG (newG ((m + 1 : Nat) : Int)) 5 ((frameF bs 1).take (48 * N)) (fun _ => false) N) ((m + 1 + 5 : Nat) : Int))).bs.length / 48 : Nat) : Int) != 0))] (by kernel_rfl) rfl ?_
      refine VL_known (((((tickF (feedG (newG ((m + 1 : Nat) : Int)) 5 ((frameF bs 1).take (48 * N)) (fun _ => false) N) ((m + 1 + 5 : Nat) : Int))).bs.length / 48 : Nat) : Int) != 0) (fun bV => [(6, .pointer (some ⟨b1, 0, none⟩)), (10, .pointer (some ⟨b2, 0, none⟩)), (11, .pointer (some ⟨b3, 0, none⟩)), (12, .pointer (some ⟨b4, 0, none⟩)), (15, .slice (some ⟨g2, 0, none⟩) (48 * manyN nD) c2), (98, .bool true), (109, .bool bV)]) false rfl (by rw [(hL1.yes (by omega) (by omega)).2]; simp [loseF]) ?_
      refine VL_load (d := 110) (t := 24) (a := ⟨b4, 0, none⟩) (v := .pointer (some ⟨gp1, 0, none⟩)) (by kernel_rfl) (by kernel_rfl) (Loads.own1 ho6 (by kernel_rfl) (by rfl)) ?_
      refine VL_load (d := 111) (t := 3) (a := ⟨b3, 0, none⟩) (v := .int .i64 ((m + 1 : Nat) : Int)) (by kernel_rfl) (by kernel_rfl) (Loads.own1 ho4 (by kernel_rfl) (by rfl)) ?_
      refine VL_pure 16 [6, 10, 11, 12, 15, 98, 109, 110, 112] [(6, .pointer (some ⟨b1, 0, none⟩)), (10, .pointer (some ⟨b2, 0, none⟩)), (11, .pointer (some ⟨b3, 0, none⟩)), (12, .pointer (some ⟨b4, 0, none⟩)), (15, .slice (some ⟨g2, 0, none⟩) (48 * manyN nD) c2), (98, .bool true), (109, .bool false), (110, .pointer (some ⟨gp1, 0, none⟩)), (112, .int .i64 (IntKind.wrap .i64 (5 + ((m + 1 : Nat) : Int))))] (by kernel_rfl) rfl ?_
      have he11 : IntKind.wrap .i64 (5 + ((m + 1 : Nat) : Int)) = ((m + 1 + 5 : Nat) : Int) := (by rw [wrap_i64 _ (by omega) (by omega)]; omega)
      refine VL_eq [(6, .pointer (some ⟨b1, 0, none⟩)), (10, .pointer (some ⟨b2, 0, none⟩)), (11, .pointer (some ⟨b3, 0, none⟩)), (12, .pointer (some ⟨b4, 0, none⟩)), (15, .slice (some ⟨g2, 0, none⟩) (48 * manyN nD) c2), (98, .bool true), (109, .bool false), (110, .pointer (some ⟨gp1, 0, none⟩)), (112, .int .i64 ((m + 1 + 5 : Nat) : Int))] (by rw [he11]) ?_
      have hzs24 := hS.size
      have hzl101 := ho1.lt
      have hzl102 := ho2.lt
      have hzl103 := ho4.lt
      have hzl104 := ho6.lt
      have hzl105 := hbb1.lt
      have hzl106 := hmk1.lt
      have hzl107 := GaOf.lt hg6
      refine VL_call (d := 113) (f := 13) (by kernel_rfl) (by kernel_rfl) (by kernel_rfl) Try.call13 (tick_any gp1 (tickF (feedG (newG ((m + 1 : Nat) : Int)) 5 ((frameF bs 1).take (48 * N)) (fun _ => false) N) ((m + 1 + 5 : Nat) : Int)) (fun _ => True) _ (fun _ _ => trivial) hg6 _ hgihg6 (by omega) ((m + 1 + 5 : Nat) : Int) (by omega) (by omega)) ?_
      rintro _ w23 ⟨rfl, hg7, hc12⟩
      replace hS := Step.transNew hS hc12 (fun _ _ _ => by omega)
      replace hA := hA.step hc12 (fun k hk (hF : k = gp1) => by omega)
      replace hDs := hDs.step hc12 (fun k hk (hF : k = gp1) => by omega)
      replace ho1 := ho1.step hc12 (show ¬ b1 = gp1 by omega)
      replace ho2 := ho2.step hc12 (show ¬ b2 = gp1 by omega)
      replace ho4 := ho4.step hc12 (show ¬ b3 = gp1 by omega)
      replace ho6 := ho6.step hc12 (show ¬ b4 = gp1 by omega)
      replace hvx1 := SlX_ga hvx1 hg6 (by decide) hc12
      replace hvx2 := SlX_ga hvx2 hg6 (by decide) hc12
      replace hvx3 := SlX_ga hvx3 hg6 (by decide) hc12
      replace hbb1 := hbb1.step hc12 (show ¬ bb1 = gp1 by omega)
      replace hmk1 := hmk1.step hc12 (show ¬ w11.heap.size = gp1 by omega)
      have hlthg7 := GaOf.lt hg7
      have hgihg7 := (hgihg6).tick ((m + 1 + 5 : Nat) : Int)
      refine VL_pure 19 [6, 10, 11, 12, 15, 115] [(6, .pointer (some ⟨b1, 0, none⟩)), (10, .pointer (some ⟨b2, 0, none⟩)), (11, .pointer (some ⟨b3, 0, none⟩)), (12, .pointer (some ⟨b4, 0, none⟩)), (15, .slice (some ⟨g2, 0, none⟩) (48 * manyN nD) c2), (115, .bool (tickB (tickF (feedG (newG ((m + 1 : Nat) : Int)) 5 ((frameF bs 1).take (48 * N)) (fun _ => false) N) ((m + 1 + 5 : Nat) : Int)) ((m + 1 + 5 : Nat) : Int)))] (by kernel_rfl) rfl ?_
      refine VL_end (by kernel_rfl) ?_
      refine VQ_next ?_
      refine VC_is (b := tickB (tickF (feedG (newG ((m + 1 : Nat) : Int)) 5 ((frameF bs 1).take (48 * N)) (fun _ => false) N) ((m + 1 + 5 : Nat) : Int)) ((m + 1 + 5 : Nat) : Int)) false (by kernel_rfl) (by rw [(hL1.yes (by omega) (by omega)).2]; exact (lose_idle _ _).1) ?_
      refine VC_ite_false ?_
      refine VC_skip ?_
      refine VQ_next ?_
      refine VC_seq ?_
      refine VC_seq ?_
      obtain ⟨r1, r2, r3, r4⟩ := hL1.rdy (t := ((m + 1 + 5 : Nat) : Int)) (by omega) (by omega) (by omega)
      have hg8 := GaOf.cast hg7 (by rw [(hL1.yes (by omega) (by omega)).2, (lose_idle _ _).2])
      have r1 := r3
      have r2 := r4
      have hgi2 : GaI (loseF (feedG (newG ((m + 1 : Nat) : Int)) 5 ((frameF bs 1).take (48 * N)) (fun _ => false) N)) (3 * N + 1) := GaI.mono (hgiK1.lose) (by omega)
      obtain ⟨G2, hG2⟩ : ∃ G2, G2 = (loseF (feedG (newG ((m + 1 : Nat) : Int)) 5 ((frameF bs 1).take (48 * N)) (fun _ => false) N)) := ⟨_, rfl⟩
      rw [← hG2] at r1 r2 hgi2 hg8
      refine VC_region ?_
      refine VL_pure 1 [6, 10, 11, 12, 116] [(6, .pointer (some ⟨b1, 0, none⟩)), (10, .pointer (some ⟨b2, 0, none⟩)), (11, .pointer (some ⟨b3, 0, none⟩)), (12, .pointer (some ⟨b4, 0, none⟩)), (116, .slice (some ⟨g2, 0, none⟩) (48 * manyN nD) c2)] (by kernel_rfl) rfl ?_
      have hzs25 := hS.size
      have hzl108 := ho1.lt
      have hzl109 := ho2.lt
      have hzl110 := ho4.lt
      have hzl111 := ho6.lt
      have hzl112 := hbb1.lt
      have hzl113 := hmk1.lt
      have hzl114 := GaOf.lt hg8
      refine VL_call (d := 117) (f := 21) (args := #[.slice (some ⟨g2, 0, none⟩) (48 * manyN nD) c2]) (by kernel_rfl) (by kernel_rfl) (by kernel_rfl) Try.call21 (cells_any (some ⟨g2, 0, none⟩) (48 * manyN nD) c2 _) ?_
      rintro _ w24 ⟨bb2, rfl, hfbb2, hbb2, hc13⟩
      replace hS := Step.trans hS hc13
      replace hA := hA.no hc13
      replace hDs := hDs.no hc13
      replace ho1 := ho1.no hc13
      replace ho2 := ho2.no hc13
      replace ho4 := ho4.no hc13
      replace ho6 := ho6.no hc13
      replace hvx1 := hvx1.no hc13
      replace hvx2 := hvx2.no hc13
      replace hvx3 := hvx3.no hc13
      replace hbb1 := hbb1.no hc13
      replace hmk1 := hmk1.no hc13
      replace hg8 := GaOf.no hg8 hc13
      have hzbb2 := hbb2.lt
      refine VL_end (by kernel_rfl) ?_
      refine VQ_next ?_
      refine VC_block ?_
      have hzs26 := hS.size
      have hzl115 := ho1.lt
      have hzl116 := ho2.lt
      have hzl117 := ho4.lt
      have hzl118 := ho6.lt
      have hzl119 := hbb1.lt
      have hzl120 := hmk1.lt
      have hzl121 := GaOf.lt hg8
      have hzl122 := hbb2.lt
      have hvx4 := SlX.mono (Y := (fun k9 => k9 < w24.heap.size)) hvx1 (fun b _ hb => hb)
      have hvx5 := SlX.mono (Y := (fun k9 => k9 < w24.heap.size)) hvx2 (fun b _ hb => hb)
      have hvx6 := SlX.mono (Y := (fun k9 => k9 < w24.heap.size)) hvx3 (fun b _ hb => hb)
      have hgx2 := GaOf.mono (Y := (fun k9 => k9 ≠ (w24.heap.size + 1))) hg8 (fun b _ hb => by (try simp only); omega)
      have hzs27 := hS.size
      have hzl123 := ho1.lt
      have hzl124 := ho2.lt
      have hzl125 := ho4.lt
      have hzl126 := ho6.lt
      have hzl127 := hbb1.lt
      have hzl128 := hmk1.lt
      have hzl129 := GaOf.lt hg8
      have hzl130 := hbb2.lt
      refine VC_range (gf := 28) (lb := #[.pointer (some ⟨bb2, 0, none⟩)]) (xs := (cellsV (frameF bt 2))) (by kernel_rfl) Try.call28 (cells_iter bb2 (48 * manyN nD) c2 (w24.heap.size) (some ⟨g2, 0, none⟩) (frameF bt 2) ‹(frameF bt 2).length = _› (by omega) (by omega)) (fun a ha => by obtain ⟨x, _, rfl⟩ := List.mem_map.1 ha; rfl) (by kernel_rfl) (fun M i => i = gp1 ∨ M ≤ i) (fun M i hi => by (try simp only at hi); omega) (fun M k W => w24.heap.size + 2 ≤ M ∧ Step No w W ∧ Sl W (w.heap.size) A (iL .u8 bs) ∧ Sl W (w.heap.size) D (iL .u8 bt) ∧ Own W b1 #[.slice D nD cD] 32 ∧ Own W b2 #[.bool false] 4 ∧ Own W b3 #[.int .i64 ((m + 1 : Nat) : Int)] 3 ∧ Own W b4 #[.pointer (some ⟨gp1, 0, none⟩)] 24 ∧ SlX W 5 (fun k9 => k9 < w24.heap.size) (some ⟨g1, 0, none⟩) (iL .u8 (frameF bs 1)) ∧ SlX W 5 (fun k9 => k9 < w24.heap.size) (some ⟨g2, 0, none⟩) (iL .u8 (frameF bt 2)) ∧ SlX W 5 (fun k9 => k9 < w24.heap.size) (some ⟨g1, 0, none⟩) (iL .u8 ((frameF bs 1).take (48 * N))) ∧ Own W bb1 #[.slice (some ⟨g1, 0, none⟩) (48 * N) c1] 32 ∧ Dfr W (w11.heap.size) ∧ GaOf W 58 gp1 (fun k9 => k9 ≠ (w24.heap.size + 1)) (feedG G2 ((m + 1 + 5 : Nat) : Int) (frameF bt 2) (flF (48 * manyN nD)) k) ∧ Own W bb2 #[.slice (some ⟨g2, 0, none⟩) (48 * manyN nD) c2] 32) (fun e W => False) (by rintro M k W W' ⟨hMm, hS, hA, hDs, ho1, ho2, ho4, ho6, hvx4, hvx5, hvx6, hbb1, hmk1, hgx2, hbb2⟩ hs; exact ⟨hMm, Step.transNew hS hs (fun i hi hG => by have : i = (w24.heap.size + 1) := hG; omega), hA.step hs (fun k hk (hF : k = (w24.heap.size + 1)) => by omega), hDs.step hs (fun k hk (hF : k = (w24.heap.size + 1)) => by omega), ho1.step hs (show ¬ b1 = (w24.heap.size + 1) by omega), ho2.step hs (show ¬ b2 = (w24.heap.size + 1) by omega), ho4.step hs (show ¬ b3 = (w24.heap.size + 1) by omega), ho6.step hs (show ¬ b4 = (w24.heap.size + 1) by omega), SlX.mark hvx4 (fun b hb => by (try simp only at hb); omega) hs, SlX.mark hvx5 (fun b hb => by (try simp only at hb); omega) hs, SlX.mark hvx6 (fun b hb => by (try simp only at hb); omega) hs, hbb1.step hs (show ¬ bb1 = (w24.heap.size + 1) by omega), hmk1.step hs (show ¬ w11.heap.size = (w24.heap.size + 1) by omega), GaOf.mark hgx2 (fun b hb => hb) (by omega) hs, hbb2.step hs (show ¬ bb2 = (w24.heap.size + 1) by omega)⟩) (by rintro e W W' h; exact h.elim) (by rintro M k W W' ⟨hMm, hS, hA, hDs, ho1, ho2, ho4, ho6, hvx4, hvx5, hvx6, hbb1, hmk1, hgx2, hbb2⟩ hs; exact ⟨hMm, Step.trans hS hs, hA.no hs, hDs.no hs, ho1.no hs, ho2.no hs, ho4.no hs, ho6.no hs, hvx4.no hs, hvx5.no hs, hvx6.no hs, hbb1.no hs, hmk1.no hs, GaOf.no hgx2 hs, hbb2.no hs⟩) (by rintro e W W' h; exact h.elim) (by rintro M k W ⟨hMm, hS, hA, hDs, ho1, ho2, ho4, ho6, hvx4, hvx5, hvx6, hbb1, hmk1, hgx2, hbb2⟩; exact ⟨hbb2, SlX.below hvx5⟩) (fun W hs => ⟨hbb2.no hs, SlX.below (hvx5.no hs)⟩) (fun M W hMm hM2 hs _ => ⟨hMm, Step.trans hS hs, hA.no hs, hDs.no hs, ho1.no hs, ho2.no hs, ho4.no hs, ho6.no hs, hvx4.no hs, hvx5.no hs, hvx6.no hs, hbb1.no hs, hmk1.no hs, GaOf.no hgx2 hs, hbb2.no hs⟩) ?_ ?_ ?_
      · intro M k w25 args hM hM2 hx hJ0 hsz
        obtain ⟨hMm, hS, hA, hDs, ho1, ho2, ho4, ho6, hvx4, hvx5, hvx6, hbb1, hmk1, hgx2, hbb2⟩ := hJ0
        obtain ⟨hk9, rfl⟩ := cellsV_inv ‹(frameF bt 2).length = _› hx
        have hML : M ≤ w25.heap.size := hM2
        have hAs : Step No w25 w25 := Step.refl _ _
        have hgiK := feed_I (F := (frameF bt 2)) (n := (48 * manyN nD)) (t := ((m + 1 + 5 : Nat) : Int)) hgi2 ‹_› (frame_bytes hbD (by decide)) (by omega) (by omega) (flF (48 * manyN nD)) k (by omega)
        refine VC_keep [6, 10, 11, 12, 118, 119] [(6, .pointer (some ⟨b1, 0, none⟩)), (10, .pointer (some ⟨b2, 0, none⟩)), (11, .pointer (some ⟨b3, 0, none⟩)), (12, .pointer (some ⟨b4, 0, none⟩)), (118, .agg (iA .u8 (((frameF bt 2).drop (48 * k)).take 48))), (119, .bool (((48 * manyN nD - 48 * k : Nat) : Int) == 48))] (by kernel_rfl) ?_
        refine VC_seq ?_
        refine VC_region ?_
        have hzs28 := hS.size
        have hzl131 := ho1.lt
        have hzl132 := ho2.lt
        have hzl133 := ho4.lt
        have hzl134 := ho6.lt
        have hzl135 := hbb1.lt
        have hzl136 := hmk1.lt
        have hzl137 := GaOf.lt hgx2
        have hzl138 := hbb2.lt
        have hzk4 := hML
        have hzs29 := hAs.size
        have hzs30 := hS.size
        have hzl139 := ho1.lt
        have hzl140 := ho2.lt
        have hzl141 := ho4.lt
        have hzl142 := ho6.lt
        have hzl143 := hbb1.lt
        have hzl144 := hmk1.lt
        have hzl145 := GaOf.lt hgx2
        have hzl146 := hbb2.lt
        have hzk5 := hML
        have hzs31 := hAs.size
        refine VL_box (d := 19) (t := 28) (c := iA .u8 (List.replicate 48 0)) (by kernel_rfl) (by kernel_rfl) ?_
        intro b6 w26 hn6
        replace hS := Step.trans hS (hn6.step No)
        replace hA := hA.no (hn6.step No)
        replace hDs := hDs.no (hn6.step No)
        replace ho1 := ho1.no (hn6.step No)
        replace ho2 := ho2.no (hn6.step No)
        replace ho4 := ho4.no (hn6.step No)
        replace ho6 := ho6.no (hn6.step No)
        replace hvx4 := hvx4.no (hn6.step No)
        replace hvx5 := hvx5.no (hn6.step No)
        replace hvx6 := hvx6.no (hn6.step No)
        replace hbb1 := hbb1.no (hn6.step No)
        replace hmk1 := hmk1.no (hn6.step No)
        replace hgx2 := GaOf.no hgx2 (hn6.step No)
        replace hbb2 := hbb2.no (hn6.step No)
        replace hML := Nat.le_trans hML (hn6.step No).size
        replace hAs := Step.trans hAs (hn6.step No)
        have ho9 := hn6.own
        have hzhn6 := hn6.size
        have hqhn6 := hn6.eqb
        refine VL_storeA (b := b6) (sz := 48) (k := .u8) (bs := ((frameF bt 2).drop (48 * k)).take 48) (by kernel_rfl) (by kernel_rfl) (by (try simp only [List.length_set, List.length_append, List.length_map, List.length_replicate, List.length_cons, List.length_nil, List.length_take, List.length_drop, List.length_range]) <;> omega) ho9 (iA_size.trans (by (try simp only [List.length_set, List.length_append, List.length_map, List.length_replicate, List.length_cons, List.length_nil, List.length_take, List.length_drop, List.length_range]) <;> omega)) ?_
        intro w27 hw4
        replace hS := Step.transNew hS hw4.step (fun _ _ _ => by omega)
        replace hA := hA.step hw4.step (fun k hk (hF : k = b6) => by omega)
        replace hDs := hDs.step hw4.step (fun k hk (hF : k = b6) => by omega)
        replace ho1 := ho1.step hw4.step (show ¬ b1 = b6 by omega)
        replace ho2 := ho2.step hw4.step (show ¬ b2 = b6 by omega)
        replace ho4 := ho4.step hw4.step (show ¬ b3 = b6 by omega)
        replace ho6 := ho6.step hw4.step (show ¬ b4 = b6 by omega)
        replace hvx4 := hvx4.own ho9 (by decide) hw4.step
        replace hvx5 := hvx5.own ho9 (by decide) hw4.step
        replace hvx6 := hvx6.own ho9 (by decide) hw4.step
        replace hbb1 := hbb1.step hw4.step (show ¬ bb1 = b6 by omega)
        replace hmk1 := hmk1.step hw4.step (show ¬ w11.heap.size = b6 by omega)
        replace hgx2 := GaOf.keep hgx2 ho9 (by decide) (by omega) hw4.step
        replace hbb2 := hbb2.step hw4.step (show ¬ bb2 = b6 by omega)
        replace hML := Nat.le_trans hML (hw4.step).size
        replace hAs := Step.transNew hAs hw4.step (fun _ _ _ => by omega)
        have ho10 := hw4.own
        have hzhw4 := hw4.same
        refine VL_end (by kernel_rfl) ?_
        refine VQ_next ?_
        refine VC_region ?_
        refine VL_pure 1 [6, 10, 11, 12, 118, 119, 19, 20] [(6, .pointer (some ⟨b1, 0, none⟩)), (10, .pointer (some ⟨b2, 0, none⟩)), (11, .pointer (some ⟨b3, 0, none⟩)), (12, .pointer (some ⟨b4, 0, none⟩)), (118, .agg (iA .u8 (((frameF bt 2).drop (48 * k)).take 48))), (119, .bool (((48 * manyN nD - 48 * k : Nat) : Int) == 48)), (19, .pointer (some ⟨b6, 0, none⟩)), (20, .bool (((48 * manyN nD - 48 * k : Nat) : Int) == 48))] (by kernel_rfl) rfl ?_
        refine VL_end (by kernel_rfl) ?_
        refine VQ_begin hAs ?_
        intro w28 hb2 hzhb2
        have hzs32 := hS.size
        have hzl147 := ho1.lt
        have hzl148 := ho2.lt
        have hzl149 := ho4.lt
        have hzl150 := ho6.lt
        have hzl151 := hbb1.lt
        have hzl152 := hmk1.lt
        have hzl153 := GaOf.lt hgx2
        have hzl154 := hbb2.lt
        have hzk6 := hML
        have hzl155 := ho10.lt
        replace hS := Step.transNew hS hb2 (fun _ _ _ => by omega)
        replace hA := hA.step hb2 (fun k hk (hF : k = (w24.heap.size + 1)) => by omega)
        replace hDs := hDs.step hb2 (fun k hk (hF : k = (w24.heap.size + 1)) => by omega)
        replace ho1 := ho1.step hb2 (show ¬ b1 = (w24.heap.size + 1) by omega)
        replace ho2 := ho2.step hb2 (show ¬ b2 = (w24.heap.size + 1) by omega)
        replace ho4 := ho4.step hb2 (show ¬ b3 = (w24.heap.size + 1) by omega)
        replace ho6 := ho6.step hb2 (show ¬ b4 = (w24.heap.size + 1) by omega)
        replace hvx4 := SlX.mark hvx4 (fun b hb => by (try simp only at hb); omega) hb2
        replace hvx5 := SlX.mark hvx5 (fun b hb => by (try simp only at hb); omega) hb2
        replace hvx6 := SlX.mark hvx6 (fun b hb => by (try simp only at hb); omega) hb2
        replace hbb1 := hbb1.step hb2 (show ¬ bb1 = (w24.heap.size + 1) by omega)
        replace hmk1 := hmk1.step hb2 (show ¬ w11.heap.size = (w24.heap.size + 1) by omega)
        replace hgx2 := GaOf.mark hgx2 (fun b hb => hb) (by omega) hb2
        replace hbb2 := hbb2.step hb2 (show ¬ bb2 = (w24.heap.size + 1) by omega)
        replace hML := Nat.le_trans hML (hb2).size
        replace ho10 := ho10.step hb2 (show ¬ b6 = (w24.heap.size + 1) by omega)
        have hR2 : Step ((fun M i => i = gp1 ∨ M ≤ i) M) w28 w28 := Step.refl _ _
        refine VC_block ?_
        refine VC_seq ?_
        refine VC_region ?_
        refine VL_load (d := 121) (t := 24) (a := ⟨b4, 0, none⟩) (v := .pointer (some ⟨gp1, 0, none⟩)) (by kernel_rfl) (by kernel_rfl) (Loads.own1 ho6 (by kernel_rfl) (by rfl)) ?_
        refine VL_load (d := 122) (t := 3) (a := ⟨b3, 0, none⟩) (v := .int .i64 ((m + 1 : Nat) : Int)) (by kernel_rfl) (by kernel_rfl) (Loads.own1 ho4 (by kernel_rfl) (by rfl)) ?_
        refine VL_pure 3 [6, 10, 19, 20, 121, 123] [(6, .pointer (some ⟨b1, 0, none⟩)), (10, .pointer (some ⟨b2, 0, none⟩)), (19, .pointer (some ⟨b6, 0, none⟩)), (20, .bool (((48 * manyN nD - 48 * k : Nat) : Int) == 48)), (121, .pointer (some ⟨gp1, 0, none⟩)), (123, .int .i64 (IntKind.wrap .i64 (5 + ((m + 1 : Nat) : Int))))] (by kernel_rfl) rfl ?_
        have he12 : IntKind.wrap .i64 (5 + ((m + 1 : Nat) : Int)) = ((m + 1 + 5 : Nat) : Int) := (by rw [wrap_i64 _ (by omega) (by omega)]; omega)
        refine VL_eq [(6, .pointer (some ⟨b1, 0, none⟩)), (10, .pointer (some ⟨b2, 0, none⟩)), (19, .pointer (some ⟨b6, 0, none⟩)), (20, .bool (((48 * manyN nD - 48 * k : Nat) : Int) == 48)), (121, .pointer (some ⟨gp1, 0, none⟩)), (123, .int .i64 ((m + 1 + 5 : Nat) : Int))] (by rw [he12]) ?_
        refine VL_load (d := 124) (t := 28) (a := ⟨b6, 0, none⟩) (v := .agg (iA .u8 (((frameF bt 2).drop (48 * k)).take 48))) (by kernel_rfl) (by kernel_rfl) (Loads.arr (N := 48) ho10 (by kernel_rfl) (by (try simp only [List.length_set, List.length_append, List.length_map, List.length_replicate, List.length_cons, List.length_nil, List.length_take, List.length_drop, List.length_range]) <;> omega)) ?_
        refine VL_pure 5 [6, 10, 20, 121, 123, 124, 125] [(6, .pointer (some ⟨b1, 0, none⟩)), (10, .pointer (some ⟨b2, 0, none⟩)), (20, .bool (((48 * manyN nD - 48 * k : Nat) : Int) == 48)), (121, .pointer (some ⟨gp1, 0, none⟩)), (123, .int .i64 ((m + 1 + 5 : Nat) : Int)), (124, .agg (iA .u8 (((frameF bt 2).drop (48 * k)).take 48))), (125, .bool (((48 * manyN nD - 48 * k : Nat) : Int) == 48))] (by kernel_rfl) rfl ?_
        have hzs33 := hS.size
        have hzl156 := ho1.lt
        have hzl157 := ho2.lt
        have hzl158 := ho4.lt
        have hzl159 := ho6.lt
        have hzl160 := hbb1.lt
        have hzl161 := hmk1.lt
        have hzl162 := GaOf.lt hgx2
        have hzl163 := hbb2.lt
        have hzl164 := ho10.lt
        have hzs34 := hR2.size
        refine VL_call (d := 126) (f := 15) (by kernel_rfl) (by kernel_rfl) (by kernel_rfl) Try.call15 (take_any gp1 (feedG G2 ((m + 1 + 5 : Nat) : Int) (frameF bt 2) (flF (48 * manyN nD)) k) (fun k9 => k9 ≠ (w24.heap.size + 1)) _ (fun k9 h9 => by (try simp only); omega) hgx2 _ hgiK (by omega) ((m + 1 + 5 : Nat) : Int) (by omega) (by omega) (((frameF bt 2).drop (48 * k)).take 48) (part_I (F := (frameF bt 2)) (n := (48 * manyN nD)) (k := k) ‹_› (frame_bytes hbD (by decide)) hk9).1 (part_I (F := (frameF bt 2)) (n := (48 * manyN nD)) (k := k) ‹_› (frame_bytes hbD (by decide)) hk9).2 (((48 * manyN nD - 48 * k : Nat) : Int) == 48)) ?_
        rintro _ w29 ⟨A2, c4, rfl, hr4, hg10, hc14⟩
        replace hS := Step.transNew hS hc14 (fun _ _ _ => by omega)
        replace hA := hA.step hc14 (fun k hk (hF : k = gp1) => by omega)
        replace hDs := hDs.step hc14 (fun k hk (hF : k = gp1) => by omega)
        replace ho1 := ho1.step hc14 (show ¬ b1 = gp1 by omega)
        replace ho2 := ho2.step hc14 (show ¬ b2 = gp1 by omega)
        replace ho4 := ho4.step hc14 (show ¬ b3 = gp1 by omega)
        replace ho6 := ho6.step hc14 (show ¬ b4 = gp1 by omega)
        replace hvx4 := SlX_ga hvx4 hgx2 (by decide) hc14
        replace hvx5 := SlX_ga hvx5 hgx2 (by decide) hc14
        replace hvx6 := SlX_ga hvx6 hgx2 (by decide) hc14
        replace hbb1 := hbb1.step hc14 (show ¬ bb1 = gp1 by omega)
        replace hmk1 := hmk1.step hc14 (show ¬ w11.heap.size = gp1 by omega)
        replace hbb2 := hbb2.step hc14 (show ¬ bb2 = gp1 by omega)
        replace hML := Nat.le_trans hML (hc14).size
        replace ho10 := ho10.step hc14 (show ¬ b6 = gp1 by omega)
        replace hR2 := Step.trans hR2 (Step.mono hc14 (by intro i hi; first | exact hi | (have hi9 : i = gp1 := hi; (first | show _ ∨ _ | show _ = _); omega)))
        have hxhr4 := SlX.of_rw (X := fun _ => True) hr4 (fun _ _ => trivial)
        have hlthg10 := GaOf.lt hg10
        have hgihg10 := GaI.take (t := ((m + 1 + 5 : Nat) : Int)) (p := (((frameF bt 2).drop (48 * k)).take 48)) hgiK (((48 * manyN nD - 48 * k : Nat) : Int) == 48) (by omega) (by omega) (part_I (F := (frameF bt 2)) (n := (48 * manyN nD)) (k := k) ‹_› (frame_bytes hbD (by decide)) hk9).1 (part_I (F := (frameF bt 2)) (n := (48 * manyN nD)) (k := k) ‹_› (frame_bytes hbD (by decide)) hk9).2
        have htlhg10 := takeT_le hgiK ((m + 1 + 5 : Nat) : Int) (((frameF bt 2).drop (48 * k)).take 48) (((48 * manyN nD - 48 * k : Nat) : Int) == 48) (part_I (F := (frameF bt 2)) (n := (48 * manyN nD)) (k := k) ‹_› (frame_bytes hbD (by decide)) hk9).1
        refine VL_pure 13 [6, 10, 20, 21, 22, 23] [(6, .pointer (some ⟨b1, 0, none⟩)), (10, .pointer (some ⟨b2, 0, none⟩)), (20, .bool (((48 * manyN nD - 48 * k : Nat) : Int) == 48)), (21, .slice A2 ((takeT (feedG G2 ((m + 1 + 5 : Nat) : Int) (frameF bt 2) (flF (48 * manyN nD)) k) ((m + 1 + 5 : Nat) : Int) (((frameF bt 2).drop (48 * k)).take 48) (((48 * manyN nD - 48 * k : Nat) : Int) == 48)).length) c4), (22, .int .u8 (takeM (feedG G2 ((m + 1 + 5 : Nat) : Int) (frameF bt 2) (flF (48 * manyN nD)) k) ((m + 1 + 5 : Nat) : Int) (((frameF bt 2).drop (48 * k)).take 48) (((48 * manyN nD - 48 * k : Nat) : Int) == 48))), (23, .int .i64 (takeE (feedG G2 ((m + 1 + 5 : Nat) : Int) (frameF bt 2) (flF (48 * manyN nD)) k) ((m + 1 + 5 : Nat) : Int) (((frameF bt 2).drop (48 * k)).take 48) (((48 * manyN nD - 48 * k : Nat) : Int) == 48)))] (by kernel_rfl) rfl ?_
        refine VL_end (by kernel_rfl) ?_
        refine VQ_next ?_
        refine VC_seq ?_
        refine VC_region ?_
        refine VL_pure 2 [6, 10, 21, 22, 23, 131] [(6, .pointer (some ⟨b1, 0, none⟩)), (10, .pointer (some ⟨b2, 0, none⟩)), (21, .slice A2 ((takeT (feedG G2 ((m + 1 + 5 : Nat) : Int) (frameF bt 2) (flF (48 * manyN nD)) k) ((m + 1 + 5 : Nat) : Int) (((frameF bt 2).drop (48 * k)).take 48) (((48 * manyN nD - 48 * k : Nat) : Int) == 48)).length) c4), (22, .int .u8 (takeM (feedG G2 ((m + 1 + 5 : Nat) : Int) (frameF bt 2) (flF (48 * manyN nD)) k) ((m + 1 + 5 : Nat) : Int) (((frameF bt 2).drop (48 * k)).take 48) (((48 * manyN nD - 48 * k : Nat) : Int) == 48))), (23, .int .i64 (takeE (feedG G2 ((m + 1 + 5 : Nat) : Int) (frameF bt 2) (flF (48 * manyN nD)) k) ((m + 1 + 5 : Nat) : Int) (((frameF bt 2).drop (48 * k)).take 48) (((48 * manyN nD - 48 * k : Nat) : Int) == 48))), (131, .bool (((48 * manyN nD - 48 * k : Nat) : Int) == 48))] (by kernel_rfl) rfl ?_
        refine VL_bool (((48 * manyN nD - 48 * k : Nat) : Int) == 48) (fun bV => [(6, .pointer (some ⟨b1, 0, none⟩)), (10, .pointer (some ⟨b2, 0, none⟩)), (21, .slice A2 ((takeT (feedG G2 ((m + 1 + 5 : Nat) : Int) (frameF bt 2) (flF (48 * manyN nD)) k) ((m + 1 + 5 : Nat) : Int) (((frameF bt 2).drop (48 * k)).take 48) (((48 * manyN nD - 48 * k : Nat) : Int) == 48)).length) c4), (22, .int .u8 (takeM (feedG G2 ((m + 1 + 5 : Nat) : Int) (frameF bt 2) (flF (48 * manyN nD)) k) ((m + 1 + 5 : Nat) : Int) (((frameF bt 2).drop (48 * k)).take 48) (((48 * manyN nD - 48 * k : Nat) : Int) == 48))), (23, .int .i64 (takeE (feedG G2 ((m + 1 + 5 : Nat) : Int) (frameF bt 2) (flF (48 * manyN nD)) k) ((m + 1 + 5 : Nat) : Int) (((frameF bt 2).drop (48 * k)).take 48) (((48 * manyN nD - 48 * k : Nat) : Int) == 48))), (131, .bool bV)]) rfl (fun hg11 => ?_) (fun hg11 => ?_)
        · refine VL_pure 5 [6, 10, 21, 22, 131, 134] [(6, .pointer (some ⟨b1, 0, none⟩)), (10, .pointer (some ⟨b2, 0, none⟩)), (21, .slice A2 ((takeT (feedG G2 ((m + 1 + 5 : Nat) : Int) (frameF bt 2) (flF (48 * manyN nD)) k) ((m + 1 + 5 : Nat) : Int) (((frameF bt 2).drop (48 * k)).take 48) (((48 * manyN nD - 48 * k : Nat) : Int) == 48)).length) c4), (22, .int .u8 (takeM (feedG G2 ((m + 1 + 5 : Nat) : Int) (frameF bt 2) (flF (48 * manyN nD)) k) ((m + 1 + 5 : Nat) : Int) (((frameF bt 2).drop (48 * k)).take 48) (((48 * manyN nD - 48 * k : Nat) : Int) == 48))), (131, .bool true), (134, .bool ((takeE (feedG G2 ((m + 1 + 5 : Nat) : Int) (frameF bt 2) (flF (48 * manyN nD)) k) ((m + 1 + 5 : Nat) : Int) (((frameF bt 2).drop (48 * k)).take 48) (((48 * manyN nD - 48 * k : Nat) : Int) == 48)) != 0))] (by kernel_rfl) rfl ?_
          refine VL_known ((takeE (feedG G2 ((m + 1 + 5 : Nat) : Int) (frameF bt 2) (flF (48 * manyN nD)) k) ((m + 1 + 5 : Nat) : Int) (((frameF bt 2).drop (48 * k)).take 48) (((48 * manyN nD - 48 * k : Nat) : Int) == 48)) != 0) (fun bV => [(6, .pointer (some ⟨b1, 0, none⟩)), (10, .pointer (some ⟨b2, 0, none⟩)), (21, .slice A2 ((takeT (feedG G2 ((m + 1 + 5 : Nat) : Int) (frameF bt 2) (flF (48 * manyN nD)) k) ((m + 1 + 5 : Nat) : Int) (((frameF bt 2).drop (48 * k)).take 48) (((48 * manyN nD - 48 * k : Nat) : Int) == 48)).length) c4), (22, .int .u8 (takeM (feedG G2 ((m + 1 + 5 : Nat) : Int) (frameF bt 2) (flF (48 * manyN nD)) k) ((m + 1 + 5 : Nat) : Int) (((frameF bt 2).drop (48 * k)).take 48) (((48 * manyN nD - 48 * k : Nat) : Int) == 48))), (131, .bool true), (134, .bool bV)]) false rfl (by first | (rw [(feed_end r1 ‹(frameF bt 2).length = _› (by omega) hk9 (by assumption)).2.2.2, hU2.1]; rfl)) ?_
          refine VL_pure 9 [6, 10, 21, 131, 138] [(6, .pointer (some ⟨b1, 0, none⟩)), (10, .pointer (some ⟨b2, 0, none⟩)), (21, .slice A2 ((takeT (feedG G2 ((m + 1 + 5 : Nat) : Int) (frameF bt 2) (flF (48 * manyN nD)) k) ((m + 1 + 5 : Nat) : Int) (((frameF bt 2).drop (48 * k)).take 48) (((48 * manyN nD - 48 * k : Nat) : Int) == 48)).length) c4), (131, .bool true), (138, .bool ((takeM (feedG G2 ((m + 1 + 5 : Nat) : Int) (frameF bt 2) (flF (48 * manyN nD)) k) ((m + 1 + 5 : Nat) : Int) (((frameF bt 2).drop (48 * k)).take 48) (((48 * manyN nD - 48 * k : Nat) : Int) == 48)) != 2))] (by kernel_rfl) rfl ?_
          refine VL_known ((takeM (feedG G2 ((m + 1 + 5 : Nat) : Int) (frameF bt 2) (flF (48 * manyN nD)) k) ((m + 1 + 5 : Nat) : Int) (((frameF bt 2).drop (48 * k)).take 48) (((48 * manyN nD - 48 * k : Nat) : Int) == 48)) != 2) (fun bV => [(6, .pointer (some ⟨b1, 0, none⟩)), (10, .pointer (some ⟨b2, 0, none⟩)), (21, .slice A2 ((takeT (feedG G2 ((m + 1 + 5 : Nat) : Int) (frameF bt 2) (flF (48 * manyN nD)) k) ((m + 1 + 5 : Nat) : Int) (((frameF bt 2).drop (48 * k)).take 48) (((48 * manyN nD - 48 * k : Nat) : Int) == 48)).length) c4), (131, .bool true), (138, .bool bV)]) false rfl (by rw [(feed_end r1 ‹(frameF bt 2).length = _› (by omega) hk9 (by assumption)).2.2.1, hU2.2.2]; rfl) ?_
          refine VL_pure 10 [6, 10, 131, 138, 139] [(6, .pointer (some ⟨b1, 0, none⟩)), (10, .pointer (some ⟨b2, 0, none⟩)), (131, .bool true), (138, .bool false), (139, .slice A2 ((takeT (feedG G2 ((m + 1 + 5 : Nat) : Int) (frameF bt 2) (flF (48 * manyN nD)) k) ((m + 1 + 5 : Nat) : Int) (((frameF bt 2).drop (48 * k)).take 48) (((48 * manyN nD - 48 * k : Nat) : Int) == 48)).length) c4)] (by kernel_rfl) rfl ?_
          refine VL_load (d := 140) (t := 32) (a := ⟨b1, 0, none⟩) (v := .slice D nD cD) (by kernel_rfl) (by kernel_rfl) (Loads.own1 ho1 (by kernel_rfl) (by rfl)) ?_
          have hzs35 := hS.size
          have hzl165 := ho1.lt
          have hzl166 := ho2.lt
          have hzl167 := ho4.lt
          have hzl168 := ho6.lt
          have hzl169 := hbb1.lt
          have hzl170 := hmk1.lt
          have hzl171 := hbb2.lt
          have hzl172 := ho10.lt
          have hzs36 := hR2.size
          have hzl173 := GaOf.lt hg10
          refine VL_call (d := 141) (f := 17) (args := #[.slice A2 ((takeT (feedG G2 ((m + 1 + 5 : Nat) : Int) (frameF bt 2) (flF (48 * manyN nD)) k) ((m + 1 + 5 : Nat) : Int) (((frameF bt 2).drop (48 * k)).take 48) (((48 * manyN nD - 48 * k : Nat) : Int) == 48)).length) c4, .slice D nD cD]) (by kernel_rfl) (by kernel_rfl) (by kernel_rfl) Try.call17 (same_any A2 ((takeT (feedG G2 ((m + 1 + 5 : Nat) : Int) (frameF bt 2) (flF (48 * manyN nD)) k) ((m + 1 + 5 : Nat) : Int) (((frameF bt 2).drop (48 * k)).take 48) (((48 * manyN nD - 48 * k : Nat) : Int) == 48)).length) c4 _ (takeT (feedG G2 ((m + 1 + 5 : Nat) : Int) (frameF bt 2) (flF (48 * manyN nD)) k) ((m + 1 + 5 : Nat) : Int) (((frameF bt 2).drop (48 * k)).take 48) (((48 * manyN nD - 48 * k : Nat) : Int) == 48)) D nD cD _ bt _ rfl (SlX.sl hxhr4) hnD hDs (by omega) (by omega) (by first | exact Nat.le_refl _ | omega) (by first | exact Nat.le_refl _ | omega)) ?_
          rintro _ w30 ⟨rfl, hc15⟩
          replace hS := Step.trans hS hc15
          replace hA := hA.no hc15
          replace hDs := hDs.no hc15
          replace ho1 := ho1.no hc15
          replace ho2 := ho2.no hc15
          replace ho4 := ho4.no hc15
          replace ho6 := ho6.no hc15
          replace hvx4 := hvx4.no hc15
          replace hvx5 := hvx5.no hc15
          replace hvx6 := hvx6.no hc15
          replace hbb1 := hbb1.no hc15
          replace hmk1 := hmk1.no hc15
          replace hbb2 := hbb2.no hc15
          replace hML := Nat.le_trans hML (hc15).size
          replace ho10 := ho10.no hc15
          replace hR2 := Step.trans hR2 (Step.weak hc15)
          replace hg10 := GaOf.no hg10 hc15
          replace hxhr4 := hxhr4.no hc15
          refine VL_pure 15 [10, 144] [(10, .pointer (some ⟨b2, 0, none⟩)), (144, .bool (!((takeT (feedG G2 ((m + 1 + 5 : Nat) : Int) (frameF bt 2) (flF (48 * manyN nD)) k) ((m + 1 + 5 : Nat) : Int) (((frameF bt 2).drop (48 * k)).take 48) (((48 * manyN nD - 48 * k : Nat) : Int) == 48)) == bt)))] (by kernel_rfl) rfl ?_
          refine VL_end (by kernel_rfl) ?_
          refine VQ_next ?_
          refine VC_is (b := !((takeT (feedG G2 ((m + 1 + 5 : Nat) : Int) (frameF bt 2) (flF (48 * manyN nD)) k) ((m + 1 + 5 : Nat) : Int) (((frameF bt 2).drop (48 * k)).take 48) (((48 * manyN nD - 48 * k : Nat) : Int) == 48)) == bt)) false (by kernel_rfl) (by rw [show ((takeT (feedG G2 ((m + 1 + 5 : Nat) : Int) (frameF bt 2) (flF (48 * manyN nD)) k) ((m + 1 + 5 : Nat) : Int) (((frameF bt 2).drop (48 * k)).take 48) (((48 * manyN nD - 48 * k : Nat) : Int) == 48)) == bt) = true from (by rw [(feed_end r1 ‹(frameF bt 2).length = _› (by omega) hk9 (by assumption)).2.1, hU2.2.1]; simp)]; rfl) ?_
          refine VC_ite_false ?_
          refine VC_skip ?_
          refine VQ_block_normal ?_
          exact VQ_round_end hR2 ⟨hMm, hS, hA, hDs, ho1, ho2, ho4, ho6, hvx4, hvx5, hvx6, hbb1, hmk1, hg10, hbb2⟩
        · refine VL_pure 15 [10, 144] [(10, .pointer (some ⟨b2, 0, none⟩)), (144, .bool false)] (by kernel_rfl) rfl ?_
          refine VL_end (by kernel_rfl) ?_
          refine VQ_next ?_
          refine VC_false (by kernel_rfl) ?_
          refine VC_skip ?_
          refine VQ_block_normal ?_
          exact VQ_round_end hR2 ⟨hMm, hS, hA, hDs, ho1, ho2, ho4, ho6, hvx4, hvx5, hvx6, hbb1, hmk1, hg10, hbb2⟩
      · intro M w31 hM hzM hJ0 hD
        rw [cellsV_len, ‹(frameF bt 2).length = _›] at hJ0
        obtain ⟨K2, hK2⟩ : ∃ K, K = (48 * manyN nD) / 48 := ⟨_, rfl⟩
        rw [← hK2] at hJ0
        obtain ⟨-, hS, hA, hDs, ho1, ho2, ho4, ho6, hvx4, hvx5, hvx6, hbb1, hmk1, hgx2, hbb2⟩ := hJ0
        have hgiK2 := feed_I (F := (frameF bt 2)) (n := (48 * manyN nD)) (t := ((m + 1 + 5 : Nat) : Int)) hgi2 ‹_› (frame_bytes hbD (by decide)) (by omega) (by omega) (flF (48 * manyN nD)) K2 (by omega)
        replace hgx2 := GaOf.mono (Y := (fun _ => True)) hgx2 (fun b _ hb => trivial)
        have hF2 := feed_done (K := K2) r1 ‹(frameF bt 2).length = _› (by omega) (by omega) (by omega)
        have hls := hF2.good hU2.1
        rw [r2] at hls
        have hmk2 := hD
        refine VQ_block_normal ?_
        refine VQ_next ?_
        refine VC_seq ?_
        refine VC_region ?_
        refine VL_load (d := 145) (t := 24) (a := ⟨b4, 0, none⟩) (v := .pointer (some ⟨gp1, 0, none⟩)) (by kernel_rfl) (by kernel_rfl) (Loads.own1 ho6 (by kernel_rfl) (by rfl)) ?_
        have hzs37 := hS.size
        have hzl174 := ho1.lt
        have hzl175 := ho2.lt
        have hzl176 := ho4.lt
        have hzl177 := ho6.lt
        have hzl178 := hbb1.lt
        have hzl179 := hmk1.lt
        have hzl180 := GaOf.lt hgx2
        have hzl181 := hbb2.lt
        have hzl182 := hmk2.lt
        refine VL_call (d := 146) (f := 19) (by kernel_rfl) (by kernel_rfl) (by kernel_rfl) Try.call19 (lost_any gp1 (feedG G2 ((m + 1 + 5 : Nat) : Int) (frameF bt 2) (flF (48 * manyN nD)) K2) (fun _ => True) _ hgx2) ?_
        rintro _ w32 ⟨rfl, hc16⟩
        replace hS := Step.trans hS hc16
        replace hA := hA.no hc16
        replace hDs := hDs.no hc16
        replace ho1 := ho1.no hc16
        replace ho2 := ho2.no hc16
        replace ho4 := ho4.no hc16
        replace ho6 := ho6.no hc16
        replace hvx4 := hvx4.no hc16
        replace hvx5 := hvx5.no hc16
        replace hvx6 := hvx6.no hc16
        replace hbb1 := hbb1.no hc16
        replace hmk1 := hmk1.no hc16
        replace hgx2 := GaOf.no hgx2 hc16
        replace hbb2 := hbb2.no hc16
        replace hmk2 := hmk2.no hc16
        refine VL_pure 3 [10, 147] [(10, .pointer (some ⟨b2, 0, none⟩)), (147, .bool ((((feedG G2 ((m + 1 + 5 : Nat) : Int) (frameF bt 2) (flF (48 * manyN nD)) K2)).lost) == 1))] (by kernel_rfl) rfl ?_
        refine VL_store (b := b2) (o := 0) (vs := [.bool ((((feedG G2 ((m + 1 + 5 : Nat) : Int) (frameF bt 2) (flF (48 * manyN nD)) K2)).lost) == 1)]) (by kernel_rfl) (by kernel_rfl) ho2 (Nat.le_of_ble_eq_true (by kernel_rfl)) ?_
        intro w33 hw5
        replace hS := Step.transNew hS hw5.step (fun _ _ _ => by omega)
        replace hA := hA.step hw5.step (fun k hk (hF : k = b2) => by omega)
        replace hDs := hDs.step hw5.step (fun k hk (hF : k = b2) => by omega)
        replace ho1 := ho1.step hw5.step (show ¬ b1 = b2 by omega)
        replace ho4 := ho4.step hw5.step (show ¬ b3 = b2 by omega)
        replace ho6 := ho6.step hw5.step (show ¬ b4 = b2 by omega)
        replace hvx4 := hvx4.own ho2 (by decide) hw5.step
        replace hvx5 := hvx5.own ho2 (by decide) hw5.step
        replace hvx6 := hvx6.own ho2 (by decide) hw5.step
        replace hbb1 := hbb1.step hw5.step (show ¬ bb1 = b2 by omega)
        replace hmk1 := hmk1.step hw5.step (show ¬ w11.heap.size = b2 by omega)
        replace hgx2 := GaOf.keep hgx2 ho2 (by decide) (by omega) hw5.step
        replace hbb2 := hbb2.step hw5.step (show ¬ bb2 = b2 by omega)
        replace hmk2 := hmk2.step hw5.step (show ¬ w24.heap.size = b2 by omega)
        have ho11 : Own w33 b2 #[.bool ((((feedG G2 ((m + 1 + 5 : Nat) : Int) (frameF bt 2) (flF (48 * manyN nD)) K2)).lost) == 1)] 4 := Own.cast hw5.own (by kernel_rfl)
        have hzhw5 := hw5.same
        refine VL_end (by kernel_rfl) ?_
        refine VQ_next ?_
        refine VC_ret ?_
        have hzs38 := hS.size
        have hzl183 := ho1.lt
        have hzl184 := ho4.lt
        have hzl185 := ho6.lt
        have hzl186 := hbb1.lt
        have hzl187 := hmk1.lt
        have hzl188 := GaOf.lt hgx2
        have hzl189 := hbb2.lt
        have hzl190 := hmk2.lt
        have hzl191 := ho11.lt
        have hzr := ho11.lt
        refine VQ_retMC1 (.bool ((((feedG G2 ((m + 1 + 5 : Nat) : Int) (frameF bt 2) (flF (48 * manyN nD)) K2)).lost) == 1)) [w24.heap.size, w11.heap.size] (.inr rfl) rfl rfl ⟨hmk2, (by simp; omega), hmk1, (by simp), trivial⟩ (fun w9 hq9 => Loads.own1 (ho11.step hq9 (by simp; try omega)) (by kernel_rfl) rfl) ?_
        intro w34 hq1
        replace hS := Step.transNew hS hq1 (fun i hi hG => by (simp only [List.mem_cons, List.mem_nil_iff, or_false] at hG); omega)
        exact ⟨by first | rfl | (rw [hls]; rfl) | simp [*], hS⟩
      · intro e W _ hF _; exact hF.elim
    · refine VL_pure 19 [6, 10, 11, 12, 15, 115] [(6, .pointer (some ⟨b1, 0, none⟩)), (10, .pointer (some ⟨b2, 0, none⟩)), (11, .pointer (some ⟨b3, 0, none⟩)), (12, .pointer (some ⟨b4, 0, none⟩)), (15, .slice (some ⟨g2, 0, none⟩) (48 * manyN nD) c2), (115, .bool false)] (by kernel_rfl) rfl ?_
      refine VL_end (by kernel_rfl) ?_
      refine VQ_next ?_
      refine VC_false (by kernel_rfl) ?_
      refine VC_skip ?_
      refine VQ_next ?_
      refine VC_seq ?_
      refine VC_seq ?_
      obtain ⟨r1, r2, r3, r4⟩ := hL1.rdy (t := ((m + 1 + 5 : Nat) : Int)) (by omega) (by omega) (by omega)
      have hgi2 : GaI (feedG (newG ((m + 1 : Nat) : Int)) 5 ((frameF bs 1).take (48 * N)) (fun _ => false) N) (3 * N + 1) := GaI.mono hgiK1 (by omega)
      obtain ⟨G2, hG2⟩ : ∃ G2, G2 = (feedG (newG ((m + 1 : Nat) : Int)) 5 ((frameF bs 1).take (48 * N)) (fun _ => false) N) := ⟨_, rfl⟩
      rw [← hG2] at r1 r2 hgi2 hg4
      refine VC_region ?_
      refine VL_pure 1 [6, 10, 11, 12, 116] [(6, .pointer (some ⟨b1, 0, none⟩)), (10, .pointer (some ⟨b2, 0, none⟩)), (11, .pointer (some ⟨b3, 0, none⟩)), (12, .pointer (some ⟨b4, 0, none⟩)), (116, .slice (some ⟨g2, 0, none⟩) (48 * manyN nD) c2)] (by kernel_rfl) rfl ?_
      have hzs39 := hS.size
      have hzl192 := ho1.lt
      have hzl193 := ho2.lt
      have hzl194 := ho4.lt
      have hzl195 := ho6.lt
      have hzl196 := hbb1.lt
      have hzl197 := hmk1.lt
      have hzl198 := GaOf.lt hg4
      refine VL_call (d := 117) (f := 21) (args := #[.slice (some ⟨g2, 0, none⟩) (48 * manyN nD) c2]) (by kernel_rfl) (by kernel_rfl) (by kernel_rfl) Try.call21 (cells_any (some ⟨g2, 0, none⟩) (48 * manyN nD) c2 _) ?_
      rintro _ w35 ⟨bb3, rfl, hfbb3, hbb3, hc17⟩
      replace hS := Step.trans hS hc17
      replace hA := hA.no hc17
      replace hDs := hDs.no hc17
      replace ho1 := ho1.no hc17
      replace ho2 := ho2.no hc17
      replace ho4 := ho4.no hc17
      replace ho6 := ho6.no hc17
      replace hvx1 := hvx1.no hc17
      replace hvx2 := hvx2.no hc17
      replace hvx3 := hvx3.no hc17
      replace hbb1 := hbb1.no hc17
      replace hmk1 := hmk1.no hc17
      replace hg4 := GaOf.no hg4 hc17
      have hzbb3 := hbb3.lt
      refine VL_end (by kernel_rfl) ?_
      refine VQ_next ?_
      refine VC_block ?_
      have hzs40 := hS.size
      have hzl199 := ho1.lt
      have hzl200 := ho2.lt
      have hzl201 := ho4.lt
      have hzl202 := ho6.lt
      have hzl203 := hbb1.lt
      have hzl204 := hmk1.lt
      have hzl205 := GaOf.lt hg4
      have hzl206 := hbb3.lt
      have hvx7 := SlX.mono (Y := (fun k9 => k9 < w35.heap.size)) hvx1 (fun b _ hb => hb)
      have hvx8 := SlX.mono (Y := (fun k9 => k9 < w35.heap.size)) hvx2 (fun b _ hb => hb)
      have hvx9 := SlX.mono (Y := (fun k9 => k9 < w35.heap.size)) hvx3 (fun b _ hb => hb)
      have hgx3 := GaOf.mono (Y := (fun k9 => k9 ≠ (w35.heap.size + 1))) hg4 (fun b _ hb => by (try simp only); omega)
      have hzs41 := hS.size
      have hzl207 := ho1.lt
      have hzl208 := ho2.lt
      have hzl209 := ho4.lt
      have hzl210 := ho6.lt
      have hzl211 := hbb1.lt
      have hzl212 := hmk1.lt
      have hzl213 := GaOf.lt hg4
      have hzl214 := hbb3.lt
      refine VC_range (gf := 28) (lb := #[.pointer (some ⟨bb3, 0, none⟩)]) (xs := (cellsV (frameF bt 2))) (by kernel_rfl) Try.call28 (cells_iter bb3 (48 * manyN nD) c2 (w35.heap.size) (some ⟨g2, 0, none⟩) (frameF bt 2) ‹(frameF bt 2).length = _› (by omega) (by omega)) (fun a ha => by obtain ⟨x, _, rfl⟩ := List.mem_map.1 ha; rfl) (by kernel_rfl) (fun M i => i = gp1 ∨ M ≤ i) (fun M i hi => by (try simp only at hi); omega) (fun M k W => w35.heap.size + 2 ≤ M ∧ Step No w W ∧ Sl W (w.heap.size) A (iL .u8 bs) ∧ Sl W (w.heap.size) D (iL .u8 bt) ∧ Own W b1 #[.slice D nD cD] 32 ∧ Own W b2 #[.bool false] 4 ∧ Own W b3 #[.int .i64 ((m + 1 : Nat) : Int)] 3 ∧ Own W b4 #[.pointer (some ⟨gp1, 0, none⟩)] 24 ∧ SlX W 5 (fun k9 => k9 < w35.heap.size) (some ⟨g1, 0, none⟩) (iL .u8 (frameF bs 1)) ∧ SlX W 5 (fun k9 => k9 < w35.heap.size) (some ⟨g2, 0, none⟩) (iL .u8 (frameF bt 2)) ∧ SlX W 5 (fun k9 => k9 < w35.heap.size) (some ⟨g1, 0, none⟩) (iL .u8 ((frameF bs 1).take (48 * N))) ∧ Own W bb1 #[.slice (some ⟨g1, 0, none⟩) (48 * N) c1] 32 ∧ Dfr W (w11.heap.size) ∧ GaOf W 58 gp1 (fun k9 => k9 ≠ (w35.heap.size + 1)) (feedG G2 ((m + 1 + 5 : Nat) : Int) (frameF bt 2) (flF (48 * manyN nD)) k) ∧ Own W bb3 #[.slice (some ⟨g2, 0, none⟩) (48 * manyN nD) c2] 32) (fun e W => False) (by rintro M k W W' ⟨hMm, hS, hA, hDs, ho1, ho2, ho4, ho6, hvx7, hvx8, hvx9, hbb1, hmk1, hgx3, hbb3⟩ hs; exact ⟨hMm, Step.transNew hS hs (fun i hi hG => by have : i = (w35.heap.size + 1) := hG; omega), hA.step hs (fun k hk (hF : k = (w35.heap.size + 1)) => by omega), hDs.step hs (fun k hk (hF : k = (w35.heap.size + 1)) => by omega), ho1.step hs (show ¬ b1 = (w35.heap.size + 1) by omega), ho2.step hs (show ¬ b2 = (w35.heap.size + 1) by omega), ho4.step hs (show ¬ b3 = (w35.heap.size + 1) by omega), ho6.step hs (show ¬ b4 = (w35.heap.size + 1) by omega), SlX.mark hvx7 (fun b hb => by (try simp only at hb); omega) hs, SlX.mark hvx8 (fun b hb => by (try simp only at hb); omega) hs, SlX.mark hvx9 (fun b hb => by (try simp only at hb); omega) hs, hbb1.step hs (show ¬ bb1 = (w35.heap.size + 1) by omega), hmk1.step hs (show ¬ w11.heap.size = (w35.heap.size + 1) by omega), GaOf.mark hgx3 (fun b hb => hb) (by omega) hs, hbb3.step hs (show ¬ bb3 = (w35.heap.size + 1) by omega)⟩) (by rintro e W W' h; exact h.elim) (by rintro M k W W' ⟨hMm, hS, hA, hDs, ho1, ho2, ho4, ho6, hvx7, hvx8, hvx9, hbb1, hmk1, hgx3, hbb3⟩ hs; exact ⟨hMm, Step.trans hS hs, hA.no hs, hDs.no hs, ho1.no hs, ho2.no hs, ho4.no hs, ho6.no hs, hvx7.no hs, hvx8.no hs, hvx9.no hs, hbb1.no hs, hmk1.no hs, GaOf.no hgx3 hs, hbb3.no hs⟩) (by rintro e W W' h; exact h.elim) (by rintro M k W ⟨hMm, hS, hA, hDs, ho1, ho2, ho4, ho6, hvx7, hvx8, hvx9, hbb1, hmk1, hgx3, hbb3⟩; exact ⟨hbb3, SlX.below hvx8⟩) (fun W hs => ⟨hbb3.no hs, SlX.below (hvx8.no hs)⟩) (fun M W hMm hM2 hs _ => ⟨hMm, Step.trans hS hs, hA.no hs, hDs.no hs, ho1.no hs, ho2.no hs, ho4.no hs, ho6.no hs, hvx7.no hs, hvx8.no hs, hvx9.no hs, hbb1.no hs, hmk1.no hs, GaOf.no hgx3 hs, hbb3.no hs⟩) ?_ ?_ ?_
      · intro M k w36 args hM hM2 hx hJ0 hsz
        obtain ⟨hMm, hS, hA, hDs, ho1, ho2, ho4, ho6, hvx7, hvx8, hvx9, hbb1, hmk1, hgx3, hbb3⟩ := hJ0
        obtain ⟨hk9, rfl⟩ := cellsV_inv ‹(frameF bt 2).length = _› hx
        have hML : M ≤ w36.heap.size := hM2
        have hAs : Step No w36 w36 := Step.refl _ _
        have hgiK := feed_I (F := (frameF bt 2)) (n := (48 * manyN nD)) (t := ((m + 1 + 5 : Nat) : Int)) hgi2 ‹_› (frame_bytes hbD (by decide)) (by omega) (by omega) (flF (48 * manyN nD)) k (by omega)
        refine VC_keep [6, 10, 11, 12, 118, 119] [(6, .pointer (some ⟨b1, 0, none⟩)), (10, .pointer (some ⟨b2, 0, none⟩)), (11, .pointer (some ⟨b3, 0, none⟩)), (12, .pointer (some ⟨b4, 0, none⟩)), (118, .agg (iA .u8 (((frameF bt 2).drop (48 * k)).take 48))), (119, .bool (((48 * manyN nD - 48 * k : Nat) : Int) == 48))] (by kernel_rfl) ?_
        refine VC_seq ?_
        refine VC_region ?_
        have hzs42 := hS.size
        have hzl215 := ho1.lt
        have hzl216 := ho2.lt
        have hzl217 := ho4.lt
        have hzl218 := ho6.lt
        have hzl219 := hbb1.lt
        have hzl220 := hmk1.lt
        have hzl221 := GaOf.lt hgx3
        have hzl222 := hbb3.lt
        have hzk7 := hML
        have hzs43 := hAs.size
        have hzs44 := hS.size
        have hzl223 := ho1.lt
        have hzl224 := ho2.lt
        have hzl225 := ho4.lt
        have hzl226 := ho6.lt
        have hzl227 := hbb1.lt
        have hzl228 := hmk1.lt
        have hzl229 := GaOf.lt hgx3
        have hzl230 := hbb3.lt
        have hzk8 := hML
        have hzs45 := hAs.size
        refine VL_box (d := 19) (t := 28) (c := iA .u8 (List.replicate 48 0)) (by kernel_rfl) (by kernel_rfl) ?_
        intro b7 w37 hn7
        replace hS := Step.trans hS (hn7.step No)
        replace hA := hA.no (hn7.step No)
        replace hDs := hDs.no (hn7.step No)
        replace ho1 := ho1.no (hn7.step No)
        replace ho2 := ho2.no (hn7.step No)
        replace ho4 := ho4.no (hn7.step No)
        replace ho6 := ho6.no (hn7.step No)
        replace hvx7 := hvx7.no (hn7.step No)
        replace hvx8 := hvx8.no (hn7.step No)
        replace hvx9 := hvx9.no (hn7.step No)
        replace hbb1 := hbb1.no (hn7.step No)
        replace hmk1 := hmk1.no (hn7.step No)
        replace hgx3 := GaOf.no hgx3 (hn7.step No)
        replace hbb3 := hbb3.no (hn7.step No)
        replace hML := Nat.le_trans hML (hn7.step No).size
        replace hAs := Step.trans hAs (hn7.step No)
        have ho12 := hn7.own
        have hzhn7 := hn7.size
        have hqhn7 := hn7.eqb
        refine VL_storeA (b := b7) (sz := 48) (k := .u8) (bs := ((frameF bt 2).drop (48 * k)).take 48) (by kernel_rfl) (by kernel_rfl) (by (try simp only [List.length_set, List.length_append, List.length_map, List.length_replicate, List.length_cons, List.length_nil, List.length_take, List.length_drop, List.length_range]) <;> omega) ho12 (iA_size.trans (by (try simp only [List.length_set, List.length_append, List.length_map, List.length_replicate, List.length_cons, List.length_nil, List.length_take, List.length_drop, List.length_range]) <;> omega)) ?_
        intro w38 hw6
        replace hS := Step.transNew hS hw6.step (fun _ _ _ => by omega)
        replace hA := hA.step hw6.step (fun k hk (hF : k = b7) => by omega)
        replace hDs := hDs.step hw6.step (fun k hk (hF : k = b7) => by omega)
        replace ho1 := ho1.step hw6.step (show ¬ b1 = b7 by omega)
        replace ho2 := ho2.step hw6.step (show ¬ b2 = b7 by omega)
        replace ho4 := ho4.step hw6.step (show ¬ b3 = b7 by omega)
        replace ho6 := ho6.step hw6.step (show ¬ b4 = b7 by omega)
        replace hvx7 := hvx7.own ho12 (by decide) hw6.step
        replace hvx8 := hvx8.own ho12 (by decide) hw6.step
        replace hvx9 := hvx9.own ho12 (by decide) hw6.step
        replace hbb1 := hbb1.step hw6.step (show ¬ bb1 = b7 by omega)
        replace hmk1 := hmk1.step hw6.step (show ¬ w11.heap.size = b7 by omega)
        replace hgx3 := GaOf.keep hgx3 ho12 (by decide) (by omega) hw6.step
        replace hbb3 := hbb3.step hw6.step (show ¬ bb3 = b7 by omega)
        replace hML := Nat.le_trans hML (hw6.step).size
        replace hAs := Step.transNew hAs hw6.step (fun _ _ _ => by omega)
        have ho13 := hw6.own
        have hzhw6 := hw6.same
        refine VL_end (by kernel_rfl) ?_
        refine VQ_next ?_
        refine VC_region ?_
        refine VL_pure 1 [6, 10, 11, 12, 118, 119, 19, 20] [(6, .pointer (some ⟨b1, 0, none⟩)), (10, .pointer (some ⟨b2, 0, none⟩)), (11, .pointer (some ⟨b3, 0, none⟩)), (12, .pointer (some ⟨b4, 0, none⟩)), (118, .agg (iA .u8 (((frameF bt 2).drop (48 * k)).take 48))), (119, .bool (((48 * manyN nD - 48 * k : Nat) : Int) == 48)), (19, .pointer (some ⟨b7, 0, none⟩)), (20, .bool (((48 * manyN nD - 48 * k : Nat) : Int) == 48))] (by kernel_rfl) rfl ?_
        refine VL_end (by kernel_rfl) ?_
        refine VQ_begin hAs ?_
        intro w39 hb3 hzhb3
        have hzs46 := hS.size
        have hzl231 := ho1.lt
        have hzl232 := ho2.lt
        have hzl233 := ho4.lt
        have hzl234 := ho6.lt
        have hzl235 := hbb1.lt
        have hzl236 := hmk1.lt
        have hzl237 := GaOf.lt hgx3
        have hzl238 := hbb3.lt
        have hzk9 := hML
        have hzl239 := ho13.lt
        replace hS := Step.transNew hS hb3 (fun _ _ _ => by omega)
        replace hA := hA.step hb3 (fun k hk (hF : k = (w35.heap.size + 1)) => by omega)
        replace hDs := hDs.step hb3 (fun k hk (hF : k = (w35.heap.size + 1)) => by omega)
        replace ho1 := ho1.step hb3 (show ¬ b1 = (w35.heap.size + 1) by omega)
        replace ho2 := ho2.step hb3 (show ¬ b2 = (w35.heap.size + 1) by omega)
        replace ho4 := ho4.step hb3 (show ¬ b3 = (w35.heap.size + 1) by omega)
        replace ho6 := ho6.step hb3 (show ¬ b4 = (w35.heap.size + 1) by omega)
        replace hvx7 := SlX.mark hvx7 (fun b hb => by (try simp only at hb); omega) hb3
        replace hvx8 := SlX.mark hvx8 (fun b hb => by (try simp only at hb); omega) hb3
        replace hvx9 := SlX.mark hvx9 (fun b hb => by (try simp only at hb); omega) hb3
        replace hbb1 := hbb1.step hb3 (show ¬ bb1 = (w35.heap.size + 1) by omega)
        replace hmk1 := hmk1.step hb3 (show ¬ w11.heap.size = (w35.heap.size + 1) by omega)
        replace hgx3 := GaOf.mark hgx3 (fun b hb => hb) (by omega) hb3
        replace hbb3 := hbb3.step hb3 (show ¬ bb3 = (w35.heap.size + 1) by omega)
        replace hML := Nat.le_trans hML (hb3).size
        replace ho13 := ho13.step hb3 (show ¬ b7 = (w35.heap.size + 1) by omega)
        have hR3 : Step ((fun M i => i = gp1 ∨ M ≤ i) M) w39 w39 := Step.refl _ _
        refine VC_block ?_
        refine VC_seq ?_
        refine VC_region ?_
        refine VL_load (d := 121) (t := 24) (a := ⟨b4, 0, none⟩) (v := .pointer (some ⟨gp1, 0, none⟩)) (by kernel_rfl) (by kernel_rfl) (Loads.own1 ho6 (by kernel_rfl) (by rfl)) ?_
        refine VL_load (d := 122) (t := 3) (a := ⟨b3, 0, none⟩) (v := .int .i64 ((m + 1 : Nat) : Int)) (by kernel_rfl) (by kernel_rfl) (Loads.own1 ho4 (by kernel_rfl) (by rfl)) ?_
        refine VL_pure 3 [6, 10, 19, 20, 121, 123] [(6, .pointer (some ⟨b1, 0, none⟩)), (10, .pointer (some ⟨b2, 0, none⟩)), (19, .pointer (some ⟨b7, 0, none⟩)), (20, .bool (((48 * manyN nD - 48 * k : Nat) : Int) == 48)), (121, .pointer (some ⟨gp1, 0, none⟩)), (123, .int .i64 (IntKind.wrap .i64 (5 + ((m + 1 : Nat) : Int))))] (by kernel_rfl) rfl ?_
        have he13 : IntKind.wrap .i64 (5 + ((m + 1 : Nat) : Int)) = ((m + 1 + 5 : Nat) : Int) := (by rw [wrap_i64 _ (by omega) (by omega)]; omega)
        refine VL_eq [(6, .pointer (some ⟨b1, 0, none⟩)), (10, .pointer (some ⟨b2, 0, none⟩)), (19, .pointer (some ⟨b7, 0, none⟩)), (20, .bool (((48 * manyN nD - 48 * k : Nat) : Int) == 48)), (121, .pointer (some ⟨gp1, 0, none⟩)), (123, .int .i64 ((m + 1 + 5 : Nat) : Int))] (by rw [he13]) ?_
        refine VL_load (d := 124) (t := 28) (a := ⟨b7, 0, none⟩) (v := .agg (iA .u8 (((frameF bt 2).drop (48 * k)).take 48))) (by kernel_rfl) (by kernel_rfl) (Loads.arr (N := 48) ho13 (by kernel_rfl) (by (try simp only [List.length_set, List.length_append, List.length_map, List.length_replicate, List.length_cons, List.length_nil, List.length_take, List.length_drop, List.length_range]) <;> omega)) ?_
        refine VL_pure 5 [6, 10, 20, 121, 123, 124, 125] [(6, .pointer (some ⟨b1, 0, none⟩)), (10, .pointer (some ⟨b2, 0, none⟩)), (20, .bool (((48 * manyN nD - 48 * k : Nat) : Int) == 48)), (121, .pointer (some ⟨gp1, 0, none⟩)), (123, .int .i64 ((m + 1 + 5 : Nat) : Int)), (124, .agg (iA .u8 (((frameF bt 2).drop (48 * k)).take 48))), (125, .bool (((48 * manyN nD - 48 * k : Nat) : Int) == 48))] (by kernel_rfl) rfl ?_
        have hzs47 := hS.size
        have hzl240 := ho1.lt
        have hzl241 := ho2.lt
        have hzl242 := ho4.lt
        have hzl243 := ho6.lt
        have hzl244 := hbb1.lt
        have hzl245 := hmk1.lt
        have hzl246 := GaOf.lt hgx3
        have hzl247 := hbb3.lt
        have hzl248 := ho13.lt
        have hzs48 := hR3.size
        refine VL_call (d := 126) (f := 15) (by kernel_rfl) (by kernel_rfl) (by kernel_rfl) Try.call15 (take_any gp1 (feedG G2 ((m + 1 + 5 : Nat) : Int) (frameF bt 2) (flF (48 * manyN nD)) k) (fun k9 => k9 ≠ (w35.heap.size + 1)) _ (fun k9 h9 => by (try simp only); omega) hgx3 _ hgiK (by omega) ((m + 1 + 5 : Nat) : Int) (by omega) (by omega) (((frameF bt 2).drop (48 * k)).take 48) (part_I (F := (frameF bt 2)) (n := (48 * manyN nD)) (k := k) ‹_› (frame_bytes hbD (by decide)) hk9).1 (part_I (F := (frameF bt 2)) (n := (48 * manyN nD)) (k := k) ‹_› (frame_bytes hbD (by decide)) hk9).2 (((48 * manyN nD - 48 * k : Nat) : Int) == 48)) ?_
        rintro _ w40 ⟨A3, c5, rfl, hr5, hg13, hc18⟩
        replace hS := Step.transNew hS hc18 (fun _ _ _ => by omega)
        replace hA := hA.step hc18 (fun k hk (hF : k = gp1) => by omega)
        replace hDs := hDs.step hc18 (fun k hk (hF : k = gp1) => by omega)
        replace ho1 := ho1.step hc18 (show ¬ b1 = gp1 by omega)
        replace ho2 := ho2.step hc18 (show ¬ b2 = gp1 by omega)
        replace ho4 := ho4.step hc18 (show ¬ b3 = gp1 by omega)
        replace ho6 := ho6.step hc18 (show ¬ b4 = gp1 by omega)
        replace hvx7 := SlX_ga hvx7 hgx3 (by decide) hc18
        replace hvx8 := SlX_ga hvx8 hgx3 (by decide) hc18
        replace hvx9 := SlX_ga hvx9 hgx3 (by decide) hc18
        replace hbb1 := hbb1.step hc18 (show ¬ bb1 = gp1 by omega)
        replace hmk1 := hmk1.step hc18 (show ¬ w11.heap.size = gp1 by omega)
        replace hbb3 := hbb3.step hc18 (show ¬ bb3 = gp1 by omega)
        replace hML := Nat.le_trans hML (hc18).size
        replace ho13 := ho13.step hc18 (show ¬ b7 = gp1 by omega)
        replace hR3 := Step.trans hR3 (Step.mono hc18 (by intro i hi; first | exact hi | (have hi9 : i = gp1 := hi; (first | show _ ∨ _ | show _ = _); omega)))
        have hxhr5 := SlX.of_rw (X := fun _ => True) hr5 (fun _ _ => trivial)
        have hlthg13 := GaOf.lt hg13
        have hgihg13 := GaI.take (t := ((m + 1 + 5 : Nat) : Int)) (p := (((frameF bt 2).drop (48 * k)).take 48)) hgiK (((48 * manyN nD - 48 * k : Nat) : Int) == 48) (by omega) (by omega) (part_I (F := (frameF bt 2)) (n := (48 * manyN nD)) (k := k) ‹_› (frame_bytes hbD (by decide)) hk9).1 (part_I (F := (frameF bt 2)) (n := (48 * manyN nD)) (k := k) ‹_› (frame_bytes hbD (by decide)) hk9).2
        have htlhg13 := takeT_le hgiK ((m + 1 + 5 : Nat) : Int) (((frameF bt 2).drop (48 * k)).take 48) (((48 * manyN nD - 48 * k : Nat) : Int) == 48) (part_I (F := (frameF bt 2)) (n := (48 * manyN nD)) (k := k) ‹_› (frame_bytes hbD (by decide)) hk9).1
        refine VL_pure 13 [6, 10, 20, 21, 22, 23] [(6, .pointer (some ⟨b1, 0, none⟩)), (10, .pointer (some ⟨b2, 0, none⟩)), (20, .bool (((48 * manyN nD - 48 * k : Nat) : Int) == 48)), (21, .slice A3 ((takeT (feedG G2 ((m + 1 + 5 : Nat) : Int) (frameF bt 2) (flF (48 * manyN nD)) k) ((m + 1 + 5 : Nat) : Int) (((frameF bt 2).drop (48 * k)).take 48) (((48 * manyN nD - 48 * k : Nat) : Int) == 48)).length) c5), (22, .int .u8 (takeM (feedG G2 ((m + 1 + 5 : Nat) : Int) (frameF bt 2) (flF (48 * manyN nD)) k) ((m + 1 + 5 : Nat) : Int) (((frameF bt 2).drop (48 * k)).take 48) (((48 * manyN nD - 48 * k : Nat) : Int) == 48))), (23, .int .i64 (takeE (feedG G2 ((m + 1 + 5 : Nat) : Int) (frameF bt 2) (flF (48 * manyN nD)) k) ((m + 1 + 5 : Nat) : Int) (((frameF bt 2).drop (48 * k)).take 48) (((48 * manyN nD - 48 * k : Nat) : Int) == 48)))] (by kernel_rfl) rfl ?_
        refine VL_end (by kernel_rfl) ?_
        refine VQ_next ?_
        refine VC_seq ?_
        refine VC_region ?_
        refine VL_pure 2 [6, 10, 21, 22, 23, 131] [(6, .pointer (some ⟨b1, 0, none⟩)), (10, .pointer (some ⟨b2, 0, none⟩)), (21, .slice A3 ((takeT (feedG G2 ((m + 1 + 5 : Nat) : Int) (frameF bt 2) (flF (48 * manyN nD)) k) ((m + 1 + 5 : Nat) : Int) (((frameF bt 2).drop (48 * k)).take 48) (((48 * manyN nD - 48 * k : Nat) : Int) == 48)).length) c5), (22, .int .u8 (takeM (feedG G2 ((m + 1 + 5 : Nat) : Int) (frameF bt 2) (flF (48 * manyN nD)) k) ((m + 1 + 5 : Nat) : Int) (((frameF bt 2).drop (48 * k)).take 48) (((48 * manyN nD - 48 * k : Nat) : Int) == 48))), (23, .int .i64 (takeE (feedG G2 ((m + 1 + 5 : Nat) : Int) (frameF bt 2) (flF (48 * manyN nD)) k) ((m + 1 + 5 : Nat) : Int) (((frameF bt 2).drop (48 * k)).take 48) (((48 * manyN nD - 48 * k : Nat) : Int) == 48))), (131, .bool (((48 * manyN nD - 48 * k : Nat) : Int) == 48))] (by kernel_rfl) rfl ?_
        refine VL_bool (((48 * manyN nD - 48 * k : Nat) : Int) == 48) (fun bV => [(6, .pointer (some ⟨b1, 0, none⟩)), (10, .pointer (some ⟨b2, 0, none⟩)), (21, .slice A3 ((takeT (feedG G2 ((m + 1 + 5 : Nat) : Int) (frameF bt 2) (flF (48 * manyN nD)) k) ((m + 1 + 5 : Nat) : Int) (((frameF bt 2).drop (48 * k)).take 48) (((48 * manyN nD - 48 * k : Nat) : Int) == 48)).length) c5), (22, .int .u8 (takeM (feedG G2 ((m + 1 + 5 : Nat) : Int) (frameF bt 2) (flF (48 * manyN nD)) k) ((m + 1 + 5 : Nat) : Int) (((frameF bt 2).drop (48 * k)).take 48) (((48 * manyN nD - 48 * k : Nat) : Int) == 48))), (23, .int .i64 (takeE (feedG G2 ((m + 1 + 5 : Nat) : Int) (frameF bt 2) (flF (48 * manyN nD)) k) ((m + 1 + 5 : Nat) : Int) (((frameF bt 2).drop (48 * k)).take 48) (((48 * manyN nD - 48 * k : Nat) : Int) == 48))), (131, .bool bV)]) rfl (fun hg14 => ?_) (fun hg14 => ?_)
        · refine VL_pure 5 [6, 10, 21, 22, 131, 134] [(6, .pointer (some ⟨b1, 0, none⟩)), (10, .pointer (some ⟨b2, 0, none⟩)), (21, .slice A3 ((takeT (feedG G2 ((m + 1 + 5 : Nat) : Int) (frameF bt 2) (flF (48 * manyN nD)) k) ((m + 1 + 5 : Nat) : Int) (((frameF bt 2).drop (48 * k)).take 48) (((48 * manyN nD - 48 * k : Nat) : Int) == 48)).length) c5), (22, .int .u8 (takeM (feedG G2 ((m + 1 + 5 : Nat) : Int) (frameF bt 2) (flF (48 * manyN nD)) k) ((m + 1 + 5 : Nat) : Int) (((frameF bt 2).drop (48 * k)).take 48) (((48 * manyN nD - 48 * k : Nat) : Int) == 48))), (131, .bool true), (134, .bool ((takeE (feedG G2 ((m + 1 + 5 : Nat) : Int) (frameF bt 2) (flF (48 * manyN nD)) k) ((m + 1 + 5 : Nat) : Int) (((frameF bt 2).drop (48 * k)).take 48) (((48 * manyN nD - 48 * k : Nat) : Int) == 48)) != 0))] (by kernel_rfl) rfl ?_
          refine VL_known ((takeE (feedG G2 ((m + 1 + 5 : Nat) : Int) (frameF bt 2) (flF (48 * manyN nD)) k) ((m + 1 + 5 : Nat) : Int) (((frameF bt 2).drop (48 * k)).take 48) (((48 * manyN nD - 48 * k : Nat) : Int) == 48)) != 0) (fun bV => [(6, .pointer (some ⟨b1, 0, none⟩)), (10, .pointer (some ⟨b2, 0, none⟩)), (21, .slice A3 ((takeT (feedG G2 ((m + 1 + 5 : Nat) : Int) (frameF bt 2) (flF (48 * manyN nD)) k) ((m + 1 + 5 : Nat) : Int) (((frameF bt 2).drop (48 * k)).take 48) (((48 * manyN nD - 48 * k : Nat) : Int) == 48)).length) c5), (22, .int .u8 (takeM (feedG G2 ((m + 1 + 5 : Nat) : Int) (frameF bt 2) (flF (48 * manyN nD)) k) ((m + 1 + 5 : Nat) : Int) (((frameF bt 2).drop (48 * k)).take 48) (((48 * manyN nD - 48 * k : Nat) : Int) == 48))), (131, .bool true), (134, .bool bV)]) false rfl (by first | (rw [(feed_end r1 ‹(frameF bt 2).length = _› (by omega) hk9 (by assumption)).2.2.2, hU2.1]; rfl)) ?_
          refine VL_pure 9 [6, 10, 21, 131, 138] [(6, .pointer (some ⟨b1, 0, none⟩)), (10, .pointer (some ⟨b2, 0, none⟩)), (21, .slice A3 ((takeT (feedG G2 ((m + 1 + 5 : Nat) : Int) (frameF bt 2) (flF (48 * manyN nD)) k) ((m + 1 + 5 : Nat) : Int) (((frameF bt 2).drop (48 * k)).take 48) (((48 * manyN nD - 48 * k : Nat) : Int) == 48)).length) c5), (131, .bool true), (138, .bool ((takeM (feedG G2 ((m + 1 + 5 : Nat) : Int) (frameF bt 2) (flF (48 * manyN nD)) k) ((m + 1 + 5 : Nat) : Int) (((frameF bt 2).drop (48 * k)).take 48) (((48 * manyN nD - 48 * k : Nat) : Int) == 48)) != 2))] (by kernel_rfl) rfl ?_
          refine VL_known ((takeM (feedG G2 ((m + 1 + 5 : Nat) : Int) (frameF bt 2) (flF (48 * manyN nD)) k) ((m + 1 + 5 : Nat) : Int) (((frameF bt 2).drop (48 * k)).take 48) (((48 * manyN nD - 48 * k : Nat) : Int) == 48)) != 2) (fun bV => [(6, .pointer (some ⟨b1, 0, none⟩)), (10, .pointer (some ⟨b2, 0, none⟩)), (21, .slice A3 ((takeT (feedG G2 ((m + 1 + 5 : Nat) : Int) (frameF bt 2) (flF (48 * manyN nD)) k) ((m + 1 + 5 : Nat) : Int) (((frameF bt 2).drop (48 * k)).take 48) (((48 * manyN nD - 48 * k : Nat) : Int) == 48)).length) c5), (131, .bool true), (138, .bool bV)]) false rfl (by rw [(feed_end r1 ‹(frameF bt 2).length = _› (by omega) hk9 (by assumption)).2.2.1, hU2.2.2]; rfl) ?_
          refine VL_pure 10 [6, 10, 131, 138, 139] [(6, .pointer (some ⟨b1, 0, none⟩)), (10, .pointer (some ⟨b2, 0, none⟩)), (131, .bool true), (138, .bool false), (139, .slice A3 ((takeT (feedG G2 ((m + 1 + 5 : Nat) : Int) (frameF bt 2) (flF (48 * manyN nD)) k) ((m + 1 + 5 : Nat) : Int) (((frameF bt 2).drop (48 * k)).take 48) (((48 * manyN nD - 48 * k : Nat) : Int) == 48)).length) c5)] (by kernel_rfl) rfl ?_
          refine VL_load (d := 140) (t := 32) (a := ⟨b1, 0, none⟩) (v := .slice D nD cD) (by kernel_rfl) (by kernel_rfl) (Loads.own1 ho1 (by kernel_rfl) (by rfl)) ?_
          have hzs49 := hS.size
          have hzl249 := ho1.lt
          have hzl250 := ho2.lt
          have hzl251 := ho4.lt
          have hzl252 := ho6.lt
          have hzl253 := hbb1.lt
          have hzl254 := hmk1.lt
          have hzl255 := hbb3.lt
          have hzl256 := ho13.lt
          have hzs50 := hR3.size
          have hzl257 := GaOf.lt hg13
          refine VL_call (d := 141) (f := 17) (args := #[.slice A3 ((takeT (feedG G2 ((m + 1 + 5 : Nat) : Int) (frameF bt 2) (flF (48 * manyN nD)) k) ((m + 1 + 5 : Nat) : Int) (((frameF bt 2).drop (48 * k)).take 48) (((48 * manyN nD - 48 * k : Nat) : Int) == 48)).length) c5, .slice D nD cD]) (by kernel_rfl) (by kernel_rfl) (by kernel_rfl) Try.call17 (same_any A3 ((takeT (feedG G2 ((m + 1 + 5 : Nat) : Int) (frameF bt 2) (flF (48 * manyN nD)) k) ((m + 1 + 5 : Nat) : Int) (((frameF bt 2).drop (48 * k)).take 48) (((48 * manyN nD - 48 * k : Nat) : Int) == 48)).length) c5 _ (takeT (feedG G2 ((m + 1 + 5 : Nat) : Int) (frameF bt 2) (flF (48 * manyN nD)) k) ((m + 1 + 5 : Nat) : Int) (((frameF bt 2).drop (48 * k)).take 48) (((48 * manyN nD - 48 * k : Nat) : Int) == 48)) D nD cD _ bt _ rfl (SlX.sl hxhr5) hnD hDs (by omega) (by omega) (by first | exact Nat.le_refl _ | omega) (by first | exact Nat.le_refl _ | omega)) ?_
          rintro _ w41 ⟨rfl, hc19⟩
          replace hS := Step.trans hS hc19
          replace hA := hA.no hc19
          replace hDs := hDs.no hc19
          replace ho1 := ho1.no hc19
          replace ho2 := ho2.no hc19
          replace ho4 := ho4.no hc19
          replace ho6 := ho6.no hc19
          replace hvx7 := hvx7.no hc19
          replace hvx8 := hvx8.no hc19
          replace hvx9 := hvx9.no hc19
          replace hbb1 := hbb1.no hc19
          replace hmk1 := hmk1.no hc19
          replace hbb3 := hbb3.no hc19
          replace hML := Nat.le_trans hML (hc19).size
          replace ho13 := ho13.no hc19
          replace hR3 := Step.trans hR3 (Step.weak hc19)
          replace hg13 := GaOf.no hg13 hc19
          replace hxhr5 := hxhr5.no hc19
          refine VL_pure 15 [10, 144] [(10, .pointer (some ⟨b2, 0, none⟩)), (144, .bool (!((takeT (feedG G2 ((m + 1 + 5 : Nat) : Int) (frameF bt 2) (flF (48 * manyN nD)) k) ((m + 1 + 5 : Nat) : Int) (((frameF bt 2).drop (48 * k)).take 48) (((48 * manyN nD - 48 * k : Nat) : Int) == 48)) == bt)))] (by kernel_rfl) rfl ?_
          refine VL_end (by kernel_rfl) ?_
          refine VQ_next ?_
          refine VC_is (b := !((takeT (feedG G2 ((m + 1 + 5 : Nat) : Int) (frameF bt 2) (flF (48 * manyN nD)) k) ((m + 1 + 5 : Nat) : Int) (((frameF bt 2).drop (48 * k)).take 48) (((48 * manyN nD - 48 * k : Nat) : Int) == 48)) == bt)) false (by kernel_rfl) (by rw [show ((takeT (feedG G2 ((m + 1 + 5 : Nat) : Int) (frameF bt 2) (flF (48 * manyN nD)) k) ((m + 1 + 5 : Nat) : Int) (((frameF bt 2).drop (48 * k)).take 48) (((48 * manyN nD - 48 * k : Nat) : Int) == 48)) == bt) = true from (by rw [(feed_end r1 ‹(frameF bt 2).length = _› (by omega) hk9 (by assumption)).2.1, hU2.2.1]; simp)]; rfl) ?_
          refine VC_ite_false ?_
          refine VC_skip ?_
          refine VQ_block_normal ?_
          exact VQ_round_end hR3 ⟨hMm, hS, hA, hDs, ho1, ho2, ho4, ho6, hvx7, hvx8, hvx9, hbb1, hmk1, hg13, hbb3⟩
        · refine VL_pure 15 [10, 144] [(10, .pointer (some ⟨b2, 0, none⟩)), (144, .bool false)] (by kernel_rfl) rfl ?_
          refine VL_end (by kernel_rfl) ?_
          refine VQ_next ?_
          refine VC_false (by kernel_rfl) ?_
          refine VC_skip ?_
          refine VQ_block_normal ?_
          exact VQ_round_end hR3 ⟨hMm, hS, hA, hDs, ho1, ho2, ho4, ho6, hvx7, hvx8, hvx9, hbb1, hmk1, hg13, hbb3⟩
      · intro M w42 hM hzM hJ0 hD
        rw [cellsV_len, ‹(frameF bt 2).length = _›] at hJ0
        obtain ⟨K3, hK3⟩ : ∃ K, K = (48 * manyN nD) / 48 := ⟨_, rfl⟩
        rw [← hK3] at hJ0
        obtain ⟨-, hS, hA, hDs, ho1, ho2, ho4, ho6, hvx7, hvx8, hvx9, hbb1, hmk1, hgx3, hbb3⟩ := hJ0
        have hgiK3 := feed_I (F := (frameF bt 2)) (n := (48 * manyN nD)) (t := ((m + 1 + 5 : Nat) : Int)) hgi2 ‹_› (frame_bytes hbD (by decide)) (by omega) (by omega) (flF (48 * manyN nD)) K3 (by omega)
        replace hgx3 := GaOf.mono (Y := (fun _ => True)) hgx3 (fun b _ hb => trivial)
        have hF2 := feed_done (K := K3) r1 ‹(frameF bt 2).length = _› (by omega) (by omega) (by omega)
        have hls := hF2.good hU2.1
        rw [r2] at hls
        have hmk3 := hD
        refine VQ_block_normal ?_
        refine VQ_next ?_
        refine VC_seq ?_
        refine VC_region ?_
        refine VL_load (d := 145) (t := 24) (a := ⟨b4, 0, none⟩) (v := .pointer (some ⟨gp1, 0, none⟩)) (by kernel_rfl) (by kernel_rfl) (Loads.own1 ho6 (by kernel_rfl) (by rfl)) ?_
        have hzs51 := hS.size
        have hzl258 := ho1.lt
        have hzl259 := ho2.lt
        have hzl260 := ho4.lt
        have hzl261 := ho6.lt
        have hzl262 := hbb1.lt
        have hzl263 := hmk1.lt
        have hzl264 := GaOf.lt hgx3
        have hzl265 := hbb3.lt
        have hzl266 := hmk3.lt
        refine VL_call (d := 146) (f := 19) (by kernel_rfl) (by kernel_rfl) (by kernel_rfl) Try.call19 (lost_any gp1 (feedG G2 ((m + 1 + 5 : Nat) : Int) (frameF bt 2) (flF (48 * manyN nD)) K3) (fun _ => True) _ hgx3) ?_
        rintro _ w43 ⟨rfl, hc20⟩
        replace hS := Step.trans hS hc20
        replace hA := hA.no hc20
        replace hDs := hDs.no hc20
        replace ho1 := ho1.no hc20
        replace ho2 := ho2.no hc20
        replace ho4 := ho4.no hc20
        replace ho6 := ho6.no hc20
        replace hvx7 := hvx7.no hc20
        replace hvx8 := hvx8.no hc20
        replace hvx9 := hvx9.no hc20
        replace hbb1 := hbb1.no hc20
        replace hmk1 := hmk1.no hc20
        replace hgx3 := GaOf.no hgx3 hc20
        replace hbb3 := hbb3.no hc20
        replace hmk3 := hmk3.no hc20
        refine VL_pure 3 [10, 147] [(10, .pointer (some ⟨b2, 0, none⟩)), (147, .bool ((((feedG G2 ((m + 1 + 5 : Nat) : Int) (frameF bt 2) (flF (48 * manyN nD)) K3)).lost) == 1))] (by kernel_rfl) rfl ?_
        refine VL_store (b := b2) (o := 0) (vs := [.bool ((((feedG G2 ((m + 1 + 5 : Nat) : Int) (frameF bt 2) (flF (48 * manyN nD)) K3)).lost) == 1)]) (by kernel_rfl) (by kernel_rfl) ho2 (Nat.le_of_ble_eq_true (by kernel_rfl)) ?_
        intro w44 hw7
        replace hS := Step.transNew hS hw7.step (fun _ _ _ => by omega)
        replace hA := hA.step hw7.step (fun k hk (hF : k = b2) => by omega)
        replace hDs := hDs.step hw7.step (fun k hk (hF : k = b2) => by omega)
        replace ho1 := ho1.step hw7.step (show ¬ b1 = b2 by omega)
        replace ho4 := ho4.step hw7.step (show ¬ b3 = b2 by omega)
        replace ho6 := ho6.step hw7.step (show ¬ b4 = b2 by omega)
        replace hvx7 := hvx7.own ho2 (by decide) hw7.step
        replace hvx8 := hvx8.own ho2 (by decide) hw7.step
        replace hvx9 := hvx9.own ho2 (by decide) hw7.step
        replace hbb1 := hbb1.step hw7.step (show ¬ bb1 = b2 by omega)
        replace hmk1 := hmk1.step hw7.step (show ¬ w11.heap.size = b2 by omega)
        replace hgx3 := GaOf.keep hgx3 ho2 (by decide) (by omega) hw7.step
        replace hbb3 := hbb3.step hw7.step (show ¬ bb3 = b2 by omega)
        replace hmk3 := hmk3.step hw7.step (show ¬ w35.heap.size = b2 by omega)
        have ho14 : Own w44 b2 #[.bool ((((feedG G2 ((m + 1 + 5 : Nat) : Int) (frameF bt 2) (flF (48 * manyN nD)) K3)).lost) == 1)] 4 := Own.cast hw7.own (by kernel_rfl)
        have hzhw7 := hw7.same
        refine VL_end (by kernel_rfl) ?_
        refine VQ_next ?_
        refine VC_ret ?_
        have hzs52 := hS.size
        have hzl267 := ho1.lt
        have hzl268 := ho4.lt
        have hzl269 := ho6.lt
        have hzl270 := hbb1.lt
        have hzl271 := hmk1.lt
        have hzl272 := GaOf.lt hgx3
        have hzl273 := hbb3.lt
        have hzl274 := hmk3.lt
        have hzl275 := ho14.lt
        have hzr := ho14.lt
        refine VQ_retMC1 (.bool ((((feedG G2 ((m + 1 + 5 : Nat) : Int) (frameF bt 2) (flF (48 * manyN nD)) K3)).lost) == 1)) [w35.heap.size, w11.heap.size] (.inr rfl) rfl rfl ⟨hmk3, (by simp; omega), hmk1, (by simp), trivial⟩ (fun w9 hq9 => Loads.own1 (ho14.step hq9 (by simp; try omega)) (by kernel_rfl) rfl) ?_
        intro w45 hq2
        replace hS := Step.transNew hS hq2 (fun i hi hG => by (simp only [List.mem_cons, List.mem_nil_iff, or_false] at hG); omega)
        exact ⟨by first | rfl | (rw [hls]; rfl) | simp [*], hS⟩
      · intro e W _ hF _; exact hF.elim
  · intro e W _ hF _; exact hF.elim

set_option maxRecDepth 100000 in
set_option maxHeartbeats 4000000 in
theorem late_o1 (A : Option Addr) (n c : Nat) (bs : List Int) (D : Option Addr) (nD cD : Nat) (bt : List Int) (cut m : Nat) (tk : Bool) (w : World) (hn : bs.length = n) (hA : Sl w w.heap.size A (iL .u8 bs)) (hc : n ≤ c) (hb : Bytes bs) (hnD : bt.length = nD) (hDs : Sl w w.heap.size D (iL .u8 bt)) (hcD : nD ≤ cD) (hbD : Bytes bt) (hcut : cut < 256) (hm : m < 65536) (hlon : 0 ≤ n) (hhin : n ≤ 40) :
    CV Try.prog 6 #[.slice A n c, .slice D nD cD, .int .u8 ((cut : Nat) : Int), .int .u16 ((m : Nat) : Int), .bool tk] w (fun x w1 => x = .bool true ∧ Step No w w1) := by
  have hS : Step No w w := Step.refl _ _
  refine CV_enterM Try.f6 _ 148 [(0, .slice A n c), (1, .slice D nD cD), (2, .int .u8 ((cut : Nat) : Int)), (3, .int .u16 ((m : Nat) : Int)), (4, .bool tk)] Try.func6 rfl rfl (by kernel_rfl) rfl ?_
  refine VC_seq ?_
  refine VC_region ?_
  have hzs1 := hS.size
  refine VL_box (d := 6) (t := 32) (c := #[.slice D nD cD]) (by kernel_rfl) (by kernel_rfl) ?_
  intro b1 w1 hn1
  replace hS := Step.trans hS (hn1.step No)
  replace hA := hA.no (hn1.step No)
  replace hDs := hDs.no (hn1.step No)
  have ho1 := hn1.own
  have hzhn1 := hn1.size
  have hqhn1 := hn1.eqb
  have hzs2 := hS.size
  have hzl1 := ho1.lt
  refine VL_box (d := 10) (t := 4) (c := #[.bool false]) (by kernel_rfl) (by kernel_rfl) ?_
  intro b2 w2 hn2
  replace hS := Step.trans hS (hn2.step No)
  replace hA := hA.no (hn2.step No)
  replace hDs := hDs.no (hn2.step No)
  replace ho1 := ho1.no (hn2.step No)
  have ho2 := hn2.own
  have hzhn2 := hn2.size
  have hqhn2 := hn2.eqb
  refine VL_end (by kernel_rfl) ?_
  refine VQ_next ?_
  refine VC_seq ?_
  refine VC_seq ?_
  refine VC_region ?_
  have hzs3 := hS.size
  have hzl2 := ho1.lt
  have hzl3 := ho2.lt
  refine VL_call (d := 24) (f := 9) (args := #[]) (by kernel_rfl) (by kernel_rfl) (by kernel_rfl) Try.call9 (awake_any _) ?_
  rintro _ w3 ⟨rfl, hc1⟩
  replace hS := Step.trans hS hc1
  replace hA := hA.no hc1
  replace hDs := hDs.no hc1
  replace ho1 := ho1.no hc1
  replace ho2 := ho2.no hc1
  refine VL_pure 8 [0, 2, 3, 4, 6, 10, 31] [(0, .slice A n c), (2, .int .u8 ((cut : Nat) : Int)), (3, .int .u16 ((m : Nat) : Int)), (4, .bool tk), (6, .pointer (some ⟨b1, 0, none⟩)), (10, .pointer (some ⟨b2, 0, none⟩)), (31, .bool (decide (((n : Nat) : Int) > 1000)))] (by kernel_rfl) rfl ?_
  refine VL_known (decide (((n : Nat) : Int) > 1000)) (fun bV => [(0, .slice A n c), (2, .int .u8 ((cut : Nat) : Int)), (3, .int .u16 ((m : Nat) : Int)), (4, .bool tk), (6, .pointer (some ⟨b1, 0, none⟩)), (10, .pointer (some ⟨b2, 0, none⟩)), (31, .bool bV)]) false rfl (by first | (simp; omega) | (simp; done) | simp [*]) ?_
  refine VL_load (d := 32) (t := 32) (a := ⟨b1, 0, none⟩) (v := .slice D nD cD) (by kernel_rfl) (by kernel_rfl) (Loads.own1 ho1 (by kernel_rfl) (by rfl)) ?_
  refine VL_pure 13 [0, 2, 3, 4, 6, 10, 36] [(0, .slice A n c), (2, .int .u8 ((cut : Nat) : Int)), (3, .int .u16 ((m : Nat) : Int)), (4, .bool tk), (6, .pointer (some ⟨b1, 0, none⟩)), (10, .pointer (some ⟨b2, 0, none⟩)), (36, .bool (decide (((nD : Nat) : Int) > 1000)))] (by kernel_rfl) rfl ?_
  refine VL_dec (((nD : Nat) : Int) > 1000) (fun bV => [(0, .slice A n c), (2, .int .u8 ((cut : Nat) : Int)), (3, .int .u16 ((m : Nat) : Int)), (4, .bool tk), (6, .pointer (some ⟨b1, 0, none⟩)), (10, .pointer (some ⟨b2, 0, none⟩)), (36, .bool bV)]) rfl (fun hg1 => ?_) (fun hg1 => ?_)
  · refine VL_pure 22 [0, 2, 3, 4, 6, 10, 45] [(0, .slice A n c), (2, .int .u8 ((cut : Nat) : Int)), (3, .int .u16 ((m : Nat) : Int)), (4, .bool tk), (6, .pointer (some ⟨b1, 0, none⟩)), (10, .pointer (some ⟨b2, 0, none⟩)), (45, .bool true)] (by kernel_rfl) rfl ?_
    refine VL_end (by kernel_rfl) ?_
    refine VQ_next ?_
    refine VC_true (by kernel_rfl) ?_
    refine VC_seq ?_
    refine VC_region ?_
    have hzs4 := hS.size
    have hzl4 := ho1.lt
    have hzl5 := ho2.lt
    refine VL_call (d := 46) (f := 9) (args := #[]) (by kernel_rfl) (by kernel_rfl) (by kernel_rfl) Try.call9 (awake_any _) ?_
    rintro _ w4 ⟨rfl, hc2⟩
    replace hS := Step.trans hS hc2
    replace hA := hA.no hc2
    replace hDs := hDs.no hc2
    replace ho1 := ho1.no hc2
    replace ho2 := ho2.no hc2
    refine VL_store (b := b2) (o := 0) (vs := [.bool true]) (by kernel_rfl) (by kernel_rfl) ho2 (Nat.le_of_ble_eq_true (by kernel_rfl)) ?_
    intro w5 hw1
    replace hS := Step.transNew hS hw1.step (fun _ _ _ => by omega)
    replace hA := hA.step hw1.step (fun k hk (hF : k = b2) => by omega)
    replace hDs := hDs.step hw1.step (fun k hk (hF : k = b2) => by omega)
    replace ho1 := ho1.step hw1.step (show ¬ b1 = b2 by omega)
    have ho3 : Own w5 b2 #[.bool true] 4 := Own.cast hw1.own (by kernel_rfl)
    have hzhw1 := hw1.same
    refine VL_end (by kernel_rfl) ?_
    refine VQ_next ?_
    refine VC_ret ?_
    refine VQ_then_ret ?_
    have hzs5 := hS.size
    have hzl6 := ho1.lt
    have hzl7 := ho3.lt
    have hzr := ho3.lt
    refine VQ_retMC1 (.bool true) [] (.inr rfl) rfl rfl trivial (fun w9 hq9 => Loads.own1 (ho3.step hq9 (by simp; try omega)) (by kernel_rfl) rfl) ?_
    intro w6 hq1
    replace hq1 : Step No w5 w6 := Step.mono hq1 (fun i hi => by simp at hi)
    replace hS := Step.trans hS hq1
    replace hA := hA.no hq1
    replace hDs := hDs.no hq1
    replace ho1 := ho1.no hq1
    replace ho3 := ho3.no hq1
    exact ⟨by first | rfl | (rw [hls]; rfl) | simp [*], hS⟩
  · refine VL_pure 18 [0, 2, 3, 4, 6, 10, 41] [(0, .slice A n c), (2, .int .u8 ((cut : Nat) : Int)), (3, .int .u16 ((m : Nat) : Int)), (4, .bool tk), (6, .pointer (some ⟨b1, 0, none⟩)), (10, .pointer (some ⟨b2, 0, none⟩)), (41, .bool (decide (((n : Nat) : Int) ≤ 40)))] (by kernel_rfl) rfl ?_
    refine VL_known (decide (((n : Nat) : Int) ≤ 40)) (fun bV => [(0, .slice A n c), (2, .int .u8 ((cut : Nat) : Int)), (3, .int .u16 ((m : Nat) : Int)), (4, .bool tk), (6, .pointer (some ⟨b1, 0, none⟩)), (10, .pointer (some ⟨b2, 0, none⟩)), (41, .bool bV)]) true rfl (by first | (simp; omega) | (simp; done) | simp [*]) ?_
    refine VL_pure 22 [0, 2, 3, 4, 6, 10, 45] [(0, .slice A n c), (2, .int .u8 ((cut : Nat) : Int)), (3, .int .u16 ((m : Nat) : Int)), (4, .bool tk), (6, .pointer (some ⟨b1, 0, none⟩)), (10, .pointer (some ⟨b2, 0, none⟩)), (45, .bool true)] (by kernel_rfl) rfl ?_
    refine VL_end (by kernel_rfl) ?_
    refine VQ_next ?_
    refine VC_true (by kernel_rfl) ?_
    refine VC_seq ?_
    refine VC_region ?_
    have hzs6 := hS.size
    have hzl8 := ho1.lt
    have hzl9 := ho2.lt
    refine VL_call (d := 46) (f := 9) (args := #[]) (by kernel_rfl) (by kernel_rfl) (by kernel_rfl) Try.call9 (awake_any _) ?_
    rintro _ w7 ⟨rfl, hc3⟩
    replace hS := Step.trans hS hc3
    replace hA := hA.no hc3
    replace hDs := hDs.no hc3
    replace ho1 := ho1.no hc3
    replace ho2 := ho2.no hc3
    refine VL_store (b := b2) (o := 0) (vs := [.bool true]) (by kernel_rfl) (by kernel_rfl) ho2 (Nat.le_of_ble_eq_true (by kernel_rfl)) ?_
    intro w8 hw2
    replace hS := Step.transNew hS hw2.step (fun _ _ _ => by omega)
    replace hA := hA.step hw2.step (fun k hk (hF : k = b2) => by omega)
    replace hDs := hDs.step hw2.step (fun k hk (hF : k = b2) => by omega)
    replace ho1 := ho1.step hw2.step (show ¬ b1 = b2 by omega)
    have ho4 : Own w8 b2 #[.bool true] 4 := Own.cast hw2.own (by kernel_rfl)
    have hzhw2 := hw2.same
    refine VL_end (by kernel_rfl) ?_
    refine VQ_next ?_
    refine VC_ret ?_
    refine VQ_then_ret ?_
    have hzs7 := hS.size
    have hzl10 := ho1.lt
    have hzl11 := ho4.lt
    have hzr := ho4.lt
    refine VQ_retMC1 (.bool true) [] (.inr rfl) rfl rfl trivial (fun w9 hq9 => Loads.own1 (ho4.step hq9 (by simp; try omega)) (by kernel_rfl) rfl) ?_
    intro w9 hq2
    replace hq2 : Step No w8 w9 := Step.mono hq2 (fun i hi => by simp at hi)
    replace hS := Step.trans hS hq2
    replace hA := hA.no hq2
    replace hDs := hDs.no hq2
    replace ho1 := ho1.no hq2
    replace ho4 := ho4.no hq2
    exact ⟨by first | rfl | (rw [hls]; rfl) | simp [*], hS⟩

set_option maxRecDepth 100000 in
set_option maxHeartbeats 4000000 in
theorem late_o2 (A : Option Addr) (n c : Nat) (bs : List Int) (D : Option Addr) (nD cD : Nat) (bt : List Int) (cut m : Nat) (tk : Bool) (w : World) (hn : bs.length = n) (hA : Sl w w.heap.size A (iL .u8 bs)) (hc : n ≤ c) (hb : Bytes bs) (hnD : bt.length = nD) (hDs : Sl w w.heap.size D (iL .u8 bt)) (hcD : nD ≤ cD) (hbD : Bytes bt) (hcut : cut < 256) (hm : m < 65536) (hlon : 1001 ≤ n) :
    CV Try.prog 6 #[.slice A n c, .slice D nD cD, .int .u8 ((cut : Nat) : Int), .int .u16 ((m : Nat) : Int), .bool tk] w (fun x w1 => x = .bool true ∧ Step No w w1) := by
  have hS : Step No w w := Step.refl _ _
  refine CV_enterM Try.f6 _ 148 [(0, .slice A n c), (1, .slice D nD cD), (2, .int .u8 ((cut : Nat) : Int)), (3, .int .u16 ((m : Nat) : Int)), (4, .bool tk)] Try.func6 rfl rfl (by kernel_rfl) rfl ?_
  refine VC_seq ?_
  refine VC_region ?_
  have hzs1 := hS.size
  refine VL_box (d := 6) (t := 32) (c := #[.slice D nD cD]) (by kernel_rfl) (by kernel_rfl) ?_
  intro b1 w1 hn1
  replace hS := Step.trans hS (hn1.step No)
  replace hA := hA.no (hn1.step No)
  replace hDs := hDs.no (hn1.step No)
  have ho1 := hn1.own
  have hzhn1 := hn1.size
  have hqhn1 := hn1.eqb
  have hzs2 := hS.size
  have hzl1 := ho1.lt
  refine VL_box (d := 10) (t := 4) (c := #[.bool false]) (by kernel_rfl) (by kernel_rfl) ?_
  intro b2 w2 hn2
  replace hS := Step.trans hS (hn2.step No)
  replace hA := hA.no (hn2.step No)
  replace hDs := hDs.no (hn2.step No)
  replace ho1 := ho1.no (hn2.step No)
  have ho2 := hn2.own
  have hzhn2 := hn2.size
  have hqhn2 := hn2.eqb
  refine VL_end (by kernel_rfl) ?_
  refine VQ_next ?_
  refine VC_seq ?_
  refine VC_seq ?_
  refine VC_region ?_
  have hzs3 := hS.size
  have hzl2 := ho1.lt
  have hzl3 := ho2.lt
  refine VL_call (d := 24) (f := 9) (args := #[]) (by kernel_rfl) (by kernel_rfl) (by kernel_rfl) Try.call9 (awake_any _) ?_
  rintro _ w3 ⟨rfl, hc1⟩
  replace hS := Step.trans hS hc1
  replace hA := hA.no hc1
  replace hDs := hDs.no hc1
  replace ho1 := ho1.no hc1
  replace ho2 := ho2.no hc1
  refine VL_pure 8 [0, 2, 3, 4, 6, 10, 31] [(0, .slice A n c), (2, .int .u8 ((cut : Nat) : Int)), (3, .int .u16 ((m : Nat) : Int)), (4, .bool tk), (6, .pointer (some ⟨b1, 0, none⟩)), (10, .pointer (some ⟨b2, 0, none⟩)), (31, .bool (decide (((n : Nat) : Int) > 1000)))] (by kernel_rfl) rfl ?_
  refine VL_known (decide (((n : Nat) : Int) > 1000)) (fun bV => [(0, .slice A n c), (2, .int .u8 ((cut : Nat) : Int)), (3, .int .u16 ((m : Nat) : Int)), (4, .bool tk), (6, .pointer (some ⟨b1, 0, none⟩)), (10, .pointer (some ⟨b2, 0, none⟩)), (31, .bool bV)]) true rfl (by first | (simp; omega) | (simp; done) | simp [*]) ?_
  refine VL_pure 22 [0, 2, 3, 4, 6, 10, 45] [(0, .slice A n c), (2, .int .u8 ((cut : Nat) : Int)), (3, .int .u16 ((m : Nat) : Int)), (4, .bool tk), (6, .pointer (some ⟨b1, 0, none⟩)), (10, .pointer (some ⟨b2, 0, none⟩)), (45, .bool true)] (by kernel_rfl) rfl ?_
  refine VL_end (by kernel_rfl) ?_
  refine VQ_next ?_
  refine VC_true (by kernel_rfl) ?_
  refine VC_seq ?_
  refine VC_region ?_
  have hzs4 := hS.size
  have hzl4 := ho1.lt
  have hzl5 := ho2.lt
  refine VL_call (d := 46) (f := 9) (args := #[]) (by kernel_rfl) (by kernel_rfl) (by kernel_rfl) Try.call9 (awake_any _) ?_
  rintro _ w4 ⟨rfl, hc2⟩
  replace hS := Step.trans hS hc2
  replace hA := hA.no hc2
  replace hDs := hDs.no hc2
  replace ho1 := ho1.no hc2
  replace ho2 := ho2.no hc2
  refine VL_store (b := b2) (o := 0) (vs := [.bool true]) (by kernel_rfl) (by kernel_rfl) ho2 (Nat.le_of_ble_eq_true (by kernel_rfl)) ?_
  intro w5 hw1
  replace hS := Step.transNew hS hw1.step (fun _ _ _ => by omega)
  replace hA := hA.step hw1.step (fun k hk (hF : k = b2) => by omega)
  replace hDs := hDs.step hw1.step (fun k hk (hF : k = b2) => by omega)
  replace ho1 := ho1.step hw1.step (show ¬ b1 = b2 by omega)
  have ho3 : Own w5 b2 #[.bool true] 4 := Own.cast hw1.own (by kernel_rfl)
  have hzhw1 := hw1.same
  refine VL_end (by kernel_rfl) ?_
  refine VQ_next ?_
  refine VC_ret ?_
  refine VQ_then_ret ?_
  have hzs5 := hS.size
  have hzl6 := ho1.lt
  have hzl7 := ho3.lt
  have hzr := ho3.lt
  refine VQ_retMC1 (.bool true) [] (.inr rfl) rfl rfl trivial (fun w9 hq9 => Loads.own1 (ho3.step hq9 (by simp; try omega)) (by kernel_rfl) rfl) ?_
  intro w6 hq1
  replace hq1 : Step No w5 w6 := Step.mono hq1 (fun i hi => by simp at hi)
  replace hS := Step.trans hS hq1
  replace hA := hA.no hq1
  replace hDs := hDs.no hq1
  replace ho1 := ho1.no hq1
  replace ho3 := ho3.no hq1
  exact ⟨by first | rfl | (rw [hls]; rfl) | simp [*], hS⟩

set_option maxRecDepth 100000 in
set_option maxHeartbeats 4000000 in
theorem late_o3 (A : Option Addr) (n c : Nat) (bs : List Int) (D : Option Addr) (nD cD : Nat) (bt : List Int) (cut m : Nat) (tk : Bool) (w : World) (hn : bs.length = n) (hA : Sl w w.heap.size A (iL .u8 bs)) (hc : n ≤ c) (hb : Bytes bs) (hnD : bt.length = nD) (hDs : Sl w w.heap.size D (iL .u8 bt)) (hcD : nD ≤ cD) (hbD : Bytes bt) (hcut : cut < 256) (hm : m < 65536) (hlon : 41 ≤ n) (hhin : n ≤ 1000) (hlonD : 1001 ≤ nD) :
    CV Try.prog 6 #[.slice A n c, .slice D nD cD, .int .u8 ((cut : Nat) : Int), .int .u16 ((m : Nat) : Int), .bool tk] w (fun x w1 => x = .bool true ∧ Step No w w1) := by
  have hS : Step No w w := Step.refl _ _
  refine CV_enterM Try.f6 _ 148 [(0, .slice A n c), (1, .slice D nD cD), (2, .int .u8 ((cut : Nat) : Int)), (3, .int .u16 ((m : Nat) : Int)), (4, .bool tk)] Try.func6 rfl rfl (by kernel_rfl) rfl ?_
  refine VC_seq ?_
  refine VC_region ?_
  have hzs1 := hS.size
  refine VL_box (d := 6) (t := 32) (c := #[.slice D nD cD]) (by kernel_rfl) (by kernel_rfl) ?_
  intro b1 w1 hn1
  replace hS := Step.trans hS (hn1.step No)
  replace hA := hA.no (hn1.step No)
  replace hDs := hDs.no (hn1.step No)
  have ho1 := hn1.own
  have hzhn1 := hn1.size
  have hqhn1 := hn1.eqb
  have hzs2 := hS.size
  have hzl1 := ho1.lt
  refine VL_box (d := 10) (t := 4) (c := #[.bool false]) (by kernel_rfl) (by kernel_rfl) ?_
  intro b2 w2 hn2
  replace hS := Step.trans hS (hn2.step No)
  replace hA := hA.no (hn2.step No)
  replace hDs := hDs.no (hn2.step No)
  replace ho1 := ho1.no (hn2.step No)
  have ho2 := hn2.own
  have hzhn2 := hn2.size
  have hqhn2 := hn2.eqb
  refine VL_end (by kernel_rfl) ?_
  refine VQ_next ?_
  refine VC_seq ?_
  refine VC_seq ?_
  refine VC_region ?_
  have hzs3 := hS.size
  have hzl2 := ho1.lt
  have hzl3 := ho2.lt
  refine VL_call (d := 24) (f := 9) (args := #[]) (by kernel_rfl) (by kernel_rfl) (by kernel_rfl) Try.call9 (awake_any _) ?_
  rintro _ w3 ⟨rfl, hc1⟩
  replace hS := Step.trans hS hc1
  replace hA := hA.no hc1
  replace hDs := hDs.no hc1
  replace ho1 := ho1.no hc1
  replace ho2 := ho2.no hc1
  refine VL_pure 8 [0, 2, 3, 4, 6, 10, 31] [(0, .slice A n c), (2, .int .u8 ((cut : Nat) : Int)), (3, .int .u16 ((m : Nat) : Int)), (4, .bool tk), (6, .pointer (some ⟨b1, 0, none⟩)), (10, .pointer (some ⟨b2, 0, none⟩)), (31, .bool (decide (((n : Nat) : Int) > 1000)))] (by kernel_rfl) rfl ?_
  refine VL_known (decide (((n : Nat) : Int) > 1000)) (fun bV => [(0, .slice A n c), (2, .int .u8 ((cut : Nat) : Int)), (3, .int .u16 ((m : Nat) : Int)), (4, .bool tk), (6, .pointer (some ⟨b1, 0, none⟩)), (10, .pointer (some ⟨b2, 0, none⟩)), (31, .bool bV)]) false rfl (by first | (simp; omega) | (simp; done) | simp [*]) ?_
  refine VL_load (d := 32) (t := 32) (a := ⟨b1, 0, none⟩) (v := .slice D nD cD) (by kernel_rfl) (by kernel_rfl) (Loads.own1 ho1 (by kernel_rfl) (by rfl)) ?_
  refine VL_pure 13 [0, 2, 3, 4, 6, 10, 36] [(0, .slice A n c), (2, .int .u8 ((cut : Nat) : Int)), (3, .int .u16 ((m : Nat) : Int)), (4, .bool tk), (6, .pointer (some ⟨b1, 0, none⟩)), (10, .pointer (some ⟨b2, 0, none⟩)), (36, .bool (decide (((nD : Nat) : Int) > 1000)))] (by kernel_rfl) rfl ?_
  refine VL_known (decide (((nD : Nat) : Int) > 1000)) (fun bV => [(0, .slice A n c), (2, .int .u8 ((cut : Nat) : Int)), (3, .int .u16 ((m : Nat) : Int)), (4, .bool tk), (6, .pointer (some ⟨b1, 0, none⟩)), (10, .pointer (some ⟨b2, 0, none⟩)), (36, .bool bV)]) true rfl (by first | (simp; omega) | (simp; done) | simp [*]) ?_
  refine VL_pure 22 [0, 2, 3, 4, 6, 10, 45] [(0, .slice A n c), (2, .int .u8 ((cut : Nat) : Int)), (3, .int .u16 ((m : Nat) : Int)), (4, .bool tk), (6, .pointer (some ⟨b1, 0, none⟩)), (10, .pointer (some ⟨b2, 0, none⟩)), (45, .bool true)] (by kernel_rfl) rfl ?_
  refine VL_end (by kernel_rfl) ?_
  refine VQ_next ?_
  refine VC_true (by kernel_rfl) ?_
  refine VC_seq ?_
  refine VC_region ?_
  have hzs4 := hS.size
  have hzl4 := ho1.lt
  have hzl5 := ho2.lt
  refine VL_call (d := 46) (f := 9) (args := #[]) (by kernel_rfl) (by kernel_rfl) (by kernel_rfl) Try.call9 (awake_any _) ?_
  rintro _ w4 ⟨rfl, hc2⟩
  replace hS := Step.trans hS hc2
  replace hA := hA.no hc2
  replace hDs := hDs.no hc2
  replace ho1 := ho1.no hc2
  replace ho2 := ho2.no hc2
  refine VL_store (b := b2) (o := 0) (vs := [.bool true]) (by kernel_rfl) (by kernel_rfl) ho2 (Nat.le_of_ble_eq_true (by kernel_rfl)) ?_
  intro w5 hw1
  replace hS := Step.transNew hS hw1.step (fun _ _ _ => by omega)
  replace hA := hA.step hw1.step (fun k hk (hF : k = b2) => by omega)
  replace hDs := hDs.step hw1.step (fun k hk (hF : k = b2) => by omega)
  replace ho1 := ho1.step hw1.step (show ¬ b1 = b2 by omega)
  have ho3 : Own w5 b2 #[.bool true] 4 := Own.cast hw1.own (by kernel_rfl)
  have hzhw1 := hw1.same
  refine VL_end (by kernel_rfl) ?_
  refine VQ_next ?_
  refine VC_ret ?_
  refine VQ_then_ret ?_
  have hzs5 := hS.size
  have hzl6 := ho1.lt
  have hzl7 := ho3.lt
  have hzr := ho3.lt
  refine VQ_retMC1 (.bool true) [] (.inr rfl) rfl rfl trivial (fun w9 hq9 => Loads.own1 (ho3.step hq9 (by simp; try omega)) (by kernel_rfl) rfl) ?_
  intro w6 hq1
  replace hq1 : Step No w5 w6 := Step.mono hq1 (fun i hi => by simp at hi)
  replace hS := Step.trans hS hq1
  replace hA := hA.no hq1
  replace hDs := hDs.no hq1
  replace ho1 := ho1.no hq1
  replace ho3 := ho3.no hq1
  exact ⟨by first | rfl | (rw [hls]; rfl) | simp [*], hS⟩

set_option maxRecDepth 100000 in
set_option maxHeartbeats 4000000 in
theorem late_o4 (A : Option Addr) (n c : Nat) (bs : List Int) (D : Option Addr) (nD cD : Nat) (bt : List Int) (cut m : Nat) (tk : Bool) (w : World) (hn : bs.length = n) (hA : Sl w w.heap.size A (iL .u8 bs)) (hc : n ≤ c) (hb : Bytes bs) (hnD : bt.length = nD) (hDs : Sl w w.heap.size D (iL .u8 bt)) (hcD : nD ≤ cD) (hbD : Bytes bt) (hcut : cut < 256) (hm : m < 65536) (hlon : 41 ≤ n) (hhin : n ≤ 1000) (hlonD : 0 ≤ nD) (hhinD : nD ≤ 0) :
    CV Try.prog 6 #[.slice A n c, .slice D nD cD, .int .u8 ((cut : Nat) : Int), .int .u16 ((m : Nat) : Int), .bool tk] w (fun x w1 => x = .bool true ∧ Step No w w1) := by
  have hS : Step No w w := Step.refl _ _
  refine CV_enterM Try.f6 _ 148 [(0, .slice A n c), (1, .slice D nD cD), (2, .int .u8 ((cut : Nat) : Int)), (3, .int .u16 ((m : Nat) : Int)), (4, .bool tk)] Try.func6 rfl rfl (by kernel_rfl) rfl ?_
  refine VC_seq ?_
  refine VC_region ?_
  have hzs1 := hS.size
  refine VL_box (d := 6) (t := 32) (c := #[.slice D nD cD]) (by kernel_rfl) (by kernel_rfl) ?_
  intro b1 w1 hn1
  replace hS := Step.trans hS (hn1.step No)
  replace hA := hA.no (hn1.step No)
  replace hDs := hDs.no (hn1.step No)
  have ho1 := hn1.own
  have hzhn1 := hn1.size
  have hqhn1 := hn1.eqb
  have hzs2 := hS.size
  have hzl1 := ho1.lt
  refine VL_box (d := 10) (t := 4) (c := #[.bool false]) (by kernel_rfl) (by kernel_rfl) ?_
  intro b2 w2 hn2
  replace hS := Step.trans hS (hn2.step No)
  replace hA := hA.no (hn2.step No)
  replace hDs := hDs.no (hn2.step No)
  replace ho1 := ho1.no (hn2.step No)
  have ho2 := hn2.own
  have hzhn2 := hn2.size
  have hqhn2 := hn2.eqb
  refine VL_end (by kernel_rfl) ?_
  refine VQ_next ?_
  refine VC_seq ?_
  refine VC_seq ?_
  refine VC_region ?_
  have hzs3 := hS.size
  have hzl2 := ho1.lt
  have hzl3 := ho2.lt
  refine VL_call (d := 24) (f := 9) (args := #[]) (by kernel_rfl) (by kernel_rfl) (by kernel_rfl) Try.call9 (awake_any _) ?_
  rintro _ w3 ⟨rfl, hc1⟩
  replace hS := Step.trans hS hc1
  replace hA := hA.no hc1
  replace hDs := hDs.no hc1
  replace ho1 := ho1.no hc1
  replace ho2 := ho2.no hc1
  refine VL_pure 8 [0, 2, 3, 4, 6, 10, 31] [(0, .slice A n c), (2, .int .u8 ((cut : Nat) : Int)), (3, .int .u16 ((m : Nat) : Int)), (4, .bool tk), (6, .pointer (some ⟨b1, 0, none⟩)), (10, .pointer (some ⟨b2, 0, none⟩)), (31, .bool (decide (((n : Nat) : Int) > 1000)))] (by kernel_rfl) rfl ?_
  refine VL_known (decide (((n : Nat) : Int) > 1000)) (fun bV => [(0, .slice A n c), (2, .int .u8 ((cut : Nat) : Int)), (3, .int .u16 ((m : Nat) : Int)), (4, .bool tk), (6, .pointer (some ⟨b1, 0, none⟩)), (10, .pointer (some ⟨b2, 0, none⟩)), (31, .bool bV)]) false rfl (by first | (simp; omega) | (simp; done) | simp [*]) ?_
  refine VL_load (d := 32) (t := 32) (a := ⟨b1, 0, none⟩) (v := .slice D nD cD) (by kernel_rfl) (by kernel_rfl) (Loads.own1 ho1 (by kernel_rfl) (by rfl)) ?_
  refine VL_pure 13 [0, 2, 3, 4, 6, 10, 36] [(0, .slice A n c), (2, .int .u8 ((cut : Nat) : Int)), (3, .int .u16 ((m : Nat) : Int)), (4, .bool tk), (6, .pointer (some ⟨b1, 0, none⟩)), (10, .pointer (some ⟨b2, 0, none⟩)), (36, .bool (decide (((nD : Nat) : Int) > 1000)))] (by kernel_rfl) rfl ?_
  refine VL_known (decide (((nD : Nat) : Int) > 1000)) (fun bV => [(0, .slice A n c), (2, .int .u8 ((cut : Nat) : Int)), (3, .int .u16 ((m : Nat) : Int)), (4, .bool tk), (6, .pointer (some ⟨b1, 0, none⟩)), (10, .pointer (some ⟨b2, 0, none⟩)), (36, .bool bV)]) false rfl (by first | (simp; omega) | (simp; done) | simp [*]) ?_
  refine VL_pure 18 [0, 2, 3, 4, 6, 10, 41] [(0, .slice A n c), (2, .int .u8 ((cut : Nat) : Int)), (3, .int .u16 ((m : Nat) : Int)), (4, .bool tk), (6, .pointer (some ⟨b1, 0, none⟩)), (10, .pointer (some ⟨b2, 0, none⟩)), (41, .bool (decide (((n : Nat) : Int) ≤ 40)))] (by kernel_rfl) rfl ?_
  refine VL_known (decide (((n : Nat) : Int) ≤ 40)) (fun bV => [(0, .slice A n c), (2, .int .u8 ((cut : Nat) : Int)), (3, .int .u16 ((m : Nat) : Int)), (4, .bool tk), (6, .pointer (some ⟨b1, 0, none⟩)), (10, .pointer (some ⟨b2, 0, none⟩)), (41, .bool bV)]) false rfl (by first | (simp; omega) | (simp; done) | simp [*]) ?_
  refine VL_load (d := 42) (t := 32) (a := ⟨b1, 0, none⟩) (v := .slice D nD cD) (by kernel_rfl) (by kernel_rfl) (Loads.own1 ho1 (by kernel_rfl) (by rfl)) ?_
  refine VL_pure 22 [0, 2, 3, 4, 6, 10, 45] [(0, .slice A n c), (2, .int .u8 ((cut : Nat) : Int)), (3, .int .u16 ((m : Nat) : Int)), (4, .bool tk), (6, .pointer (some ⟨b1, 0, none⟩)), (10, .pointer (some ⟨b2, 0, none⟩)), (45, .bool (((nD : Nat) : Int) == 0))] (by kernel_rfl) rfl ?_
  refine VL_end (by kernel_rfl) ?_
  refine VQ_next ?_
  refine VC_is (b := ((nD : Nat) : Int) == 0) true (by kernel_rfl) (by first | (simp; omega) | (simp; done) | simp [*]) ?_
  refine VC_ite_true ?_
  refine VC_seq ?_
  refine VC_region ?_
  have hzs4 := hS.size
  have hzl4 := ho1.lt
  have hzl5 := ho2.lt
  refine VL_call (d := 46) (f := 9) (args := #[]) (by kernel_rfl) (by kernel_rfl) (by kernel_rfl) Try.call9 (awake_any _) ?_
  rintro _ w4 ⟨rfl, hc2⟩
  replace hS := Step.trans hS hc2
  replace hA := hA.no hc2
  replace hDs := hDs.no hc2
  replace ho1 := ho1.no hc2
  replace ho2 := ho2.no hc2
  refine VL_store (b := b2) (o := 0) (vs := [.bool true]) (by kernel_rfl) (by kernel_rfl) ho2 (Nat.le_of_ble_eq_true (by kernel_rfl)) ?_
  intro w5 hw1
  replace hS := Step.transNew hS hw1.step (fun _ _ _ => by omega)
  replace hA := hA.step hw1.step (fun k hk (hF : k = b2) => by omega)
  replace hDs := hDs.step hw1.step (fun k hk (hF : k = b2) => by omega)
  replace ho1 := ho1.step hw1.step (show ¬ b1 = b2 by omega)
  have ho3 : Own w5 b2 #[.bool true] 4 := Own.cast hw1.own (by kernel_rfl)
  have hzhw1 := hw1.same
  refine VL_end (by kernel_rfl) ?_
  refine VQ_next ?_
  refine VC_ret ?_
  refine VQ_then_ret ?_
  have hzs5 := hS.size
  have hzl6 := ho1.lt
  have hzl7 := ho3.lt
  have hzr := ho3.lt
  refine VQ_retMC1 (.bool true) [] (.inr rfl) rfl rfl trivial (fun w9 hq9 => Loads.own1 (ho3.step hq9 (by simp; try omega)) (by kernel_rfl) rfl) ?_
  intro w6 hq1
  replace hq1 : Step No w5 w6 := Step.mono hq1 (fun i hi => by simp at hi)
  replace hS := Step.trans hS hq1
  replace hA := hA.no hq1
  replace hDs := hDs.no hq1
  replace ho1 := ho1.no hq1
  replace ho3 := ho3.no hq1
  exact ⟨by first | rfl | (rw [hls]; rfl) | simp [*], hS⟩

end Go.Proofs.Ytgiefcolkohgkaa
