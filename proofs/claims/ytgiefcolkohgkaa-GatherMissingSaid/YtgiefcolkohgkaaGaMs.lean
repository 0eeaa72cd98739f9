/- Layer 11: GatherMissing. -/
import Derived.Test.YtgiefcolkohgkaaProg
import Derived.Test.YtgiefcolkohgkaaGa4
import Derived.Test.YtgiefcolkohgkaaGa7
import Derived.Test.YtgiefcolkohgkaaCe1
set_option linter.unusedVariables false
set_option linter.unusedSimpArgs false
namespace Go.Proofs.Ytgiefcolkohgkaa
open Go.Vc Go.RowKit

set_option maxRecDepth 100000 in
set_option maxHeartbeats 4000000 in
theorem miss_yes (A : Option Addr) (n c : Nat) (bs : List Int) (D : Option Addr) (nD cD : Nat) (bt : List Int) (cut : Nat) (w : World) (hn : bs.length = n) (hA : Sl w w.heap.size A (iL .u8 bs)) (hc : n ≤ c) (hb : Bytes bs) (hnD : bt.length = nD) (hDs : Sl w w.heap.size D (iL .u8 bt)) (hcD : nD ≤ cD) (hbD : Bytes bt) (hcut : cut < 256) (hlon : 89 ≤ n) (hhin : n ≤ 900) (hlonD : 1 ≤ nD) (hhinD : nD ≤ 1000) :
    CV Try.prog 7 #[.slice A n c, .slice D nD cD, .int .u8 ((cut : Nat) : Int)] w (fun x w1 => x = .bool true ∧ Step No w w1) := by
  have hS : Step No w w := Step.refl _ _
  refine CV_enterM Try.f7 _ 119 [(0, .slice A n c), (1, .slice D nD cD), (2, .int .u8 ((cut : Nat) : Int))] Try.func7 rfl rfl (by kernel_rfl) rfl ?_
  refine VC_seq ?_
  refine VC_region ?_
  have hzs1 := hS.size
  refine VL_box (d := 4) (t := 32) (c := #[.slice D nD cD]) (by kernel_rfl) (by kernel_rfl) ?_
  intro b1 w1 hn1
  replace hS := Step.trans hS (hn1.step No)
  replace hA := hA.no (hn1.step No)
  replace hDs := hDs.no (hn1.step No)
  have ho1 := hn1.own
  have hzhn1 := hn1.size
  have hqhn1 := hn1.eqb
  have hzs2 := hS.size
  have hzl1 := ho1.lt
  refine VL_box (d := 6) (t := 4) (c := #[.bool false]) (by kernel_rfl) (by kernel_rfl) ?_
  intro b2 w2 hn2
  replace hS := Step.trans hS (hn2.step No)
  replace hA := hA.no (hn2.step No)
  replace hDs := hDs.no (hn2.step No)
  replace ho1 := ho1.no (hn2.step No)
  have ho2 := hn2.own
  have hzhn2 := hn2.size
  have hqhn2 := hn2.eqb
  refine VL_end (by kernel_rfl) ?_
  refine VQ_next ?_
  refine VC_seq ?_
  refine VC_seq ?_
  refine VC_region ?_
  have hzs3 := hS.size
  have hzl2 := ho1.lt
  have hzl3 := ho2.lt
  refine VL_call (d := 24) (f := 9) (args := #[]) (by kernel_rfl) (by kernel_rfl) (by kernel_rfl) Try.call9 (awake_any _) ?_
  rintro _ w3 ⟨rfl, hc1⟩
  replace hS := Step.trans hS hc1
  replace hA := hA.no hc1
  replace hDs := hDs.no hc1
  replace ho1 := ho1.no hc1
  replace ho2 := ho2.no hc1
  refine VL_pure 8 [0, 2, 4, 6, 31] [(0, .slice A n c), (2, .int .u8 ((cut : Nat) : Int)), (4, .pointer (some ⟨b1, 0, none⟩)), (6, .pointer (some ⟨b2, 0, none⟩)), (31, .bool (decide (((n : Nat) : Int) > 900)))] (by kernel_rfl) rfl ?_
  refine VL_known (decide (((n : Nat) : Int) > 900)) (fun bV => [(0, .slice A n c), (2, .int .u8 ((cut : Nat) : Int)), (4, .pointer (some ⟨b1, 0, none⟩)), (6, .pointer (some ⟨b2, 0, none⟩)), (31, .bool bV)]) false rfl (by first | (simp; omega) | (simp; done) | simp [*]) ?_
  refine VL_load (d := 32) (t := 32) (a := ⟨b1, 0, none⟩) (v := .slice D nD cD) (by kernel_rfl) (by kernel_rfl) (Loads.own1 ho1 (by kernel_rfl) (by rfl)) ?_
  refine VL_pure 13 [0, 2, 4, 6, 36] [(0, .slice A n c), (2, .int .u8 ((cut : Nat) : Int)), (4, .pointer (some ⟨b1, 0, none⟩)), (6, .pointer (some ⟨b2, 0, none⟩)), (36, .bool (decide (((nD : Nat) : Int) > 1000)))] (by kernel_rfl) rfl ?_
  refine VL_known (decide (((nD : Nat) : Int) > 1000)) (fun bV => [(0, .slice A n c), (2, .int .u8 ((cut : Nat) : Int)), (4, .pointer (some ⟨b1, 0, none⟩)), (6, .pointer (some ⟨b2, 0, none⟩)), (36, .bool bV)]) false rfl (by first | (simp; omega) | (simp; done) | simp [*]) ?_
  refine VL_pure 18 [0, 2, 4, 6, 41] [(0, .slice A n c), (2, .int .u8 ((cut : Nat) : Int)), (4, .pointer (some ⟨b1, 0, none⟩)), (6, .pointer (some ⟨b2, 0, none⟩)), (41, .bool (decide (((n : Nat) : Int) ≤ 88)))] (by kernel_rfl) rfl ?_
  refine VL_known (decide (((n : Nat) : Int) ≤ 88)) (fun bV => [(0, .slice A n c), (2, .int .u8 ((cut : Nat) : Int)), (4, .pointer (some ⟨b1, 0, none⟩)), (6, .pointer (some ⟨b2, 0, none⟩)), (41, .bool bV)]) false rfl (by first | (simp; omega) | (simp; done) | simp [*]) ?_
  refine VL_load (d := 42) (t := 32) (a := ⟨b1, 0, none⟩) (v := .slice D nD cD) (by kernel_rfl) (by kernel_rfl) (Loads.own1 ho1 (by kernel_rfl) (by rfl)) ?_
  refine VL_pure 22 [0, 2, 4, 6, 45] [(0, .slice A n c), (2, .int .u8 ((cut : Nat) : Int)), (4, .pointer (some ⟨b1, 0, none⟩)), (6, .pointer (some ⟨b2, 0, none⟩)), (45, .bool (((nD : Nat) : Int) == 0))] (by kernel_rfl) rfl ?_
  refine VL_end (by kernel_rfl) ?_
  refine VQ_next ?_
  refine VC_is (b := ((nD : Nat) : Int) == 0) false (by kernel_rfl) (by first | (simp; omega) | (simp; done) | simp [*]) ?_
  refine VC_ite_false ?_
  refine VC_skip ?_
  refine VQ_next ?_
  refine VC_seq ?_
  have hU2 := frame_un (bs := bt) (m := 2) (by omega) (by omega) hbD (by decide)
  refine VC_region ?_
  have hzs4 := hS.size
  have hzl4 := ho1.lt
  have hzl5 := ho2.lt
  refine VL_call (d := 47) (f := 10) (by kernel_rfl) (by kernel_rfl) (by kernel_rfl) Try.call10 (gnew_any 100 _) ?_
  rintro _ w4 ⟨gp1, rfl, hfgp1, hg1, hc2⟩
  replace hS := Step.trans hS hc2
  replace hA := hA.no hc2
  replace hDs := hDs.no hc2
  replace ho1 := ho1.no hc2
  replace ho2 := ho2.no hc2
  have hltgp1 := GaOf.lt hg1
  have hgigp1 : GaI (newG 100) 0 := GaI.new _
  have hzzgp1 := hc2.size
  have hzs5 := hS.size
  have hzl6 := ho1.lt
  have hzl7 := ho2.lt
  have hzl8 := GaOf.lt hg1
  refine VL_box (d := 7) (t := 24) (c := #[.pointer none]) (by kernel_rfl) (by kernel_rfl) ?_
  intro b3 w5 hn3
  replace hS := Step.trans hS (hn3.step No)
  replace hA := hA.no (hn3.step No)
  replace hDs := hDs.no (hn3.step No)
  replace ho1 := ho1.no (hn3.step No)
  replace ho2 := ho2.no (hn3.step No)
  replace hg1 := GaOf.no hg1 (hn3.step No)
  have ho3 := hn3.own
  have hzhn3 := hn3.size
  have hqhn3 := hn3.eqb
  refine VL_store (b := b3) (o := 0) (vs := [.pointer (some ⟨gp1, 0, none⟩)]) (by kernel_rfl) (by kernel_rfl) ho3 (Nat.le_of_ble_eq_true (by kernel_rfl)) ?_
  intro w6 hw1
  replace hS := Step.transNew hS hw1.step (fun _ _ _ => by omega)
  replace hA := hA.step hw1.step (fun k hk (hF : k = b3) => by omega)
  replace hDs := hDs.step hw1.step (fun k hk (hF : k = b3) => by omega)
  replace ho1 := ho1.step hw1.step (show ¬ b1 = b3 by omega)
  replace ho2 := ho2.step hw1.step (show ¬ b2 = b3 by omega)
  replace hg1 := GaOf.keep hg1 ho3 (by decide) (by omega) hw1.step
  have ho4 : Own w6 b3 #[.pointer (some ⟨gp1, 0, none⟩)] 24 := Own.cast hw1.own (by kernel_rfl)
  have hzhw1 := hw1.same
  refine VL_end (by kernel_rfl) ?_
  refine VQ_next ?_
  refine VC_seq ?_
  refine VC_region ?_
  refine VL_pure 1 [2, 4, 6, 7, 49] [(2, .int .u8 ((cut : Nat) : Int)), (4, .pointer (some ⟨b1, 0, none⟩)), (6, .pointer (some ⟨b2, 0, none⟩)), (7, .pointer (some ⟨b3, 0, none⟩)), (49, .slice A n c)] (by kernel_rfl) rfl ?_
  have hzs6 := hS.size
  have hzl9 := ho1.lt
  have hzl10 := ho2.lt
  have hzl11 := GaOf.lt hg1
  have hzl12 := ho4.lt
  refine VL_call (d := 50) (f := 20) (by kernel_rfl) (by kernel_rfl) (by kernel_rfl) Try.call20 (pack_yes A n c _ bs _ hn hA 1 (by first | exact Nat.le_refl _ | omega) (by omega) (by omega)) ?_
  rintro _ w7 ⟨g1, c1, rfl, hggg1, hr1, hc3⟩
  replace hS := Step.trans hS hc3
  replace hA := hA.no hc3
  replace hDs := hDs.no hc3
  replace ho1 := ho1.no hc3
  replace ho2 := ho2.no hc3
  replace hg1 := GaOf.no hg1 hc3
  replace ho4 := ho4.no hc3
  have hxhr1 := SlX.of_rw (X := fun _ => True) hr1 (fun _ _ => trivial)
  have hcapg1 := Rw.cap hr1
  have hflq1 := Rw.lenI hr1
  have hmmq1 := (many_le n).2 (by omega)
  refine VL_pure 7 [2, 4, 6, 7, 8] [(2, .int .u8 ((cut : Nat) : Int)), (4, .pointer (some ⟨b1, 0, none⟩)), (6, .pointer (some ⟨b2, 0, none⟩)), (7, .pointer (some ⟨b3, 0, none⟩)), (8, .slice (some ⟨g1, 0, none⟩) (48 * manyN n) c1)] (by kernel_rfl) rfl ?_
  refine VL_end (by kernel_rfl) ?_
  refine VQ_next ?_
  refine VC_seq ?_
  refine VC_region ?_
  refine VL_load (d := 54) (t := 32) (a := ⟨b1, 0, none⟩) (v := .slice D nD cD) (by kernel_rfl) (by kernel_rfl) (Loads.own1 ho1 (by kernel_rfl) (by rfl)) ?_
  have hzs7 := hS.size
  have hzl13 := ho1.lt
  have hzl14 := ho2.lt
  have hzl15 := GaOf.lt hg1
  have hzl16 := ho4.lt
  refine VL_call (d := 55) (f := 20) (by kernel_rfl) (by kernel_rfl) (by kernel_rfl) Try.call20 (pack_yes D nD cD _ bt _ hnD hDs 2 (by first | exact Nat.le_refl _ | omega) (by omega) (by omega)) ?_
  rintro _ w8 ⟨g2, c2, rfl, hggg2, hr2, hc4⟩
  replace hS := Step.trans hS hc4
  replace hA := hA.no hc4
  replace hDs := hDs.no hc4
  replace ho1 := ho1.no hc4
  replace ho2 := ho2.no hc4
  replace hg1 := GaOf.no hg1 hc4
  replace ho4 := ho4.no hc4
  replace hxhr1 := hxhr1.no hc4
  have hxhr2 := SlX.of_rw (X := fun _ => True) hr2 (fun _ _ => trivial)
  have hcapg2 := Rw.cap hr2
  have hflq2 := Rw.lenI hr2
  have hmmq2 := (many_le nD).2 (by omega)
  refine VL_pure 7 [2, 4, 6, 7, 8, 10] [(2, .int .u8 ((cut : Nat) : Int)), (4, .pointer (some ⟨b1, 0, none⟩)), (6, .pointer (some ⟨b2, 0, none⟩)), (7, .pointer (some ⟨b3, 0, none⟩)), (8, .slice (some ⟨g1, 0, none⟩) (48 * manyN n) c1), (10, .slice (some ⟨g2, 0, none⟩) (48 * manyN nD) c2)] (by kernel_rfl) rfl ?_
  refine VL_end (by kernel_rfl) ?_
  refine VQ_next ?_
  refine VC_seq ?_
  refine VC_region ?_
  refine VL_pure 2 [4, 6, 7, 8, 10, 59] [(4, .pointer (some ⟨b1, 0, none⟩)), (6, .pointer (some ⟨b2, 0, none⟩)), (7, .pointer (some ⟨b3, 0, none⟩)), (8, .slice (some ⟨g1, 0, none⟩) (48 * manyN n) c1), (10, .slice (some ⟨g2, 0, none⟩) (48 * manyN nD) c2), (59, .int .i64 (IntKind.wrap .i64 ((cut : Nat) : Int)))] (by kernel_rfl) rfl ?_
  have he1 : IntKind.wrap .i64 ((cut : Nat) : Int) = ((cut : Nat) : Int) := (by rw [wrap_i64 _ (by omega) (by omega)])
  refine VL_eq [(4, .pointer (some ⟨b1, 0, none⟩)), (6, .pointer (some ⟨b2, 0, none⟩)), (7, .pointer (some ⟨b3, 0, none⟩)), (8, .slice (some ⟨g1, 0, none⟩) (48 * manyN n) c1), (10, .slice (some ⟨g2, 0, none⟩) (48 * manyN nD) c2), (59, .int .i64 ((cut : Nat) : Int))] (by rw [he1]) ?_
  refine VL_pure 5 [4, 6, 7, 8, 10, 59, 62] [(4, .pointer (some ⟨b1, 0, none⟩)), (6, .pointer (some ⟨b2, 0, none⟩)), (7, .pointer (some ⟨b3, 0, none⟩)), (8, .slice (some ⟨g1, 0, none⟩) (48 * manyN n) c1), (10, .slice (some ⟨g2, 0, none⟩) (48 * manyN nD) c2), (59, .int .i64 ((cut : Nat) : Int)), (62, .int .i64 (IntKind.wrap .i64 (((48 * manyN n : Nat) : Int).tdiv 48)))] (by kernel_rfl) rfl ?_
  have he2 : IntKind.wrap .i64 (((48 * manyN n : Nat) : Int).tdiv 48) = (((48 * manyN n) / 48 : Nat) : Int) := (by rw [show ((48 * manyN n : Nat) : Int).tdiv 48 = (((48 * manyN n) / 48 : Nat) : Int) from tdiv_nat (48 * manyN n) 48, wrap_i64 _ (by omega) (by omega)])
  refine VL_eq [(4, .pointer (some ⟨b1, 0, none⟩)), (6, .pointer (some ⟨b2, 0, none⟩)), (7, .pointer (some ⟨b3, 0, none⟩)), (8, .slice (some ⟨g1, 0, none⟩) (48 * manyN n) c1), (10, .slice (some ⟨g2, 0, none⟩) (48 * manyN nD) c2), (59, .int .i64 ((cut : Nat) : Int)), (62, .int .i64 (((48 * manyN n) / 48 : Nat) : Int))] (by rw [he2]) ?_
  refine VL_pure 6 [4, 6, 7, 8, 10, 59, 63] [(4, .pointer (some ⟨b1, 0, none⟩)), (6, .pointer (some ⟨b2, 0, none⟩)), (7, .pointer (some ⟨b3, 0, none⟩)), (8, .slice (some ⟨g1, 0, none⟩) (48 * manyN n) c1), (10, .slice (some ⟨g2, 0, none⟩) (48 * manyN nD) c2), (59, .int .i64 ((cut : Nat) : Int)), (63, .int .i64 (IntKind.wrap .i64 ((((48 * manyN n) / 48 : Nat) : Int) - 1)))] (by kernel_rfl) rfl ?_
  have he3 : IntKind.wrap .i64 ((((48 * manyN n) / 48 : Nat) : Int) - 1) = ((((48 * manyN n) / 48) - 1 : Nat) : Int) := (by rw [wrap_i64 _ (by omega) (by omega)]; omega)
  refine VL_eq [(4, .pointer (some ⟨b1, 0, none⟩)), (6, .pointer (some ⟨b2, 0, none⟩)), (7, .pointer (some ⟨b3, 0, none⟩)), (8, .slice (some ⟨g1, 0, none⟩) (48 * manyN n) c1), (10, .slice (some ⟨g2, 0, none⟩) (48 * manyN nD) c2), (59, .int .i64 ((cut : Nat) : Int)), (63, .int .i64 ((((48 * manyN n) / 48) - 1 : Nat) : Int))] (by rw [he3]) ?_
  refine VL_rem (d := 64) (k := .i64) (x := ((cut : Nat) : Int)) (y := ((((48 * manyN n) / 48) - 1 : Nat) : Int)) (by kernel_rfl) (by kernel_rfl) (by omega) ?_
  refine VL_keep [4, 6, 7, 8, 10, 59, 63, 64] [(4, .pointer (some ⟨b1, 0, none⟩)), (6, .pointer (some ⟨b2, 0, none⟩)), (7, .pointer (some ⟨b3, 0, none⟩)), (8, .slice (some ⟨g1, 0, none⟩) (48 * manyN n) c1), (10, .slice (some ⟨g2, 0, none⟩) (48 * manyN nD) c2), (59, .int .i64 ((cut : Nat) : Int)), (63, .int .i64 ((((48 * manyN n) / 48) - 1 : Nat) : Int)), (64, .int .i64 (((cut : Nat) : Int).tmod ((((48 * manyN n) / 48) - 1 : Nat) : Int)))] (by kernel_rfl) ?_
  have hcm := Nat.mod_lt cut (show 0 < 48 * manyN n / 48 - 1 by omega)
  obtain ⟨q0, hq0⟩ : ∃ x, x = cut % (((48 * manyN n) / 48) - 1) := ⟨_, rfl⟩
  have hq1 : 48 * (q0 + 1) < 48 * manyN n := by omega
  have hgi0 := hgigp1
  have hr0 : RdyG (newG 100) 0 := rdy_idle rfl rfl (by decide)
  have hLF1 : (frameF bs 1).length = 48 * manyN n := by assumption
  have hLF2 : (frameF bt 2).length = 48 * manyN nD := by assumption
  refine VL_eq [(4, .pointer (some ⟨b1, 0, none⟩)), (6, .pointer (some ⟨b2, 0, none⟩)), (7, .pointer (some ⟨b3, 0, none⟩)), (8, .slice (some ⟨g1, 0, none⟩) (48 * manyN n) c1), (10, .slice (some ⟨g2, 0, none⟩) (48 * manyN nD) c2), (59, .int .i64 ((cut : Nat) : Int)), (63, .int .i64 ((((48 * manyN n) / 48) - 1 : Nat) : Int)), (64, .int .i64 ((q0 : Nat) : Int))] (by rw [tmod_nat, hq0]) ?_
  have hzs8 := hS.size
  have hzl17 := ho1.lt
  have hzl18 := ho2.lt
  have hzl19 := GaOf.lt hg1
  have hzl20 := ho4.lt
  refine VL_box (d := 12) (t := 3) (c := #[.int .i64 0]) (by kernel_rfl) (by kernel_rfl) ?_
  intro b4 w9 hn4
  replace hS := Step.trans hS (hn4.step No)
  replace hA := hA.no (hn4.step No)
  replace hDs := hDs.no (hn4.step No)
  replace ho1 := ho1.no (hn4.step No)
  replace ho2 := ho2.no (hn4.step No)
  replace hg1 := GaOf.no hg1 (hn4.step No)
  replace ho4 := ho4.no (hn4.step No)
  replace hxhr1 := hxhr1.no (hn4.step No)
  replace hxhr2 := hxhr2.no (hn4.step No)
  have ho5 := hn4.own
  have hzhn4 := hn4.size
  have hqhn4 := hn4.eqb
  refine VL_store (b := b4) (o := 0) (vs := [.int .i64 ((q0 : Nat) : Int)]) (by kernel_rfl) (by kernel_rfl) ho5 (Nat.le_of_ble_eq_true (by kernel_rfl)) ?_
  intro w10 hw2
  replace hS := Step.transNew hS hw2.step (fun _ _ _ => by omega)
  replace hA := hA.step hw2.step (fun k hk (hF : k = b4) => by omega)
  replace hDs := hDs.step hw2.step (fun k hk (hF : k = b4) => by omega)
  replace ho1 := ho1.step hw2.step (show ¬ b1 = b4 by omega)
  replace ho2 := ho2.step hw2.step (show ¬ b2 = b4 by omega)
  replace hg1 := GaOf.keep hg1 ho5 (by decide) (by omega) hw2.step
  replace ho4 := ho4.step hw2.step (show ¬ b3 = b4 by omega)
  replace hxhr1 := hxhr1.own ho5 (by decide) hw2.step
  replace hxhr2 := hxhr2.own ho5 (by decide) hw2.step
  have ho6 : Own w10 b4 #[.int .i64 ((q0 : Nat) : Int)] 3 := Own.cast hw2.own (by kernel_rfl)
  have hzhw2 := hw2.same
  refine VL_end (by kernel_rfl) ?_
  refine VQ_next ?_
  refine VC_seq ?_
  refine VC_region ?_
  have hzs9 := hS.size
  have hzl21 := ho1.lt
  have hzl22 := ho2.lt
  have hzl23 := GaOf.lt hg1
  have hzl24 := ho4.lt
  have hzl25 := ho6.lt
  refine VL_box (d := 13) (t := 3) (c := #[.int .i64 0]) (by kernel_rfl) (by kernel_rfl) ?_
  intro b5 w11 hn5
  replace hS := Step.trans hS (hn5.step No)
  replace hA := hA.no (hn5.step No)
  replace hDs := hDs.no (hn5.step No)
  replace ho1 := ho1.no (hn5.step No)
  replace ho2 := ho2.no (hn5.step No)
  replace hg1 := GaOf.no hg1 (hn5.step No)
  replace ho4 := ho4.no (hn5.step No)
  replace hxhr1 := hxhr1.no (hn5.step No)
  replace hxhr2 := hxhr2.no (hn5.step No)
  replace ho6 := ho6.no (hn5.step No)
  have ho7 := hn5.own
  have hzhn5 := hn5.size
  have hqhn5 := hn5.eqb
  refine VL_store (b := b5) (o := 0) (vs := [.int .i64 0]) (by kernel_rfl) (by kernel_rfl) ho7 (Nat.le_of_ble_eq_true (by kernel_rfl)) ?_
  intro w12 hw3
  replace hS := Step.transNew hS hw3.step (fun _ _ _ => by omega)
  replace hA := hA.step hw3.step (fun k hk (hF : k = b5) => by omega)
  replace hDs := hDs.step hw3.step (fun k hk (hF : k = b5) => by omega)
  replace ho1 := ho1.step hw3.step (show ¬ b1 = b5 by omega)
  replace ho2 := ho2.step hw3.step (show ¬ b2 = b5 by omega)
  replace hg1 := GaOf.keep hg1 ho7 (by decide) (by omega) hw3.step
  replace ho4 := ho4.step hw3.step (show ¬ b3 = b5 by omega)
  replace hxhr1 := hxhr1.own ho7 (by decide) hw3.step
  replace hxhr2 := hxhr2.own ho7 (by decide) hw3.step
  replace ho6 := ho6.step hw3.step (show ¬ b4 = b5 by omega)
  have ho8 : Own w12 b5 #[.int .i64 0] 3 := Own.cast hw3.own (by kernel_rfl)
  have hzhw3 := hw3.same
  refine VL_end (by kernel_rfl) ?_
  refine VQ_next ?_
  refine VC_seq ?_
  refine VC_seq ?_
  refine VC_region ?_
  refine VL_pure 1 [4, 6, 7, 10, 12, 13, 65] [(4, .pointer (some ⟨b1, 0, none⟩)), (6, .pointer (some ⟨b2, 0, none⟩)), (7, .pointer (some ⟨b3, 0, none⟩)), (10, .slice (some ⟨g2, 0, none⟩) (48 * manyN nD) c2), (12, .pointer (some ⟨b4, 0, none⟩)), (13, .pointer (some ⟨b5, 0, none⟩)), (65, .slice (some ⟨g1, 0, none⟩) (48 * manyN n) c1)] (by kernel_rfl) rfl ?_
  have hzs10 := hS.size
  have hzl26 := ho1.lt
  have hzl27 := ho2.lt
  have hzl28 := GaOf.lt hg1
  have hzl29 := ho4.lt
  have hzl30 := ho6.lt
  have hzl31 := ho8.lt
  refine VL_call (d := 66) (f := 21) (args := #[.slice (some ⟨g1, 0, none⟩) (48 * manyN n) c1]) (by kernel_rfl) (by kernel_rfl) (by kernel_rfl) Try.call21 (cells_any (some ⟨g1, 0, none⟩) (48 * manyN n) c1 _) ?_
  rintro _ w13 ⟨bb1, rfl, hfbb1, hbb1, hc5⟩
  replace hS := Step.trans hS hc5
  replace hA := hA.no hc5
  replace hDs := hDs.no hc5
  replace ho1 := ho1.no hc5
  replace ho2 := ho2.no hc5
  replace hg1 := GaOf.no hg1 hc5
  replace ho4 := ho4.no hc5
  replace hxhr1 := hxhr1.no hc5
  replace hxhr2 := hxhr2.no hc5
  replace ho6 := ho6.no hc5
  replace ho8 := ho8.no hc5
  have hzbb1 := hbb1.lt
  refine VL_end (by kernel_rfl) ?_
  refine VQ_next ?_
  refine VC_block ?_
  have hzs11 := hS.size
  have hzl32 := ho1.lt
  have hzl33 := ho2.lt
  have hzl34 := GaOf.lt hg1
  have hzl35 := ho4.lt
  have hzl36 := ho6.lt
  have hzl37 := ho8.lt
  have hzl38 := hbb1.lt
  have hvx1 := SlX.mono (Y := (fun k9 => k9 < w13.heap.size)) hxhr1 (fun b _ hb => hb)
  have hvx2 := SlX.mono (Y := (fun k9 => k9 < w13.heap.size)) hxhr2 (fun b _ hb => hb)
  have hgx1 := GaOf.mono (Y := (fun k9 => k9 ≠ (w13.heap.size + 1))) hg1 (fun b _ hb => by (try simp only); omega)
  have hzs12 := hS.size
  have hzl39 := ho1.lt
  have hzl40 := ho2.lt
  have hzl41 := GaOf.lt hg1
  have hzl42 := ho4.lt
  have hzl43 := ho6.lt
  have hzl44 := ho8.lt
  have hzl45 := hbb1.lt
  refine VC_range (gf := 28) (lb := #[.pointer (some ⟨bb1, 0, none⟩)]) (xs := (cellsV (frameF bs 1))) (by kernel_rfl) Try.call28 (cells_iter bb1 (48 * manyN n) c1 (w13.heap.size) (some ⟨g1, 0, none⟩) (frameF bs 1) hLF1 (by omega) (by omega)) (fun a ha => by obtain ⟨x, _, rfl⟩ := List.mem_map.1 ha; rfl) (by kernel_rfl) (fun M i => i = gp1 ∨ i = b5 ∨ M ≤ i) (fun M i hi => by (try simp only at hi); omega) (fun M k W => w13.heap.size + 2 ≤ M ∧ Step No w W ∧ Sl W (w.heap.size) A (iL .u8 bs) ∧ Sl W (w.heap.size) D (iL .u8 bt) ∧ Own W b1 #[.slice D nD cD] 32 ∧ Own W b2 #[.bool false] 4 ∧ GaOf W 58 gp1 (fun k9 => k9 ≠ (w13.heap.size + 1)) (missG (newG 100) 0 (frameF bs 1) (flF (48 * manyN n)) q0 k) ∧ Own W b3 #[.pointer (some ⟨gp1, 0, none⟩)] 24 ∧ SlX W 5 (fun k9 => k9 < w13.heap.size) (some ⟨g1, 0, none⟩) (iL .u8 (frameF bs 1)) ∧ SlX W 5 (fun k9 => k9 < w13.heap.size) (some ⟨g2, 0, none⟩) (iL .u8 (frameF bt 2)) ∧ Own W b4 #[.int .i64 ((q0 : Nat) : Int)] 3 ∧ Own W b5 #[.int .i64 ((k : Nat) : Int)] 3 ∧ Own W bb1 #[.slice (some ⟨g1, 0, none⟩) (48 * manyN n) c1] 32) (fun e W => False) (by rintro M k W W' ⟨hMm, hS, hA, hDs, ho1, ho2, hgx1, ho4, hvx1, hvx2, ho6, ho8, hbb1⟩ hs; exact ⟨hMm, Step.transNew hS hs (fun i hi hG => by have : i = (w13.heap.size + 1) := hG; omega), hA.step hs (fun k hk (hF : k = (w13.heap.size + 1)) => by omega), hDs.step hs (fun k hk (hF : k = (w13.heap.size + 1)) => by omega), ho1.step hs (show ¬ b1 = (w13.heap.size + 1) by omega), ho2.step hs (show ¬ b2 = (w13.heap.size + 1) by omega), GaOf.mark hgx1 (fun b hb => hb) (by omega) hs, ho4.step hs (show ¬ b3 = (w13.heap.size + 1) by omega), SlX.mark hvx1 (fun b hb => by (try simp only at hb); omega) hs, SlX.mark hvx2 (fun b hb => by (try simp only at hb); omega) hs, ho6.step hs (show ¬ b4 = (w13.heap.size + 1) by omega), ho8.step hs (show ¬ b5 = (w13.heap.size + 1) by omega), hbb1.step hs (show ¬ bb1 = (w13.heap.size + 1) by omega)⟩) (by rintro e W W' h; exact h.elim) (by rintro M k W W' ⟨hMm, hS, hA, hDs, ho1, ho2, hgx1, ho4, hvx1, hvx2, ho6, ho8, hbb1⟩ hs; exact ⟨hMm, Step.trans hS hs, hA.no hs, hDs.no hs, ho1.no hs, ho2.no hs, GaOf.no hgx1 hs, ho4.no hs, hvx1.no hs, hvx2.no hs, ho6.no hs, ho8.no hs, hbb1.no hs⟩) (by rintro e W W' h; exact h.elim) (by rintro M k W ⟨hMm, hS, hA, hDs, ho1, ho2, hgx1, ho4, hvx1, hvx2, ho6, ho8, hbb1⟩; exact ⟨hbb1, SlX.below hvx1⟩) (fun W hs => ⟨hbb1.no hs, SlX.below (hvx1.no hs)⟩) (fun M W hMm hM2 hs _ => ⟨hMm, Step.trans hS hs, hA.no hs, hDs.no hs, ho1.no hs, ho2.no hs, GaOf.no hgx1 hs, ho4.no hs, hvx1.no hs, hvx2.no hs, ho6.no hs, ho8.no hs, hbb1.no hs⟩) ?_ ?_ ?_
  · intro M k w14 args hM hM2 hx hJ0 hsz
    obtain ⟨hMm, hS, hA, hDs, ho1, ho2, hgx1, ho4, hvx1, hvx2, ho6, ho8, hbb1⟩ := hJ0
    obtain ⟨hk9, rfl⟩ := cellsV_inv hLF1 hx
    have hML : M ≤ w14.heap.size := hM2
    have hAs : Step No w14 w14 := Step.refl _ _
    have hgiK := miss_I (F := (frameF bs 1)) (n := (48 * manyN n)) (t := 0) hgi0 hLF1 (frame_bytes hb (by decide)) (by decide) (by decide) (flF (48 * manyN n)) q0 k (by omega)
    refine VC_keep [6, 7, 12, 13, 67, 68] [(6, .pointer (some ⟨b2, 0, none⟩)), (7, .pointer (some ⟨b3, 0, none⟩)), (12, .pointer (some ⟨b4, 0, none⟩)), (13, .pointer (some ⟨b5, 0, none⟩)), (67, .agg (iA .u8 (((frameF bs 1).drop (48 * k)).take 48))), (68, .bool (((48 * manyN n - 48 * k : Nat) : Int) == 48))] (by kernel_rfl) ?_
    refine VC_seq ?_
    refine VC_region ?_
    have hzs13 := hS.size
    have hzl46 := ho1.lt
    have hzl47 := ho2.lt
    have hzl48 := GaOf.lt hgx1
    have hzl49 := ho4.lt
    have hzl50 := ho6.lt
    have hzl51 := ho8.lt
    have hzl52 := hbb1.lt
    have hzk1 := hML
    have hzs14 := hAs.size
    have hzs15 := hS.size
    have hzl53 := ho1.lt
    have hzl54 := ho2.lt
    have hzl55 := GaOf.lt hgx1
    have hzl56 := ho4.lt
    have hzl57 := ho6.lt
    have hzl58 := ho8.lt
    have hzl59 := hbb1.lt
    have hzk2 := hML
    have hzs16 := hAs.size
    refine VL_box (d := 14) (t := 28) (c := iA .u8 (List.replicate 48 0)) (by kernel_rfl) (by kernel_rfl) ?_
    intro b6 w15 hn6
    replace hS := Step.trans hS (hn6.step No)
    replace hA := hA.no (hn6.step No)
    replace hDs := hDs.no (hn6.step No)
    replace ho1 := ho1.no (hn6.step No)
    replace ho2 := ho2.no (hn6.step No)
    replace hgx1 := GaOf.no hgx1 (hn6.step No)
    replace ho4 := ho4.no (hn6.step No)
    replace hvx1 := hvx1.no (hn6.step No)
    replace hvx2 := hvx2.no (hn6.step No)
    replace ho6 := ho6.no (hn6.step No)
    replace ho8 := ho8.no (hn6.step No)
    replace hbb1 := hbb1.no (hn6.step No)
    replace hML := Nat.le_trans hML (hn6.step No).size
    replace hAs := Step.trans hAs (hn6.step No)
    have ho9 := hn6.own
    have hzhn6 := hn6.size
    have hqhn6 := hn6.eqb
    refine VL_storeA (b := b6) (sz := 48) (k := .u8) (bs := ((frameF bs 1).drop (48 * k)).take 48) (by kernel_rfl) (by kernel_rfl) (by (try simp only [List.length_set, List.length_append, List.length_map, List.length_replicate, List.length_cons, List.length_nil, List.length_take, List.length_drop, List.length_range]) <;> omega) ho9 (iA_size.trans (by (try simp only [List.length_set, List.length_append, List.length_map, List.length_replicate, List.length_cons, List.length_nil, List.length_take, List.length_drop, List.length_range]) <;> omega)) ?_
    intro w16 hw4
    replace hS := Step.transNew hS hw4.step (fun _ _ _ => by omega)
    replace hA := hA.step hw4.step (fun k hk (hF : k = b6) => by omega)
    replace hDs := hDs.step hw4.step (fun k hk (hF : k = b6) => by omega)
    replace ho1 := ho1.step hw4.step (show ¬ b1 = b6 by omega)
    replace ho2 := ho2.step hw4.step (show ¬ b2 = b6 by omega)
    replace hgx1 := GaOf.keep hgx1 ho9 (by decide) (by omega) hw4.step
    replace ho4 := ho4.step hw4.step (show ¬ b3 = b6 by omega)
    replace hvx1 := hvx1.own ho9 (by decide) hw4.step
    replace hvx2 := hvx2.own ho9 (by decide) hw4.step
    replace ho6 := ho6.step hw4.step (show ¬ b4 = b6 by omega)
    replace ho8 := ho8.step hw4.step (show ¬ b5 = b6 by omega)
    replace hbb1 := hbb1.step hw4.step (show ¬ bb1 = b6 by omega)
    replace hML := Nat.le_trans hML (hw4.step).size
    replace hAs := Step.transNew hAs hw4.step (fun _ _ _ => by omega)
    have ho10 := hw4.own
    have hzhw4 := hw4.same
    refine VL_end (by kernel_rfl) ?_
    refine VQ_next ?_
    refine VC_region ?_
    refine VL_pure 1 [6, 7, 12, 13, 67, 68, 14, 15] [(6, .pointer (some ⟨b2, 0, none⟩)), (7, .pointer (some ⟨b3, 0, none⟩)), (12, .pointer (some ⟨b4, 0, none⟩)), (13, .pointer (some ⟨b5, 0, none⟩)), (67, .agg (iA .u8 (((frameF bs 1).drop (48 * k)).take 48))), (68, .bool (((48 * manyN n - 48 * k : Nat) : Int) == 48)), (14, .pointer (some ⟨b6, 0, none⟩)), (15, .bool (((48 * manyN n - 48 * k : Nat) : Int) == 48))] (by kernel_rfl) rfl ?_
    refine VL_end (by kernel_rfl) ?_
    refine VQ_begin hAs ?_
    intro w17 hb1 hzhb1
    have hzs17 := hS.size
    have hzl60 := ho1.lt
    have hzl61 := ho2.lt
    have hzl62 := GaOf.lt hgx1
    have hzl63 := ho4.lt
    have hzl64 := ho6.lt
    have hzl65 := ho8.lt
    have hzl66 := hbb1.lt
    have hzk3 := hML
    have hzl67 := ho10.lt
    replace hS := Step.transNew hS hb1 (fun _ _ _ => by omega)
    replace hA := hA.step hb1 (fun k hk (hF : k = (w13.heap.size + 1)) => by omega)
    replace hDs := hDs.step hb1 (fun k hk (hF : k = (w13.heap.size + 1)) => by omega)
    replace ho1 := ho1.step hb1 (show ¬ b1 = (w13.heap.size + 1) by omega)
    replace ho2 := ho2.step hb1 (show ¬ b2 = (w13.heap.size + 1) by omega)
    replace hgx1 := GaOf.mark hgx1 (fun b hb => hb) (by omega) hb1
    replace ho4 := ho4.step hb1 (show ¬ b3 = (w13.heap.size + 1) by omega)
    replace hvx1 := SlX.mark hvx1 (fun b hb => by (try simp only at hb); omega) hb1
    replace hvx2 := SlX.mark hvx2 (fun b hb => by (try simp only at hb); omega) hb1
    replace ho6 := ho6.step hb1 (show ¬ b4 = (w13.heap.size + 1) by omega)
    replace ho8 := ho8.step hb1 (show ¬ b5 = (w13.heap.size + 1) by omega)
    replace hbb1 := hbb1.step hb1 (show ¬ bb1 = (w13.heap.size + 1) by omega)
    replace hML := Nat.le_trans hML (hb1).size
    replace ho10 := ho10.step hb1 (show ¬ b6 = (w13.heap.size + 1) by omega)
    have hR1 : Step ((fun M i => i = gp1 ∨ i = b5 ∨ M ≤ i) M) w17 w17 := Step.refl _ _
    refine VC_block ?_
    refine VC_seq ?_
    refine VC_seq ?_
    refine VC_region ?_
    refine VL_load (d := 69) (t := 3) (a := ⟨b5, 0, none⟩) (v := .int .i64 ((k : Nat) : Int)) (by kernel_rfl) (by kernel_rfl) (Loads.own1 ho8 (by kernel_rfl) (by rfl)) ?_
    refine VL_load (d := 70) (t := 3) (a := ⟨b4, 0, none⟩) (v := .int .i64 ((q0 : Nat) : Int)) (by kernel_rfl) (by kernel_rfl) (Loads.own1 ho6 (by kernel_rfl) (by rfl)) ?_
    refine VL_pure 3 [6, 7, 13, 14, 15, 71] [(6, .pointer (some ⟨b2, 0, none⟩)), (7, .pointer (some ⟨b3, 0, none⟩)), (13, .pointer (some ⟨b5, 0, none⟩)), (14, .pointer (some ⟨b6, 0, none⟩)), (15, .bool (((48 * manyN n - 48 * k : Nat) : Int) == 48)), (71, .bool (((k : Nat) : Int) != ((q0 : Nat) : Int)))] (by kernel_rfl) rfl ?_
    refine VL_end (by kernel_rfl) ?_
    refine VQ_next ?_
    refine VC_ne ((k : Nat) : Int) ((q0 : Nat) : Int) (by kernel_rfl) (fun h1 => ?_) (fun h1 => ?_)
    · refine VC_seq ?_
      refine VC_region ?_
      refine VL_load (d := 73) (t := 24) (a := ⟨b3, 0, none⟩) (v := .pointer (some ⟨gp1, 0, none⟩)) (by kernel_rfl) (by kernel_rfl) (Loads.own1 ho4 (by kernel_rfl) (by rfl)) ?_
      refine VL_load (d := 74) (t := 28) (a := ⟨b6, 0, none⟩) (v := .agg (iA .u8 (((frameF bs 1).drop (48 * k)).take 48))) (by kernel_rfl) (by kernel_rfl) (Loads.arr (N := 48) ho10 (by kernel_rfl) (by (try simp only [List.length_set, List.length_append, List.length_map, List.length_replicate, List.length_cons, List.length_nil, List.length_take, List.length_drop, List.length_range]) <;> omega)) ?_
      refine VL_pure 3 [6, 13, 73, 74, 75] [(6, .pointer (some ⟨b2, 0, none⟩)), (13, .pointer (some ⟨b5, 0, none⟩)), (73, .pointer (some ⟨gp1, 0, none⟩)), (74, .agg (iA .u8 (((frameF bs 1).drop (48 * k)).take 48))), (75, .bool (((48 * manyN n - 48 * k : Nat) : Int) == 48))] (by kernel_rfl) rfl ?_
      have hzs18 := hS.size
      have hzl68 := ho1.lt
      have hzl69 := ho2.lt
      have hzl70 := GaOf.lt hgx1
      have hzl71 := ho4.lt
      have hzl72 := ho6.lt
      have hzl73 := ho8.lt
      have hzl74 := hbb1.lt
      have hzl75 := ho10.lt
      have hzs19 := hR1.size
      refine VL_call (d := 76) (f := 15) (by kernel_rfl) (by kernel_rfl) (by kernel_rfl) Try.call15 (take_any gp1 (missG (newG 100) 0 (frameF bs 1) (flF (48 * manyN n)) q0 k) (fun k9 => k9 ≠ (w13.heap.size + 1)) _ (fun k9 h9 => by (try simp only); omega) hgx1 _ hgiK (by omega) 0 (by omega) (by omega) (((frameF bs 1).drop (48 * k)).take 48) (part_I (F := (frameF bs 1)) (n := (48 * manyN n)) (k := k) hLF1 (frame_bytes hb (by decide)) hk9).1 (part_I (F := (frameF bs 1)) (n := (48 * manyN n)) (k := k) hLF1 (frame_bytes hb (by decide)) hk9).2 (((48 * manyN n - 48 * k : Nat) : Int) == 48)) ?_
      rintro _ w18 ⟨A1, c3, rfl, hr3, hg2, hc6⟩
      replace hS := Step.transNew hS hc6 (fun _ _ _ => by omega)
      replace hA := hA.step hc6 (fun k hk (hF : k = gp1) => by omega)
      replace hDs := hDs.step hc6 (fun k hk (hF : k = gp1) => by omega)
      replace ho1 := ho1.step hc6 (show ¬ b1 = gp1 by omega)
      replace ho2 := ho2.step hc6 (show ¬ b2 = gp1 by omega)
      replace ho4 := ho4.step hc6 (show ¬ b3 = gp1 by omega)
      replace hvx1 := SlX_ga hvx1 hgx1 (by decide) hc6
      replace hvx2 := SlX_ga hvx2 hgx1 (by decide) hc6
      replace ho6 := ho6.step hc6 (show ¬ b4 = gp1 by omega)
      replace ho8 := ho8.step hc6 (show ¬ b5 = gp1 by omega)
      replace hbb1 := hbb1.step hc6 (show ¬ bb1 = gp1 by omega)
      replace hML := Nat.le_trans hML (hc6).size
      replace ho10 := ho10.step hc6 (show ¬ b6 = gp1 by omega)
      replace hR1 := Step.trans hR1 (Step.mono hc6 (by intro i hi; first | exact hi | (have hi9 : i = gp1 := hi; (first | show _ ∨ _ | show _ = _); omega)))
      have hxhr3 := SlX.of_rw (X := fun _ => True) hr3 (fun _ _ => trivial)
      have hlthg2 := GaOf.lt hg2
      have hgihg2 := GaI.take (t := 0) (p := (((frameF bs 1).drop (48 * k)).take 48)) hgiK (((48 * manyN n - 48 * k : Nat) : Int) == 48) (by omega) (by omega) (part_I (F := (frameF bs 1)) (n := (48 * manyN n)) (k := k) hLF1 (frame_bytes hb (by decide)) hk9).1 (part_I (F := (frameF bs 1)) (n := (48 * manyN n)) (k := k) hLF1 (frame_bytes hb (by decide)) hk9).2
      have htlhg2 := takeT_le hgiK 0 (((frameF bs 1).drop (48 * k)).take 48) (((48 * manyN n - 48 * k : Nat) : Int) == 48) (part_I (F := (frameF bs 1)) (n := (48 * manyN n)) (k := k) hLF1 (frame_bytes hb (by decide)) hk9).1
      refine VL_pure 11 [6, 13, 16, 18] [(6, .pointer (some ⟨b2, 0, none⟩)), (13, .pointer (some ⟨b5, 0, none⟩)), (16, .slice A1 ((takeT (missG (newG 100) 0 (frameF bs 1) (flF (48 * manyN n)) q0 k) 0 (((frameF bs 1).drop (48 * k)).take 48) (((48 * manyN n - 48 * k : Nat) : Int) == 48)).length) c3), (18, .int .i64 (takeE (missG (newG 100) 0 (frameF bs 1) (flF (48 * manyN n)) q0 k) 0 (((frameF bs 1).drop (48 * k)).take 48) (((48 * manyN n - 48 * k : Nat) : Int) == 48)))] (by kernel_rfl) rfl ?_
      refine VL_end (by kernel_rfl) ?_
      refine VQ_next ?_
      refine VC_seq ?_
      refine VC_region ?_
      refine VL_pure 3 [6, 13, 16, 82] [(6, .pointer (some ⟨b2, 0, none⟩)), (13, .pointer (some ⟨b5, 0, none⟩)), (16, .slice A1 ((takeT (missG (newG 100) 0 (frameF bs 1) (flF (48 * manyN n)) q0 k) 0 (((frameF bs 1).drop (48 * k)).take 48) (((48 * manyN n - 48 * k : Nat) : Int) == 48)).length) c3), (82, .bool ((takeE (missG (newG 100) 0 (frameF bs 1) (flF (48 * manyN n)) q0 k) 0 (((frameF bs 1).drop (48 * k)).take 48) (((48 * manyN n - 48 * k : Nat) : Int) == 48)) == 0))] (by kernel_rfl) rfl ?_
      refine VL_known ((takeE (missG (newG 100) 0 (frameF bs 1) (flF (48 * manyN n)) q0 k) 0 (((frameF bs 1).drop (48 * k)).take 48) (((48 * manyN n - 48 * k : Nat) : Int) == 48)) == 0) (fun bV => [(6, .pointer (some ⟨b2, 0, none⟩)), (13, .pointer (some ⟨b5, 0, none⟩)), (16, .slice A1 ((takeT (missG (newG 100) 0 (frameF bs 1) (flF (48 * manyN n)) q0 k) 0 (((frameF bs 1).drop (48 * k)).take 48) (((48 * manyN n - 48 * k : Nat) : Int) == 48)).length) c3), (82, .bool bV)]) false rfl (by rw [beq_eq_false_iff_ne]; exact (miss_res hr0 (a := bs) (by omega) (by omega) hb (by decide) hLF1 (by omega) hq1 hk9 (by omega)).1) ?_
      refine VL_pure 7 [6, 13, 86] [(6, .pointer (some ⟨b2, 0, none⟩)), (13, .pointer (some ⟨b5, 0, none⟩)), (86, .bool (decide ((((takeT (missG (newG 100) 0 (frameF bs 1) (flF (48 * manyN n)) q0 k) 0 (((frameF bs 1).drop (48 * k)).take 48) (((48 * manyN n - 48 * k : Nat) : Int) == 48)).length : Nat) : Int) > 0)))] (by kernel_rfl) rfl ?_
      refine VL_end (by kernel_rfl) ?_
      refine VQ_next ?_
      refine VC_is (b := decide ((((takeT (missG (newG 100) 0 (frameF bs 1) (flF (48 * manyN n)) q0 k) 0 (((frameF bs 1).drop (48 * k)).take 48) (((48 * manyN n - 48 * k : Nat) : Int) == 48)).length : Nat) : Int) > 0)) false (by kernel_rfl) (by rw [(miss_res hr0 (a := bs) (by omega) (by omega) hb (by decide) hLF1 (by omega) hq1 hk9 (by omega)).2.1]; rfl) ?_
      refine VC_ite_false ?_
      refine VC_skip ?_
      refine VQ_next ?_
      refine VC_region ?_
      refine VL_load (d := 87) (t := 3) (a := ⟨b5, 0, none⟩) (v := .int .i64 ((k : Nat) : Int)) (by kernel_rfl) (by kernel_rfl) (Loads.own1 ho8 (by kernel_rfl) (by rfl)) ?_
      refine VL_pure 2 [13, 88] [(13, .pointer (some ⟨b5, 0, none⟩)), (88, .int .i64 (IntKind.wrap .i64 (((k : Nat) : Int) + 1)))] (by kernel_rfl) rfl ?_
      have he4 : IntKind.wrap .i64 (((k : Nat) : Int) + 1) = ((k + 1 : Nat) : Int) := (by rw [wrap_i64 _ (by omega) (by omega)]; omega)
      refine VL_eq [(13, .pointer (some ⟨b5, 0, none⟩)), (88, .int .i64 ((k + 1 : Nat) : Int))] (by rw [he4]) ?_
      refine VL_store (b := b5) (o := 0) (vs := [.int .i64 ((k + 1 : Nat) : Int)]) (by kernel_rfl) (by kernel_rfl) ho8 (Nat.le_of_ble_eq_true (by kernel_rfl)) ?_
      intro w19 hw5
      replace hS := Step.transNew hS hw5.step (fun _ _ _ => by omega)
      replace hA := hA.step hw5.step (fun k hk (hF : k = b5) => by omega)
      replace hDs := hDs.step hw5.step (fun k hk (hF : k = b5) => by omega)
      replace ho1 := ho1.step hw5.step (show ¬ b1 = b5 by omega)
      replace ho2 := ho2.step hw5.step (show ¬ b2 = b5 by omega)
      replace ho4 := ho4.step hw5.step (show ¬ b3 = b5 by omega)
      replace hvx1 := hvx1.own ho8 (by decide) hw5.step
      replace hvx2 := hvx2.own ho8 (by decide) hw5.step
      replace ho6 := ho6.step hw5.step (show ¬ b4 = b5 by omega)
      replace hbb1 := hbb1.step hw5.step (show ¬ bb1 = b5 by omega)
      replace hML := Nat.le_trans hML (hw5.step).size
      replace ho10 := ho10.step hw5.step (show ¬ b6 = b5 by omega)
      replace hR1 := Step.trans hR1 (Step.mono hw5.step (by intro i hi; first | exact hi | (have hi9 : i = b5 := hi; (first | show _ ∨ _ | show _ = _); omega)))
      replace hg2 := GaOf.keep hg2 ho8 (by decide) (by omega) hw5.step
      replace hxhr3 := hxhr3.own ho8 (by decide) hw5.step
      have ho11 : Own w19 b5 #[.int .i64 ((k + 1 : Nat) : Int)] 3 := Own.cast hw5.own (by kernel_rfl)
      have hzhw5 := hw5.same
      refine VL_end (by kernel_rfl) ?_
      refine VQ_block_normal ?_
      exact VQ_round_end hR1 ⟨hMm, hS, hA, hDs, ho1, ho2, (GaOf.cast hg2 (by first | exact miss_take (by omega) | exact miss_skip (by omega))), ho4, hvx1, hvx2, ho6, (Own.cast ho11 (by first | rfl | (simp only [Int.natCast_add]; rfl))), hbb1⟩
    · refine VC_skip ?_
      refine VQ_next ?_
      refine VC_region ?_
      refine VL_load (d := 87) (t := 3) (a := ⟨b5, 0, none⟩) (v := .int .i64 ((k : Nat) : Int)) (by kernel_rfl) (by kernel_rfl) (Loads.own1 ho8 (by kernel_rfl) (by rfl)) ?_
      refine VL_pure 2 [13, 88] [(13, .pointer (some ⟨b5, 0, none⟩)), (88, .int .i64 (IntKind.wrap .i64 (((k : Nat) : Int) + 1)))] (by kernel_rfl) rfl ?_
      have he5 : IntKind.wrap .i64 (((k : Nat) : Int) + 1) = ((k + 1 : Nat) : Int) := (by rw [wrap_i64 _ (by omega) (by omega)]; omega)
      refine VL_eq [(13, .pointer (some ⟨b5, 0, none⟩)), (88, .int .i64 ((k + 1 : Nat) : Int))] (by rw [he5]) ?_
      refine VL_store (b := b5) (o := 0) (vs := [.int .i64 ((k + 1 : Nat) : Int)]) (by kernel_rfl) (by kernel_rfl) ho8 (Nat.le_of_ble_eq_true (by kernel_rfl)) ?_
      intro w20 hw6
      replace hS := Step.transNew hS hw6.step (fun _ _ _ => by omega)
      replace hA := hA.step hw6.step (fun k hk (hF : k = b5) => by omega)
      replace hDs := hDs.step hw6.step (fun k hk (hF : k = b5) => by omega)
      replace ho1 := ho1.step hw6.step (show ¬ b1 = b5 by omega)
      replace ho2 := ho2.step hw6.step (show ¬ b2 = b5 by omega)
      replace hgx1 := GaOf.keep hgx1 ho8 (by decide) (by omega) hw6.step
      replace ho4 := ho4.step hw6.step (show ¬ b3 = b5 by omega)
      replace hvx1 := hvx1.own ho8 (by decide) hw6.step
      replace hvx2 := hvx2.own ho8 (by decide) hw6.step
      replace ho6 := ho6.step hw6.step (show ¬ b4 = b5 by omega)
      replace hbb1 := hbb1.step hw6.step (show ¬ bb1 = b5 by omega)
      replace hML := Nat.le_trans hML (hw6.step).size
      replace ho10 := ho10.step hw6.step (show ¬ b6 = b5 by omega)
      replace hR1 := Step.trans hR1 (Step.mono hw6.step (by intro i hi; first | exact hi | (have hi9 : i = b5 := hi; (first | show _ ∨ _ | show _ = _); omega)))
      have ho12 : Own w20 b5 #[.int .i64 ((k + 1 : Nat) : Int)] 3 := Own.cast hw6.own (by kernel_rfl)
      have hzhw6 := hw6.same
      refine VL_end (by kernel_rfl) ?_
      refine VQ_block_normal ?_
      exact VQ_round_end hR1 ⟨hMm, hS, hA, hDs, ho1, ho2, (GaOf.cast hgx1 (by first | exact miss_take (by omega) | exact miss_skip (by omega))), ho4, hvx1, hvx2, ho6, (Own.cast ho12 (by first | rfl | (simp only [Int.natCast_add]; rfl))), hbb1⟩
  · intro M w21 hM hzM hJ0 hD
    rw [cellsV_len, hLF1] at hJ0
    obtain ⟨K1, hK1⟩ : ∃ K, K = (48 * manyN n) / 48 := ⟨_, rfl⟩
    rw [← hK1] at hJ0
    obtain ⟨-, hS, hA, hDs, ho1, ho2, hgx1, ho4, hvx1, hvx2, ho6, ho8, hbb1⟩ := hJ0
    have hgiK1 := miss_I (F := (frameF bs 1)) (n := (48 * manyN n)) (t := 0) hgi0 hLF1 (frame_bytes hb (by decide)) (by decide) (by decide) (flF (48 * manyN n)) q0 K1 (by omega)
    replace hgx1 := GaOf.mono (Y := (fun _ => True)) hgx1 (fun b _ hb => trivial)
    obtain ⟨m1, m2, m3, m4⟩ := miss_done hr0 (a := bs) (m := 1) (n := 48 * manyN n) (q := q0) (K := K1) (by omega) (by omega) hb (by decide) hLF1 (by omega) hq1 (by omega)
    rw [tick_idle (show (newG 100).bs = [] from rfl)] at m4
    obtain ⟨G2, hG2⟩ : ∃ G2, G2 = (missG (newG 100) 0 (frameF bs 1) (flF (48 * manyN n)) q0 K1) := ⟨_, rfl⟩
    rw [← hG2] at m1 m2 m3 m4 hgx1 hgiK1
    have r1 : RdyG G2 1 := rdy_idle m1 m2 (by rw [m3]; decide)
    have hmk1 := hD
    refine VQ_block_normal ?_
    refine VQ_next ?_
    refine VC_seq ?_
    refine VC_seq ?_
    refine VC_region ?_
    refine VL_pure 1 [4, 6, 7, 89] [(4, .pointer (some ⟨b1, 0, none⟩)), (6, .pointer (some ⟨b2, 0, none⟩)), (7, .pointer (some ⟨b3, 0, none⟩)), (89, .slice (some ⟨g2, 0, none⟩) (48 * manyN nD) c2)] (by kernel_rfl) rfl ?_
    have hzs20 := hS.size
    have hzl76 := ho1.lt
    have hzl77 := ho2.lt
    have hzl78 := GaOf.lt hgx1
    have hzl79 := ho4.lt
    have hzl80 := ho6.lt
    have hzl81 := ho8.lt
    have hzl82 := hbb1.lt
    have hzl83 := hmk1.lt
    refine VL_call (d := 90) (f := 21) (args := #[.slice (some ⟨g2, 0, none⟩) (48 * manyN nD) c2]) (by kernel_rfl) (by kernel_rfl) (by kernel_rfl) Try.call21 (cells_any (some ⟨g2, 0, none⟩) (48 * manyN nD) c2 _) ?_
    rintro _ w22 ⟨bb2, rfl, hfbb2, hbb2, hc7⟩
    replace hS := Step.trans hS hc7
    replace hA := hA.no hc7
    replace hDs := hDs.no hc7
    replace ho1 := ho1.no hc7
    replace ho2 := ho2.no hc7
    replace hgx1 := GaOf.no hgx1 hc7
    replace ho4 := ho4.no hc7
    replace hvx1 := hvx1.no hc7
    replace hvx2 := hvx2.no hc7
    replace ho6 := ho6.no hc7
    replace ho8 := ho8.no hc7
    replace hbb1 := hbb1.no hc7
    replace hmk1 := hmk1.no hc7
    have hzbb2 := hbb2.lt
    refine VL_end (by kernel_rfl) ?_
    refine VQ_next ?_
    refine VC_block ?_
    have hzs21 := hS.size
    have hzl84 := ho1.lt
    have hzl85 := ho2.lt
    have hzl86 := GaOf.lt hgx1
    have hzl87 := ho4.lt
    have hzl88 := ho6.lt
    have hzl89 := ho8.lt
    have hzl90 := hbb1.lt
    have hzl91 := hmk1.lt
    have hzl92 := hbb2.lt
    have hvx3 := SlX.mono (Y := (fun k9 => k9 < w22.heap.size)) hvx1 (fun b _ hb => hb)
    have hvx4 := SlX.mono (Y := (fun k9 => k9 < w22.heap.size)) hvx2 (fun b _ hb => hb)
    have hgx2 := GaOf.mono (Y := (fun k9 => k9 ≠ (w22.heap.size + 1))) hgx1 (fun b _ hb => by (try simp only); omega)
    have hzs22 := hS.size
    have hzl93 := ho1.lt
    have hzl94 := ho2.lt
    have hzl95 := GaOf.lt hgx1
    have hzl96 := ho4.lt
    have hzl97 := ho6.lt
    have hzl98 := ho8.lt
    have hzl99 := hbb1.lt
    have hzl100 := hmk1.lt
    have hzl101 := hbb2.lt
    refine VC_range (gf := 28) (lb := #[.pointer (some ⟨bb2, 0, none⟩)]) (xs := (cellsV (frameF bt 2))) (by kernel_rfl) Try.call28 (cells_iter bb2 (48 * manyN nD) c2 (w22.heap.size) (some ⟨g2, 0, none⟩) (frameF bt 2) hLF2 (by omega) (by omega)) (fun a ha => by obtain ⟨x, _, rfl⟩ := List.mem_map.1 ha; rfl) (by kernel_rfl) (fun M i => i = gp1 ∨ M ≤ i) (fun M i hi => by (try simp only at hi); omega) (fun M k W => w22.heap.size + 2 ≤ M ∧ Step No w W ∧ Sl W (w.heap.size) A (iL .u8 bs) ∧ Sl W (w.heap.size) D (iL .u8 bt) ∧ Own W b1 #[.slice D nD cD] 32 ∧ Own W b2 #[.bool false] 4 ∧ GaOf W 58 gp1 (fun k9 => k9 ≠ (w22.heap.size + 1)) (feedG G2 1 (frameF bt 2) (flF (48 * manyN nD)) k) ∧ Own W b3 #[.pointer (some ⟨gp1, 0, none⟩)] 24 ∧ SlX W 5 (fun k9 => k9 < w22.heap.size) (some ⟨g1, 0, none⟩) (iL .u8 (frameF bs 1)) ∧ SlX W 5 (fun k9 => k9 < w22.heap.size) (some ⟨g2, 0, none⟩) (iL .u8 (frameF bt 2)) ∧ Own W b4 #[.int .i64 ((q0 : Nat) : Int)] 3 ∧ Own W b5 #[.int .i64 ((K1 : Nat) : Int)] 3 ∧ Own W bb1 #[.slice (some ⟨g1, 0, none⟩) (48 * manyN n) c1] 32 ∧ Dfr W (w13.heap.size) ∧ Own W bb2 #[.slice (some ⟨g2, 0, none⟩) (48 * manyN nD) c2] 32) (fun e W => False) (by rintro M k W W' ⟨hMm, hS, hA, hDs, ho1, ho2, hgx2, ho4, hvx3, hvx4, ho6, ho8, hbb1, hmk1, hbb2⟩ hs; exact ⟨hMm, Step.transNew hS hs (fun i hi hG => by have : i = (w22.heap.size + 1) := hG; omega), hA.step hs (fun k hk (hF : k = (w22.heap.size + 1)) => by omega), hDs.step hs (fun k hk (hF : k = (w22.heap.size + 1)) => by omega), ho1.step hs (show ¬ b1 = (w22.heap.size + 1) by omega), ho2.step hs (show ¬ b2 = (w22.heap.size + 1) by omega), GaOf.mark hgx2 (fun b hb => hb) (by omega) hs, ho4.step hs (show ¬ b3 = (w22.heap.size + 1) by omega), SlX.mark hvx3 (fun b hb => by (try simp only at hb); omega) hs, SlX.mark hvx4 (fun b hb => by (try simp only at hb); omega) hs, ho6.step hs (show ¬ b4 = (w22.heap.size + 1) by omega), ho8.step hs (show ¬ b5 = (w22.heap.size + 1) by omega), hbb1.step hs (show ¬ bb1 = (w22.heap.size + 1) by omega), hmk1.step hs (show ¬ w13.heap.size = (w22.heap.size + 1) by omega), hbb2.step hs (show ¬ bb2 = (w22.heap.size + 1) by omega)⟩) (by rintro e W W' h; exact h.elim) (by rintro M k W W' ⟨hMm, hS, hA, hDs, ho1, ho2, hgx2, ho4, hvx3, hvx4, ho6, ho8, hbb1, hmk1, hbb2⟩ hs; exact ⟨hMm, Step.trans hS hs, hA.no hs, hDs.no hs, ho1.no hs, ho2.no hs, GaOf.no hgx2 hs, ho4.no hs, hvx3.no hs, hvx4.no hs, ho6.no hs, ho8.no hs, hbb1.no hs, hmk1.no hs, hbb2.no hs⟩) (by rintro e W W' h; exact h.elim) (by rintro M k W ⟨hMm, hS, hA, hDs, ho1, ho2, hgx2, ho4, hvx3, hvx4, ho6, ho8, hbb1, hmk1, hbb2⟩; exact ⟨hbb2, SlX.below hvx4⟩) (fun W hs => ⟨hbb2.no hs, SlX.below (hvx4.no hs)⟩) (fun M W hMm hM2 hs _ => ⟨hMm, Step.trans hS hs, hA.no hs, hDs.no hs, ho1.no hs, ho2.no hs, GaOf.no hgx2 hs, ho4.no hs, hvx3.no hs, hvx4.no hs, ho6.no hs, ho8.no hs, hbb1.no hs, hmk1.no hs, hbb2.no hs⟩) ?_ ?_ ?_
    · intro M k w23 args hM hM2 hx hJ0 hsz
      obtain ⟨hMm, hS, hA, hDs, ho1, ho2, hgx2, ho4, hvx3, hvx4, ho6, ho8, hbb1, hmk1, hbb2⟩ := hJ0
      obtain ⟨hk9, rfl⟩ := cellsV_inv hLF2 hx
      have hML : M ≤ w23.heap.size := hM2
      have hAs : Step No w23 w23 := Step.refl _ _
      have hgiK := feed_I (F := (frameF bt 2)) (n := (48 * manyN nD)) (t := 1) hgiK1 hLF2 (frame_bytes hbD (by decide)) (by decide) (by decide) (flF (48 * manyN nD)) k (by omega)
      refine VC_keep [4, 6, 7, 91, 92] [(4, .pointer (some ⟨b1, 0, none⟩)), (6, .pointer (some ⟨b2, 0, none⟩)), (7, .pointer (some ⟨b3, 0, none⟩)), (91, .agg (iA .u8 (((frameF bt 2).drop (48 * k)).take 48))), (92, .bool (((48 * manyN nD - 48 * k : Nat) : Int) == 48))] (by kernel_rfl) ?_
      refine VC_seq ?_
      refine VC_region ?_
      have hzs23 := hS.size
      have hzl102 := ho1.lt
      have hzl103 := ho2.lt
      have hzl104 := GaOf.lt hgx2
      have hzl105 := ho4.lt
      have hzl106 := ho6.lt
      have hzl107 := ho8.lt
      have hzl108 := hbb1.lt
      have hzl109 := hmk1.lt
      have hzl110 := hbb2.lt
      have hzk4 := hML
      have hzs24 := hAs.size
      have hzs25 := hS.size
      have hzl111 := ho1.lt
      have hzl112 := ho2.lt
      have hzl113 := GaOf.lt hgx2
      have hzl114 := ho4.lt
      have hzl115 := ho6.lt
      have hzl116 := ho8.lt
      have hzl117 := hbb1.lt
      have hzl118 := hmk1.lt
      have hzl119 := hbb2.lt
      have hzk5 := hML
      have hzs26 := hAs.size
      refine VL_box (d := 19) (t := 28) (c := iA .u8 (List.replicate 48 0)) (by kernel_rfl) (by kernel_rfl) ?_
      intro b7 w24 hn7
      replace hS := Step.trans hS (hn7.step No)
      replace hA := hA.no (hn7.step No)
      replace hDs := hDs.no (hn7.step No)
      replace ho1 := ho1.no (hn7.step No)
      replace ho2 := ho2.no (hn7.step No)
      replace hgx2 := GaOf.no hgx2 (hn7.step No)
      replace ho4 := ho4.no (hn7.step No)
      replace hvx3 := hvx3.no (hn7.step No)
      replace hvx4 := hvx4.no (hn7.step No)
      replace ho6 := ho6.no (hn7.step No)
      replace ho8 := ho8.no (hn7.step No)
      replace hbb1 := hbb1.no (hn7.step No)
      replace hmk1 := hmk1.no (hn7.step No)
      replace hbb2 := hbb2.no (hn7.step No)
      replace hML := Nat.le_trans hML (hn7.step No).size
      replace hAs := Step.trans hAs (hn7.step No)
      have ho13 := hn7.own
      have hzhn7 := hn7.size
      have hqhn7 := hn7.eqb
      refine VL_storeA (b := b7) (sz := 48) (k := .u8) (bs := ((frameF bt 2).drop (48 * k)).take 48) (by kernel_rfl) (by kernel_rfl) (by (try simp only [List.length_set, List.length_append, List.length_map, List.length_replicate, List.length_cons, List.length_nil, List.length_take, List.length_drop, List.length_range]) <;> omega) ho13 (iA_size.trans (by (try simp only [List.length_set, List.length_append, List.length_map, List.length_replicate, List.length_cons, List.length_nil, List.length_take, List.length_drop, List.length_range]) <;> omega)) ?_
      intro w25 hw7
      replace hS := Step.transNew hS hw7.step (fun _ _ _ => by omega)
      replace hA := hA.step hw7.step (fun k hk (hF : k = b7) => by omega)
      replace hDs := hDs.step hw7.step (fun k hk (hF : k = b7) => by omega)
      replace ho1 := ho1.step hw7.step (show ¬ b1 = b7 by omega)
      replace ho2 := ho2.step hw7.step (show ¬ b2 = b7 by omega)
      replace hgx2 := GaOf.keep hgx2 ho13 (by decide) (by omega) hw7.step
      replace ho4 := ho4.step hw7.step (show ¬ b3 = b7 by omega)
      replace hvx3 := hvx3.own ho13 (by decide) hw7.step
      replace hvx4 := hvx4.own ho13 (by decide) hw7.step
      replace ho6 := ho6.step hw7.step (show ¬ b4 = b7 by omega)
      replace ho8 := ho8.step hw7.step (show ¬ b5 = b7 by omega)
      replace hbb1 := hbb1.step hw7.step (show ¬ bb1 = b7 by omega)
      replace hmk1 := hmk1.step hw7.step (show ¬ w13.heap.size = b7 by omega)
      replace hbb2 := hbb2.step hw7.step (show ¬ bb2 = b7 by omega)
      replace hML := Nat.le_trans hML (hw7.step).size
      replace hAs := Step.transNew hAs hw7.step (fun _ _ _ => by omega)
      have ho14 := hw7.own
      have hzhw7 := hw7.same
      refine VL_end (by kernel_rfl) ?_
      refine VQ_next ?_
      refine VC_region ?_
      refine VL_pure 1 [4, 6, 7, 91, 92, 19, 20] [(4, .pointer (some ⟨b1, 0, none⟩)), (6, .pointer (some ⟨b2, 0, none⟩)), (7, .pointer (some ⟨b3, 0, none⟩)), (91, .agg (iA .u8 (((frameF bt 2).drop (48 * k)).take 48))), (92, .bool (((48 * manyN nD - 48 * k : Nat) : Int) == 48)), (19, .pointer (some ⟨b7, 0, none⟩)), (20, .bool (((48 * manyN nD - 48 * k : Nat) : Int) == 48))] (by kernel_rfl) rfl ?_
      refine VL_end (by kernel_rfl) ?_
      refine VQ_begin hAs ?_
      intro w26 hb2 hzhb2
      have hzs27 := hS.size
      have hzl120 := ho1.lt
      have hzl121 := ho2.lt
      have hzl122 := GaOf.lt hgx2
      have hzl123 := ho4.lt
      have hzl124 := ho6.lt
      have hzl125 := ho8.lt
      have hzl126 := hbb1.lt
      have hzl127 := hmk1.lt
      have hzl128 := hbb2.lt
      have hzk6 := hML
      have hzl129 := ho14.lt
      replace hS := Step.transNew hS hb2 (fun _ _ _ => by omega)
      replace hA := hA.step hb2 (fun k hk (hF : k = (w22.heap.size + 1)) => by omega)
      replace hDs := hDs.step hb2 (fun k hk (hF : k = (w22.heap.size + 1)) => by omega)
      replace ho1 := ho1.step hb2 (show ¬ b1 = (w22.heap.size + 1) by omega)
      replace ho2 := ho2.step hb2 (show ¬ b2 = (w22.heap.size + 1) by omega)
      replace hgx2 := GaOf.mark hgx2 (fun b hb => hb) (by omega) hb2
      replace ho4 := ho4.step hb2 (show ¬ b3 = (w22.heap.size + 1) by omega)
      replace hvx3 := SlX.mark hvx3 (fun b hb => by (try simp only at hb); omega) hb2
      replace hvx4 := SlX.mark hvx4 (fun b hb => by (try simp only at hb); omega) hb2
      replace ho6 := ho6.step hb2 (show ¬ b4 = (w22.heap.size + 1) by omega)
      replace ho8 := ho8.step hb2 (show ¬ b5 = (w22.heap.size + 1) by omega)
      replace hbb1 := hbb1.step hb2 (show ¬ bb1 = (w22.heap.size + 1) by omega)
      replace hmk1 := hmk1.step hb2 (show ¬ w13.heap.size = (w22.heap.size + 1) by omega)
      replace hbb2 := hbb2.step hb2 (show ¬ bb2 = (w22.heap.size + 1) by omega)
      replace hML := Nat.le_trans hML (hb2).size
      replace ho14 := ho14.step hb2 (show ¬ b7 = (w22.heap.size + 1) by omega)
      have hR2 : Step ((fun M i => i = gp1 ∨ M ≤ i) M) w26 w26 := Step.refl _ _
      refine VC_block ?_
      refine VC_seq ?_
      refine VC_region ?_
      refine VL_load (d := 94) (t := 24) (a := ⟨b3, 0, none⟩) (v := .pointer (some ⟨gp1, 0, none⟩)) (by kernel_rfl) (by kernel_rfl) (Loads.own1 ho4 (by kernel_rfl) (by rfl)) ?_
      refine VL_load (d := 95) (t := 28) (a := ⟨b7, 0, none⟩) (v := .agg (iA .u8 (((frameF bt 2).drop (48 * k)).take 48))) (by kernel_rfl) (by kernel_rfl) (Loads.arr (N := 48) ho14 (by kernel_rfl) (by (try simp only [List.length_set, List.length_append, List.length_map, List.length_replicate, List.length_cons, List.length_nil, List.length_take, List.length_drop, List.length_range]) <;> omega)) ?_
      refine VL_pure 3 [4, 6, 20, 94, 95, 96] [(4, .pointer (some ⟨b1, 0, none⟩)), (6, .pointer (some ⟨b2, 0, none⟩)), (20, .bool (((48 * manyN nD - 48 * k : Nat) : Int) == 48)), (94, .pointer (some ⟨gp1, 0, none⟩)), (95, .agg (iA .u8 (((frameF bt 2).drop (48 * k)).take 48))), (96, .bool (((48 * manyN nD - 48 * k : Nat) : Int) == 48))] (by kernel_rfl) rfl ?_
      have hzs28 := hS.size
      have hzl130 := ho1.lt
      have hzl131 := ho2.lt
      have hzl132 := GaOf.lt hgx2
      have hzl133 := ho4.lt
      have hzl134 := ho6.lt
      have hzl135 := ho8.lt
      have hzl136 := hbb1.lt
      have hzl137 := hmk1.lt
      have hzl138 := hbb2.lt
      have hzl139 := ho14.lt
      have hzs29 := hR2.size
      refine VL_call (d := 97) (f := 15) (by kernel_rfl) (by kernel_rfl) (by kernel_rfl) Try.call15 (take_any gp1 (feedG G2 1 (frameF bt 2) (flF (48 * manyN nD)) k) (fun k9 => k9 ≠ (w22.heap.size + 1)) _ (fun k9 h9 => by (try simp only); omega) hgx2 _ hgiK (by omega) 1 (by omega) (by omega) (((frameF bt 2).drop (48 * k)).take 48) (part_I (F := (frameF bt 2)) (n := (48 * manyN nD)) (k := k) hLF2 (frame_bytes hbD (by decide)) hk9).1 (part_I (F := (frameF bt 2)) (n := (48 * manyN nD)) (k := k) hLF2 (frame_bytes hbD (by decide)) hk9).2 (((48 * manyN nD - 48 * k : Nat) : Int) == 48)) ?_
      rintro _ w27 ⟨A2, c4, rfl, hr4, hg3, hc8⟩
      replace hS := Step.transNew hS hc8 (fun _ _ _ => by omega)
      replace hA := hA.step hc8 (fun k hk (hF : k = gp1) => by omega)
      replace hDs := hDs.step hc8 (fun k hk (hF : k = gp1) => by omega)
      replace ho1 := ho1.step hc8 (show ¬ b1 = gp1 by omega)
      replace ho2 := ho2.step hc8 (show ¬ b2 = gp1 by omega)
      replace ho4 := ho4.step hc8 (show ¬ b3 = gp1 by omega)
      replace hvx3 := SlX_ga hvx3 hgx2 (by decide) hc8
      replace hvx4 := SlX_ga hvx4 hgx2 (by decide) hc8
      replace ho6 := ho6.step hc8 (show ¬ b4 = gp1 by omega)
      replace ho8 := ho8.step hc8 (show ¬ b5 = gp1 by omega)
      replace hbb1 := hbb1.step hc8 (show ¬ bb1 = gp1 by omega)
      replace hmk1 := hmk1.step hc8 (show ¬ w13.heap.size = gp1 by omega)
      replace hbb2 := hbb2.step hc8 (show ¬ bb2 = gp1 by omega)
      replace hML := Nat.le_trans hML (hc8).size
      replace ho14 := ho14.step hc8 (show ¬ b7 = gp1 by omega)
      replace hR2 := Step.trans hR2 (Step.mono hc8 (by intro i hi; first | exact hi | (have hi9 : i = gp1 := hi; (first | show _ ∨ _ | show _ = _); omega)))
      have hxhr4 := SlX.of_rw (X := fun _ => True) hr4 (fun _ _ => trivial)
      have hlthg3 := GaOf.lt hg3
      have hgihg3 := GaI.take (t := 1) (p := (((frameF bt 2).drop (48 * k)).take 48)) hgiK (((48 * manyN nD - 48 * k : Nat) : Int) == 48) (by omega) (by omega) (part_I (F := (frameF bt 2)) (n := (48 * manyN nD)) (k := k) hLF2 (frame_bytes hbD (by decide)) hk9).1 (part_I (F := (frameF bt 2)) (n := (48 * manyN nD)) (k := k) hLF2 (frame_bytes hbD (by decide)) hk9).2
      have htlhg3 := takeT_le hgiK 1 (((frameF bt 2).drop (48 * k)).take 48) (((48 * manyN nD - 48 * k : Nat) : Int) == 48) (part_I (F := (frameF bt 2)) (n := (48 * manyN nD)) (k := k) hLF2 (frame_bytes hbD (by decide)) hk9).1
      refine VL_pure 11 [4, 6, 20, 21, 22, 23] [(4, .pointer (some ⟨b1, 0, none⟩)), (6, .pointer (some ⟨b2, 0, none⟩)), (20, .bool (((48 * manyN nD - 48 * k : Nat) : Int) == 48)), (21, .slice A2 ((takeT (feedG G2 1 (frameF bt 2) (flF (48 * manyN nD)) k) 1 (((frameF bt 2).drop (48 * k)).take 48) (((48 * manyN nD - 48 * k : Nat) : Int) == 48)).length) c4), (22, .int .u8 (takeM (feedG G2 1 (frameF bt 2) (flF (48 * manyN nD)) k) 1 (((frameF bt 2).drop (48 * k)).take 48) (((48 * manyN nD - 48 * k : Nat) : Int) == 48))), (23, .int .i64 (takeE (feedG G2 1 (frameF bt 2) (flF (48 * manyN nD)) k) 1 (((frameF bt 2).drop (48 * k)).take 48) (((48 * manyN nD - 48 * k : Nat) : Int) == 48)))] (by kernel_rfl) rfl ?_
      refine VL_end (by kernel_rfl) ?_
      refine VQ_next ?_
      refine VC_seq ?_
      refine VC_region ?_
      refine VL_pure 2 [4, 6, 21, 22, 23, 102] [(4, .pointer (some ⟨b1, 0, none⟩)), (6, .pointer (some ⟨b2, 0, none⟩)), (21, .slice A2 ((takeT (feedG G2 1 (frameF bt 2) (flF (48 * manyN nD)) k) 1 (((frameF bt 2).drop (48 * k)).take 48) (((48 * manyN nD - 48 * k : Nat) : Int) == 48)).length) c4), (22, .int .u8 (takeM (feedG G2 1 (frameF bt 2) (flF (48 * manyN nD)) k) 1 (((frameF bt 2).drop (48 * k)).take 48) (((48 * manyN nD - 48 * k : Nat) : Int) == 48))), (23, .int .i64 (takeE (feedG G2 1 (frameF bt 2) (flF (48 * manyN nD)) k) 1 (((frameF bt 2).drop (48 * k)).take 48) (((48 * manyN nD - 48 * k : Nat) : Int) == 48))), (102, .bool (((48 * manyN nD - 48 * k : Nat) : Int) == 48))] (by kernel_rfl) rfl ?_
      refine VL_bool (((48 * manyN nD - 48 * k : Nat) : Int) == 48) (fun bV => [(4, .pointer (some ⟨b1, 0, none⟩)), (6, .pointer (some ⟨b2, 0, none⟩)), (21, .slice A2 ((takeT (feedG G2 1 (frameF bt 2) (flF (48 * manyN nD)) k) 1 (((frameF bt 2).drop (48 * k)).take 48) (((48 * manyN nD - 48 * k : Nat) : Int) == 48)).length) c4), (22, .int .u8 (takeM (feedG G2 1 (frameF bt 2) (flF (48 * manyN nD)) k) 1 (((frameF bt 2).drop (48 * k)).take 48) (((48 * manyN nD - 48 * k : Nat) : Int) == 48))), (23, .int .i64 (takeE (feedG G2 1 (frameF bt 2) (flF (48 * manyN nD)) k) 1 (((frameF bt 2).drop (48 * k)).take 48) (((48 * manyN nD - 48 * k : Nat) : Int) == 48))), (102, .bool bV)]) rfl (fun hg4 => ?_) (fun hg4 => ?_)
      · refine VL_pure 5 [4, 6, 21, 22, 102, 105] [(4, .pointer (some ⟨b1, 0, none⟩)), (6, .pointer (some ⟨b2, 0, none⟩)), (21, .slice A2 ((takeT (feedG G2 1 (frameF bt 2) (flF (48 * manyN nD)) k) 1 (((frameF bt 2).drop (48 * k)).take 48) (((48 * manyN nD - 48 * k : Nat) : Int) == 48)).length) c4), (22, .int .u8 (takeM (feedG G2 1 (frameF bt 2) (flF (48 * manyN nD)) k) 1 (((frameF bt 2).drop (48 * k)).take 48) (((48 * manyN nD - 48 * k : Nat) : Int) == 48))), (102, .bool true), (105, .bool ((takeE (feedG G2 1 (frameF bt 2) (flF (48 * manyN nD)) k) 1 (((frameF bt 2).drop (48 * k)).take 48) (((48 * manyN nD - 48 * k : Nat) : Int) == 48)) != 0))] (by kernel_rfl) rfl ?_
        refine VL_known ((takeE (feedG G2 1 (frameF bt 2) (flF (48 * manyN nD)) k) 1 (((frameF bt 2).drop (48 * k)).take 48) (((48 * manyN nD - 48 * k : Nat) : Int) == 48)) != 0) (fun bV => [(4, .pointer (some ⟨b1, 0, none⟩)), (6, .pointer (some ⟨b2, 0, none⟩)), (21, .slice A2 ((takeT (feedG G2 1 (frameF bt 2) (flF (48 * manyN nD)) k) 1 (((frameF bt 2).drop (48 * k)).take 48) (((48 * manyN nD - 48 * k : Nat) : Int) == 48)).length) c4), (22, .int .u8 (takeM (feedG G2 1 (frameF bt 2) (flF (48 * manyN nD)) k) 1 (((frameF bt 2).drop (48 * k)).take 48) (((48 * manyN nD - 48 * k : Nat) : Int) == 48))), (102, .bool true), (105, .bool bV)]) false rfl (by rw [(feed_end r1 hLF2 (by omega) hk9 (by assumption)).2.2.2, hU2.1]; rfl) ?_
        refine VL_pure 9 [4, 6, 21, 102, 109] [(4, .pointer (some ⟨b1, 0, none⟩)), (6, .pointer (some ⟨b2, 0, none⟩)), (21, .slice A2 ((takeT (feedG G2 1 (frameF bt 2) (flF (48 * manyN nD)) k) 1 (((frameF bt 2).drop (48 * k)).take 48) (((48 * manyN nD - 48 * k : Nat) : Int) == 48)).length) c4), (102, .bool true), (109, .bool ((takeM (feedG G2 1 (frameF bt 2) (flF (48 * manyN nD)) k) 1 (((frameF bt 2).drop (48 * k)).take 48) (((48 * manyN nD - 48 * k : Nat) : Int) == 48)) != 2))] (by kernel_rfl) rfl ?_
        refine VL_known ((takeM (feedG G2 1 (frameF bt 2) (flF (48 * manyN nD)) k) 1 (((frameF bt 2).drop (48 * k)).take 48) (((48 * manyN nD - 48 * k : Nat) : Int) == 48)) != 2) (fun bV => [(4, .pointer (some ⟨b1, 0, none⟩)), (6, .pointer (some ⟨b2, 0, none⟩)), (21, .slice A2 ((takeT (feedG G2 1 (frameF bt 2) (flF (48 * manyN nD)) k) 1 (((frameF bt 2).drop (48 * k)).take 48) (((48 * manyN nD - 48 * k : Nat) : Int) == 48)).length) c4), (102, .bool true), (109, .bool bV)]) false rfl (by rw [(feed_end r1 hLF2 (by omega) hk9 (by assumption)).2.2.1, hU2.2.2]; rfl) ?_
        refine VL_pure 10 [4, 6, 102, 109, 110] [(4, .pointer (some ⟨b1, 0, none⟩)), (6, .pointer (some ⟨b2, 0, none⟩)), (102, .bool true), (109, .bool false), (110, .slice A2 ((takeT (feedG G2 1 (frameF bt 2) (flF (48 * manyN nD)) k) 1 (((frameF bt 2).drop (48 * k)).take 48) (((48 * manyN nD - 48 * k : Nat) : Int) == 48)).length) c4)] (by kernel_rfl) rfl ?_
        refine VL_load (d := 111) (t := 32) (a := ⟨b1, 0, none⟩) (v := .slice D nD cD) (by kernel_rfl) (by kernel_rfl) (Loads.own1 ho1 (by kernel_rfl) (by rfl)) ?_
        have hzs30 := hS.size
        have hzl140 := ho1.lt
        have hzl141 := ho2.lt
        have hzl142 := ho4.lt
        have hzl143 := ho6.lt
        have hzl144 := ho8.lt
        have hzl145 := hbb1.lt
        have hzl146 := hmk1.lt
        have hzl147 := hbb2.lt
        have hzl148 := ho14.lt
        have hzs31 := hR2.size
        have hzl149 := GaOf.lt hg3
        refine VL_call (d := 112) (f := 17) (args := #[.slice A2 ((takeT (feedG G2 1 (frameF bt 2) (flF (48 * manyN nD)) k) 1 (((frameF bt 2).drop (48 * k)).take 48) (((48 * manyN nD - 48 * k : Nat) : Int) == 48)).length) c4, .slice D nD cD]) (by kernel_rfl) (by kernel_rfl) (by kernel_rfl) Try.call17 (same_any A2 ((takeT (feedG G2 1 (frameF bt 2) (flF (48 * manyN nD)) k) 1 (((frameF bt 2).drop (48 * k)).take 48) (((48 * manyN nD - 48 * k : Nat) : Int) == 48)).length) c4 _ (takeT (feedG G2 1 (frameF bt 2) (flF (48 * manyN nD)) k) 1 (((frameF bt 2).drop (48 * k)).take 48) (((48 * manyN nD - 48 * k : Nat) : Int) == 48)) D nD cD _ bt _ rfl (SlX.sl hxhr4) hnD hDs (by omega) (by omega) (by first | exact Nat.le_refl _ | omega) (by first | exact Nat.le_refl _ | omega)) ?_
        rintro _ w28 ⟨rfl, hc9⟩
        replace hS := Step.trans hS hc9
        replace hA := hA.no hc9
        replace hDs := hDs.no hc9
        replace ho1 := ho1.no hc9
        replace ho2 := ho2.no hc9
        replace ho4 := ho4.no hc9
        replace hvx3 := hvx3.no hc9
        replace hvx4 := hvx4.no hc9
        replace ho6 := ho6.no hc9
        replace ho8 := ho8.no hc9
        replace hbb1 := hbb1.no hc9
        replace hmk1 := hmk1.no hc9
        replace hbb2 := hbb2.no hc9
        replace hML := Nat.le_trans hML (hc9).size
        replace ho14 := ho14.no hc9
        replace hR2 := Step.trans hR2 (Step.weak hc9)
        replace hg3 := GaOf.no hg3 hc9
        replace hxhr4 := hxhr4.no hc9
        refine VL_pure 15 [6, 115] [(6, .pointer (some ⟨b2, 0, none⟩)), (115, .bool (!((takeT (feedG G2 1 (frameF bt 2) (flF (48 * manyN nD)) k) 1 (((frameF bt 2).drop (48 * k)).take 48) (((48 * manyN nD - 48 * k : Nat) : Int) == 48)) == bt)))] (by kernel_rfl) rfl ?_
        refine VL_end (by kernel_rfl) ?_
        refine VQ_next ?_
        refine VC_is (b := !((takeT (feedG G2 1 (frameF bt 2) (flF (48 * manyN nD)) k) 1 (((frameF bt 2).drop (48 * k)).take 48) (((48 * manyN nD - 48 * k : Nat) : Int) == 48)) == bt)) false (by kernel_rfl) (by rw [show ((takeT (feedG G2 1 (frameF bt 2) (flF (48 * manyN nD)) k) 1 (((frameF bt 2).drop (48 * k)).take 48) (((48 * manyN nD - 48 * k : Nat) : Int) == 48)) == bt) = true from (by rw [(feed_end r1 hLF2 (by omega) hk9 (by assumption)).2.1, hU2.2.1]; simp)]; rfl) ?_
        refine VC_ite_false ?_
        refine VC_skip ?_
        refine VQ_block_normal ?_
        exact VQ_round_end hR2 ⟨hMm, hS, hA, hDs, ho1, ho2, hg3, ho4, hvx3, hvx4, ho6, ho8, hbb1, hmk1, hbb2⟩
      · refine VL_pure 15 [6, 115] [(6, .pointer (some ⟨b2, 0, none⟩)), (115, .bool false)] (by kernel_rfl) rfl ?_
        refine VL_end (by kernel_rfl) ?_
        refine VQ_next ?_
        refine VC_false (by kernel_rfl) ?_
        refine VC_skip ?_
        refine VQ_block_normal ?_
        exact VQ_round_end hR2 ⟨hMm, hS, hA, hDs, ho1, ho2, hg3, ho4, hvx3, hvx4, ho6, ho8, hbb1, hmk1, hbb2⟩
    · intro M w29 hM hzM hJ0 hD
      rw [cellsV_len, hLF2] at hJ0
      obtain ⟨K2, hK2⟩ : ∃ K, K = (48 * manyN nD) / 48 := ⟨_, rfl⟩
      rw [← hK2] at hJ0
      obtain ⟨-, hS, hA, hDs, ho1, ho2, hgx2, ho4, hvx3, hvx4, ho6, ho8, hbb1, hmk1, hbb2⟩ := hJ0
      have hgiK2 := feed_I (F := (frameF bt 2)) (n := (48 * manyN nD)) (t := 1) hgiK1 hLF2 (frame_bytes hbD (by decide)) (by decide) (by decide) (flF (48 * manyN nD)) K2 (by omega)
      replace hgx2 := GaOf.mono (Y := (fun _ => True)) hgx2 (fun b _ hb => trivial)
      have hF2 := feed_done (K := K2) r1 hLF2 (by omega) (by omega) (by omega)
      have hls := hF2.good hU2.1
      rw [tick_idle m1, m4] at hls
      have hmk2 := hD
      refine VQ_block_normal ?_
      refine VQ_next ?_
      refine VC_seq ?_
      refine VC_region ?_
      refine VL_load (d := 116) (t := 24) (a := ⟨b3, 0, none⟩) (v := .pointer (some ⟨gp1, 0, none⟩)) (by kernel_rfl) (by kernel_rfl) (Loads.own1 ho4 (by kernel_rfl) (by rfl)) ?_
      have hzs32 := hS.size
      have hzl150 := ho1.lt
      have hzl151 := ho2.lt
      have hzl152 := GaOf.lt hgx2
      have hzl153 := ho4.lt
      have hzl154 := ho6.lt
      have hzl155 := ho8.lt
      have hzl156 := hbb1.lt
      have hzl157 := hmk1.lt
      have hzl158 := hbb2.lt
      have hzl159 := hmk2.lt
      refine VL_call (d := 117) (f := 19) (by kernel_rfl) (by kernel_rfl) (by kernel_rfl) Try.call19 (lost_any gp1 (feedG G2 1 (frameF bt 2) (flF (48 * manyN nD)) K2) (fun _ => True) _ hgx2) ?_
      rintro _ w30 ⟨rfl, hc10⟩
      replace hS := Step.trans hS hc10
      replace hA := hA.no hc10
      replace hDs := hDs.no hc10
      replace ho1 := ho1.no hc10
      replace ho2 := ho2.no hc10
      replace hgx2 := GaOf.no hgx2 hc10
      replace ho4 := ho4.no hc10
      replace hvx3 := hvx3.no hc10
      replace hvx4 := hvx4.no hc10
      replace ho6 := ho6.no hc10
      replace ho8 := ho8.no hc10
      replace hbb1 := hbb1.no hc10
      replace hmk1 := hmk1.no hc10
      replace hbb2 := hbb2.no hc10
      replace hmk2 := hmk2.no hc10
      refine VL_pure 3 [6, 118] [(6, .pointer (some ⟨b2, 0, none⟩)), (118, .bool ((((feedG G2 1 (frameF bt 2) (flF (48 * manyN nD)) K2)).lost) == 1))] (by kernel_rfl) rfl ?_
      refine VL_store (b := b2) (o := 0) (vs := [.bool ((((feedG G2 1 (frameF bt 2) (flF (48 * manyN nD)) K2)).lost) == 1)]) (by kernel_rfl) (by kernel_rfl) ho2 (Nat.le_of_ble_eq_true (by kernel_rfl)) ?_
      intro w31 hw8
      replace hS := Step.transNew hS hw8.step (fun _ _ _ => by omega)
      replace hA := hA.step hw8.step (fun k hk (hF : k = b2) => by omega)
      replace hDs := hDs.step hw8.step (fun k hk (hF : k = b2) => by omega)
      replace ho1 := ho1.step hw8.step (show ¬ b1 = b2 by omega)
      replace hgx2 := GaOf.keep hgx2 ho2 (by decide) (by omega) hw8.step
      replace ho4 := ho4.step hw8.step (show ¬ b3 = b2 by omega)
      replace hvx3 := hvx3.own ho2 (by decide) hw8.step
      replace hvx4 := hvx4.own ho2 (by decide) hw8.step
      replace ho6 := ho6.step hw8.step (show ¬ b4 = b2 by omega)
      replace ho8 := ho8.step hw8.step (show ¬ b5 = b2 by omega)
      replace hbb1 := hbb1.step hw8.step (show ¬ bb1 = b2 by omega)
      replace hmk1 := hmk1.step hw8.step (show ¬ w13.heap.size = b2 by omega)
      replace hbb2 := hbb2.step hw8.step (show ¬ bb2 = b2 by omega)
      replace hmk2 := hmk2.step hw8.step (show ¬ w22.heap.size = b2 by omega)
      have ho15 : Own w31 b2 #[.bool ((((feedG G2 1 (frameF bt 2) (flF (48 * manyN nD)) K2)).lost) == 1)] 4 := Own.cast hw8.own (by kernel_rfl)
      have hzhw8 := hw8.same
      refine VL_end (by kernel_rfl) ?_
      refine VQ_next ?_
      refine VC_ret ?_
      have hzs33 := hS.size
      have hzl160 := ho1.lt
      have hzl161 := GaOf.lt hgx2
      have hzl162 := ho4.lt
      have hzl163 := ho6.lt
      have hzl164 := ho8.lt
      have hzl165 := hbb1.lt
      have hzl166 := hmk1.lt
      have hzl167 := hbb2.lt
      have hzl168 := hmk2.lt
      have hzl169 := ho15.lt
      have hzr := ho15.lt
      refine VQ_retMC1 (.bool ((((feedG G2 1 (frameF bt 2) (flF (48 * manyN nD)) K2)).lost) == 1)) [w22.heap.size, w13.heap.size] (.inr rfl) rfl rfl ⟨hmk2, (by simp; omega), hmk1, (by simp), trivial⟩ (fun w9 hq9 => Loads.own1 (ho15.step hq9 (by simp; try omega)) (by kernel_rfl) rfl) ?_
      intro w32 hq1
      replace hS := Step.transNew hS hq1 (fun i hi hG => by (simp only [List.mem_cons, List.mem_nil_iff, or_false] at hG); omega)
      exact ⟨by first | rfl | (rw [hls]; rfl) | simp [*], hS⟩
    · intro e W _ hF _; exact hF.elim
  · intro e W _ hF _; exact hF.elim

set_option maxRecDepth 100000 in
set_option maxHeartbeats 4000000 in
theorem miss_o1 (A : Option Addr) (n c : Nat) (bs : List Int) (D : Option Addr) (nD cD : Nat) (bt : List Int) (cut : Nat) (w : World) (hn : bs.length = n) (hA : Sl w w.heap.size A (iL .u8 bs)) (hc : n ≤ c) (hb : Bytes bs) (hnD : bt.length = nD) (hDs : Sl w w.heap.size D (iL .u8 bt)) (hcD : nD ≤ cD) (hbD : Bytes bt) (hcut : cut < 256) (hlon : 0 ≤ n) (hhin : n ≤ 88) :
    CV Try.prog 7 #[.slice A n c, .slice D nD cD, .int .u8 ((cut : Nat) : Int)] w (fun x w1 => x = .bool true ∧ Step No w w1) := by
  have hS : Step No w w := Step.refl _ _
  refine CV_enterM Try.f7 _ 119 [(0, .slice A n c), (1, .slice D nD cD), (2, .int .u8 ((cut : Nat) : Int))] Try.func7 rfl rfl (by kernel_rfl) rfl ?_
  refine VC_seq ?_
  refine VC_region ?_
  have hzs1 := hS.size
  refine VL_box (d := 4) (t := 32) (c := #[.slice D nD cD]) (by kernel_rfl) (by kernel_rfl) ?_
  intro b1 w1 hn1
  replace hS := Step.trans hS (hn1.step No)
  replace hA := hA.no (hn1.step No)
  replace hDs := hDs.no (hn1.step No)
  have ho1 := hn1.own
  have hzhn1 := hn1.size
  have hqhn1 := hn1.eqb
  have hzs2 := hS.size
  have hzl1 := ho1.lt
  refine VL_box (d := 6) (t := 4) (c := #[.bool false]) (by kernel_rfl) (by kernel_rfl) ?_
  intro b2 w2 hn2
  replace hS := Step.trans hS (hn2.step No)
  replace hA := hA.no (hn2.step No)
  replace hDs := hDs.no (hn2.step No)
  replace ho1 := ho1.no (hn2.step No)
  have ho2 := hn2.own
  have hzhn2 := hn2.size
  have hqhn2 := hn2.eqb
  refine VL_end (by kernel_rfl) ?_
  refine VQ_next ?_
  refine VC_seq ?_
  refine VC_seq ?_
  refine VC_region ?_
  have hzs3 := hS.size
  have hzl2 := ho1.lt
  have hzl3 := ho2.lt
  refine VL_call (d := 24) (f := 9) (args := #[]) (by kernel_rfl) (by kernel_rfl) (by kernel_rfl) Try.call9 (awake_any _) ?_
  rintro _ w3 ⟨rfl, hc1⟩
  replace hS := Step.trans hS hc1
  replace hA := hA.no hc1
  replace hDs := hDs.no hc1
  replace ho1 := ho1.no hc1
  replace ho2 := ho2.no hc1
  refine VL_pure 8 [0, 2, 4, 6, 31] [(0, .slice A n c), (2, .int .u8 ((cut : Nat) : Int)), (4, .pointer (some ⟨b1, 0, none⟩)), (6, .pointer (some ⟨b2, 0, none⟩)), (31, .bool (decide (((n : Nat) : Int) > 900)))] (by kernel_rfl) rfl ?_
  refine VL_known (decide (((n : Nat) : Int) > 900)) (fun bV => [(0, .slice A n c), (2, .int .u8 ((cut : Nat) : Int)), (4, .pointer (some ⟨b1, 0, none⟩)), (6, .pointer (some ⟨b2, 0, none⟩)), (31, .bool bV)]) false rfl (by first | (simp; omega) | (simp; done) | simp [*]) ?_
  refine VL_load (d := 32) (t := 32) (a := ⟨b1, 0, none⟩) (v := .slice D nD cD) (by kernel_rfl) (by kernel_rfl) (Loads.own1 ho1 (by kernel_rfl) (by rfl)) ?_
  refine VL_pure 13 [0, 2, 4, 6, 36] [(0, .slice A n c), (2, .int .u8 ((cut : Nat) : Int)), (4, .pointer (some ⟨b1, 0, none⟩)), (6, .pointer (some ⟨b2, 0, none⟩)), (36, .bool (decide (((nD : Nat) : Int) > 1000)))] (by kernel_rfl) rfl ?_
  refine VL_dec (((nD : Nat) : Int) > 1000) (fun bV => [(0, .slice A n c), (2, .int .u8 ((cut : Nat) : Int)), (4, .pointer (some ⟨b1, 0, none⟩)), (6, .pointer (some ⟨b2, 0, none⟩)), (36, .bool bV)]) rfl (fun hg1 => ?_) (fun hg1 => ?_)
  · refine VL_pure 22 [0, 2, 4, 6, 45] [(0, .slice A n c), (2, .int .u8 ((cut : Nat) : Int)), (4, .pointer (some ⟨b1, 0, none⟩)), (6, .pointer (some ⟨b2, 0, none⟩)), (45, .bool true)] (by kernel_rfl) rfl ?_
    refine VL_end (by kernel_rfl) ?_
    refine VQ_next ?_
    refine VC_true (by kernel_rfl) ?_
    refine VC_seq ?_
    refine VC_region ?_
    have hzs4 := hS.size
    have hzl4 := ho1.lt
    have hzl5 := ho2.lt
    refine VL_call (d := 46) (f := 9) (args := #[]) (by kernel_rfl) (by kernel_rfl) (by kernel_rfl) Try.call9 (awake_any _) ?_
    rintro _ w4 ⟨rfl, hc2⟩
    replace hS := Step.trans hS hc2
    replace hA := hA.no hc2
    replace hDs := hDs.no hc2
    replace ho1 := ho1.no hc2
    replace ho2 := ho2.no hc2
    refine VL_store (b := b2) (o := 0) (vs := [.bool true]) (by kernel_rfl) (by kernel_rfl) ho2 (Nat.le_of_ble_eq_true (by kernel_rfl)) ?_
    intro w5 hw1
    replace hS := Step.transNew hS hw1.step (fun _ _ _ => by omega)
    replace hA := hA.step hw1.step (fun k hk (hF : k = b2) => by omega)
    replace hDs := hDs.step hw1.step (fun k hk (hF : k = b2) => by omega)
    replace ho1 := ho1.step hw1.step (show ¬ b1 = b2 by omega)
    have ho3 : Own w5 b2 #[.bool true] 4 := Own.cast hw1.own (by kernel_rfl)
    have hzhw1 := hw1.same
    refine VL_end (by kernel_rfl) ?_
    refine VQ_next ?_
    refine VC_ret ?_
    refine VQ_then_ret ?_
    have hzs5 := hS.size
    have hzl6 := ho1.lt
    have hzl7 := ho3.lt
    have hzr := ho3.lt
    refine VQ_retMC1 (.bool true) [] (.inr rfl) rfl rfl trivial (fun w9 hq9 => Loads.own1 (ho3.step hq9 (by simp; try omega)) (by kernel_rfl) rfl) ?_
    intro w6 hq1
    replace hq1 : Step No w5 w6 := Step.mono hq1 (fun i hi => by simp at hi)
    replace hS := Step.trans hS hq1
    replace hA := hA.no hq1
    replace hDs := hDs.no hq1
    replace ho1 := ho1.no hq1
    replace ho3 := ho3.no hq1
    exact ⟨by first | rfl | (rw [hls]; rfl) | simp [*], hS⟩
  · refine VL_pure 18 [0, 2, 4, 6, 41] [(0, .slice A n c), (2, .int .u8 ((cut : Nat) : Int)), (4, .pointer (some ⟨b1, 0, none⟩)), (6, .pointer (some ⟨b2, 0, none⟩)), (41, .bool (decide (((n : Nat) : Int) ≤ 88)))] (by kernel_rfl) rfl ?_
    refine VL_known (decide (((n : Nat) : Int) ≤ 88)) (fun bV => [(0, .slice A n c), (2, .int .u8 ((cut : Nat) : Int)), (4, .pointer (some ⟨b1, 0, none⟩)), (6, .pointer (some ⟨b2, 0, none⟩)), (41, .bool bV)]) true rfl (by first | (simp; omega) | (simp; done) | simp [*]) ?_
    refine VL_pure 22 [0, 2, 4, 6, 45] [(0, .slice A n c), (2, .int .u8 ((cut : Nat) : Int)), (4, .pointer (some ⟨b1, 0, none⟩)), (6, .pointer (some ⟨b2, 0, none⟩)), (45, .bool true)] (by kernel_rfl) rfl ?_
    refine VL_end (by kernel_rfl) ?_
    refine VQ_next ?_
    refine VC_true (by kernel_rfl) ?_
    refine VC_seq ?_
    refine VC_region ?_
    have hzs6 := hS.size
    have hzl8 := ho1.lt
    have hzl9 := ho2.lt
    refine VL_call (d := 46) (f := 9) (args := #[]) (by kernel_rfl) (by kernel_rfl) (by kernel_rfl) Try.call9 (awake_any _) ?_
    rintro _ w7 ⟨rfl, hc3⟩
    replace hS := Step.trans hS hc3
    replace hA := hA.no hc3
    replace hDs := hDs.no hc3
    replace ho1 := ho1.no hc3
    replace ho2 := ho2.no hc3
    refine VL_store (b := b2) (o := 0) (vs := [.bool true]) (by kernel_rfl) (by kernel_rfl) ho2 (Nat.le_of_ble_eq_true (by kernel_rfl)) ?_
    intro w8 hw2
    replace hS := Step.transNew hS hw2.step (fun _ _ _ => by omega)
    replace hA := hA.step hw2.step (fun k hk (hF : k = b2) => by omega)
    replace hDs := hDs.step hw2.step (fun k hk (hF : k = b2) => by omega)
    replace ho1 := ho1.step hw2.step (show ¬ b1 = b2 by omega)
    have ho4 : Own w8 b2 #[.bool true] 4 := Own.cast hw2.own (by kernel_rfl)
    have hzhw2 := hw2.same
    refine VL_end (by kernel_rfl) ?_
    refine VQ_next ?_
    refine VC_ret ?_
    refine VQ_then_ret ?_
    have hzs7 := hS.size
    have hzl10 := ho1.lt
    have hzl11 := ho4.lt
    have hzr := ho4.lt
    refine VQ_retMC1 (.bool true) [] (.inr rfl) rfl rfl trivial (fun w9 hq9 => Loads.own1 (ho4.step hq9 (by simp; try omega)) (by kernel_rfl) rfl) ?_
    intro w9 hq2
    replace hq2 : Step No w8 w9 := Step.mono hq2 (fun i hi => by simp at hi)
    replace hS := Step.trans hS hq2
    replace hA := hA.no hq2
    replace hDs := hDs.no hq2
    replace ho1 := ho1.no hq2
    replace ho4 := ho4.no hq2
    exact ⟨by first | rfl | (rw [hls]; rfl) | simp [*], hS⟩

set_option maxRecDepth 100000 in
set_option maxHeartbeats 4000000 in
theorem miss_o2 (A : Option Addr) (n c : Nat) (bs : List Int) (D : Option Addr) (nD cD : Nat) (bt : List Int) (cut : Nat) (w : World) (hn : bs.length = n) (hA : Sl w w.heap.size A (iL .u8 bs)) (hc : n ≤ c) (hb : Bytes bs) (hnD : bt.length = nD) (hDs : Sl w w.heap.size D (iL .u8 bt)) (hcD : nD ≤ cD) (hbD : Bytes bt) (hcut : cut < 256) (hlon : 901 ≤ n) :
    CV Try.prog 7 #[.slice A n c, .slice D nD cD, .int .u8 ((cut : Nat) : Int)] w (fun x w1 => x = .bool true ∧ Step No w w1) := by
  have hS : Step No w w := Step.refl _ _
  refine CV_enterM Try.f7 _ 119 [(0, .slice A n c), (1, .slice D nD cD), (2, .int .u8 ((cut : Nat) : Int))] Try.func7 rfl rfl (by kernel_rfl) rfl ?_
  refine VC_seq ?_
  refine VC_region ?_
  have hzs1 := hS.size
  refine VL_box (d := 4) (t := 32) (c := #[.slice D nD cD]) (by kernel_rfl) (by kernel_rfl) ?_
  intro b1 w1 hn1
  replace hS := Step.trans hS (hn1.step No)
  replace hA := hA.no (hn1.step No)
  replace hDs := hDs.no (hn1.step No)
  have ho1 := hn1.own
  have hzhn1 := hn1.size
  have hqhn1 := hn1.eqb
  have hzs2 := hS.size
  have hzl1 := ho1.lt
  refine VL_box (d := 6) (t := 4) (c := #[.bool false]) (by kernel_rfl) (by kernel_rfl) ?_
  intro b2 w2 hn2
  replace hS := Step.trans hS (hn2.step No)
  replace hA := hA.no (hn2.step No)
  replace hDs := hDs.no (hn2.step No)
  replace ho1 := ho1.no (hn2.step No)
  have ho2 := hn2.own
  have hzhn2 := hn2.size
  have hqhn2 := hn2.eqb
  refine VL_end (by kernel_rfl) ?_
  refine VQ_next ?_
  refine VC_seq ?_
  refine VC_seq ?_
  refine VC_region ?_
  have hzs3 := hS.size
  have hzl2 := ho1.lt
  have hzl3 := ho2.lt
  refine VL_call (d := 24) (f := 9) (args := #[]) (by kernel_rfl) (by kernel_rfl) (by kernel_rfl) Try.call9 (awake_any _) ?_
  rintro _ w3 ⟨rfl, hc1⟩
  replace hS := Step.trans hS hc1
  replace hA := hA.no hc1
  replace hDs := hDs.no hc1
  replace ho1 := ho1.no hc1
  replace ho2 := ho2.no hc1
  refine VL_pure 8 [0, 2, 4, 6, 31] [(0, .slice A n c), (2, .int .u8 ((cut : Nat) : Int)), (4, .pointer (some ⟨b1, 0, none⟩)), (6, .pointer (some ⟨b2, 0, none⟩)), (31, .bool (decide (((n : Nat) : Int) > 900)))] (by kernel_rfl) rfl ?_
  refine VL_known (decide (((n : Nat) : Int) > 900)) (fun bV => [(0, .slice A n c), (2, .int .u8 ((cut : Nat) : Int)), (4, .pointer (some ⟨b1, 0, none⟩)), (6, .pointer (some ⟨b2, 0, none⟩)), (31, .bool bV)]) true rfl (by first | (simp; omega) | (simp; done) | simp [*]) ?_
  refine VL_pure 22 [0, 2, 4, 6, 45] [(0, .slice A n c), (2, .int .u8 ((cut : Nat) : Int)), (4, .pointer (some ⟨b1, 0, none⟩)), (6, .pointer (some ⟨b2, 0, none⟩)), (45, .bool true)] (by kernel_rfl) rfl ?_
  refine VL_end (by kernel_rfl) ?_
  refine VQ_next ?_
  refine VC_true (by kernel_rfl) ?_
  refine VC_seq ?_
  refine VC_region ?_
  have hzs4 := hS.size
  have hzl4 := ho1.lt
  have hzl5 := ho2.lt
  refine VL_call (d := 46) (f := 9) (args := #[]) (by kernel_rfl) (by kernel_rfl) (by kernel_rfl) Try.call9 (awake_any _) ?_
  rintro _ w4 ⟨rfl, hc2⟩
  replace hS := Step.trans hS hc2
  replace hA := hA.no hc2
  replace hDs := hDs.no hc2
  replace ho1 := ho1.no hc2
  replace ho2 := ho2.no hc2
  refine VL_store (b := b2) (o := 0) (vs := [.bool true]) (by kernel_rfl) (by kernel_rfl) ho2 (Nat.le_of_ble_eq_true (by kernel_rfl)) ?_
  intro w5 hw1
  replace hS := Step.transNew hS hw1.step (fun _ _ _ => by omega)
  replace hA := hA.step hw1.step (fun k hk (hF : k = b2) => by omega)
  replace hDs := hDs.step hw1.step (fun k hk (hF : k = b2) => by omega)
  replace ho1 := ho1.step hw1.step (show ¬ b1 = b2 by omega)
  have ho3 : Own w5 b2 #[.bool true] 4 := Own.cast hw1.own (by kernel_rfl)
  have hzhw1 := hw1.same
  refine VL_end (by kernel_rfl) ?_
  refine VQ_next ?_
  refine VC_ret ?_
  refine VQ_then_ret ?_
  have hzs5 := hS.size
  have hzl6 := ho1.lt
  have hzl7 := ho3.lt
  have hzr := ho3.lt
  refine VQ_retMC1 (.bool true) [] (.inr rfl) rfl rfl trivial (fun w9 hq9 => Loads.own1 (ho3.step hq9 (by simp; try omega)) (by kernel_rfl) rfl) ?_
  intro w6 hq1
  replace hq1 : Step No w5 w6 := Step.mono hq1 (fun i hi => by simp at hi)
  replace hS := Step.trans hS hq1
  replace hA := hA.no hq1
  replace hDs := hDs.no hq1
  replace ho1 := ho1.no hq1
  replace ho3 := ho3.no hq1
  exact ⟨by first | rfl | (rw [hls]; rfl) | simp [*], hS⟩

set_option maxRecDepth 100000 in
set_option maxHeartbeats 4000000 in
theorem miss_o3 (A : Option Addr) (n c : Nat) (bs : List Int) (D : Option Addr) (nD cD : Nat) (bt : List Int) (cut : Nat) (w : World) (hn : bs.length = n) (hA : Sl w w.heap.size A (iL .u8 bs)) (hc : n ≤ c) (hb : Bytes bs) (hnD : bt.length = nD) (hDs : Sl w w.heap.size D (iL .u8 bt)) (hcD : nD ≤ cD) (hbD : Bytes bt) (hcut : cut < 256) (hlon : 89 ≤ n) (hhin : n ≤ 900) (hlonD : 1001 ≤ nD) :
    CV Try.prog 7 #[.slice A n c, .slice D nD cD, .int .u8 ((cut : Nat) : Int)] w (fun x w1 => x = .bool true ∧ Step No w w1) := by
  have hS : Step No w w := Step.refl _ _
  refine CV_enterM Try.f7 _ 119 [(0, .slice A n c), (1, .slice D nD cD), (2, .int .u8 ((cut : Nat) : Int))] Try.func7 rfl rfl (by kernel_rfl) rfl ?_
  refine VC_seq ?_
  refine VC_region ?_
  have hzs1 := hS.size
  refine VL_box (d := 4) (t := 32) (c := #[.slice D nD cD]) (by kernel_rfl) (by kernel_rfl) ?_
  intro b1 w1 hn1
  replace hS := Step.trans hS (hn1.step No)
  replace hA := hA.no (hn1.step No)
  replace hDs := hDs.no (hn1.step No)
  have ho1 := hn1.own
  have hzhn1 := hn1.size
  have hqhn1 := hn1.eqb
  have hzs2 := hS.size
  have hzl1 := ho1.lt
  refine VL_box (d := 6) (t := 4) (c := #[.bool false]) (by kernel_rfl) (by kernel_rfl) ?_
  intro b2 w2 hn2
  replace hS := Step.trans hS (hn2.step No)
  replace hA := hA.no (hn2.step No)
  replace hDs := hDs.no (hn2.step No)
  replace ho1 := ho1.no (hn2.step No)
  have ho2 := hn2.own
  have hzhn2 := hn2.size
  have hqhn2 := hn2.eqb
  refine VL_end (by kernel_rfl) ?_
  refine VQ_next ?_
  refine VC_seq ?_
  refine VC_seq ?_
  refine VC_region ?_
  have hzs3 := hS.size
  have hzl2 := ho1.lt
  have hzl3 := ho2.lt
  refine VL_call (d := 24) (f := 9) (args := #[]) (by kernel_rfl) (by kernel_rfl) (by kernel_rfl) Try.call9 (awake_any _) ?_
  rintro _ w3 ⟨rfl, hc1⟩
  replace hS := Step.trans hS hc1
  replace hA := hA.no hc1
  replace hDs := hDs.no hc1
  replace ho1 := ho1.no hc1
  replace ho2 := ho2.no hc1
  refine VL_pure 8 [0, 2, 4, 6, 31] [(0, .slice A n c), (2, .int .u8 ((cut : Nat) : Int)), (4, .pointer (some ⟨b1, 0, none⟩)), (6, .pointer (some ⟨b2, 0, none⟩)), (31, .bool (decide (((n : Nat) : Int) > 900)))] (by kernel_rfl) rfl ?_
  refine VL_known (decide (((n : Nat) : Int) > 900)) (fun bV => [(0, .slice A n c), (2, .int .u8 ((cut : Nat) : Int)), (4, .pointer (some ⟨b1, 0, none⟩)), (6, .pointer (some ⟨b2, 0, none⟩)), (31, .bool bV)]) false rfl (by first | (simp; omega) | (simp; done) | simp [*]) ?_
  refine VL_load (d := 32) (t := 32) (a := ⟨b1, 0, none⟩) (v := .slice D nD cD) (by kernel_rfl) (by kernel_rfl) (Loads.own1 ho1 (by kernel_rfl) (by rfl)) ?_
  refine VL_pure 13 [0, 2, 4, 6, 36] [(0, .slice A n c), (2, .int .u8 ((cut : Nat) : Int)), (4, .pointer (some ⟨b1, 0, none⟩)), (6, .pointer (some ⟨b2, 0, none⟩)), (36, .bool (decide (((nD : Nat) : Int) > 1000)))] (by kernel_rfl) rfl ?_
  refine VL_known (decide (((nD : Nat) : Int) > 1000)) (fun bV => [(0, .slice A n c), (2, .int .u8 ((cut : Nat) : Int)), (4, .pointer (some ⟨b1, 0, none⟩)), (6, .pointer (some ⟨b2, 0, none⟩)), (36, .bool bV)]) true rfl (by first | (simp; omega) | (simp; done) | simp [*]) ?_
  refine VL_pure 22 [0, 2, 4, 6, 45] [(0, .slice A n c), (2, .int .u8 ((cut : Nat) : Int)), (4, .pointer (some ⟨b1, 0, none⟩)), (6, .pointer (some ⟨b2, 0, none⟩)), (45, .bool true)] (by kernel_rfl) rfl ?_
  refine VL_end (by kernel_rfl) ?_
  refine VQ_next ?_
  refine VC_true (by kernel_rfl) ?_
  refine VC_seq ?_
  refine VC_region ?_
  have hzs4 := hS.size
  have hzl4 := ho1.lt
  have hzl5 := ho2.lt
  refine VL_call (d := 46) (f := 9) (args := #[]) (by kernel_rfl) (by kernel_rfl) (by kernel_rfl) Try.call9 (awake_any _) ?_
  rintro _ w4 ⟨rfl, hc2⟩
  replace hS := Step.trans hS hc2
  replace hA := hA.no hc2
  replace hDs := hDs.no hc2
  replace ho1 := ho1.no hc2
  replace ho2 := ho2.no hc2
  refine VL_store (b := b2) (o := 0) (vs := [.bool true]) (by kernel_rfl) (by kernel_rfl) ho2 (Nat.le_of_ble_eq_true (by kernel_rfl)) ?_
  intro w5 hw1
  replace hS := Step.transNew hS hw1.step (fun _ _ _ => by omega)
  replace hA := hA.step hw1.step (fun k hk (hF : k = b2) => by omega)
  replace hDs := hDs.step hw1.step (fun k hk (hF : k = b2) => by omega)
  replace ho1 := ho1.step hw1.step (show ¬ b1 = b2 by omega)
  have ho3 : Own w5 b2 #[.bool true] 4 := Own.cast hw1.own (by kernel_rfl)
  have hzhw1 := hw1.same
  refine VL_end (by kernel_rfl) ?_
  refine VQ_next ?_
  refine VC_ret ?_
  refine VQ_then_ret ?_
  have hzs5 := hS.size
  have hzl6 := ho1.lt
  have hzl7 := ho3.lt
  have hzr := ho3.lt
  refine VQ_retMC1 (.bool true) [] (.inr rfl) rfl rfl trivial (fun w9 hq9 => Loads.own1 (ho3.step hq9 (by simp; try omega)) (by kernel_rfl) rfl) ?_
  intro w6 hq1
  replace hq1 : Step No w5 w6 := Step.mono hq1 (fun i hi => by simp at hi)
  replace hS := Step.trans hS hq1
  replace hA := hA.no hq1
  replace hDs := hDs.no hq1
  replace ho1 := ho1.no hq1
  replace ho3 := ho3.no hq1
  exact ⟨by first | rfl | (rw [hls]; rfl) | simp [*], hS⟩

set_option maxRecDepth 100000 in
set_option maxHeartbeats 4000000 in
theorem miss_o4 (A : Option Addr) (n c : Nat) (bs : List Int) (D : Option Addr) (nD cD : Nat) (bt : List Int) (cut : Nat) (w : World) (hn : bs.length = n) (hA : Sl w w.heap.size A (iL .u8 bs)) (hc : n ≤ c) (hb : Bytes bs) (hnD : bt.length = nD) (hDs : Sl w w.heap.size D (iL .u8 bt)) (hcD : nD ≤ cD) (hbD : Bytes bt) (hcut : cut < 256) (hlon : 89 ≤ n) (hhin : n ≤ 900) (hlonD : 0 ≤ nD) (hhinD : nD ≤ 0) :
    CV Try.prog 7 #[.slice A n c, .slice D nD cD, .int .u8 ((cut : Nat) : Int)] w (fun x w1 => x = .bool true ∧ Step No w w1) := by
  have hS : Step No w w := Step.refl _ _
  refine CV_enterM Try.f7 _ 119 [(0, .slice A n c), (1, .slice D nD cD), (2, .int .u8 ((cut : Nat) : Int))] Try.func7 rfl rfl (by kernel_rfl) rfl ?_
  refine VC_seq ?_
  refine VC_region ?_
  have hzs1 := hS.size
  refine VL_box (d := 4) (t := 32) (c := #[.slice D nD cD]) (by kernel_rfl) (by kernel_rfl) ?_
  intro b1 w1 hn1
  replace hS := Step.trans hS (hn1.step No)
  replace hA := hA.no (hn1.step No)
  replace hDs := hDs.no (hn1.step No)
  have ho1 := hn1.own
  have hzhn1 := hn1.size
  have hqhn1 := hn1.eqb
  have hzs2 := hS.size
  have hzl1 := ho1.lt
  refine VL_box (d := 6) (t := 4) (c := #[.bool false]) (by kernel_rfl) (by kernel_rfl) ?_
  intro b2 w2 hn2
  replace hS := Step.trans hS (hn2.step No)
  replace hA := hA.no (hn2.step No)
  replace hDs := hDs.no (hn2.step No)
  replace ho1 := ho1.no (hn2.step No)
  have ho2 := hn2.own
  have hzhn2 := hn2.size
  have hqhn2 := hn2.eqb
  refine VL_end (by kernel_rfl) ?_
  refine VQ_next ?_
  refine VC_seq ?_
  refine VC_seq ?_
  refine VC_region ?_
  have hzs3 := hS.size
  have hzl2 := ho1.lt
  have hzl3 := ho2.lt
  refine VL_call (d := 24) (f := 9) (args := #[]) (by kernel_rfl) (by kernel_rfl) (by kernel_rfl) Try.call9 (awake_any _) ?_
  rintro _ w3 ⟨rfl, hc1⟩
  replace hS := Step.trans hS hc1
  replace hA := hA.no hc1
  replace hDs := hDs.no hc1
  replace ho1 := ho1.no hc1
  replace ho2 := ho2.no hc1
  refine VL_pure 8 [0, 2, 4, 6, 31] [(0, .slice A n c), (2, .int .u8 ((cut : Nat) : Int)), (4, .pointer (some ⟨b1, 0, none⟩)), (6, .pointer (some ⟨b2, 0, none⟩)), (31, .bool (decide (((n : Nat) : Int) > 900)))] (by kernel_rfl) rfl ?_
  refine VL_known (decide (((n : Nat) : Int) > 900)) (fun bV => [(0, .slice A n c), (2, .int .u8 ((cut : Nat) : Int)), (4, .pointer (some ⟨b1, 0, none⟩)), (6, .pointer (some ⟨b2, 0, none⟩)), (31, .bool bV)]) false rfl (by first | (simp; omega) | (simp; done) | simp [*]) ?_
  refine VL_load (d := 32) (t := 32) (a := ⟨b1, 0, none⟩) (v := .slice D nD cD) (by kernel_rfl) (by kernel_rfl) (Loads.own1 ho1 (by kernel_rfl) (by rfl)) ?_
  refine VL_pure 13 [0, 2, 4, 6, 36] [(0, .slice A n c), (2, .int .u8 ((cut : Nat) : Int)), (4, .pointer (some ⟨b1, 0, none⟩)), (6, .pointer (some ⟨b2, 0, none⟩)), (36, .bool (decide (((nD : Nat) : Int) > 1000)))] (by kernel_rfl) rfl ?_
  refine VL_known (decide (((nD : Nat) : Int) > 1000)) (fun bV => [(0, .slice A n c), (2, .int .u8 ((cut : Nat) : Int)), (4, .pointer (some ⟨b1, 0, none⟩)), (6, .pointer (some ⟨b2, 0, none⟩)), (36, .bool bV)]) false rfl (by first | (simp; omega) | (simp; done) | simp [*]) ?_
  refine VL_pure 18 [0, 2, 4, 6, 41] [(0, .slice A n c), (2, .int .u8 ((cut : Nat) : Int)), (4, .pointer (some ⟨b1, 0, none⟩)), (6, .pointer (some ⟨b2, 0, none⟩)), (41, .bool (decide (((n : Nat) : Int) ≤ 88)))] (by kernel_rfl) rfl ?_
  refine VL_known (decide (((n : Nat) : Int) ≤ 88)) (fun bV => [(0, .slice A n c), (2, .int .u8 ((cut : Nat) : Int)), (4, .pointer (some ⟨b1, 0, none⟩)), (6, .pointer (some ⟨b2, 0, none⟩)), (41, .bool bV)]) false rfl (by first | (simp; omega) | (simp; done) | simp [*]) ?_
  refine VL_load (d := 42) (t := 32) (a := ⟨b1, 0, none⟩) (v := .slice D nD cD) (by kernel_rfl) (by kernel_rfl) (Loads.own1 ho1 (by kernel_rfl) (by rfl)) ?_
  refine VL_pure 22 [0, 2, 4, 6, 45] [(0, .slice A n c), (2, .int .u8 ((cut : Nat) : Int)), (4, .pointer (some ⟨b1, 0, none⟩)), (6, .pointer (some ⟨b2, 0, none⟩)), (45, .bool (((nD : Nat) : Int) == 0))] (by kernel_rfl) rfl ?_
  refine VL_end (by kernel_rfl) ?_
  refine VQ_next ?_
  refine VC_is (b := ((nD : Nat) : Int) == 0) true (by kernel_rfl) (by first | (simp; omega) | (simp; done) | simp [*]) ?_
  refine VC_ite_true ?_
  refine VC_seq ?_
  refine VC_region ?_
  have hzs4 := hS.size
  have hzl4 := ho1.lt
  have hzl5 := ho2.lt
  refine VL_call (d := 46) (f := 9) (args := #[]) (by kernel_rfl) (by kernel_rfl) (by kernel_rfl) Try.call9 (awake_any _) ?_
  rintro _ w4 ⟨rfl, hc2⟩
  replace hS := Step.trans hS hc2
  replace hA := hA.no hc2
  replace hDs := hDs.no hc2
  replace ho1 := ho1.no hc2
  replace ho2 := ho2.no hc2
  refine VL_store (b := b2) (o := 0) (vs := [.bool true]) (by kernel_rfl) (by kernel_rfl) ho2 (Nat.le_of_ble_eq_true (by kernel_rfl)) ?_
  intro w5 hw1
  replace hS := Step.transNew hS hw1.step (fun _ _ _ => by omega)
  replace hA := hA.step hw1.step (fun k hk (hF : k = b2) => by omega)
  replace hDs := hDs.step hw1.step (fun k hk (hF : k = b2) => by omega)
  replace ho1 := ho1.step hw1.step (show ¬ b1 = b2 by omega)
  have ho3 : Own w5 b2 #[.bool true] 4 := Own.cast hw1.own (by kernel_rfl)
  have hzhw1 := hw1.same
  refine VL_end (by kernel_rfl) ?_
  refine VQ_next ?_
  refine VC_ret ?_
  refine VQ_then_ret ?_
  have hzs5 := hS.size
  have hzl6 := ho1.lt
  have hzl7 := ho3.lt
  have hzr := ho3.lt
  refine VQ_retMC1 (.bool true) [] (.inr rfl) rfl rfl trivial (fun w9 hq9 => Loads.own1 (ho3.step hq9 (by simp; try omega)) (by kernel_rfl) rfl) ?_
  intro w6 hq1
  replace hq1 : Step No w5 w6 := Step.mono hq1 (fun i hi => by simp at hi)
  replace hS := Step.trans hS hq1
  replace hA := hA.no hq1
  replace hDs := hDs.no hq1
  replace ho1 := ho1.no hq1
  replace ho3 := ho3.no hq1
  exact ⟨by first | rfl | (rw [hls]; rfl) | simp [*], hS⟩

end Go.Proofs.Ytgiefcolkohgkaa
