/- Layer 11: GatherLong. -/
import Derived.Test.YtgiefcolkohgkaaProg
import Derived.Test.YtgiefcolkohgkaaGa4
import Derived.Test.YtgiefcolkohgkaaGa7
import Derived.Test.YtgiefcolkohgkaaGaNl
import Derived.Test.YtgiefcolkohgkaaCe1
set_option linter.unusedVariables false
set_option linter.unusedSimpArgs false
namespace Go.Proofs.Ytgiefcolkohgkaa
open Go.Vc Go.RowKit

set_option maxRecDepth 100000 in
set_option maxHeartbeats 4000000 in
theorem long_yes (ps : List Int) (my : Nat) (D : Option Addr) (nD cD : Nat) (bt : List Int) (w : World) (hps : ps.length = 48) (hbp : Bytes ps) (hmy : my < 256) (hnD : bt.length = nD) (hDs : Sl w w.heap.size D (iL .u8 bt)) (hcD : nD ≤ cD) (hbD : Bytes bt) (hlonD : 1 ≤ nD) (hhinD : nD ≤ 1000) :
    CV Try.prog 8 #[.agg (iA .u8 ps), .int .u8 ((my : Nat) : Int), .slice D nD cD] w (fun x w1 => x = .bool true ∧ Step No w w1) := by
  have hS : Step No w w := Step.refl _ _
  refine CV_enterM Try.f8 _ 153 [(0, .agg (iA .u8 ps)), (1, .int .u8 ((my : Nat) : Int)), (2, .slice D nD cD)] Try.func8 rfl rfl (by kernel_rfl) rfl ?_
  refine VC_seq ?_
  refine VC_region ?_
  have hzs1 := hS.size
  have hzs2 := hS.size
  refine VL_box (d := 3) (t := 28) (c := iA .u8 ps) (by kernel_rfl) (by kernel_rfl) ?_
  intro b1 w1 hn1
  replace hS := Step.trans hS (hn1.step No)
  replace hDs := hDs.no (hn1.step No)
  have ho1 := hn1.own
  have hzhn1 := hn1.size
  have hqhn1 := hn1.eqb
  have hzs3 := hS.size
  have hzl1 := ho1.lt
  refine VL_box (d := 5) (t := 32) (c := #[.slice D nD cD]) (by kernel_rfl) (by kernel_rfl) ?_
  intro b2 w2 hn2
  replace hS := Step.trans hS (hn2.step No)
  replace hDs := hDs.no (hn2.step No)
  replace ho1 := ho1.no (hn2.step No)
  have ho2 := hn2.own
  have hzhn2 := hn2.size
  have hqhn2 := hn2.eqb
  have hzs4 := hS.size
  have hzl2 := ho1.lt
  have hzl3 := ho2.lt
  refine VL_box (d := 6) (t := 4) (c := #[.bool false]) (by kernel_rfl) (by kernel_rfl) ?_
  intro b3 w3 hn3
  replace hS := Step.trans hS (hn3.step No)
  replace hDs := hDs.no (hn3.step No)
  replace ho1 := ho1.no (hn3.step No)
  replace ho2 := ho2.no (hn3.step No)
  have ho3 := hn3.own
  have hzhn3 := hn3.size
  have hqhn3 := hn3.eqb
  refine VL_end (by kernel_rfl) ?_
  refine VQ_next ?_
  refine VC_seq ?_
  refine VC_seq ?_
  refine VC_region ?_
  have hzs5 := hS.size
  have hzl4 := ho1.lt
  have hzl5 := ho2.lt
  have hzl6 := ho3.lt
  refine VL_call (d := 30) (f := 9) (args := #[]) (by kernel_rfl) (by kernel_rfl) (by kernel_rfl) Try.call9 (awake_any _) ?_
  rintro _ w4 ⟨rfl, hc1⟩
  replace hS := Step.trans hS hc1
  replace hDs := hDs.no hc1
  replace ho1 := ho1.no hc1
  replace ho2 := ho2.no hc1
  replace ho3 := ho3.no hc1
  refine VL_pure 3 [1, 3, 5, 6, 32] [(1, .int .u8 ((my : Nat) : Int)), (3, .pointer (some ⟨b1, 0, none⟩)), (5, .pointer (some ⟨b2, 0, none⟩)), (6, .pointer (some ⟨b3, 0, none⟩)), (32, .bool false)] (by kernel_rfl) rfl ?_
  refine VL_load (d := 33) (t := 32) (a := ⟨b2, 0, none⟩) (v := .slice D nD cD) (by kernel_rfl) (by kernel_rfl) (Loads.own1 ho2 (by kernel_rfl) (by rfl)) ?_
  refine VL_pure 8 [1, 3, 5, 6, 37] [(1, .int .u8 ((my : Nat) : Int)), (3, .pointer (some ⟨b1, 0, none⟩)), (5, .pointer (some ⟨b2, 0, none⟩)), (6, .pointer (some ⟨b3, 0, none⟩)), (37, .bool (decide (((nD : Nat) : Int) > 1000)))] (by kernel_rfl) rfl ?_
  refine VL_known (decide (((nD : Nat) : Int) > 1000)) (fun bV => [(1, .int .u8 ((my : Nat) : Int)), (3, .pointer (some ⟨b1, 0, none⟩)), (5, .pointer (some ⟨b2, 0, none⟩)), (6, .pointer (some ⟨b3, 0, none⟩)), (37, .bool bV)]) false rfl (by first | (simp; omega) | (simp; done) | simp [*]) ?_
  refine VL_load (d := 38) (t := 32) (a := ⟨b2, 0, none⟩) (v := .slice D nD cD) (by kernel_rfl) (by kernel_rfl) (Loads.own1 ho2 (by kernel_rfl) (by rfl)) ?_
  refine VL_pure 12 [1, 3, 5, 6, 41] [(1, .int .u8 ((my : Nat) : Int)), (3, .pointer (some ⟨b1, 0, none⟩)), (5, .pointer (some ⟨b2, 0, none⟩)), (6, .pointer (some ⟨b3, 0, none⟩)), (41, .bool (((nD : Nat) : Int) == 0))] (by kernel_rfl) rfl ?_
  refine VL_end (by kernel_rfl) ?_
  refine VQ_next ?_
  refine VC_is (b := ((nD : Nat) : Int) == 0) false (by kernel_rfl) (by first | (simp; omega) | (simp; done) | simp [*]) ?_
  refine VC_ite_false ?_
  refine VC_skip ?_
  refine VQ_next ?_
  refine VC_seq ?_
  have hU2 := frame_un (bs := bt) (m := 2) (by omega) (by omega) hbD (by decide)
  refine VC_region ?_
  have hzs6 := hS.size
  have hzl7 := ho1.lt
  have hzl8 := ho2.lt
  have hzl9 := ho3.lt
  refine VL_call (d := 43) (f := 10) (by kernel_rfl) (by kernel_rfl) (by kernel_rfl) Try.call10 (gnew_any 1000 _) ?_
  rintro _ w5 ⟨gp1, rfl, hfgp1, hg1, hc2⟩
  replace hS := Step.trans hS hc2
  replace hDs := hDs.no hc2
  replace ho1 := ho1.no hc2
  replace ho2 := ho2.no hc2
  replace ho3 := ho3.no hc2
  have hltgp1 := GaOf.lt hg1
  have hgigp1 : GaI (newG 1000) 0 := GaI.new _
  have hzzgp1 := hc2.size
  have hzs7 := hS.size
  have hzl10 := ho1.lt
  have hzl11 := ho2.lt
  have hzl12 := ho3.lt
  have hzl13 := GaOf.lt hg1
  refine VL_box (d := 7) (t := 24) (c := #[.pointer none]) (by kernel_rfl) (by kernel_rfl) ?_
  intro b4 w6 hn4
  replace hS := Step.trans hS (hn4.step No)
  replace hDs := hDs.no (hn4.step No)
  replace ho1 := ho1.no (hn4.step No)
  replace ho2 := ho2.no (hn4.step No)
  replace ho3 := ho3.no (hn4.step No)
  replace hg1 := GaOf.no hg1 (hn4.step No)
  have ho4 := hn4.own
  have hzhn4 := hn4.size
  have hqhn4 := hn4.eqb
  refine VL_store (b := b4) (o := 0) (vs := [.pointer (some ⟨gp1, 0, none⟩)]) (by kernel_rfl) (by kernel_rfl) ho4 (Nat.le_of_ble_eq_true (by kernel_rfl)) ?_
  intro w7 hw1
  replace hS := Step.transNew hS hw1.step (fun _ _ _ => by omega)
  replace hDs := hDs.step hw1.step (fun k hk (hF : k = b4) => by omega)
  replace ho1 := ho1.step hw1.step (show ¬ b1 = b4 by omega)
  replace ho2 := ho2.step hw1.step (show ¬ b2 = b4 by omega)
  replace ho3 := ho3.step hw1.step (show ¬ b3 = b4 by omega)
  replace hg1 := GaOf.keep hg1 ho4 (by decide) (by omega) hw1.step
  have ho5 : Own w7 b4 #[.pointer (some ⟨gp1, 0, none⟩)] 24 := Own.cast hw1.own (by kernel_rfl)
  have hzhw1 := hw1.same
  refine VL_end (by kernel_rfl) ?_
  refine VQ_next ?_
  refine VC_seq ?_
  refine VC_region ?_
  have hzs8 := hS.size
  have hzl14 := ho1.lt
  have hzl15 := ho2.lt
  have hzl16 := ho3.lt
  have hzl17 := GaOf.lt hg1
  have hzl18 := ho5.lt
  refine VL_call (d := 44) (f := 22) (args := #[.int .i64 1000]) (by kernel_rfl) (by kernel_rfl) (by kernel_rfl) Try.call22 (many_1000 _) ?_
  rintro _ w8 ⟨rfl, hc3⟩
  replace hS := Step.trans hS hc3
  replace hDs := hDs.no hc3
  replace ho1 := ho1.no hc3
  replace ho2 := ho2.no hc3
  replace ho3 := ho3.no hc3
  replace hg1 := GaOf.no hg1 hc3
  replace ho5 := ho5.no hc3
  refine VL_pure 2 [1, 3, 5, 6, 7, 8] [(1, .int .u8 ((my : Nat) : Int)), (3, .pointer (some ⟨b1, 0, none⟩)), (5, .pointer (some ⟨b2, 0, none⟩)), (6, .pointer (some ⟨b3, 0, none⟩)), (7, .pointer (some ⟨b4, 0, none⟩)), (8, .int .i64 21)] (by kernel_rfl) rfl ?_
  refine VL_end (by kernel_rfl) ?_
  refine VQ_next ?_
  refine VC_seq ?_
  refine VC_seq ?_
  refine VC_region ?_
  refine VL_pure 2 [1, 3, 5, 6, 7, 8, 45, 46] [(1, .int .u8 ((my : Nat) : Int)), (3, .pointer (some ⟨b1, 0, none⟩)), (5, .pointer (some ⟨b2, 0, none⟩)), (6, .pointer (some ⟨b3, 0, none⟩)), (7, .pointer (some ⟨b4, 0, none⟩)), (8, .int .i64 21), (45, .int .i64 21), (46, .int .i64 0)] (by kernel_rfl) rfl ?_
  refine VL_end (by kernel_rfl) ?_
  refine VQ_next ?_
  refine VC_block ?_
  refine VC_loop (σ := Nat) (fun σs => [(1, .int .u8 ((my : Nat) : Int)), (3, .pointer (some ⟨b1, 0, none⟩)), (5, .pointer (some ⟨b2, 0, none⟩)), (6, .pointer (some ⟨b3, 0, none⟩)), (7, .pointer (some ⟨b4, 0, none⟩)), (8, .int .i64 21), (45, .int .i64 21), (46, .int .i64 ((σs : Nat) : Int))]) (fun σs w9 => (σs ≤ 21) ∧ (Step No w w9) ∧ (Sl w9 (w.heap.size) D (iL .u8 bt)) ∧ (Own w9 b1 (iA .u8 ps) 28) ∧ (Own w9 b2 #[.slice D nD cD] 32) ∧ (Own w9 b3 #[.bool false] 4) ∧ (Own w9 b4 #[.pointer (some ⟨gp1, 0, none⟩)] 24) ∧ (GaOf w9 58 gp1 (fun _ => True) (longG ps σs))) (fun σs w9 => 21 - σs) 0 ⟨rfl, rfl, rfl, rfl, rfl, rfl, rfl, rfl, trivial⟩ ?_ ?_
  · exact ⟨Nat.zero_le _, hS, hDs, ho1, ho2, ho3, ho5, hg1⟩
  rintro k w9 ⟨hk21, hS, hDs, ho1, ho2, ho3, ho5, hga⟩
  try dsimp only at hk21 hS hDs ho1 ho2 ho3 ho5 hga ⊢
  have hI := long_I hps hbp k
  refine VC_seq ?_
  refine VC_region ?_
  refine VL_pure 1 [1, 3, 5, 6, 7, 8, 45, 46, 47] [(1, .int .u8 ((my : Nat) : Int)), (3, .pointer (some ⟨b1, 0, none⟩)), (5, .pointer (some ⟨b2, 0, none⟩)), (6, .pointer (some ⟨b3, 0, none⟩)), (7, .pointer (some ⟨b4, 0, none⟩)), (8, .int .i64 21), (45, .int .i64 21), (46, .int .i64 ((k : Nat) : Int)), (47, .bool (decide (((k : Nat) : Int) < 21)))] (by kernel_rfl) rfl ?_
  refine VL_end (by kernel_rfl) ?_
  refine VQ_next ?_
  refine VC_seq ?_
  refine VC_dec (((k : Nat) : Int) < 21) (by kernel_rfl) (fun h1 => ?_) (fun h1 => ?_)
  · refine VC_skip ?_
    refine VQ_next ?_
    refine VC_seq ?_
    refine VC_block ?_
    refine VC_seq ?_
    refine VC_region ?_
    refine VL_pure 2 [1, 3, 5, 6, 7, 8, 45, 46, 9] [(1, .int .u8 ((my : Nat) : Int)), (3, .pointer (some ⟨b1, 0, none⟩)), (5, .pointer (some ⟨b2, 0, none⟩)), (6, .pointer (some ⟨b3, 0, none⟩)), (7, .pointer (some ⟨b4, 0, none⟩)), (8, .int .i64 21), (45, .int .i64 21), (46, .int .i64 ((k : Nat) : Int)), (9, .int .i64 ((k : Nat) : Int))] (by kernel_rfl) rfl ?_
    refine VL_end (by kernel_rfl) ?_
    refine VQ_next ?_
    refine VC_seq ?_
    refine VC_region ?_
    refine VL_load (d := 50) (t := 24) (a := ⟨b4, 0, none⟩) (v := .pointer (some ⟨gp1, 0, none⟩)) (by kernel_rfl) (by kernel_rfl) (Loads.own1 ho5 (by kernel_rfl) (by rfl)) ?_
    refine VL_load (d := 51) (t := 28) (a := ⟨b1, 0, none⟩) (v := .agg (iA .u8 ps)) (by kernel_rfl) (by kernel_rfl) (Loads.arr (N := 48) ho1 (by kernel_rfl) hps) ?_
    have hzs9 := hS.size
    have hzl19 := ho1.lt
    have hzl20 := ho2.lt
    have hzl21 := ho3.lt
    have hzl22 := ho5.lt
    have hzl23 := GaOf.lt hga
    refine VL_call (d := 52) (f := 15) (by kernel_rfl) (by kernel_rfl) (by kernel_rfl) Try.call15 (take_any gp1 (longG ps k) (fun _ => True) _ (fun _ _ => trivial) hga _ hI (by omega) 0 (by omega) (by omega) ps (And.intro hps hbp).1 (And.intro hps hbp).2 false) ?_
    rintro _ w10 ⟨A1, c1, rfl, hr1, hg2, hc4⟩
    replace hS := Step.transNew hS hc4 (fun _ _ _ => by omega)
    replace hDs := hDs.step hc4 (fun k hk (hF : k = gp1) => by omega)
    replace ho1 := ho1.step hc4 (show ¬ b1 = gp1 by omega)
    replace ho2 := ho2.step hc4 (show ¬ b2 = gp1 by omega)
    replace ho3 := ho3.step hc4 (show ¬ b3 = gp1 by omega)
    replace ho5 := ho5.step hc4 (show ¬ b4 = gp1 by omega)
    have hxhr1 := SlX.of_rw (X := fun _ => True) hr1 (fun _ _ => trivial)
    have hlthg2 := GaOf.lt hg2
    have hgihg2 := GaI.take (t := 0) (p := ps) hI false (by omega) (by omega) (And.intro hps hbp).1 (And.intro hps hbp).2
    have htlhg2 := takeT_le hI 0 ps false (And.intro hps hbp).1
    refine VL_pure 10 [1, 3, 5, 6, 7, 8, 45, 46, 9, 12] [(1, .int .u8 ((my : Nat) : Int)), (3, .pointer (some ⟨b1, 0, none⟩)), (5, .pointer (some ⟨b2, 0, none⟩)), (6, .pointer (some ⟨b3, 0, none⟩)), (7, .pointer (some ⟨b4, 0, none⟩)), (8, .int .i64 21), (45, .int .i64 21), (46, .int .i64 ((k : Nat) : Int)), (9, .int .i64 ((k : Nat) : Int)), (12, .int .i64 (takeE (longG ps k) 0 ps false))] (by kernel_rfl) rfl ?_
    refine VL_end (by kernel_rfl) ?_
    refine VQ_next ?_
    refine VC_seq ?_
    refine VC_region ?_
    refine VL_pure 8 [1, 3, 5, 6, 7, 8, 45, 46, 12, 63] [(1, .int .u8 ((my : Nat) : Int)), (3, .pointer (some ⟨b1, 0, none⟩)), (5, .pointer (some ⟨b2, 0, none⟩)), (6, .pointer (some ⟨b3, 0, none⟩)), (7, .pointer (some ⟨b4, 0, none⟩)), (8, .int .i64 21), (45, .int .i64 21), (46, .int .i64 ((k : Nat) : Int)), (12, .int .i64 (takeE (longG ps k) 0 ps false)), (63, .bool (!(((takeE (longG ps k) 0 ps false) == 6) == (((k : Nat) : Int) == 20))))] (by kernel_rfl) rfl ?_
    refine VL_known (!(((takeE (longG ps k) 0 ps false) == 6) == (((k : Nat) : Int) == 20))) (fun bV => [(1, .int .u8 ((my : Nat) : Int)), (3, .pointer (some ⟨b1, 0, none⟩)), (5, .pointer (some ⟨b2, 0, none⟩)), (6, .pointer (some ⟨b3, 0, none⟩)), (7, .pointer (some ⟨b4, 0, none⟩)), (8, .int .i64 21), (45, .int .i64 21), (46, .int .i64 ((k : Nat) : Int)), (12, .int .i64 (takeE (longG ps k) 0 ps false)), (63, .bool bV)]) false rfl (long_cmp hps (by omega)) ?_
    refine VL_pure 11 [1, 3, 5, 6, 7, 8, 45, 46, 66] [(1, .int .u8 ((my : Nat) : Int)), (3, .pointer (some ⟨b1, 0, none⟩)), (5, .pointer (some ⟨b2, 0, none⟩)), (6, .pointer (some ⟨b3, 0, none⟩)), (7, .pointer (some ⟨b4, 0, none⟩)), (8, .int .i64 21), (45, .int .i64 21), (46, .int .i64 ((k : Nat) : Int)), (66, .bool ((takeE (longG ps k) 0 ps false) == 0))] (by kernel_rfl) rfl ?_
    refine VL_end (by kernel_rfl) ?_
    refine VQ_next ?_
    refine VC_is (b := (takeE (longG ps k) 0 ps false) == 0) false (by kernel_rfl) (long_ok hps (by omega)) ?_
    refine VC_ite_false ?_
    refine VC_skip ?_
    refine VQ_block_normal ?_
    refine VQ_next ?_
    refine VC_region ?_
    refine VL_pure 1 [1, 3, 5, 6, 7, 8, 45, 67] [(1, .int .u8 ((my : Nat) : Int)), (3, .pointer (some ⟨b1, 0, none⟩)), (5, .pointer (some ⟨b2, 0, none⟩)), (6, .pointer (some ⟨b3, 0, none⟩)), (7, .pointer (some ⟨b4, 0, none⟩)), (8, .int .i64 21), (45, .int .i64 21), (67, .int .i64 (IntKind.wrap .i64 (((k : Nat) : Int) + 1)))] (by kernel_rfl) rfl ?_
    have he1 : IntKind.wrap .i64 (((k : Nat) : Int) + 1) = ((k + 1 : Nat) : Int) := (by rw [wrap_i64 _ (by omega) (by omega)]; omega)
    refine VL_eq [(1, .int .u8 ((my : Nat) : Int)), (3, .pointer (some ⟨b1, 0, none⟩)), (5, .pointer (some ⟨b2, 0, none⟩)), (6, .pointer (some ⟨b3, 0, none⟩)), (7, .pointer (some ⟨b4, 0, none⟩)), (8, .int .i64 21), (45, .int .i64 21), (67, .int .i64 ((k + 1 : Nat) : Int))] (by rw [he1]) ?_
    refine VL_pure 2 [1, 3, 5, 6, 7, 8, 45, 46] [(1, .int .u8 ((my : Nat) : Int)), (3, .pointer (some ⟨b1, 0, none⟩)), (5, .pointer (some ⟨b2, 0, none⟩)), (6, .pointer (some ⟨b3, 0, none⟩)), (7, .pointer (some ⟨b4, 0, none⟩)), (8, .int .i64 21), (45, .int .i64 21), (46, .int .i64 ((k + 1 : Nat) : Int))] (by kernel_rfl) rfl ?_
    refine VL_end (by kernel_rfl) ?_
    refine VQ_again (k + 1) ⟨rfl, rfl, rfl, rfl, rfl, rfl, rfl, rfl, trivial⟩ ?_ ?_
    · exact ⟨(by omega), hS, hDs, ho1, ho2, ho3, ho5, hg2⟩
    · (try dsimp only); omega
  · refine VC_exit ?_
    refine VQ_then_exit ?_
    refine VQ_then_exit ?_
    refine VQ_block_hit ?_
    refine VQ_next ?_
    refine VC_seq ?_
    refine VC_seq ?_
    obtain rfl : k = 21 := by omega
    have hSk := long_21 hps
    obtain ⟨GX, hGX⟩ : ∃ x, x = longG ps 21 := ⟨_, rfl⟩
    rw [← hGX] at hSk hI hga
    refine VC_region ?_
    refine VL_pure 2 [3, 5, 6, 7, 69] [(3, .pointer (some ⟨b1, 0, none⟩)), (5, .pointer (some ⟨b2, 0, none⟩)), (6, .pointer (some ⟨b3, 0, none⟩)), (7, .pointer (some ⟨b4, 0, none⟩)), (69, .int .i64 (IntKind.wrap .i64 ((my : Nat) : Int)))] (by kernel_rfl) rfl ?_
    have he2 : IntKind.wrap .i64 ((my : Nat) : Int) = ((my : Nat) : Int) := (by rw [wrap_i64 _ (by omega) (by omega)])
    refine VL_eq [(3, .pointer (some ⟨b1, 0, none⟩)), (5, .pointer (some ⟨b2, 0, none⟩)), (6, .pointer (some ⟨b3, 0, none⟩)), (7, .pointer (some ⟨b4, 0, none⟩)), (69, .int .i64 ((my : Nat) : Int))] (by rw [he2]) ?_
    refine VL_pure 3 [3, 5, 6, 7, 69, 70] [(3, .pointer (some ⟨b1, 0, none⟩)), (5, .pointer (some ⟨b2, 0, none⟩)), (6, .pointer (some ⟨b3, 0, none⟩)), (7, .pointer (some ⟨b4, 0, none⟩)), (69, .int .i64 ((my : Nat) : Int)), (70, .int .i64 0)] (by kernel_rfl) rfl ?_
    refine VL_end (by kernel_rfl) ?_
    refine VQ_next ?_
    refine VC_block ?_
    refine VC_loop (σ := Nat) (fun σs => [(3, .pointer (some ⟨b1, 0, none⟩)), (5, .pointer (some ⟨b2, 0, none⟩)), (6, .pointer (some ⟨b3, 0, none⟩)), (7, .pointer (some ⟨b4, 0, none⟩)), (69, .int .i64 ((my : Nat) : Int)), (70, .int .i64 ((σs : Nat) : Int))]) (fun σs w11 => (σs ≤ my) ∧ (Step No w w11) ∧ (Sl w11 (w.heap.size) D (iL .u8 bt)) ∧ (Own w11 b1 (iA .u8 ps) 28) ∧ (Own w11 b2 #[.slice D nD cD] 32) ∧ (Own w11 b3 #[.bool false] 4) ∧ (Own w11 b4 #[.pointer (some ⟨gp1, 0, none⟩)] 24) ∧ (GaOf w11 58 gp1 (fun _ => True) GX)) (fun σs w11 => my - σs) 0 ⟨rfl, rfl, rfl, rfl, rfl, rfl, trivial⟩ ?_ ?_
    · exact ⟨Nat.zero_le _, hS, hDs, ho1, ho2, ho3, ho5, hga⟩
    rintro j w11 ⟨hjm, hS, hDs, ho1, ho2, ho3, ho5, hgb⟩
    try dsimp only at hjm hS hDs ho1 ho2 ho3 ho5 hgb ⊢
    refine VC_seq ?_
    refine VC_region ?_
    refine VL_pure 1 [3, 5, 6, 7, 69, 70, 71] [(3, .pointer (some ⟨b1, 0, none⟩)), (5, .pointer (some ⟨b2, 0, none⟩)), (6, .pointer (some ⟨b3, 0, none⟩)), (7, .pointer (some ⟨b4, 0, none⟩)), (69, .int .i64 ((my : Nat) : Int)), (70, .int .i64 ((j : Nat) : Int)), (71, .bool (decide (((j : Nat) : Int) < ((my : Nat) : Int))))] (by kernel_rfl) rfl ?_
    refine VL_end (by kernel_rfl) ?_
    refine VQ_next ?_
    refine VC_seq ?_
    refine VC_dec (((j : Nat) : Int) < ((my : Nat) : Int)) (by kernel_rfl) (fun h2 => ?_) (fun h2 => ?_)
    · refine VC_skip ?_
      refine VQ_next ?_
      refine VC_seq ?_
      refine VC_block ?_
      refine VC_seq ?_
      refine VC_region ?_
      refine VL_load (d := 73) (t := 24) (a := ⟨b4, 0, none⟩) (v := .pointer (some ⟨gp1, 0, none⟩)) (by kernel_rfl) (by kernel_rfl) (Loads.own1 ho5 (by kernel_rfl) (by rfl)) ?_
      refine VL_load (d := 74) (t := 28) (a := ⟨b1, 0, none⟩) (v := .agg (iA .u8 ps)) (by kernel_rfl) (by kernel_rfl) (Loads.arr (N := 48) ho1 (by kernel_rfl) hps) ?_
      have hzs10 := hS.size
      have hzl24 := ho1.lt
      have hzl25 := ho2.lt
      have hzl26 := ho3.lt
      have hzl27 := ho5.lt
      have hzl28 := GaOf.lt hgb
      refine VL_call (d := 75) (f := 15) (by kernel_rfl) (by kernel_rfl) (by kernel_rfl) Try.call15 (take_any gp1 GX (fun _ => True) _ (fun _ _ => trivial) hgb _ hI (by omega) 0 (by omega) (by omega) ps (And.intro hps hbp).1 (And.intro hps hbp).2 false) ?_
      rintro _ w12 ⟨A2, c2, rfl, hr2, hg3, hc5⟩
      replace hS := Step.transNew hS hc5 (fun _ _ _ => by omega)
      replace hDs := hDs.step hc5 (fun k hk (hF : k = gp1) => by omega)
      replace ho1 := ho1.step hc5 (show ¬ b1 = gp1 by omega)
      replace ho2 := ho2.step hc5 (show ¬ b2 = gp1 by omega)
      replace ho3 := ho3.step hc5 (show ¬ b3 = gp1 by omega)
      replace ho5 := ho5.step hc5 (show ¬ b4 = gp1 by omega)
      have hxhr2 := SlX.of_rw (X := fun _ => True) hr2 (fun _ _ => trivial)
      have hlthg3 := GaOf.lt hg3
      have hgihg3 := GaI.take (t := 0) (p := ps) hI false (by omega) (by omega) (And.intro hps hbp).1 (And.intro hps hbp).2
      have htlhg3 := takeT_le hI 0 ps false (And.intro hps hbp).1
      refine VL_pure 10 [3, 5, 6, 7, 69, 70, 15] [(3, .pointer (some ⟨b1, 0, none⟩)), (5, .pointer (some ⟨b2, 0, none⟩)), (6, .pointer (some ⟨b3, 0, none⟩)), (7, .pointer (some ⟨b4, 0, none⟩)), (69, .int .i64 ((my : Nat) : Int)), (70, .int .i64 ((j : Nat) : Int)), (15, .int .i64 (takeE GX 0 ps false))] (by kernel_rfl) rfl ?_
      refine VL_end (by kernel_rfl) ?_
      refine VQ_next ?_
      refine VC_seq ?_
      refine VC_region ?_
      refine VL_pure 3 [3, 5, 6, 7, 69, 70, 81] [(3, .pointer (some ⟨b1, 0, none⟩)), (5, .pointer (some ⟨b2, 0, none⟩)), (6, .pointer (some ⟨b3, 0, none⟩)), (7, .pointer (some ⟨b4, 0, none⟩)), (69, .int .i64 ((my : Nat) : Int)), (70, .int .i64 ((j : Nat) : Int)), (81, .bool ((takeE GX 0 ps false) != 2))] (by kernel_rfl) rfl ?_
      refine VL_known ((takeE GX 0 ps false) != 2) (fun bV => [(3, .pointer (some ⟨b1, 0, none⟩)), (5, .pointer (some ⟨b2, 0, none⟩)), (6, .pointer (some ⟨b3, 0, none⟩)), (7, .pointer (some ⟨b4, 0, none⟩)), (69, .int .i64 ((my : Nat) : Int)), (70, .int .i64 ((j : Nat) : Int)), (81, .bool bV)]) false rfl (by rw [(hSk.take _ _ _).2.2.2]; rfl) ?_
      refine VL_load (d := 82) (t := 24) (a := ⟨b4, 0, none⟩) (v := .pointer (some ⟨gp1, 0, none⟩)) (by kernel_rfl) (by kernel_rfl) (Loads.own1 ho5 (by kernel_rfl) (by rfl)) ?_
      have hzs11 := hS.size
      have hzl29 := ho1.lt
      have hzl30 := ho2.lt
      have hzl31 := ho3.lt
      have hzl32 := ho5.lt
      have hzl33 := GaOf.lt hg3
      refine VL_call (d := 83) (f := 18) (by kernel_rfl) (by kernel_rfl) (by kernel_rfl) Try.call18 (parts_any gp1 (takeF GX 0 ps false) (fun _ => True) _ hg3 (by have h9 := (hgihg3).len_le; omega)) ?_
      rintro _ w13 ⟨rfl, hc6⟩
      replace hS := Step.trans hS hc6
      replace hDs := hDs.no hc6
      replace ho1 := ho1.no hc6
      replace ho2 := ho2.no hc6
      replace ho3 := ho3.no hc6
      replace ho5 := ho5.no hc6
      replace hg3 := GaOf.no hg3 hc6
      replace hxhr2 := hxhr2.no hc6
      refine VL_pure 7 [3, 5, 6, 7, 69, 70, 85] [(3, .pointer (some ⟨b1, 0, none⟩)), (5, .pointer (some ⟨b2, 0, none⟩)), (6, .pointer (some ⟨b3, 0, none⟩)), (7, .pointer (some ⟨b4, 0, none⟩)), (69, .int .i64 ((my : Nat) : Int)), (70, .int .i64 ((j : Nat) : Int)), (85, .bool (((((takeF GX 0 ps false)).bs.length / 48 : Nat) : Int) != 0))] (by kernel_rfl) rfl ?_
      refine VL_end (by kernel_rfl) ?_
      refine VQ_next ?_
      refine VC_is (b := ((((takeF GX 0 ps false)).bs.length / 48 : Nat) : Int) != 0) false (by kernel_rfl) (by rw [hSk.go]; exact hSk.parts) ?_
      refine VC_ite_false ?_
      refine VC_skip ?_
      refine VQ_block_normal ?_
      refine VQ_next ?_
      refine VC_region ?_
      refine VL_pure 1 [3, 5, 6, 7, 69, 86] [(3, .pointer (some ⟨b1, 0, none⟩)), (5, .pointer (some ⟨b2, 0, none⟩)), (6, .pointer (some ⟨b3, 0, none⟩)), (7, .pointer (some ⟨b4, 0, none⟩)), (69, .int .i64 ((my : Nat) : Int)), (86, .int .i64 (IntKind.wrap .i64 (((j : Nat) : Int) + 1)))] (by kernel_rfl) rfl ?_
      have he3 : IntKind.wrap .i64 (((j : Nat) : Int) + 1) = ((j + 1 : Nat) : Int) := (by rw [wrap_i64 _ (by omega) (by omega)]; omega)
      refine VL_eq [(3, .pointer (some ⟨b1, 0, none⟩)), (5, .pointer (some ⟨b2, 0, none⟩)), (6, .pointer (some ⟨b3, 0, none⟩)), (7, .pointer (some ⟨b4, 0, none⟩)), (69, .int .i64 ((my : Nat) : Int)), (86, .int .i64 ((j + 1 : Nat) : Int))] (by rw [he3]) ?_
      refine VL_pure 2 [3, 5, 6, 7, 69, 70] [(3, .pointer (some ⟨b1, 0, none⟩)), (5, .pointer (some ⟨b2, 0, none⟩)), (6, .pointer (some ⟨b3, 0, none⟩)), (7, .pointer (some ⟨b4, 0, none⟩)), (69, .int .i64 ((my : Nat) : Int)), (70, .int .i64 ((j + 1 : Nat) : Int))] (by kernel_rfl) rfl ?_
      refine VL_end (by kernel_rfl) ?_
      refine VQ_again (j + 1) ⟨rfl, rfl, rfl, rfl, rfl, rfl, trivial⟩ ?_ ?_
      · exact ⟨(by omega), hS, hDs, ho1, ho2, ho3, ho5, (GaOf.cast hg3 (hSk.go _ _))⟩
      · (try dsimp only); omega
    · refine VC_exit ?_
      refine VQ_then_exit ?_
      refine VQ_then_exit ?_
      refine VQ_block_hit ?_
      refine VQ_next ?_
      refine VC_seq ?_
      refine VC_region ?_
      refine VL_load (d := 88) (t := 24) (a := ⟨b4, 0, none⟩) (v := .pointer (some ⟨gp1, 0, none⟩)) (by kernel_rfl) (by kernel_rfl) (Loads.own1 ho5 (by kernel_rfl) (by rfl)) ?_
      refine VL_load (d := 89) (t := 28) (a := ⟨b1, 0, none⟩) (v := .agg (iA .u8 ps)) (by kernel_rfl) (by kernel_rfl) (Loads.arr (N := 48) ho1 (by kernel_rfl) hps) ?_
      have hzs12 := hS.size
      have hzl34 := ho1.lt
      have hzl35 := ho2.lt
      have hzl36 := ho3.lt
      have hzl37 := ho5.lt
      have hzl38 := GaOf.lt hgb
      refine VL_call (d := 90) (f := 15) (by kernel_rfl) (by kernel_rfl) (by kernel_rfl) Try.call15 (take_any gp1 GX (fun _ => True) _ (fun _ _ => trivial) hgb _ hI (by omega) 0 (by omega) (by omega) ps (And.intro hps hbp).1 (And.intro hps hbp).2 true) ?_
      rintro _ w14 ⟨A3, c3, rfl, hr3, hg4, hc7⟩
      replace hS := Step.transNew hS hc7 (fun _ _ _ => by omega)
      replace hDs := hDs.step hc7 (fun k hk (hF : k = gp1) => by omega)
      replace ho1 := ho1.step hc7 (show ¬ b1 = gp1 by omega)
      replace ho2 := ho2.step hc7 (show ¬ b2 = gp1 by omega)
      replace ho3 := ho3.step hc7 (show ¬ b3 = gp1 by omega)
      replace ho5 := ho5.step hc7 (show ¬ b4 = gp1 by omega)
      have hxhr3 := SlX.of_rw (X := fun _ => True) hr3 (fun _ _ => trivial)
      have hlthg4 := GaOf.lt hg4
      have hgihg4 := GaI.take (t := 0) (p := ps) hI true (by omega) (by omega) (And.intro hps hbp).1 (And.intro hps hbp).2
      have htlhg4 := takeT_le hI 0 ps true (And.intro hps hbp).1
      refine VL_pure 10 [3, 5, 6, 7, 18] [(3, .pointer (some ⟨b1, 0, none⟩)), (5, .pointer (some ⟨b2, 0, none⟩)), (6, .pointer (some ⟨b3, 0, none⟩)), (7, .pointer (some ⟨b4, 0, none⟩)), (18, .int .i64 (takeE GX 0 ps true))] (by kernel_rfl) rfl ?_
      refine VL_end (by kernel_rfl) ?_
      refine VQ_next ?_
      refine VC_seq ?_
      obtain ⟨r1, r2⟩ := hSk.rdy 0 0 ps
      have hE2 := (hSk.take 0 ps true).2.2.2
      have hgi2 := hgihg4
      obtain ⟨G2, hG2⟩ : ∃ G2, G2 = (takeF GX 0 ps true) := ⟨_, rfl⟩
      rw [← hG2] at r1 r2 hgi2 hg4
      refine VC_region ?_
      refine VL_load (d := 95) (t := 32) (a := ⟨b2, 0, none⟩) (v := .slice D nD cD) (by kernel_rfl) (by kernel_rfl) (Loads.own1 ho2 (by kernel_rfl) (by rfl)) ?_
      have hzs13 := hS.size
      have hzl39 := ho1.lt
      have hzl40 := ho2.lt
      have hzl41 := ho3.lt
      have hzl42 := ho5.lt
      have hzl43 := GaOf.lt hg4
      refine VL_call (d := 96) (f := 20) (by kernel_rfl) (by kernel_rfl) (by kernel_rfl) Try.call20 (pack_yes D nD cD _ bt _ hnD hDs 2 (by first | exact Nat.le_refl _ | omega) (by omega) (by omega)) ?_
      rintro _ w15 ⟨g1, c4, rfl, hggg1, hr4, hc8⟩
      replace hS := Step.trans hS hc8
      replace hDs := hDs.no hc8
      replace ho1 := ho1.no hc8
      replace ho2 := ho2.no hc8
      replace ho3 := ho3.no hc8
      replace ho5 := ho5.no hc8
      replace hg4 := GaOf.no hg4 hc8
      replace hxhr3 := hxhr3.no hc8
      have hxhr4 := SlX.of_rw (X := fun _ => True) hr4 (fun _ _ => trivial)
      have hcapg1 := Rw.cap hr4
      have hflq1 := Rw.lenI hr4
      have hmmq1 := (many_le nD).2 (by omega)
      refine VL_pure 7 [3, 5, 6, 7, 18, 19] [(3, .pointer (some ⟨b1, 0, none⟩)), (5, .pointer (some ⟨b2, 0, none⟩)), (6, .pointer (some ⟨b3, 0, none⟩)), (7, .pointer (some ⟨b4, 0, none⟩)), (18, .int .i64 (takeE GX 0 ps true)), (19, .slice (some ⟨g1, 0, none⟩) (48 * manyN nD) c4)] (by kernel_rfl) rfl ?_
      refine VL_end (by kernel_rfl) ?_
      refine VQ_next ?_
      refine VC_seq ?_
      refine VC_seq ?_
      have hLF2 : (frameF bt 2).length = 48 * manyN nD := by assumption
      refine VC_region ?_
      refine VL_pure 1 [3, 5, 6, 7, 18, 99] [(3, .pointer (some ⟨b1, 0, none⟩)), (5, .pointer (some ⟨b2, 0, none⟩)), (6, .pointer (some ⟨b3, 0, none⟩)), (7, .pointer (some ⟨b4, 0, none⟩)), (18, .int .i64 (takeE GX 0 ps true)), (99, .slice (some ⟨g1, 0, none⟩) (48 * manyN nD) c4)] (by kernel_rfl) rfl ?_
      have hzs14 := hS.size
      have hzl44 := ho1.lt
      have hzl45 := ho2.lt
      have hzl46 := ho3.lt
      have hzl47 := ho5.lt
      have hzl48 := GaOf.lt hg4
      refine VL_call (d := 100) (f := 21) (args := #[.slice (some ⟨g1, 0, none⟩) (48 * manyN nD) c4]) (by kernel_rfl) (by kernel_rfl) (by kernel_rfl) Try.call21 (cells_any (some ⟨g1, 0, none⟩) (48 * manyN nD) c4 _) ?_
      rintro _ w16 ⟨bb1, rfl, hfbb1, hbb1, hc9⟩
      replace hS := Step.trans hS hc9
      replace hDs := hDs.no hc9
      replace ho1 := ho1.no hc9
      replace ho2 := ho2.no hc9
      replace ho3 := ho3.no hc9
      replace ho5 := ho5.no hc9
      replace hg4 := GaOf.no hg4 hc9
      replace hxhr3 := hxhr3.no hc9
      replace hxhr4 := hxhr4.no hc9
      have hzbb1 := hbb1.lt
      refine VL_end (by kernel_rfl) ?_
      refine VQ_next ?_
      refine VC_block ?_
      have hzs15 := hS.size
      have hzl49 := ho1.lt
      have hzl50 := ho2.lt
      have hzl51 := ho3.lt
      have hzl52 := ho5.lt
      have hzl53 := GaOf.lt hg4
      have hzl54 := hbb1.lt
      have hvx1 := SlX.mono (Y := (fun k9 => k9 < w16.heap.size)) hxhr3 (fun b _ hb => hb)
      have hvx2 := SlX.mono (Y := (fun k9 => k9 < w16.heap.size)) hxhr4 (fun b _ hb => hb)
      have hgx1 := GaOf.mono (Y := (fun k9 => k9 ≠ (w16.heap.size + 1))) hg4 (fun b _ hb => by (try simp only); omega)
      have hzs16 := hS.size
      have hzl55 := ho1.lt
      have hzl56 := ho2.lt
      have hzl57 := ho3.lt
      have hzl58 := ho5.lt
      have hzl59 := GaOf.lt hg4
      have hzl60 := hbb1.lt
      refine VC_range (gf := 28) (lb := #[.pointer (some ⟨bb1, 0, none⟩)]) (xs := (cellsV (frameF bt 2))) (by kernel_rfl) Try.call28 (cells_iter bb1 (48 * manyN nD) c4 (w16.heap.size) (some ⟨g1, 0, none⟩) (frameF bt 2) hLF2 (by omega) (by omega)) (fun a ha => by obtain ⟨x, _, rfl⟩ := List.mem_map.1 ha; rfl) (by kernel_rfl) (fun M i => i = gp1 ∨ M ≤ i) (fun M i hi => by (try simp only at hi); omega) (fun M k W => w16.heap.size + 2 ≤ M ∧ Step No w W ∧ Sl W (w.heap.size) D (iL .u8 bt) ∧ Own W b1 (iA .u8 ps) 28 ∧ Own W b2 #[.slice D nD cD] 32 ∧ Own W b3 #[.bool false] 4 ∧ Own W b4 #[.pointer (some ⟨gp1, 0, none⟩)] 24 ∧ GaOf W 58 gp1 (fun k9 => k9 ≠ (w16.heap.size + 1)) (feedG G2 0 (frameF bt 2) (flF (48 * manyN nD)) k) ∧ SlX W 5 (fun k9 => k9 < w16.heap.size) A3 (iL .u8 (takeT GX 0 ps true)) ∧ SlX W 5 (fun k9 => k9 < w16.heap.size) (some ⟨g1, 0, none⟩) (iL .u8 (frameF bt 2)) ∧ Own W bb1 #[.slice (some ⟨g1, 0, none⟩) (48 * manyN nD) c4] 32) (fun e W => False) (by rintro M k W W' ⟨hMm, hS, hDs, ho1, ho2, ho3, ho5, hgx1, hvx1, hvx2, hbb1⟩ hs; exact ⟨hMm, Step.transNew hS hs (fun i hi hG => by have : i = (w16.heap.size + 1) := hG; omega), hDs.step hs (fun k hk (hF : k = (w16.heap.size + 1)) => by omega), ho1.step hs (show ¬ b1 = (w16.heap.size + 1) by omega), ho2.step hs (show ¬ b2 = (w16.heap.size + 1) by omega), ho3.step hs (show ¬ b3 = (w16.heap.size + 1) by omega), ho5.step hs (show ¬ b4 = (w16.heap.size + 1) by omega), GaOf.mark hgx1 (fun b hb => hb) (by omega) hs, SlX.mark hvx1 (fun b hb => by (try simp only at hb); omega) hs, SlX.mark hvx2 (fun b hb => by (try simp only at hb); omega) hs, hbb1.step hs (show ¬ bb1 = (w16.heap.size + 1) by omega)⟩) (by rintro e W W' h; exact h.elim) (by rintro M k W W' ⟨hMm, hS, hDs, ho1, ho2, ho3, ho5, hgx1, hvx1, hvx2, hbb1⟩ hs; exact ⟨hMm, Step.trans hS hs, hDs.no hs, ho1.no hs, ho2.no hs, ho3.no hs, ho5.no hs, GaOf.no hgx1 hs, hvx1.no hs, hvx2.no hs, hbb1.no hs⟩) (by rintro e W W' h; exact h.elim) (by rintro M k W ⟨hMm, hS, hDs, ho1, ho2, ho3, ho5, hgx1, hvx1, hvx2, hbb1⟩; exact ⟨hbb1, SlX.below hvx2⟩) (fun W hs => ⟨hbb1.no hs, SlX.below (hvx2.no hs)⟩) (fun M W hMm hM2 hs _ => ⟨hMm, Step.trans hS hs, hDs.no hs, ho1.no hs, ho2.no hs, ho3.no hs, ho5.no hs, GaOf.no hgx1 hs, hvx1.no hs, hvx2.no hs, hbb1.no hs⟩) ?_ ?_ ?_
      · intro M k w17 args hM hM2 hx hJ0 hsz
        obtain ⟨hMm, hS, hDs, ho1, ho2, ho3, ho5, hgx1, hvx1, hvx2, hbb1⟩ := hJ0
        obtain ⟨hk9, rfl⟩ := cellsV_inv hLF2 hx
        have hML : M ≤ w17.heap.size := hM2
        have hAs : Step No w17 w17 := Step.refl _ _
        have hgiK := feed_I (F := (frameF bt 2)) (n := (48 * manyN nD)) (t := 0) hgi2 hLF2 (frame_bytes hbD (by decide)) (by decide) (by decide) (flF (48 * manyN nD)) k (by omega)
        refine VC_keep [5, 6, 7, 101, 102] [(5, .pointer (some ⟨b2, 0, none⟩)), (6, .pointer (some ⟨b3, 0, none⟩)), (7, .pointer (some ⟨b4, 0, none⟩)), (101, .agg (iA .u8 (((frameF bt 2).drop (48 * k)).take 48))), (102, .bool (((48 * manyN nD - 48 * k : Nat) : Int) == 48))] (by kernel_rfl) ?_
        refine VC_seq ?_
        refine VC_region ?_
        have hzs17 := hS.size
        have hzl61 := ho1.lt
        have hzl62 := ho2.lt
        have hzl63 := ho3.lt
        have hzl64 := ho5.lt
        have hzl65 := GaOf.lt hgx1
        have hzl66 := hbb1.lt
        have hzk1 := hML
        have hzs18 := hAs.size
        have hzs19 := hS.size
        have hzl67 := ho1.lt
        have hzl68 := ho2.lt
        have hzl69 := ho3.lt
        have hzl70 := ho5.lt
        have hzl71 := GaOf.lt hgx1
        have hzl72 := hbb1.lt
        have hzk2 := hML
        have hzs20 := hAs.size
        refine VL_box (d := 21) (t := 28) (c := iA .u8 (List.replicate 48 0)) (by kernel_rfl) (by kernel_rfl) ?_
        intro b5 w18 hn5
        replace hS := Step.trans hS (hn5.step No)
        replace hDs := hDs.no (hn5.step No)
        replace ho1 := ho1.no (hn5.step No)
        replace ho2 := ho2.no (hn5.step No)
        replace ho3 := ho3.no (hn5.step No)
        replace ho5 := ho5.no (hn5.step No)
        replace hgx1 := GaOf.no hgx1 (hn5.step No)
        replace hvx1 := hvx1.no (hn5.step No)
        replace hvx2 := hvx2.no (hn5.step No)
        replace hbb1 := hbb1.no (hn5.step No)
        replace hML := Nat.le_trans hML (hn5.step No).size
        replace hAs := Step.trans hAs (hn5.step No)
        have ho6 := hn5.own
        have hzhn5 := hn5.size
        have hqhn5 := hn5.eqb
        refine VL_storeA (b := b5) (sz := 48) (k := .u8) (bs := ((frameF bt 2).drop (48 * k)).take 48) (by kernel_rfl) (by kernel_rfl) (by (try simp only [List.length_set, List.length_append, List.length_map, List.length_replicate, List.length_cons, List.length_nil, List.length_take, List.length_drop, List.length_range]) <;> omega) ho6 (iA_size.trans (by (try simp only [List.length_set, List.length_append, List.length_map, List.length_replicate, List.length_cons, List.length_nil, List.length_take, List.length_drop, List.length_range]) <;> omega)) ?_
        intro w19 hw2
        replace hS := Step.transNew hS hw2.step (fun _ _ _ => by omega)
        replace hDs := hDs.step hw2.step (fun k hk (hF : k = b5) => by omega)
        replace ho1 := ho1.step hw2.step (show ¬ b1 = b5 by omega)
        replace ho2 := ho2.step hw2.step (show ¬ b2 = b5 by omega)
        replace ho3 := ho3.step hw2.step (show ¬ b3 = b5 by omega)
        replace ho5 := ho5.step hw2.step (show ¬ b4 = b5 by omega)
        replace hgx1 := GaOf.keep hgx1 ho6 (by decide) (by omega) hw2.step
        replace hvx1 := hvx1.own ho6 (by decide) hw2.step
        replace hvx2 := hvx2.own ho6 (by decide) hw2.step
        replace hbb1 := hbb1.step hw2.step (show ¬ bb1 = b5 by omega)
        replace hML := Nat.le_trans hML (hw2.step).size
        replace hAs := Step.transNew hAs hw2.step (fun _ _ _ => by omega)
        have ho7 := hw2.own
        have hzhw2 := hw2.same
        refine VL_end (by kernel_rfl) ?_
        refine VQ_next ?_
        refine VC_region ?_
        refine VL_pure 1 [5, 6, 7, 101, 102, 21, 22] [(5, .pointer (some ⟨b2, 0, none⟩)), (6, .pointer (some ⟨b3, 0, none⟩)), (7, .pointer (some ⟨b4, 0, none⟩)), (101, .agg (iA .u8 (((frameF bt 2).drop (48 * k)).take 48))), (102, .bool (((48 * manyN nD - 48 * k : Nat) : Int) == 48)), (21, .pointer (some ⟨b5, 0, none⟩)), (22, .bool (((48 * manyN nD - 48 * k : Nat) : Int) == 48))] (by kernel_rfl) rfl ?_
        refine VL_end (by kernel_rfl) ?_
        refine VQ_begin hAs ?_
        intro w20 hb1 hzhb1
        have hzs21 := hS.size
        have hzl73 := ho1.lt
        have hzl74 := ho2.lt
        have hzl75 := ho3.lt
        have hzl76 := ho5.lt
        have hzl77 := GaOf.lt hgx1
        have hzl78 := hbb1.lt
        have hzk3 := hML
        have hzl79 := ho7.lt
        replace hS := Step.transNew hS hb1 (fun _ _ _ => by omega)
        replace hDs := hDs.step hb1 (fun k hk (hF : k = (w16.heap.size + 1)) => by omega)
        replace ho1 := ho1.step hb1 (show ¬ b1 = (w16.heap.size + 1) by omega)
        replace ho2 := ho2.step hb1 (show ¬ b2 = (w16.heap.size + 1) by omega)
        replace ho3 := ho3.step hb1 (show ¬ b3 = (w16.heap.size + 1) by omega)
        replace ho5 := ho5.step hb1 (show ¬ b4 = (w16.heap.size + 1) by omega)
        replace hgx1 := GaOf.mark hgx1 (fun b hb => hb) (by omega) hb1
        replace hvx1 := SlX.mark hvx1 (fun b hb => by (try simp only at hb); omega) hb1
        replace hvx2 := SlX.mark hvx2 (fun b hb => by (try simp only at hb); omega) hb1
        replace hbb1 := hbb1.step hb1 (show ¬ bb1 = (w16.heap.size + 1) by omega)
        replace hML := Nat.le_trans hML (hb1).size
        replace ho7 := ho7.step hb1 (show ¬ b5 = (w16.heap.size + 1) by omega)
        have hR1 : Step ((fun M i => i = gp1 ∨ M ≤ i) M) w20 w20 := Step.refl _ _
        refine VC_block ?_
        refine VC_seq ?_
        refine VC_region ?_
        refine VL_load (d := 104) (t := 24) (a := ⟨b4, 0, none⟩) (v := .pointer (some ⟨gp1, 0, none⟩)) (by kernel_rfl) (by kernel_rfl) (Loads.own1 ho5 (by kernel_rfl) (by rfl)) ?_
        refine VL_load (d := 105) (t := 28) (a := ⟨b5, 0, none⟩) (v := .agg (iA .u8 (((frameF bt 2).drop (48 * k)).take 48))) (by kernel_rfl) (by kernel_rfl) (Loads.arr (N := 48) ho7 (by kernel_rfl) (by (try simp only [List.length_set, List.length_append, List.length_map, List.length_replicate, List.length_cons, List.length_nil, List.length_take, List.length_drop, List.length_range]) <;> omega)) ?_
        refine VL_pure 3 [5, 6, 22, 104, 105, 106] [(5, .pointer (some ⟨b2, 0, none⟩)), (6, .pointer (some ⟨b3, 0, none⟩)), (22, .bool (((48 * manyN nD - 48 * k : Nat) : Int) == 48)), (104, .pointer (some ⟨gp1, 0, none⟩)), (105, .agg (iA .u8 (((frameF bt 2).drop (48 * k)).take 48))), (106, .bool (((48 * manyN nD - 48 * k : Nat) : Int) == 48))] (by kernel_rfl) rfl ?_
        have hzs22 := hS.size
        have hzl80 := ho1.lt
        have hzl81 := ho2.lt
        have hzl82 := ho3.lt
        have hzl83 := ho5.lt
        have hzl84 := GaOf.lt hgx1
        have hzl85 := hbb1.lt
        have hzl86 := ho7.lt
        have hzs23 := hR1.size
        refine VL_call (d := 107) (f := 15) (by kernel_rfl) (by kernel_rfl) (by kernel_rfl) Try.call15 (take_any gp1 (feedG G2 0 (frameF bt 2) (flF (48 * manyN nD)) k) (fun k9 => k9 ≠ (w16.heap.size + 1)) _ (fun k9 h9 => by (try simp only); omega) hgx1 _ hgiK (by omega) 0 (by omega) (by omega) (((frameF bt 2).drop (48 * k)).take 48) (part_I (F := (frameF bt 2)) (n := (48 * manyN nD)) (k := k) hLF2 (frame_bytes hbD (by decide)) hk9).1 (part_I (F := (frameF bt 2)) (n := (48 * manyN nD)) (k := k) hLF2 (frame_bytes hbD (by decide)) hk9).2 (((48 * manyN nD - 48 * k : Nat) : Int) == 48)) ?_
        rintro _ w21 ⟨A4, c5, rfl, hr5, hg5, hc10⟩
        replace hS := Step.transNew hS hc10 (fun _ _ _ => by omega)
        replace hDs := hDs.step hc10 (fun k hk (hF : k = gp1) => by omega)
        replace ho1 := ho1.step hc10 (show ¬ b1 = gp1 by omega)
        replace ho2 := ho2.step hc10 (show ¬ b2 = gp1 by omega)
        replace ho3 := ho3.step hc10 (show ¬ b3 = gp1 by omega)
        replace ho5 := ho5.step hc10 (show ¬ b4 = gp1 by omega)
        replace hvx1 := SlX_ga hvx1 hgx1 (by decide) hc10
        replace hvx2 := SlX_ga hvx2 hgx1 (by decide) hc10
        replace hbb1 := hbb1.step hc10 (show ¬ bb1 = gp1 by omega)
        replace hML := Nat.le_trans hML (hc10).size
        replace ho7 := ho7.step hc10 (show ¬ b5 = gp1 by omega)
        replace hR1 := Step.trans hR1 (Step.mono hc10 (by intro i hi; first | exact hi | (have hi9 : i = gp1 := hi; (first | show _ ∨ _ | show _ = _); omega)))
        have hxhr5 := SlX.of_rw (X := fun _ => True) hr5 (fun _ _ => trivial)
        have hlthg5 := GaOf.lt hg5
        have hgihg5 := GaI.take (t := 0) (p := (((frameF bt 2).drop (48 * k)).take 48)) hgiK (((48 * manyN nD - 48 * k : Nat) : Int) == 48) (by omega) (by omega) (part_I (F := (frameF bt 2)) (n := (48 * manyN nD)) (k := k) hLF2 (frame_bytes hbD (by decide)) hk9).1 (part_I (F := (frameF bt 2)) (n := (48 * manyN nD)) (k := k) hLF2 (frame_bytes hbD (by decide)) hk9).2
        have htlhg5 := takeT_le hgiK 0 (((frameF bt 2).drop (48 * k)).take 48) (((48 * manyN nD - 48 * k : Nat) : Int) == 48) (part_I (F := (frameF bt 2)) (n := (48 * manyN nD)) (k := k) hLF2 (frame_bytes hbD (by decide)) hk9).1
        refine VL_pure 11 [5, 6, 22, 23, 25] [(5, .pointer (some ⟨b2, 0, none⟩)), (6, .pointer (some ⟨b3, 0, none⟩)), (22, .bool (((48 * manyN nD - 48 * k : Nat) : Int) == 48)), (23, .slice A4 ((takeT (feedG G2 0 (frameF bt 2) (flF (48 * manyN nD)) k) 0 (((frameF bt 2).drop (48 * k)).take 48) (((48 * manyN nD - 48 * k : Nat) : Int) == 48)).length) c5), (25, .int .i64 (takeE (feedG G2 0 (frameF bt 2) (flF (48 * manyN nD)) k) 0 (((frameF bt 2).drop (48 * k)).take 48) (((48 * manyN nD - 48 * k : Nat) : Int) == 48)))] (by kernel_rfl) rfl ?_
        refine VL_end (by kernel_rfl) ?_
        refine VQ_next ?_
        refine VC_seq ?_
        refine VC_region ?_
        refine VL_pure 2 [5, 6, 23, 25, 112] [(5, .pointer (some ⟨b2, 0, none⟩)), (6, .pointer (some ⟨b3, 0, none⟩)), (23, .slice A4 ((takeT (feedG G2 0 (frameF bt 2) (flF (48 * manyN nD)) k) 0 (((frameF bt 2).drop (48 * k)).take 48) (((48 * manyN nD - 48 * k : Nat) : Int) == 48)).length) c5), (25, .int .i64 (takeE (feedG G2 0 (frameF bt 2) (flF (48 * manyN nD)) k) 0 (((frameF bt 2).drop (48 * k)).take 48) (((48 * manyN nD - 48 * k : Nat) : Int) == 48))), (112, .bool (((48 * manyN nD - 48 * k : Nat) : Int) == 48))] (by kernel_rfl) rfl ?_
        refine VL_bool (((48 * manyN nD - 48 * k : Nat) : Int) == 48) (fun bV => [(5, .pointer (some ⟨b2, 0, none⟩)), (6, .pointer (some ⟨b3, 0, none⟩)), (23, .slice A4 ((takeT (feedG G2 0 (frameF bt 2) (flF (48 * manyN nD)) k) 0 (((frameF bt 2).drop (48 * k)).take 48) (((48 * manyN nD - 48 * k : Nat) : Int) == 48)).length) c5), (25, .int .i64 (takeE (feedG G2 0 (frameF bt 2) (flF (48 * manyN nD)) k) 0 (((frameF bt 2).drop (48 * k)).take 48) (((48 * manyN nD - 48 * k : Nat) : Int) == 48))), (112, .bool bV)]) rfl (fun hg6 => ?_) (fun hg6 => ?_)
        · refine VL_pure 5 [5, 6, 23, 112, 115] [(5, .pointer (some ⟨b2, 0, none⟩)), (6, .pointer (some ⟨b3, 0, none⟩)), (23, .slice A4 ((takeT (feedG G2 0 (frameF bt 2) (flF (48 * manyN nD)) k) 0 (((frameF bt 2).drop (48 * k)).take 48) (((48 * manyN nD - 48 * k : Nat) : Int) == 48)).length) c5), (112, .bool true), (115, .bool ((takeE (feedG G2 0 (frameF bt 2) (flF (48 * manyN nD)) k) 0 (((frameF bt 2).drop (48 * k)).take 48) (((48 * manyN nD - 48 * k : Nat) : Int) == 48)) != 0))] (by kernel_rfl) rfl ?_
          refine VL_known ((takeE (feedG G2 0 (frameF bt 2) (flF (48 * manyN nD)) k) 0 (((frameF bt 2).drop (48 * k)).take 48) (((48 * manyN nD - 48 * k : Nat) : Int) == 48)) != 0) (fun bV => [(5, .pointer (some ⟨b2, 0, none⟩)), (6, .pointer (some ⟨b3, 0, none⟩)), (23, .slice A4 ((takeT (feedG G2 0 (frameF bt 2) (flF (48 * manyN nD)) k) 0 (((frameF bt 2).drop (48 * k)).take 48) (((48 * manyN nD - 48 * k : Nat) : Int) == 48)).length) c5), (112, .bool true), (115, .bool bV)]) false rfl (by rw [(feed_end r1 hLF2 (by omega) hk9 (by assumption)).2.2.2, hU2.1]; rfl) ?_
          refine VL_pure 6 [5, 6, 112, 115, 116] [(5, .pointer (some ⟨b2, 0, none⟩)), (6, .pointer (some ⟨b3, 0, none⟩)), (112, .bool true), (115, .bool false), (116, .slice A4 ((takeT (feedG G2 0 (frameF bt 2) (flF (48 * manyN nD)) k) 0 (((frameF bt 2).drop (48 * k)).take 48) (((48 * manyN nD - 48 * k : Nat) : Int) == 48)).length) c5)] (by kernel_rfl) rfl ?_
          refine VL_load (d := 117) (t := 32) (a := ⟨b2, 0, none⟩) (v := .slice D nD cD) (by kernel_rfl) (by kernel_rfl) (Loads.own1 ho2 (by kernel_rfl) (by rfl)) ?_
          have hzs24 := hS.size
          have hzl87 := ho1.lt
          have hzl88 := ho2.lt
          have hzl89 := ho3.lt
          have hzl90 := ho5.lt
          have hzl91 := hbb1.lt
          have hzl92 := ho7.lt
          have hzs25 := hR1.size
          have hzl93 := GaOf.lt hg5
          refine VL_call (d := 118) (f := 17) (args := #[.slice A4 ((takeT (feedG G2 0 (frameF bt 2) (flF (48 * manyN nD)) k) 0 (((frameF bt 2).drop (48 * k)).take 48) (((48 * manyN nD - 48 * k : Nat) : Int) == 48)).length) c5, .slice D nD cD]) (by kernel_rfl) (by kernel_rfl) (by kernel_rfl) Try.call17 (same_any A4 ((takeT (feedG G2 0 (frameF bt 2) (flF (48 * manyN nD)) k) 0 (((frameF bt 2).drop (48 * k)).take 48) (((48 * manyN nD - 48 * k : Nat) : Int) == 48)).length) c5 _ (takeT (feedG G2 0 (frameF bt 2) (flF (48 * manyN nD)) k) 0 (((frameF bt 2).drop (48 * k)).take 48) (((48 * manyN nD - 48 * k : Nat) : Int) == 48)) D nD cD _ bt _ rfl (SlX.sl hxhr5) hnD hDs (by omega) (by omega) (by first | exact Nat.le_refl _ | omega) (by first | exact Nat.le_refl _ | omega)) ?_
          rintro _ w22 ⟨rfl, hc11⟩
          replace hS := Step.trans hS hc11
          replace hDs := hDs.no hc11
          replace ho1 := ho1.no hc11
          replace ho2 := ho2.no hc11
          replace ho3 := ho3.no hc11
          replace ho5 := ho5.no hc11
          replace hvx1 := hvx1.no hc11
          replace hvx2 := hvx2.no hc11
          replace hbb1 := hbb1.no hc11
          replace hML := Nat.le_trans hML (hc11).size
          replace ho7 := ho7.no hc11
          replace hR1 := Step.trans hR1 (Step.weak hc11)
          replace hg5 := GaOf.no hg5 hc11
          replace hxhr5 := hxhr5.no hc11
          refine VL_pure 11 [6, 121] [(6, .pointer (some ⟨b3, 0, none⟩)), (121, .bool (!((takeT (feedG G2 0 (frameF bt 2) (flF (48 * manyN nD)) k) 0 (((frameF bt 2).drop (48 * k)).take 48) (((48 * manyN nD - 48 * k : Nat) : Int) == 48)) == bt)))] (by kernel_rfl) rfl ?_
          refine VL_end (by kernel_rfl) ?_
          refine VQ_next ?_
          refine VC_is (b := !((takeT (feedG G2 0 (frameF bt 2) (flF (48 * manyN nD)) k) 0 (((frameF bt 2).drop (48 * k)).take 48) (((48 * manyN nD - 48 * k : Nat) : Int) == 48)) == bt)) false (by kernel_rfl) (by rw [show ((takeT (feedG G2 0 (frameF bt 2) (flF (48 * manyN nD)) k) 0 (((frameF bt 2).drop (48 * k)).take 48) (((48 * manyN nD - 48 * k : Nat) : Int) == 48)) == bt) = true from (by rw [(feed_end r1 hLF2 (by omega) hk9 (by assumption)).2.1, hU2.2.1]; simp)]; rfl) ?_
          refine VC_ite_false ?_
          refine VC_skip ?_
          refine VQ_block_normal ?_
          exact VQ_round_end hR1 ⟨hMm, hS, hDs, ho1, ho2, ho3, ho5, hg5, hvx1, hvx2, hbb1⟩
        · refine VL_pure 11 [6, 121] [(6, .pointer (some ⟨b3, 0, none⟩)), (121, .bool false)] (by kernel_rfl) rfl ?_
          refine VL_end (by kernel_rfl) ?_
          refine VQ_next ?_
          refine VC_false (by kernel_rfl) ?_
          refine VC_skip ?_
          refine VQ_block_normal ?_
          exact VQ_round_end hR1 ⟨hMm, hS, hDs, ho1, ho2, ho3, ho5, hg5, hvx1, hvx2, hbb1⟩
      · intro M w23 hM hzM hJ0 hD
        rw [cellsV_len, hLF2] at hJ0
        obtain ⟨K1, hK1⟩ : ∃ K, K = (48 * manyN nD) / 48 := ⟨_, rfl⟩
        rw [← hK1] at hJ0
        obtain ⟨-, hS, hDs, ho1, ho2, ho3, ho5, hgx1, hvx1, hvx2, hbb1⟩ := hJ0
        have hgiK1 := feed_I (F := (frameF bt 2)) (n := (48 * manyN nD)) (t := 0) hgi2 hLF2 (frame_bytes hbD (by decide)) (by decide) (by decide) (flF (48 * manyN nD)) K1 (by omega)
        replace hgx1 := GaOf.mono (Y := (fun _ => True)) hgx1 (fun b _ hb => trivial)
        have hF2 := feed_done (K := K1) r1 hLF2 (by omega) (by omega) (by omega)
        have hls := hF2.good hU2.1
        rw [r2] at hls
        have hmk1 := hD
        refine VQ_block_normal ?_
        refine VQ_next ?_
        refine VC_seq ?_
        refine VC_region ?_
        refine VL_pure 1 [3, 6, 7, 18, 26] [(3, .pointer (some ⟨b1, 0, none⟩)), (6, .pointer (some ⟨b3, 0, none⟩)), (7, .pointer (some ⟨b4, 0, none⟩)), (18, .int .i64 (takeE GX 0 ps true)), (26, .pointer none)] (by kernel_rfl) rfl ?_
        refine VL_end (by kernel_rfl) ?_
        refine VQ_next ?_
        refine VC_seq ?_
        refine VC_region ?_
        refine VL_pure 1 [3, 6, 7, 18, 26, 123] [(3, .pointer (some ⟨b1, 0, none⟩)), (6, .pointer (some ⟨b3, 0, none⟩)), (7, .pointer (some ⟨b4, 0, none⟩)), (18, .int .i64 (takeE GX 0 ps true)), (26, .pointer none), (123, .pointer none)] (by kernel_rfl) rfl ?_
        refine VL_load (d := 124) (t := 28) (a := ⟨b1, 0, none⟩) (v := .agg (iA .u8 ps)) (by kernel_rfl) (by kernel_rfl) (Loads.arr (N := 48) ho1 (by kernel_rfl) hps) ?_
        have hzs26 := hS.size
        have hzl94 := ho1.lt
        have hzl95 := ho2.lt
        have hzl96 := ho3.lt
        have hzl97 := ho5.lt
        have hzl98 := GaOf.lt hgx1
        have hzl99 := hbb1.lt
        have hzl100 := hmk1.lt
        refine VL_call (d := 125) (f := 15) (by kernel_rfl) (by kernel_rfl) (by kernel_rfl) Try.call15 (take_nil 0 ps true _) ?_
        rintro _ w24 ⟨rfl, hc12⟩
        replace hS := Step.trans hS hc12
        replace hDs := hDs.no hc12
        replace ho1 := ho1.no hc12
        replace ho2 := ho2.no hc12
        replace ho3 := ho3.no hc12
        replace ho5 := ho5.no hc12
        replace hgx1 := GaOf.no hgx1 hc12
        replace hvx1 := hvx1.no hc12
        replace hvx2 := hvx2.no hc12
        replace hbb1 := hbb1.no hc12
        replace hmk1 := hmk1.no hc12
        refine VL_pure 10 [6, 7, 18, 26, 29] [(6, .pointer (some ⟨b3, 0, none⟩)), (7, .pointer (some ⟨b4, 0, none⟩)), (18, .int .i64 (takeE GX 0 ps true)), (26, .pointer none), (29, .int .i64 2)] (by kernel_rfl) rfl ?_
        refine VL_end (by kernel_rfl) ?_
        refine VQ_next ?_
        refine VC_seq ?_
        refine VC_region ?_
        refine VL_pure 3 [6, 7, 26, 29, 131] [(6, .pointer (some ⟨b3, 0, none⟩)), (7, .pointer (some ⟨b4, 0, none⟩)), (26, .pointer none), (29, .int .i64 2), (131, .bool ((takeE GX 0 ps true) == 2))] (by kernel_rfl) rfl ?_
        refine VL_known ((takeE GX 0 ps true) == 2) (fun bV => [(6, .pointer (some ⟨b3, 0, none⟩)), (7, .pointer (some ⟨b4, 0, none⟩)), (26, .pointer none), (29, .int .i64 2), (131, .bool bV)]) true rfl (by rw [hE2]; rfl) ?_
        refine VL_load (d := 132) (t := 24) (a := ⟨b4, 0, none⟩) (v := .pointer (some ⟨gp1, 0, none⟩)) (by kernel_rfl) (by kernel_rfl) (Loads.own1 ho5 (by kernel_rfl) (by rfl)) ?_
        have hzs27 := hS.size
        have hzl101 := ho1.lt
        have hzl102 := ho2.lt
        have hzl103 := ho3.lt
        have hzl104 := ho5.lt
        have hzl105 := GaOf.lt hgx1
        have hzl106 := hbb1.lt
        have hzl107 := hmk1.lt
        refine VL_call (d := 133) (f := 19) (by kernel_rfl) (by kernel_rfl) (by kernel_rfl) Try.call19 (lost_any gp1 (feedG G2 0 (frameF bt 2) (flF (48 * manyN nD)) K1) (fun _ => True) _ hgx1) ?_
        rintro _ w25 ⟨rfl, hc13⟩
        replace hS := Step.trans hS hc13
        replace hDs := hDs.no hc13
        replace ho1 := ho1.no hc13
        replace ho2 := ho2.no hc13
        replace ho3 := ho3.no hc13
        replace ho5 := ho5.no hc13
        replace hgx1 := GaOf.no hgx1 hc13
        replace hvx1 := hvx1.no hc13
        replace hvx2 := hvx2.no hc13
        replace hbb1 := hbb1.no hc13
        replace hmk1 := hmk1.no hc13
        refine VL_pure 8 [6, 26, 29, 136] [(6, .pointer (some ⟨b3, 0, none⟩)), (26, .pointer none), (29, .int .i64 2), (136, .bool ((((feedG G2 0 (frameF bt 2) (flF (48 * manyN nD)) K1)).lost) == 1))] (by kernel_rfl) rfl ?_
        refine VL_known ((((feedG G2 0 (frameF bt 2) (flF (48 * manyN nD)) K1)).lost) == 1) (fun bV => [(6, .pointer (some ⟨b3, 0, none⟩)), (26, .pointer none), (29, .int .i64 2), (136, .bool bV)]) true rfl (by rw [hls]; rfl) ?_
        refine VL_pure 13 [6, 26, 140, 141] [(6, .pointer (some ⟨b3, 0, none⟩)), (26, .pointer none), (140, .bool true), (141, .pointer none)] (by kernel_rfl) rfl ?_
        have hzs28 := hS.size
        have hzl108 := ho1.lt
        have hzl109 := ho2.lt
        have hzl110 := ho3.lt
        have hzl111 := ho5.lt
        have hzl112 := GaOf.lt hgx1
        have hzl113 := hbb1.lt
        have hzl114 := hmk1.lt
        refine VL_call (d := 142) (f := 13) (by kernel_rfl) (by kernel_rfl) (by kernel_rfl) Try.call13 (tick_nil 0 _) ?_
        rintro _ w26 ⟨rfl, hc14⟩
        replace hS := Step.trans hS hc14
        replace hDs := hDs.no hc14
        replace ho1 := ho1.no hc14
        replace ho2 := ho2.no hc14
        replace ho3 := ho3.no hc14
        replace ho5 := ho5.no hc14
        replace hgx1 := GaOf.no hgx1 hc14
        replace hvx1 := hvx1.no hc14
        replace hvx2 := hvx2.no hc14
        replace hbb1 := hbb1.no hc14
        replace hmk1 := hmk1.no hc14
        refine VL_pure 18 [6, 26, 145, 146] [(6, .pointer (some ⟨b3, 0, none⟩)), (26, .pointer none), (145, .bool true), (146, .pointer none)] (by kernel_rfl) rfl ?_
        have hzs29 := hS.size
        have hzl115 := ho1.lt
        have hzl116 := ho2.lt
        have hzl117 := ho3.lt
        have hzl118 := ho5.lt
        have hzl119 := GaOf.lt hgx1
        have hzl120 := hbb1.lt
        have hzl121 := hmk1.lt
        refine VL_call (d := 147) (f := 18) (by kernel_rfl) (by kernel_rfl) (by kernel_rfl) Try.call18 (parts_nil _) ?_
        rintro _ w27 ⟨rfl, hc15⟩
        replace hS := Step.trans hS hc15
        replace hDs := hDs.no hc15
        replace ho1 := ho1.no hc15
        replace ho2 := ho2.no hc15
        replace ho3 := ho3.no hc15
        replace ho5 := ho5.no hc15
        replace hgx1 := GaOf.no hgx1 hc15
        replace hvx1 := hvx1.no hc15
        replace hvx2 := hvx2.no hc15
        replace hbb1 := hbb1.no hc15
        replace hmk1 := hmk1.no hc15
        refine VL_pure 20 [6, 145, 147, 148] [(6, .pointer (some ⟨b3, 0, none⟩)), (145, .bool true), (147, .int .i64 0), (148, .pointer none)] (by kernel_rfl) rfl ?_
        have hzs30 := hS.size
        have hzl122 := ho1.lt
        have hzl123 := ho2.lt
        have hzl124 := ho3.lt
        have hzl125 := ho5.lt
        have hzl126 := GaOf.lt hgx1
        have hzl127 := hbb1.lt
        have hzl128 := hmk1.lt
        refine VL_call (d := 149) (f := 19) (by kernel_rfl) (by kernel_rfl) (by kernel_rfl) Try.call19 (lost_nil _) ?_
        rintro _ w28 ⟨rfl, hc16⟩
        replace hS := Step.trans hS hc16
        replace hDs := hDs.no hc16
        replace ho1 := ho1.no hc16
        replace ho2 := ho2.no hc16
        replace ho3 := ho3.no hc16
        replace ho5 := ho5.no hc16
        replace hgx1 := GaOf.no hgx1 hc16
        replace hvx1 := hvx1.no hc16
        replace hvx2 := hvx2.no hc16
        replace hbb1 := hbb1.no hc16
        replace hmk1 := hmk1.no hc16
        refine VL_pure 24 [6, 152] [(6, .pointer (some ⟨b3, 0, none⟩)), (152, .bool true)] (by kernel_rfl) rfl ?_
        refine VL_store (b := b3) (o := 0) (vs := [.bool true]) (by kernel_rfl) (by kernel_rfl) ho3 (Nat.le_of_ble_eq_true (by kernel_rfl)) ?_
        intro w29 hw3
        replace hS := Step.transNew hS hw3.step (fun _ _ _ => by omega)
        replace hDs := hDs.step hw3.step (fun k hk (hF : k = b3) => by omega)
        replace ho1 := ho1.step hw3.step (show ¬ b1 = b3 by omega)
        replace ho2 := ho2.step hw3.step (show ¬ b2 = b3 by omega)
        replace ho5 := ho5.step hw3.step (show ¬ b4 = b3 by omega)
        replace hgx1 := GaOf.keep hgx1 ho3 (by decide) (by omega) hw3.step
        replace hvx1 := hvx1.own ho3 (by decide) hw3.step
        replace hvx2 := hvx2.own ho3 (by decide) hw3.step
        replace hbb1 := hbb1.step hw3.step (show ¬ bb1 = b3 by omega)
        replace hmk1 := hmk1.step hw3.step (show ¬ w16.heap.size = b3 by omega)
        have ho8 : Own w29 b3 #[.bool true] 4 := Own.cast hw3.own (by kernel_rfl)
        have hzhw3 := hw3.same
        refine VL_end (by kernel_rfl) ?_
        refine VQ_next ?_
        refine VC_ret ?_
        have hzs31 := hS.size
        have hzl129 := ho1.lt
        have hzl130 := ho2.lt
        have hzl131 := ho5.lt
        have hzl132 := GaOf.lt hgx1
        have hzl133 := hbb1.lt
        have hzl134 := hmk1.lt
        have hzl135 := ho8.lt
        have hzr := ho8.lt
        refine VQ_retMC1 (.bool true) [w16.heap.size] (.inr rfl) rfl rfl ⟨hmk1, (by simp), trivial⟩ (fun w9 hq9 => Loads.own1 (ho8.step hq9 (by simp; try omega)) (by kernel_rfl) rfl) ?_
        intro w30 hq1
        replace hq1 : Step (Just w16.heap.size) w29 w30 := Step.mono hq1 (fun i hi => by simpa using hi)
        replace hS := Step.transNew hS hq1 (fun _ _ _ => by omega)
        replace hDs := hDs.step hq1 (fun k hk (hF : k = w16.heap.size) => by omega)
        replace ho1 := ho1.step hq1 (show ¬ b1 = w16.heap.size by omega)
        replace ho2 := ho2.step hq1 (show ¬ b2 = w16.heap.size by omega)
        replace ho5 := ho5.step hq1 (show ¬ b4 = w16.heap.size by omega)
        replace hbb1 := hbb1.step hq1 (show ¬ bb1 = w16.heap.size by omega)
        replace ho8 := ho8.step hq1 (show ¬ b3 = w16.heap.size by omega)
        exact ⟨by first | rfl | (rw [hls]; rfl) | simp [*], hS⟩
      · intro e W _ hF _; exact hF.elim

set_option maxRecDepth 100000 in
set_option maxHeartbeats 4000000 in
theorem long_o3 (ps : List Int) (my : Nat) (D : Option Addr) (nD cD : Nat) (bt : List Int) (w : World) (hps : ps.length = 48) (hbp : Bytes ps) (hmy : my < 256) (hnD : bt.length = nD) (hDs : Sl w w.heap.size D (iL .u8 bt)) (hcD : nD ≤ cD) (hbD : Bytes bt) (hlonD : 1001 ≤ nD) :
    CV Try.prog 8 #[.agg (iA .u8 ps), .int .u8 ((my : Nat) : Int), .slice D nD cD] w (fun x w1 => x = .bool true ∧ Step No w w1) := by
  have hS : Step No w w := Step.refl _ _
  refine CV_enterM Try.f8 _ 153 [(0, .agg (iA .u8 ps)), (1, .int .u8 ((my : Nat) : Int)), (2, .slice D nD cD)] Try.func8 rfl rfl (by kernel_rfl) rfl ?_
  refine VC_seq ?_
  refine VC_region ?_
  have hzs1 := hS.size
  have hzs2 := hS.size
  refine VL_box (d := 3) (t := 28) (c := iA .u8 ps) (by kernel_rfl) (by kernel_rfl) ?_
  intro b1 w1 hn1
  replace hS := Step.trans hS (hn1.step No)
  replace hDs := hDs.no (hn1.step No)
  have ho1 := hn1.own
  have hzhn1 := hn1.size
  have hqhn1 := hn1.eqb
  have hzs3 := hS.size
  have hzl1 := ho1.lt
  refine VL_box (d := 5) (t := 32) (c := #[.slice D nD cD]) (by kernel_rfl) (by kernel_rfl) ?_
  intro b2 w2 hn2
  replace hS := Step.trans hS (hn2.step No)
  replace hDs := hDs.no (hn2.step No)
  replace ho1 := ho1.no (hn2.step No)
  have ho2 := hn2.own
  have hzhn2 := hn2.size
  have hqhn2 := hn2.eqb
  have hzs4 := hS.size
  have hzl2 := ho1.lt
  have hzl3 := ho2.lt
  refine VL_box (d := 6) (t := 4) (c := #[.bool false]) (by kernel_rfl) (by kernel_rfl) ?_
  intro b3 w3 hn3
  replace hS := Step.trans hS (hn3.step No)
  replace hDs := hDs.no (hn3.step No)
  replace ho1 := ho1.no (hn3.step No)
  replace ho2 := ho2.no (hn3.step No)
  have ho3 := hn3.own
  have hzhn3 := hn3.size
  have hqhn3 := hn3.eqb
  refine VL_end (by kernel_rfl) ?_
  refine VQ_next ?_
  refine VC_seq ?_
  refine VC_seq ?_
  refine VC_region ?_
  have hzs5 := hS.size
  have hzl4 := ho1.lt
  have hzl5 := ho2.lt
  have hzl6 := ho3.lt
  refine VL_call (d := 30) (f := 9) (args := #[]) (by kernel_rfl) (by kernel_rfl) (by kernel_rfl) Try.call9 (awake_any _) ?_
  rintro _ w4 ⟨rfl, hc1⟩
  replace hS := Step.trans hS hc1
  replace hDs := hDs.no hc1
  replace ho1 := ho1.no hc1
  replace ho2 := ho2.no hc1
  replace ho3 := ho3.no hc1
  refine VL_pure 3 [1, 3, 5, 6, 32] [(1, .int .u8 ((my : Nat) : Int)), (3, .pointer (some ⟨b1, 0, none⟩)), (5, .pointer (some ⟨b2, 0, none⟩)), (6, .pointer (some ⟨b3, 0, none⟩)), (32, .bool false)] (by kernel_rfl) rfl ?_
  refine VL_load (d := 33) (t := 32) (a := ⟨b2, 0, none⟩) (v := .slice D nD cD) (by kernel_rfl) (by kernel_rfl) (Loads.own1 ho2 (by kernel_rfl) (by rfl)) ?_
  refine VL_pure 8 [1, 3, 5, 6, 37] [(1, .int .u8 ((my : Nat) : Int)), (3, .pointer (some ⟨b1, 0, none⟩)), (5, .pointer (some ⟨b2, 0, none⟩)), (6, .pointer (some ⟨b3, 0, none⟩)), (37, .bool (decide (((nD : Nat) : Int) > 1000)))] (by kernel_rfl) rfl ?_
  refine VL_known (decide (((nD : Nat) : Int) > 1000)) (fun bV => [(1, .int .u8 ((my : Nat) : Int)), (3, .pointer (some ⟨b1, 0, none⟩)), (5, .pointer (some ⟨b2, 0, none⟩)), (6, .pointer (some ⟨b3, 0, none⟩)), (37, .bool bV)]) true rfl (by first | (simp; omega) | (simp; done) | simp [*]) ?_
  refine VL_pure 12 [1, 3, 5, 6, 41] [(1, .int .u8 ((my : Nat) : Int)), (3, .pointer (some ⟨b1, 0, none⟩)), (5, .pointer (some ⟨b2, 0, none⟩)), (6, .pointer (some ⟨b3, 0, none⟩)), (41, .bool true)] (by kernel_rfl) rfl ?_
  refine VL_end (by kernel_rfl) ?_
  refine VQ_next ?_
  refine VC_true (by kernel_rfl) ?_
  refine VC_seq ?_
  refine VC_region ?_
  have hzs6 := hS.size
  have hzl7 := ho1.lt
  have hzl8 := ho2.lt
  have hzl9 := ho3.lt
  refine VL_call (d := 42) (f := 9) (args := #[]) (by kernel_rfl) (by kernel_rfl) (by kernel_rfl) Try.call9 (awake_any _) ?_
  rintro _ w5 ⟨rfl, hc2⟩
  replace hS := Step.trans hS hc2
  replace hDs := hDs.no hc2
  replace ho1 := ho1.no hc2
  replace ho2 := ho2.no hc2
  replace ho3 := ho3.no hc2
  refine VL_store (b := b3) (o := 0) (vs := [.bool true]) (by kernel_rfl) (by kernel_rfl) ho3 (Nat.le_of_ble_eq_true (by kernel_rfl)) ?_
  intro w6 hw1
  replace hS := Step.transNew hS hw1.step (fun _ _ _ => by omega)
  replace hDs := hDs.step hw1.step (fun k hk (hF : k = b3) => by omega)
  replace ho1 := ho1.step hw1.step (show ¬ b1 = b3 by omega)
  replace ho2 := ho2.step hw1.step (show ¬ b2 = b3 by omega)
  have ho4 : Own w6 b3 #[.bool true] 4 := Own.cast hw1.own (by kernel_rfl)
  have hzhw1 := hw1.same
  refine VL_end (by kernel_rfl) ?_
  refine VQ_next ?_
  refine VC_ret ?_
  refine VQ_then_ret ?_
  have hzs7 := hS.size
  have hzl10 := ho1.lt
  have hzl11 := ho2.lt
  have hzl12 := ho4.lt
  have hzr := ho4.lt
  refine VQ_retMC1 (.bool true) [] (.inr rfl) rfl rfl trivial (fun w9 hq9 => Loads.own1 (ho4.step hq9 (by simp; try omega)) (by kernel_rfl) rfl) ?_
  intro w7 hq1
  replace hq1 : Step No w6 w7 := Step.mono hq1 (fun i hi => by simp at hi)
  replace hS := Step.trans hS hq1
  replace hDs := hDs.no hq1
  replace ho1 := ho1.no hq1
  replace ho2 := ho2.no hq1
  replace ho4 := ho4.no hq1
  exact ⟨by first | rfl | (rw [hls]; rfl) | simp [*], hS⟩

set_option maxRecDepth 100000 in
set_option maxHeartbeats 4000000 in
theorem long_o4 (ps : List Int) (my : Nat) (D : Option Addr) (nD cD : Nat) (bt : List Int) (w : World) (hps : ps.length = 48) (hbp : Bytes ps) (hmy : my < 256) (hnD : bt.length = nD) (hDs : Sl w w.heap.size D (iL .u8 bt)) (hcD : nD ≤ cD) (hbD : Bytes bt) (hlonD : 0 ≤ nD) (hhinD : nD ≤ 0) :
    CV Try.prog 8 #[.agg (iA .u8 ps), .int .u8 ((my : Nat) : Int), .slice D nD cD] w (fun x w1 => x = .bool true ∧ Step No w w1) := by
  have hS : Step No w w := Step.refl _ _
  refine CV_enterM Try.f8 _ 153 [(0, .agg (iA .u8 ps)), (1, .int .u8 ((my : Nat) : Int)), (2, .slice D nD cD)] Try.func8 rfl rfl (by kernel_rfl) rfl ?_
  refine VC_seq ?_
  refine VC_region ?_
  have hzs1 := hS.size
  have hzs2 := hS.size
  refine VL_box (d := 3) (t := 28) (c := iA .u8 ps) (by kernel_rfl) (by kernel_rfl) ?_
  intro b1 w1 hn1
  replace hS := Step.trans hS (hn1.step No)
  replace hDs := hDs.no (hn1.step No)
  have ho1 := hn1.own
  have hzhn1 := hn1.size
  have hqhn1 := hn1.eqb
  have hzs3 := hS.size
  have hzl1 := ho1.lt
  refine VL_box (d := 5) (t := 32) (c := #[.slice D nD cD]) (by kernel_rfl) (by kernel_rfl) ?_
  intro b2 w2 hn2
  replace hS := Step.trans hS (hn2.step No)
  replace hDs := hDs.no (hn2.step No)
  replace ho1 := ho1.no (hn2.step No)
  have ho2 := hn2.own
  have hzhn2 := hn2.size
  have hqhn2 := hn2.eqb
  have hzs4 := hS.size
  have hzl2 := ho1.lt
  have hzl3 := ho2.lt
  refine VL_box (d := 6) (t := 4) (c := #[.bool false]) (by kernel_rfl) (by kernel_rfl) ?_
  intro b3 w3 hn3
  replace hS := Step.trans hS (hn3.step No)
  replace hDs := hDs.no (hn3.step No)
  replace ho1 := ho1.no (hn3.step No)
  replace ho2 := ho2.no (hn3.step No)
  have ho3 := hn3.own
  have hzhn3 := hn3.size
  have hqhn3 := hn3.eqb
  refine VL_end (by kernel_rfl) ?_
  refine VQ_next ?_
  refine VC_seq ?_
  refine VC_seq ?_
  refine VC_region ?_
  have hzs5 := hS.size
  have hzl4 := ho1.lt
  have hzl5 := ho2.lt
  have hzl6 := ho3.lt
  refine VL_call (d := 30) (f := 9) (args := #[]) (by kernel_rfl) (by kernel_rfl) (by kernel_rfl) Try.call9 (awake_any _) ?_
  rintro _ w4 ⟨rfl, hc1⟩
  replace hS := Step.trans hS hc1
  replace hDs := hDs.no hc1
  replace ho1 := ho1.no hc1
  replace ho2 := ho2.no hc1
  replace ho3 := ho3.no hc1
  refine VL_pure 3 [1, 3, 5, 6, 32] [(1, .int .u8 ((my : Nat) : Int)), (3, .pointer (some ⟨b1, 0, none⟩)), (5, .pointer (some ⟨b2, 0, none⟩)), (6, .pointer (some ⟨b3, 0, none⟩)), (32, .bool false)] (by kernel_rfl) rfl ?_
  refine VL_load (d := 33) (t := 32) (a := ⟨b2, 0, none⟩) (v := .slice D nD cD) (by kernel_rfl) (by kernel_rfl) (Loads.own1 ho2 (by kernel_rfl) (by rfl)) ?_
  refine VL_pure 8 [1, 3, 5, 6, 37] [(1, .int .u8 ((my : Nat) : Int)), (3, .pointer (some ⟨b1, 0, none⟩)), (5, .pointer (some ⟨b2, 0, none⟩)), (6, .pointer (some ⟨b3, 0, none⟩)), (37, .bool (decide (((nD : Nat) : Int) > 1000)))] (by kernel_rfl) rfl ?_
  refine VL_known (decide (((nD : Nat) : Int) > 1000)) (fun bV => [(1, .int .u8 ((my : Nat) : Int)), (3, .pointer (some ⟨b1, 0, none⟩)), (5, .pointer (some ⟨b2, 0, none⟩)), (6, .pointer (some ⟨b3, 0, none⟩)), (37, .bool bV)]) false rfl (by first | (simp; omega) | (simp; done) | simp [*]) ?_
  refine VL_load (d := 38) (t := 32) (a := ⟨b2, 0, none⟩) (v := .slice D nD cD) (by kernel_rfl) (by kernel_rfl) (Loads.own1 ho2 (by kernel_rfl) (by rfl)) ?_
  refine VL_pure 12 [1, 3, 5, 6, 41] [(1, .int .u8 ((my : Nat) : Int)), (3, .pointer (some ⟨b1, 0, none⟩)), (5, .pointer (some ⟨b2, 0, none⟩)), (6, .pointer (some ⟨b3, 0, none⟩)), (41, .bool (((nD : Nat) : Int) == 0))] (by kernel_rfl) rfl ?_
  refine VL_end (by kernel_rfl) ?_
  refine VQ_next ?_
  refine VC_is (b := ((nD : Nat) : Int) == 0) true (by kernel_rfl) (by first | (simp; omega) | (simp; done) | simp [*]) ?_
  refine VC_ite_true ?_
  refine VC_seq ?_
  refine VC_region ?_
  have hzs6 := hS.size
  have hzl7 := ho1.lt
  have hzl8 := ho2.lt
  have hzl9 := ho3.lt
  refine VL_call (d := 42) (f := 9) (args := #[]) (by kernel_rfl) (by kernel_rfl) (by kernel_rfl) Try.call9 (awake_any _) ?_
  rintro _ w5 ⟨rfl, hc2⟩
  replace hS := Step.trans hS hc2
  replace hDs := hDs.no hc2
  replace ho1 := ho1.no hc2
  replace ho2 := ho2.no hc2
  replace ho3 := ho3.no hc2
  refine VL_store (b := b3) (o := 0) (vs := [.bool true]) (by kernel_rfl) (by kernel_rfl) ho3 (Nat.le_of_ble_eq_true (by kernel_rfl)) ?_
  intro w6 hw1
  replace hS := Step.transNew hS hw1.step (fun _ _ _ => by omega)
  replace hDs := hDs.step hw1.step (fun k hk (hF : k = b3) => by omega)
  replace ho1 := ho1.step hw1.step (show ¬ b1 = b3 by omega)
  replace ho2 := ho2.step hw1.step (show ¬ b2 = b3 by omega)
  have ho4 : Own w6 b3 #[.bool true] 4 := Own.cast hw1.own (by kernel_rfl)
  have hzhw1 := hw1.same
  refine VL_end (by kernel_rfl) ?_
  refine VQ_next ?_
  refine VC_ret ?_
  refine VQ_then_ret ?_
  have hzs7 := hS.size
  have hzl10 := ho1.lt
  have hzl11 := ho2.lt
  have hzl12 := ho4.lt
  have hzr := ho4.lt
  refine VQ_retMC1 (.bool true) [] (.inr rfl) rfl rfl trivial (fun w9 hq9 => Loads.own1 (ho4.step hq9 (by simp; try omega)) (by kernel_rfl) rfl) ?_
  intro w7 hq1
  replace hq1 : Step No w6 w7 := Step.mono hq1 (fun i hi => by simp at hi)
  replace hS := Step.trans hS hq1
  replace hDs := hDs.no hq1
  replace ho1 := ho1.no hq1
  replace ho2 := ho2.no hq1
  replace ho4 := ho4.no hq1
  exact ⟨by first | rfl | (rw [hls]; rfl) | simp [*], hS⟩

end Go.Proofs.Ytgiefcolkohgkaa
