import Derived.Test.YthchmlidobgkoaaProg
import Derived.Test.YthchmlidobgkoaaMl6
section
/- Layer 20: AdmitLinks. -/
set_option linter.unusedVariables false
set_option linter.unusedSimpArgs false
namespace Go.Proofs.Ythchmlidobgkoaa
open Go.Vc Go.RowKit

set_option maxRecDepth 100000 in
set_option maxHeartbeats 4000000 in
theorem admitLinks_any (A : Option Addr) (m c : Nat) (rs : List Int) (A2 : Option Addr) (m2 c2 : Nat) (os : List OpA) (port : Nat) (hport : port < 256) (w : World) (hrs : rs.length = m) (hmc : m ≤ c) (hA : Sl w w.heap.size A (iL .i64 rs)) (hos : os.length = m2) (hA2 : Sl w w.heap.size A2 (flat opc os)) (hmm : m2 ≤ maxLen)  :
  CV Try.prog 3 #[.slice A m c, .slice A2 m2 c2, .int .u8 ((port : Nat) : Int)] w (fun x w1 => x = .bool true ∧ Step No w w1) := by
 have hS : Step No w w := Step.refl _ _
 have hpw : IntKind.wrap .i64 ((port : Nat) : Int) = ((port : Nat) : Int) := wrap_i64 _ (by omega) (by omega)
 refine CV_enterM Try.f3 _ 102 [(0, .slice A m c), (1, .slice A2 m2 c2), (2, .int .u8 ((port : Nat) : Int))] Try.func3 rfl rfl (by kernel_rfl) rfl ?_
 refine VC_seq ?_
 refine VC_region ?_
 have hzs1 := hS.size
 refine VL_box (d := 5) (t := 5) (c := #[.int .u8 ((port : Nat) : Int)]) (by kernel_rfl) (by kernel_rfl) ?_
 intro b1 w1 hn1
 replace hS := Step.trans hS (hn1.step No)
 replace hA := hA.no (hn1.step No)
 replace hA2 := hA2.no (hn1.step No)
 have ho1 := hn1.own
 have hzhn1 := hn1.size
 have hqhn1 := hn1.eqb
 refine VL_pure 2 [0, 1, 5, 6] [(0, .slice A m c), (1, .slice A2 m2 c2), (5, .pointer (some ⟨b1, 0, none⟩)), (6, .bool false)] (by kernel_rfl) rfl ?_
 refine VL_end (by kernel_rfl) ?_
 refine VQ_next ?_
 refine VC_seq ?_
 refine VC_seq ?_
 refine VC_region ?_
 have hzs2 := hS.size
 have hzl1 := ho1.lt
 refine VL_call (d := 16) (f := 6) (args := #[]) (by kernel_rfl) (by kernel_rfl) (by kernel_rfl) Try.call6 (awake_any _) ?_
 rintro _ w2 ⟨rfl, hc1⟩
 replace hS := Step.trans hS hc1
 replace hA := hA.no hc1
 replace hA2 := hA2.no hc1
 replace ho1 := ho1.no hc1
 refine VL_pure 8 [0, 1, 5, 6, 23] [(0, .slice A m c), (1, .slice A2 m2 c2), (5, .pointer (some ⟨b1, 0, none⟩)), (6, .bool false), (23, .bool (decide (((m2 : Nat) : Int) > 60)))] (by kernel_rfl) rfl ?_
 refine VL_dec (((m2 : Nat) : Int) > 60) (fun bV => [(0, .slice A m c), (1, .slice A2 m2 c2), (5, .pointer (some ⟨b1, 0, none⟩)), (6, .bool false), (23, .bool bV)]) rfl (fun hg1 => ?_) (fun hg1 => ?_)
 ·refine VL_pure 12 [0, 1, 5, 6, 27] [(0, .slice A m c), (1, .slice A2 m2 c2), (5, .pointer (some ⟨b1, 0, none⟩)), (6, .bool false), (27, .bool true)] (by kernel_rfl) rfl ?_
  refine VL_end (by kernel_rfl) ?_
  refine VQ_next ?_
  refine VC_true (by kernel_rfl) ?_
  refine VC_seq ?_
  refine VC_region ?_
  have hzs3 := hS.size
  have hzl2 := ho1.lt
  refine VL_call (d := 28) (f := 6) (args := #[]) (by kernel_rfl) (by kernel_rfl) (by kernel_rfl) Try.call6 (awake_any _) ?_
  rintro _ w3 ⟨rfl, hc2⟩
  replace hS := Step.trans hS hc2
  replace hA := hA.no hc2
  replace hA2 := hA2.no hc2
  replace ho1 := ho1.no hc2
  refine VL_pure 2 [6] [(6, .bool true)] (by kernel_rfl) rfl ?_
  refine VL_end (by kernel_rfl) ?_
  refine VQ_next ?_
  refine VC_ret ?_
  refine VQ_then_ret ?_
  have hzs4 := hS.size
  have hzl3 := ho1.lt
  refine VQ_retM1 (.bool true) [] (.inr rfl) rfl rfl trivial ?_
  intro w4 hq1
  replace hq1 : Step No w3 w4 := Step.mono hq1 (fun i hi => by simp at hi)
  replace hS := Step.trans hS hq1
  replace hA := hA.no hq1
  replace hA2 := hA2.no hq1
  replace ho1 := ho1.no hq1
  exact ⟨rfl, hS⟩
 ·refine VL_pure 12 [0, 1, 5, 6, 27] [(0, .slice A m c), (1, .slice A2 m2 c2), (5, .pointer (some ⟨b1, 0, none⟩)), (6, .bool false), (27, .bool (decide (((m : Nat) : Int) > 20)))] (by kernel_rfl) rfl ?_
  refine VL_end (by kernel_rfl) ?_
  refine VQ_next ?_
  refine VC_dec (((m : Nat) : Int) > 20) (by kernel_rfl) (fun h1 => ?_) (fun h1 => ?_)
  ·refine VC_seq ?_
   refine VC_region ?_
   have hzs5 := hS.size
   have hzl4 := ho1.lt
   refine VL_call (d := 28) (f := 6) (args := #[]) (by kernel_rfl) (by kernel_rfl) (by kernel_rfl) Try.call6 (awake_any _) ?_
   rintro _ w5 ⟨rfl, hc3⟩
   replace hS := Step.trans hS hc3
   replace hA := hA.no hc3
   replace hA2 := hA2.no hc3
   replace ho1 := ho1.no hc3
   refine VL_pure 2 [6] [(6, .bool true)] (by kernel_rfl) rfl ?_
   refine VL_end (by kernel_rfl) ?_
   refine VQ_next ?_
   refine VC_ret ?_
   refine VQ_then_ret ?_
   have hzs6 := hS.size
   have hzl5 := ho1.lt
   refine VQ_retM1 (.bool true) [] (.inr rfl) rfl rfl trivial ?_
   intro w6 hq2
   replace hq2 : Step No w5 w6 := Step.mono hq2 (fun i hi => by simp at hi)
   replace hS := Step.trans hS hq2
   replace hA := hA.no hq2
   replace hA2 := hA2.no hq2
   replace ho1 := ho1.no hq2
   exact ⟨rfl, hS⟩
  ·refine VC_skip ?_
   refine VQ_next ?_
   refine VC_seq ?_
   refine VC_region ?_
   refine VL_pure 1 [0, 1, 5, 6, 29] [(0, .slice A m c), (1, .slice A2 m2 c2), (5, .pointer (some ⟨b1, 0, none⟩)), (6, .bool false), (29, .slice A m c)] (by kernel_rfl) rfl ?_
   have hzs7 := hS.size
   have hzl6 := ho1.lt
   refine VL_call (d := 30) (f := 7) (args := #[.slice A m c]) (by kernel_rfl) (by kernel_rfl) (by kernel_rfl) Try.call7 (nnew hrs hA (by omega) (by omega)) ?_
   rintro _ w7 ⟨nd1, X1, rfl, hN1, hXg1, hc4⟩
   replace hS := Step.trans hS hc4
   replace hA := hA.no hc4
   replace hA2 := hA2.no hc4
   replace ho1 := ho1.no hc4
   have hXwnd1 := fun k9 hk9 => NdP.ltX hN1 (k := k9) hk9
   obtain ⟨lo1, hlo1E⟩ : ∃ x, x = w2.heap.size := ⟨_, rfl⟩
   rw [← hlo1E] at hN1
   refine VL_pure 3 [1, 5, 6, 30, 31] [(1, .slice A2 m2 c2), (5, .pointer (some ⟨b1, 0, none⟩)), (6, .bool false), (30, .pointer (some ⟨nd1, 0, none⟩)), (31, .slice A m c)] (by kernel_rfl) rfl ?_
   have hzs8 := hS.size
   have hzl7 := ho1.lt
   have hzl8 := NdP.lt hN1
   refine VL_call (d := 32) (f := 7) (args := #[.slice A m c]) (by kernel_rfl) (by kernel_rfl) (by kernel_rfl) Try.call7 (nnew hrs hA (by omega) (by omega)) ?_
   rintro _ w8 ⟨nd2, X2, rfl, hN2, hXg2, hc5⟩
   replace hS := Step.trans hS hc5
   replace hA := hA.no hc5
   replace hA2 := hA2.no hc5
   replace ho1 := ho1.no hc5
   replace hN1 := NdP.no hN1 hc5
   have hXwnd2 := fun k9 hk9 => NdP.ltX hN2 (k := k9) hk9
   obtain ⟨lo2, hlo2E⟩ : ∃ x, x = w7.heap.size := ⟨_, rfl⟩
   rw [← hlo2E] at hN2
   refine VL_pure 6 [1, 5, 6, 7, 8] [(1, .slice A2 m2 c2), (5, .pointer (some ⟨b1, 0, none⟩)), (6, .bool false), (7, .pointer (some ⟨nd1, 0, none⟩)), (8, .pointer (some ⟨nd2, 0, none⟩))] (by kernel_rfl) rfl ?_
   refine VL_end (by kernel_rfl) ?_
   refine VQ_next ?_
   refine VC_seq ?_
   refine VC_seq ?_
   refine VC_region ?_
   refine VL_pure 3 [1, 5, 6, 7, 8, 34, 35] [(1, .slice A2 m2 c2), (5, .pointer (some ⟨b1, 0, none⟩)), (6, .bool false), (7, .pointer (some ⟨nd1, 0, none⟩)), (8, .pointer (some ⟨nd2, 0, none⟩)), (34, .int .i64 ((m2 : Nat) : Int)), (35, .int .i64 0)] (by kernel_rfl) rfl ?_
   refine VL_end (by kernel_rfl) ?_
   refine VQ_next ?_
   refine VC_block ?_
   have hdis0 : ∀ k9, X1 k9 → ¬ X2 k9 := fun k9 h7 h8 => by have h6 := hXwnd1 k9 h7; have h5 := hXg2 k9 h8; omega
   refine VC_loop (σ := Nat × (List Cx) × (Nat → Prop) × (Nat → Prop)) (fun σs => [(1, .slice A2 m2 c2), (5, .pointer (some ⟨b1, 0, none⟩)), (7, .pointer (some ⟨nd1, 0, none⟩)), (8, .pointer (some ⟨nd2, 0, none⟩)), (34, .int .i64 ((m2 : Nat) : Int)), (35, .int .i64 ((σs.1 : Nat) : Int))]) (fun σs wr => σs.1 ≤ m2 ∧ σs.2.1.length ≤ σs.1 ∧ NdP wr nd1 σs.2.2.1 lo1 (roomsN rs) σs.2.1 σs.1 ∧ NdP wr nd2 σs.2.2.2 lo2 (roomsN rs) (filP σs.2.1 ((port : Nat) : Int)) σs.1 ∧ (∀ k9, σs.2.2.1 k9 → ¬ σs.2.2.2 k9) ∧ (Step No w wr) ∧ (Sl wr w.heap.size A (iL .i64 rs)) ∧ (Sl wr w.heap.size A2 (flat opc os)) ∧ (Own wr b1 #[.int .u8 ((port : Nat) : Int)] 5)) (fun σs wr => m2 - σs.1) ⟨0, [], X1, X2⟩ ⟨rfl, rfl, rfl, rfl, rfl, rfl, trivial⟩ ?_ ?_
   ·exact ⟨Nat.zero_le _, Nat.zero_le _, hN1, hN2, hdis0, hS, hA, hA2, ho1⟩
   rintro ⟨iS, LS, XS, XT⟩ wr ⟨hi0, hl0, hNSa, hNSb, hdis, hS, hA, hA2, ho1⟩
   have hwr : wr.heap.size ≤ wr.heap.size := Nat.le_refl _
   try dsimp only at hi0 hl0 hNSa hNSb hdis hS hA hA2 ho1 ⊢
   have hXwnd1 := fun k9 hk9 => NdP.ltX hNSa (k := k9) hk9
   have hXwnd2 := fun k9 hk9 => NdP.ltX hNSb (k := k9) hk9
   have hLIa := NdP.li hNSa
   have hLIb := NdP.li hNSb
   refine VC_seq ?_
   refine VC_region ?_
   refine VL_pure 1 [1, 5, 7, 8, 34, 35, 36] [(1, .slice A2 m2 c2), (5, .pointer (some ⟨b1, 0, none⟩)), (7, .pointer (some ⟨nd1, 0, none⟩)), (8, .pointer (some ⟨nd2, 0, none⟩)), (34, .int .i64 ((m2 : Nat) : Int)), (35, .int .i64 ((iS : Nat) : Int)), (36, .bool (decide (((iS : Nat) : Int) < ((m2 : Nat) : Int))))] (by kernel_rfl) rfl ?_
   refine VL_end (by kernel_rfl) ?_
   refine VQ_next ?_
   refine VC_seq ?_
   refine VC_dec (((iS : Nat) : Int) < ((m2 : Nat) : Int)) (by kernel_rfl) (fun h2 => ?_) (fun h2 => ?_)
   ·refine VC_skip ?_
    refine VQ_next ?_
    refine VC_seq ?_
    refine VC_block ?_
    refine VC_seq ?_
    refine VC_region ?_
    refine VL_pure 2 [1, 5, 7, 8, 34, 35, 9] [(1, .slice A2 m2 c2), (5, .pointer (some ⟨b1, 0, none⟩)), (7, .pointer (some ⟨nd1, 0, none⟩)), (8, .pointer (some ⟨nd2, 0, none⟩)), (34, .int .i64 ((m2 : Nat) : Int)), (35, .int .i64 ((iS : Nat) : Int)), (9, .int .i64 ((iS : Nat) : Int))] (by kernel_rfl) rfl ?_
    refine VL_end (by kernel_rfl) ?_
    refine VQ_next ?_
    refine VC_seq ?_
    refine VC_region ?_
    refine VL_pure 2 [1, 5, 7, 8, 34, 35, 38, 39] [(1, .slice A2 m2 c2), (5, .pointer (some ⟨b1, 0, none⟩)), (7, .pointer (some ⟨nd1, 0, none⟩)), (8, .pointer (some ⟨nd2, 0, none⟩)), (34, .int .i64 ((m2 : Nat) : Int)), (35, .int .i64 ((iS : Nat) : Int)), (38, .slice A2 m2 c2), (39, .int .i64 ((iS : Nat) : Int))] (by kernel_rfl) rfl ?_
    obtain ⟨sb1, so1, rfl, hlbsb1⟩ := hA2.open (by first | (simp only [iL_length]; omega) | (rw [flat_len opc_len]; omega) | omega)
    refine VL_index (d := 40) (b := sb1) (o := so1) (len := m2) (sz := 12) (m := ((iS : Nat) : Int)) (by kernel_rfl) (by kernel_rfl) iS (by rfl) (by omega) (so1 + iS * 12) (by omega) ?_
    obtain ⟨y1, hy1⟩ : ∃ x, os[iS]? = some x := ⟨_, List.getElem?_eq_getElem (by have hq9 : os.length = m2 := hos; omega)⟩
    refine VL_load (d := 41) (t := 32) (a := ⟨sb1, so1 + iS * 12, none⟩) (v := .agg #[.int .i64 y1.d, .int .i64 y1.p, .int .i64 y1.v, .int .i64 y1.c, .int .i64 y1.k.kind, .int .i64 y1.k.peak, .int .i64 y1.k.early, .int .i64 y1.k.whole, .int .i64 y1.k.burst, .int .i64 y1.k.least, .int .i64 y1.t, .int .i64 y1.clp]) (by kernel_rfl) (by kernel_rfl) (Sl.flatAgg (sz := 12) hA2 opc_len hy1 0 12 (by kernel_rfl) (by decide) _ (by first | rfl | omega)) ?_
    have hzl9 := NdP.lt hNSa
    have hzl10 := NdP.lt hNSb
    have hzs9 := hS.size
    have hzl11 := ho1.lt
    have hzk1 := hwr
    refine VL_box (d := 10) (t := 32) (c := #[.int .i64 0, .int .i64 0, .int .i64 0, .int .i64 0, .int .i64 0, .int .i64 0, .int .i64 0, .int .i64 0, .int .i64 0, .int .i64 0, .int .i64 0, .int .i64 0]) (by kernel_rfl) (by kernel_rfl) ?_
    intro b2 w9 hn2
    replace hNSa := NdP.no hNSa (hn2.step No)
    replace hNSb := NdP.no hNSb (hn2.step No)
    replace hS := Step.trans hS (hn2.step No)
    replace hA := hA.no (hn2.step No)
    replace hA2 := hA2.no (hn2.step No)
    replace ho1 := ho1.no (hn2.step No)
    replace hwr := Nat.le_trans hwr (hn2.step No).size
    have ho2 := hn2.own
    have hzhn2 := hn2.size
    have hqhn2 := hn2.eqb
    refine VL_store (b := b2) (o := 0) (vs := [.int .i64 y1.d, .int .i64 y1.p, .int .i64 y1.v, .int .i64 y1.c, .int .i64 y1.k.kind, .int .i64 y1.k.peak, .int .i64 y1.k.early, .int .i64 y1.k.whole, .int .i64 y1.k.burst, .int .i64 y1.k.least, .int .i64 y1.t, .int .i64 y1.clp]) (by kernel_rfl) (by kernel_rfl) ho2 (Nat.le_of_ble_eq_true (by kernel_rfl)) ?_
    intro w10 hw1
    replace hNSa := NdP.blk hNSa ho2 (by decide) hw1.step
    replace hNSb := NdP.blk hNSb ho2 (by decide) hw1.step
    replace hS := Step.transNew hS hw1.step (fun _ _ _ => by omega)
    replace hA := hA.step hw1.step (fun k hk (hF : k = b2) => by omega)
    replace hA2 := hA2.keepB hw1.step (show ¬ sb1 = b2 by omega)
    replace ho1 := ho1.step hw1.step (show ¬ b1 = b2 by omega)
    replace hwr := Nat.le_trans hwr (hw1.step).size
    have ho3 : Own w10 b2 #[.int .i64 y1.d, .int .i64 y1.p, .int .i64 y1.v, .int .i64 y1.c, .int .i64 y1.k.kind, .int .i64 y1.k.peak, .int .i64 y1.k.early, .int .i64 y1.k.whole, .int .i64 y1.k.burst, .int .i64 y1.k.least, .int .i64 y1.t, .int .i64 y1.clp] 32 := Own.cast hw1.own (by kernel_rfl)
    have hzhw1 := hw1.same
    refine VL_end (by kernel_rfl) ?_
    refine VQ_next ?_
    refine VC_seq ?_
    refine VC_region ?_
    refine VL_pure 1 [1, 5, 7, 8, 34, 35, 10, 42] [(1, .slice (some ⟨sb1, so1, none⟩) m2 c2), (5, .pointer (some ⟨b1, 0, none⟩)), (7, .pointer (some ⟨nd1, 0, none⟩)), (8, .pointer (some ⟨nd2, 0, none⟩)), (34, .int .i64 ((m2 : Nat) : Int)), (35, .int .i64 ((iS : Nat) : Int)), (10, .pointer (some ⟨b2, 0, none⟩)), (42, .pointer (some ⟨nd1, 0, none⟩))] (by kernel_rfl) rfl ?_
    refine VL_load (d := 43) (t := 32) (a := ⟨b2, 0, none⟩) (v := .agg #[.int .i64 y1.d, .int .i64 y1.p, .int .i64 y1.v, .int .i64 y1.c, .int .i64 y1.k.kind, .int .i64 y1.k.peak, .int .i64 y1.k.early, .int .i64 y1.k.whole, .int .i64 y1.k.burst, .int .i64 y1.k.least, .int .i64 y1.t, .int .i64 y1.clp]) (by kernel_rfl) (by kernel_rfl) (Loads.ownL ho3 (n := 12) (by kernel_rfl) (by kernel_rfl) (by kernel_rfl)) ?_
    have hzl12 := NdP.lt hNSa
    have hzl13 := NdP.lt hNSb
    have hzs10 := hS.size
    have hzl14 := ho1.lt
    have hzl15 := ho3.lt
    refine VL_call (d := 44) (f := 8) (args := #[.pointer (some ⟨nd1, 0, none⟩), .agg #[.int .i64 y1.d, .int .i64 y1.p, .int .i64 y1.v, .int .i64 y1.c, .int .i64 y1.k.kind, .int .i64 y1.k.peak, .int .i64 y1.k.early, .int .i64 y1.k.whole, .int .i64 y1.k.burst, .int .i64 y1.k.least, .int .i64 y1.t, .int .i64 y1.clp]]) (by kernel_rfl) (by kernel_rfl) (by kernel_rfl) Try.call8 (do_any hNSa (by omega) y1) ?_
    rintro _ w11 ⟨rfl, X3, hN3, hXg3, hc6⟩
    have hzhc6 := (hc6).size
    replace hNSb := NdP.step hNSb hc6 (fun k9 hk9 hX9 => hdis k9 hX9 hk9)
    replace hS := Step.transNew hS hc6 (fun i9 hi9 hX9 => by have h8 := NdP.low hNSa hX9; omega)
    replace hA := hA.step hc6 (fun k9 hk9 hX9 => by have h8 := NdP.low hNSa hX9; omega)
    replace hA2 := hA2.keepB hc6 (fun hX9 => by have h8 := NdP.low hNSa hX9; omega)
    replace ho1 := ho1.step hc6 (NdP.nx hNSa ho1 (by decide))
    replace hwr := Nat.le_trans hwr (Step.size hc6)
    replace ho3 := ho3.step hc6 (NdP.nx hNSa ho3 (by decide))
    have hXwnd1 := fun k9 hk9 => NdP.ltX hN3 (k := k9) hk9
    have hszhN3 := Nat.le_refl w11.heap.size
    refine VL_pure 4 [1, 5, 7, 8, 34, 35, 10, 11] [(1, .slice (some ⟨sb1, so1, none⟩) m2 c2), (5, .pointer (some ⟨b1, 0, none⟩)), (7, .pointer (some ⟨nd1, 0, none⟩)), (8, .pointer (some ⟨nd2, 0, none⟩)), (34, .int .i64 ((m2 : Nat) : Int)), (35, .int .i64 ((iS : Nat) : Int)), (10, .pointer (some ⟨b2, 0, none⟩)), (11, .int .i64 (doV (roomsN rs) LS y1))] (by kernel_rfl) rfl ?_
    refine VL_end (by kernel_rfl) ?_
    refine VQ_next ?_
    refine VC_seq ?_
    refine VC_seq ?_
    obtain ⟨L2, hL2E⟩ : ∃ x, x = doL (roomsN rs) LS y1 := ⟨_, rfl⟩
    rw [← hL2E] at hN3
    have hlq2 := do_len (roomsN rs) LS y1
    rw [← hL2E] at hlq2
    have hdis9 : ∀ k9, X3 k9 → ¬ XT k9 := fun k9 h7 h8 => (hXg3 k9 h7).elim (fun h6 => hdis k9 h6 h8) (fun h6 => by have h5 := hXwnd2 k9 h8; omega)
    have hdisO := hdis
    replace hdis := hdis9
    refine VC_region ?_
    refine VL_pure 2 [1, 5, 7, 8, 34, 35, 10, 11, 46] [(1, .slice (some ⟨sb1, so1, none⟩) m2 c2), (5, .pointer (some ⟨b1, 0, none⟩)), (7, .pointer (some ⟨nd1, 0, none⟩)), (8, .pointer (some ⟨nd2, 0, none⟩)), (34, .int .i64 ((m2 : Nat) : Int)), (35, .int .i64 ((iS : Nat) : Int)), (10, .pointer (some ⟨b2, 0, none⟩)), (11, .int .i64 (doV (roomsN rs) LS y1)), (46, .pointer (some ⟨b2, 1, none⟩))] (by kernel_rfl) rfl ?_
    refine VL_load (d := 47) (t := 3) (a := ⟨b2, 1, none⟩) (v := .int .i64 y1.p) (by kernel_rfl) (by kernel_rfl) (Loads.own1 ho3 (by kernel_rfl) (by rfl)) ?_
    refine VL_load (d := 48) (t := 5) (a := ⟨b1, 0, none⟩) (v := .int .u8 ((port : Nat) : Int)) (by kernel_rfl) (by kernel_rfl) (Loads.own1 ho1 (by kernel_rfl) (by rfl)) ?_
    refine VL_pure 5 [1, 5, 7, 8, 34, 35, 10, 11, 47, 49] [(1, .slice (some ⟨sb1, so1, none⟩) m2 c2), (5, .pointer (some ⟨b1, 0, none⟩)), (7, .pointer (some ⟨nd1, 0, none⟩)), (8, .pointer (some ⟨nd2, 0, none⟩)), (34, .int .i64 ((m2 : Nat) : Int)), (35, .int .i64 ((iS : Nat) : Int)), (10, .pointer (some ⟨b2, 0, none⟩)), (11, .int .i64 (doV (roomsN rs) LS y1)), (47, .int .i64 y1.p), (49, .int .i64 (IntKind.wrap .i64 ((port : Nat) : Int)))] (by kernel_rfl) rfl ?_
    have he1 : IntKind.wrap .i64 ((port : Nat) : Int) = ((port : Nat) : Int) := (by rw [wrap_i64 _ (by omega) (by omega)])
    refine VL_eq [(1, .slice (some ⟨sb1, so1, none⟩) m2 c2), (5, .pointer (some ⟨b1, 0, none⟩)), (7, .pointer (some ⟨nd1, 0, none⟩)), (8, .pointer (some ⟨nd2, 0, none⟩)), (34, .int .i64 ((m2 : Nat) : Int)), (35, .int .i64 ((iS : Nat) : Int)), (10, .pointer (some ⟨b2, 0, none⟩)), (11, .int .i64 (doV (roomsN rs) LS y1)), (47, .int .i64 y1.p), (49, .int .i64 ((port : Nat) : Int))] (by rw [he1]) ?_
    refine VL_pure 6 [1, 5, 7, 8, 34, 35, 10, 11, 50] [(1, .slice (some ⟨sb1, so1, none⟩) m2 c2), (5, .pointer (some ⟨b1, 0, none⟩)), (7, .pointer (some ⟨nd1, 0, none⟩)), (8, .pointer (some ⟨nd2, 0, none⟩)), (34, .int .i64 ((m2 : Nat) : Int)), (35, .int .i64 ((iS : Nat) : Int)), (10, .pointer (some ⟨b2, 0, none⟩)), (11, .int .i64 (doV (roomsN rs) LS y1)), (50, .bool (y1.p != ((port : Nat) : Int)))] (by kernel_rfl) rfl ?_
    refine VL_end (by kernel_rfl) ?_
    refine VQ_next ?_
    refine VC_ne y1.p ((port : Nat) : Int) (by kernel_rfl) (fun h3 => ?_) (fun h3 => ?_)
    ·refine VC_exit ?_
     refine VQ_then_exit ?_
     refine VQ_block_hit ?_
     refine VQ_next ?_
     refine VC_region ?_
     refine VL_pure 1 [1, 5, 7, 8, 34, 67] [(1, .slice (some ⟨sb1, so1, none⟩) m2 c2), (5, .pointer (some ⟨b1, 0, none⟩)), (7, .pointer (some ⟨nd1, 0, none⟩)), (8, .pointer (some ⟨nd2, 0, none⟩)), (34, .int .i64 ((m2 : Nat) : Int)), (67, .int .i64 (IntKind.wrap .i64 (((iS : Nat) : Int) + 1)))] (by kernel_rfl) rfl ?_
     have he2 : IntKind.wrap .i64 (((iS : Nat) : Int) + 1) = ((iS + 1 : Nat) : Int) := (by rw [wrap_i64 _ (by omega) (by omega)]; omega)
     refine VL_eq [(1, .slice (some ⟨sb1, so1, none⟩) m2 c2), (5, .pointer (some ⟨b1, 0, none⟩)), (7, .pointer (some ⟨nd1, 0, none⟩)), (8, .pointer (some ⟨nd2, 0, none⟩)), (34, .int .i64 ((m2 : Nat) : Int)), (67, .int .i64 ((iS + 1 : Nat) : Int))] (by rw [he2]) ?_
     refine VL_pure 2 [1, 5, 7, 8, 34, 35] [(1, .slice (some ⟨sb1, so1, none⟩) m2 c2), (5, .pointer (some ⟨b1, 0, none⟩)), (7, .pointer (some ⟨nd1, 0, none⟩)), (8, .pointer (some ⟨nd2, 0, none⟩)), (34, .int .i64 ((m2 : Nat) : Int)), (35, .int .i64 ((iS + 1 : Nat) : Int))] (by kernel_rfl) rfl ?_
     refine VL_end (by kernel_rfl) ?_
     refine VQ_again ⟨iS + 1, L2, X3, XT⟩ ⟨rfl, rfl, rfl, rfl, rfl, rfl, trivial⟩ ?_ ?_
     ·exact ⟨by (try dsimp only); omega, by (try dsimp only); omega, hN3, (by have h9 := hNSb; rw [← do_out (rooms := (roomsN rs)) _ (by assumption)] at h9; rw [hL2E]; exact NdP.more h9 (by omega)), hdis9, hS, hA, hA2, ho1⟩
     ·(try dsimp only); omega
    ·refine VC_skip ?_
     refine VQ_next ?_
     refine VC_seq ?_
     have hnxb1 : ¬ XT b1 := NdP.nx hNSb ho1 (by decide)
     have hltb1 := ho1.lt
     have hnxb2 : ¬ XT b2 := NdP.nx hNSb ho3 (by decide)
     have hltb2 := ho3.lt
     have hyp : y1.p = ((port : Nat) : Int) := by first | assumption | (apply Classical.byContradiction; assumption)
     obtain ⟨hlf, hlv⟩ := do_in hLIa hLIb (show LS.length < 64 by omega) y1 hyp
     have hll : leftN (roomsN rs) (doL (roomsN rs) (filP LS ((port : Nat) : Int)) y1) ((port : Nat) : Int) = leftN (roomsN rs) L2 ((port : Nat) : Int) := by rw [hlf, left_filP, hL2E]
     have hs1 := drew_step w11
     have hs1z : w11.heap.size = w11.drew.heap.size := rfl
     refine VC_text [[], [], [0, 1], [], [0, 1, 2, 3], [0, 1, 2, 3, 4], [0, 1, 2, 3, 4, 5], [0, 1, 2, 3, 4, 5], [0, 1, 2, 3, 4, 5, 7], [0, 1, 2, 3, 4, 5, 6, 7, 8], [0, 1, 2, 3, 4, 5], [0, 1, 2, 3, 4, 5], [0, 1, 2, 3, 4, 5, 11], [0, 1, 2, 3, 4, 5, 6, 7, 8, 9, 10, 11, 12], [0, 1, 2, 3, 4, 5, 6, 7, 8, 9, 10, 11, 12, 13], [0, 1, 2, 3, 4, 5, 6, 7, 8, 9, 10, 11, 12, 13, 14]] 13 (fun x y => Step (fun k => XT k ∨ w11.heap.size ≤ k) x y) [2, 9] [0, 1, 3, 2, 4, 5, 6, 7, 8, 10, 11, 12, 9] (by kernel_rfl) (by kernel_rfl) (by kernel_rfl) (by kernel_rfl) (fun x => Step.refl _ x) (fun h k => Step.trans h k) Step.weak ?_
     have hzl16 := NdP.lt hNSb
     have hzs11 := hS.size
     have hzl17 := ho1.lt
     have hzl18 := ho3.lt
     have hzl19 := NdP.lt hN3
     have hzo1 := hwr
     have hzo2 := hszhN3
     generalize w11.drew = w12 at hs1 hs1z ⊢
     replace hNSb := NdP.no hNSb hs1
     replace hS := Step.trans hS hs1
     replace hA := hA.no hs1
     replace hA2 := hA2.no hs1
     replace ho1 := ho1.no hs1
     replace hwr := Nat.le_trans hwr (hs1).size
     replace ho3 := ho3.no hs1
     replace hN3 := NdP.no hN3 hs1
     replace hszhN3 := Nat.le_trans hszhN3 (hs1).size
     refine VT_pures 1 (kn' := [(0, .pointer (some ⟨nd2, 0, none⟩))]) (by kernel_rfl) ?_
     refine VT_load (d := 52) (t := 32) (a := ⟨b2, 0, none⟩) (v := .agg #[.int .i64 y1.d, .int .i64 y1.p, .int .i64 y1.v, .int .i64 y1.c, .int .i64 y1.k.kind, .int .i64 y1.k.peak, .int .i64 y1.k.early, .int .i64 y1.k.whole, .int .i64 y1.k.burst, .int .i64 y1.k.least, .int .i64 y1.t, .int .i64 y1.clp]) (by kernel_rfl) (by kernel_rfl) ?_ ?_
     ·intro w13 hr1
      replace ho1 := ho1.step hr1 (fun h9 => Or.elim h9 hnxb1 (fun h8 => by (try simp only at h8); omega))
      replace ho3 := ho3.step hr1 (fun h9 => Or.elim h9 hnxb2 (fun h8 => by (try simp only at h8); omega))
      exact (Loads.ownL ho3 (n := 12) (by kernel_rfl) (by kernel_rfl) (by kernel_rfl))
     refine VT_pures 1 (kn' := [(3, .int .i64 (doV (roomsN rs) LS y1)), (1, .agg #[.int .i64 y1.d, .int .i64 y1.p, .int .i64 y1.v, .int .i64 y1.c, .int .i64 y1.k.kind, .int .i64 y1.k.peak, .int .i64 y1.k.early, .int .i64 y1.k.whole, .int .i64 y1.k.burst, .int .i64 y1.k.least, .int .i64 y1.t, .int .i64 y1.clp]), (0, .pointer (some ⟨nd2, 0, none⟩))]) (by kernel_rfl) ?_
     refine VT_chain (by kernel_rfl) ?_
     intro w14 hs2
     have hzhs2 := hs2.size
     replace hNSb := NdP.no hNSb hs2
     replace hS := Step.trans hS hs2
     replace hA := hA.no hs2
     replace hA2 := hA2.no hs2
     replace ho1 := ho1.no hs2
     replace hwr := Nat.le_trans hwr (hs2).size
     replace ho3 := ho3.no hs2
     replace hN3 := NdP.no hN3 hs2
     replace hszhN3 := Nat.le_trans hszhN3 (hs2).size
     have hzl20 := NdP.lt hNSb
     have hzs12 := hS.size
     have hzl21 := ho1.lt
     have hzl22 := ho3.lt
     have hzl23 := NdP.lt hN3
     refine VTc_call (d := 53) (f := 8) (args := #[.pointer (some ⟨nd2, 0, none⟩), .agg #[.int .i64 y1.d, .int .i64 y1.p, .int .i64 y1.v, .int .i64 y1.c, .int .i64 y1.k.kind, .int .i64 y1.k.peak, .int .i64 y1.k.early, .int .i64 y1.k.whole, .int .i64 y1.k.burst, .int .i64 y1.k.least, .int .i64 y1.t, .int .i64 y1.clp]]) (by kernel_rfl) (by kernel_rfl) (by kernel_rfl) Try.call8 (do_any hNSb (by omega) y1) ?_ ?_
     ·rintro _ w15 ⟨rfl, X4, hN4, hXg4, hc7⟩
      exact Step.mono hc7 (by intro i hi; first | exact hi.elim | exact .inl hi | ((try simp only at hi ⊢); omega))
     rintro _ w15 ⟨rfl, X4, hN4, hXg4, hc7⟩
     have hzhc7 := (hc7).size
     replace hS := Step.transNew hS hc7 (fun i9 hi9 hX9 => by have h8 := NdP.low hNSb hX9; omega)
     replace hA := hA.step hc7 (fun k9 hk9 hX9 => by have h8 := NdP.low hNSb hX9; omega)
     replace hA2 := hA2.keepB hc7 (fun hX9 => by have h8 := NdP.low hNSb hX9; omega)
     replace ho1 := ho1.step hc7 (NdP.nx hNSb ho1 (by decide))
     replace hwr := Nat.le_trans hwr (Step.size hc7)
     replace ho3 := ho3.step hc7 (NdP.nx hNSb ho3 (by decide))
     replace hN3 := NdP.step hN3 hc7 (fun k9 hk9 hX9 => hdis k9 hk9 hX9)
     replace hszhN3 := Nat.le_trans hszhN3 (Step.size hc7)
     have hXwnd2 := fun k9 hk9 => NdP.ltX hN4 (k := k9) hk9
     have hszhN4 := Nat.le_refl w15.heap.size
     replace hdis9 : ∀ k9, X3 k9 → ¬ X4 k9 := fun k9 h7 h8 => (hXg4 k9 h8).elim (fun h6 => hdis k9 h7 h6) (fun h6 => by have h5 := hXwnd1 k9 h7; omega)
     replace hdis := hdis9
     refine VT_pures 2 (kn' := [(5, .bool ((doV (roomsN rs) (filP LS ((port : Nat) : Int)) y1) != (doV (roomsN rs) LS y1))), (4, .bool ((doV (roomsN rs) (filP LS ((port : Nat) : Int)) y1) != (doV (roomsN rs) LS y1))), (2, .int .i64 (doV (roomsN rs) (filP LS ((port : Nat) : Int)) y1)), (3, .int .i64 (doV (roomsN rs) LS y1)), (1, .agg #[.int .i64 y1.d, .int .i64 y1.p, .int .i64 y1.v, .int .i64 y1.c, .int .i64 y1.k.kind, .int .i64 y1.k.peak, .int .i64 y1.k.early, .int .i64 y1.k.whole, .int .i64 y1.k.burst, .int .i64 y1.k.least, .int .i64 y1.t, .int .i64 y1.clp]), (0, .pointer (some ⟨nd2, 0, none⟩))]) (by kernel_rfl) ?_
     have hg2 : ((doV (roomsN rs) (filP LS ((port : Nat) : Int)) y1) != (doV (roomsN rs) LS y1)) = false := (by rw [bne_eq_false_iff_eq, hlv])
     refine VT_eq [(5, .bool false), (4, .bool false), (2, .int .i64 (doV (roomsN rs) (filP LS ((port : Nat) : Int)) y1)), (3, .int .i64 (doV (roomsN rs) LS y1)), (1, .agg #[.int .i64 y1.d, .int .i64 y1.p, .int .i64 y1.v, .int .i64 y1.c, .int .i64 y1.k.kind, .int .i64 y1.k.peak, .int .i64 y1.k.early, .int .i64 y1.k.whole, .int .i64 y1.k.burst, .int .i64 y1.k.least, .int .i64 y1.t, .int .i64 y1.clp]), (0, .pointer (some ⟨nd2, 0, none⟩))] (by simp only [hg2, Bool.not_true, Bool.not_false]) ?_
     refine VT_pures 1 (kn' := [(6, .pointer (some ⟨nd1, 0, none⟩)), (5, .bool false), (4, .bool false), (2, .int .i64 (doV (roomsN rs) (filP LS ((port : Nat) : Int)) y1)), (3, .int .i64 (doV (roomsN rs) LS y1)), (1, .agg #[.int .i64 y1.d, .int .i64 y1.p, .int .i64 y1.v, .int .i64 y1.c, .int .i64 y1.k.kind, .int .i64 y1.k.peak, .int .i64 y1.k.early, .int .i64 y1.k.whole, .int .i64 y1.k.burst, .int .i64 y1.k.least, .int .i64 y1.t, .int .i64 y1.clp]), (0, .pointer (some ⟨nd2, 0, none⟩))]) (by kernel_rfl) ?_
     refine VT_load (d := 58) (t := 5) (a := ⟨b1, 0, none⟩) (v := .int .u8 ((port : Nat) : Int)) (by kernel_rfl) (by kernel_rfl) ?_ ?_
     ·intro w16 hr2
      replace ho1 := ho1.step hr2 (fun h9 => Or.elim h9 hnxb1 (fun h8 => by (try simp only at h8); omega))
      replace ho3 := ho3.step hr2 (fun h9 => Or.elim h9 hnxb2 (fun h8 => by (try simp only at h8); omega))
      exact (Loads.own1 ho1 (by kernel_rfl) (by rfl))
     refine VT_pures 2 (kn' := [(10, .pointer (some ⟨nd2, 0, none⟩)), (8, .int .i64 (IntKind.wrap .i64 ((port : Nat) : Int))), (7, .int .u8 ((port : Nat) : Int)), (6, .pointer (some ⟨nd1, 0, none⟩)), (5, .bool false), (4, .bool false), (2, .int .i64 (doV (roomsN rs) (filP LS ((port : Nat) : Int)) y1)), (3, .int .i64 (doV (roomsN rs) LS y1)), (1, .agg #[.int .i64 y1.d, .int .i64 y1.p, .int .i64 y1.v, .int .i64 y1.c, .int .i64 y1.k.kind, .int .i64 y1.k.peak, .int .i64 y1.k.early, .int .i64 y1.k.whole, .int .i64 y1.k.burst, .int .i64 y1.k.least, .int .i64 y1.t, .int .i64 y1.clp]), (0, .pointer (some ⟨nd2, 0, none⟩))]) (by kernel_rfl) ?_
     refine VT_load (d := 62) (t := 5) (a := ⟨b1, 0, none⟩) (v := .int .u8 ((port : Nat) : Int)) (by kernel_rfl) (by kernel_rfl) ?_ ?_
     ·intro w17 hr3
      replace ho1 := ho1.step hr3 (fun h9 => Or.elim h9 hnxb1 (fun h8 => by (try simp only at h8); omega))
      replace ho3 := ho3.step hr3 (fun h9 => Or.elim h9 hnxb2 (fun h8 => by (try simp only at h8); omega))
      exact (Loads.own1 ho1 (by kernel_rfl) (by rfl))
     refine VT_pures 1 (kn' := [(12, .int .i64 (IntKind.wrap .i64 ((port : Nat) : Int))), (11, .int .u8 ((port : Nat) : Int)), (10, .pointer (some ⟨nd2, 0, none⟩)), (8, .int .i64 (IntKind.wrap .i64 ((port : Nat) : Int))), (7, .int .u8 ((port : Nat) : Int)), (6, .pointer (some ⟨nd1, 0, none⟩)), (5, .bool false), (4, .bool false), (2, .int .i64 (doV (roomsN rs) (filP LS ((port : Nat) : Int)) y1)), (3, .int .i64 (doV (roomsN rs) LS y1)), (1, .agg #[.int .i64 y1.d, .int .i64 y1.p, .int .i64 y1.v, .int .i64 y1.c, .int .i64 y1.k.kind, .int .i64 y1.k.peak, .int .i64 y1.k.early, .int .i64 y1.k.whole, .int .i64 y1.k.burst, .int .i64 y1.k.least, .int .i64 y1.t, .int .i64 y1.clp]), (0, .pointer (some ⟨nd2, 0, none⟩))]) (by kernel_rfl) ?_
     refine VT_chain (by kernel_rfl) ?_
     intro w18 hs3
     have hzhs3 := hs3.size
     replace hS := Step.trans hS hs3
     replace hA := hA.no hs3
     replace hA2 := hA2.no hs3
     replace ho1 := ho1.no hs3
     replace hwr := Nat.le_trans hwr (hs3).size
     replace ho3 := ho3.no hs3
     replace hN3 := NdP.no hN3 hs3
     replace hszhN3 := Nat.le_trans hszhN3 (hs3).size
     replace hN4 := NdP.no hN4 hs3
     replace hszhN4 := Nat.le_trans hszhN4 (hs3).size
     have hzs13 := hS.size
     have hzl24 := ho1.lt
     have hzl25 := ho3.lt
     have hzl26 := NdP.lt hN3
     have hzl27 := NdP.lt hN4
     refine VTc_call (d := 60) (f := 9) (args := #[.pointer (some ⟨nd1, 0, none⟩), .int .i64 (IntKind.wrap .i64 ((port : Nat) : Int))]) (by kernel_rfl) (by kernel_rfl) (by kernel_rfl) Try.call9 (nleft hN3 (IntKind.wrap .i64 ((port : Nat) : Int))) ?_ ?_
     ·rintro _ w19 ⟨rfl, hc8⟩
      exact Step.mono hc8 (by intro i hi; first | exact hi.elim | exact .inl hi | ((try simp only at hi ⊢); omega))
     rintro _ w19 ⟨rfl, hc8⟩
     have hzhc8 := (hc8).size
     replace hS := Step.trans hS hc8
     replace hA := hA.no hc8
     replace hA2 := hA2.no hc8
     replace ho1 := ho1.no hc8
     replace hwr := Nat.le_trans hwr (hc8).size
     replace ho3 := ho3.no hc8
     replace hN3 := NdP.no hN3 hc8
     replace hszhN3 := Nat.le_trans hszhN3 (hc8).size
     replace hN4 := NdP.no hN4 hc8
     replace hszhN4 := Nat.le_trans hszhN4 (hc8).size
     refine VT_end ?_
     intro w20 hs4
     replace hS := Step.trans hS hs4
     replace hA := hA.no hs4
     replace hA2 := hA2.no hs4
     replace ho1 := ho1.no hs4
     replace hwr := Nat.le_trans hwr (hs4).size
     replace ho3 := ho3.no hs4
     replace hN3 := NdP.no hN3 hs4
     replace hszhN3 := Nat.le_trans hszhN3 (hs4).size
     replace hN4 := NdP.no hN4 hs4
     replace hszhN4 := Nat.le_trans hszhN4 (hs4).size
     refine VL_keep [1, 5, 7, 8, 34, 35, 56, 61, 63, 60] [(1, .slice (some ⟨sb1, so1, none⟩) m2 c2), (5, .pointer (some ⟨b1, 0, none⟩)), (7, .pointer (some ⟨nd1, 0, none⟩)), (8, .pointer (some ⟨nd2, 0, none⟩)), (34, .int .i64 ((m2 : Nat) : Int)), (35, .int .i64 ((iS : Nat) : Int)), (56, .bool false), (61, .pointer (some ⟨nd2, 0, none⟩)), (63, .int .i64 (IntKind.wrap .i64 ((port : Nat) : Int))), (60, .int .i64 (leftN (roomsN rs) L2 (IntKind.wrap .i64 ((port : Nat) : Int))))] (by kernel_rfl) ?_
     have hzs14 := hS.size
     have hzl28 := ho1.lt
     have hzl29 := ho3.lt
     have hzl30 := NdP.lt hN3
     have hzl31 := NdP.lt hN4
     refine VL_call (d := 64) (f := 9) (args := #[.pointer (some ⟨nd2, 0, none⟩), .int .i64 (IntKind.wrap .i64 ((port : Nat) : Int))]) (by kernel_rfl) (by kernel_rfl) (by kernel_rfl) Try.call9 (nleft hN4 (IntKind.wrap .i64 ((port : Nat) : Int))) ?_
     rintro _ w21 ⟨rfl, hc9⟩
     replace hS := Step.trans hS hc9
     replace hA := hA.no hc9
     replace hA2 := hA2.no hc9
     replace ho1 := ho1.no hc9
     replace hwr := Nat.le_trans hwr (hc9).size
     replace ho3 := ho3.no hc9
     replace hN3 := NdP.no hN3 hc9
     replace hszhN3 := Nat.le_trans hszhN3 (hc9).size
     replace hN4 := NdP.no hN4 hc9
     replace hszhN4 := Nat.le_trans hszhN4 (hc9).size
     refine VL_pure 16 [1, 5, 7, 8, 34, 35, 66] [(1, .slice (some ⟨sb1, so1, none⟩) m2 c2), (5, .pointer (some ⟨b1, 0, none⟩)), (7, .pointer (some ⟨nd1, 0, none⟩)), (8, .pointer (some ⟨nd2, 0, none⟩)), (34, .int .i64 ((m2 : Nat) : Int)), (35, .int .i64 ((iS : Nat) : Int)), (66, .bool ((leftN (roomsN rs) L2 (IntKind.wrap .i64 ((port : Nat) : Int))) != (leftN (roomsN rs) (doL (roomsN rs) (filP LS ((port : Nat) : Int)) y1) (IntKind.wrap .i64 ((port : Nat) : Int)))))] (by kernel_rfl) rfl ?_
     refine VL_end (by kernel_rfl) ?_
     refine VQ_next ?_
     refine VC_is (b := (leftN (roomsN rs) L2 (IntKind.wrap .i64 ((port : Nat) : Int))) != (leftN (roomsN rs) (doL (roomsN rs) (filP LS ((port : Nat) : Int)) y1) (IntKind.wrap .i64 ((port : Nat) : Int)))) false (by kernel_rfl) (by rw [bne_eq_false_iff_eq, hpw, hll]) ?_
     refine VC_ite_false ?_
     refine VC_skip ?_
     refine VQ_block_normal ?_
     refine VQ_next ?_
     refine VC_region ?_
     refine VL_pure 1 [1, 5, 7, 8, 34, 67] [(1, .slice (some ⟨sb1, so1, none⟩) m2 c2), (5, .pointer (some ⟨b1, 0, none⟩)), (7, .pointer (some ⟨nd1, 0, none⟩)), (8, .pointer (some ⟨nd2, 0, none⟩)), (34, .int .i64 ((m2 : Nat) : Int)), (67, .int .i64 (IntKind.wrap .i64 (((iS : Nat) : Int) + 1)))] (by kernel_rfl) rfl ?_
     have he3 : IntKind.wrap .i64 (((iS : Nat) : Int) + 1) = ((iS + 1 : Nat) : Int) := (by rw [wrap_i64 _ (by omega) (by omega)]; omega)
     refine VL_eq [(1, .slice (some ⟨sb1, so1, none⟩) m2 c2), (5, .pointer (some ⟨b1, 0, none⟩)), (7, .pointer (some ⟨nd1, 0, none⟩)), (8, .pointer (some ⟨nd2, 0, none⟩)), (34, .int .i64 ((m2 : Nat) : Int)), (67, .int .i64 ((iS + 1 : Nat) : Int))] (by rw [he3]) ?_
     refine VL_pure 2 [1, 5, 7, 8, 34, 35] [(1, .slice (some ⟨sb1, so1, none⟩) m2 c2), (5, .pointer (some ⟨b1, 0, none⟩)), (7, .pointer (some ⟨nd1, 0, none⟩)), (8, .pointer (some ⟨nd2, 0, none⟩)), (34, .int .i64 ((m2 : Nat) : Int)), (35, .int .i64 ((iS + 1 : Nat) : Int))] (by kernel_rfl) rfl ?_
     refine VL_end (by kernel_rfl) ?_
     refine VQ_again ⟨iS + 1, L2, X3, X4⟩ ⟨rfl, rfl, rfl, rfl, rfl, rfl, trivial⟩ ?_ ?_
     ·exact ⟨by (try dsimp only); omega, by (try dsimp only); omega, hN3, (by have h9 := hN4; rw [hlf, ← hL2E] at h9; exact h9), hdis9, hS, hA, hA2, ho1⟩
     ·(try dsimp only); omega
   ·refine VC_exit ?_
    refine VQ_then_exit ?_
    refine VQ_then_exit ?_
    refine VQ_block_hit ?_
    refine VQ_next ?_
    refine VC_seq ?_
    have hls64 := NdP.len hNSa
    refine VC_region ?_
    have hzl32 := NdP.lt hNSa
    have hzl33 := NdP.lt hNSb
    have hzs15 := hS.size
    have hzl34 := ho1.lt
    have hzk2 := hwr
    refine VL_box (d := 12) (t := 35) (c := #[.slice none 0 0]) (by kernel_rfl) (by kernel_rfl) ?_
    intro b3 w22 hn3
    replace hNSa := NdP.no hNSa (hn3.step No)
    replace hNSb := NdP.no hNSb (hn3.step No)
    replace hS := Step.trans hS (hn3.step No)
    replace hA := hA.no (hn3.step No)
    replace hA2 := hA2.no (hn3.step No)
    replace ho1 := ho1.no (hn3.step No)
    replace hwr := Nat.le_trans hwr (hn3.step No).size
    have ho4 := hn3.own
    have hzhn3 := hn3.size
    have hqhn3 := hn3.eqb
    refine VL_end (by kernel_rfl) ?_
    refine VQ_next ?_
    refine VC_seq ?_
    refine VC_seq ?_
    refine VC_region ?_
    refine VL_pure 1 [5, 8, 12, 68] [(5, .pointer (some ⟨b1, 0, none⟩)), (8, .pointer (some ⟨nd2, 0, none⟩)), (12, .pointer (some ⟨b3, 0, none⟩)), (68, .pointer (some ⟨nd1, 0, none⟩))] (by kernel_rfl) rfl ?_
    have hzl35 := NdP.lt hNSa
    have hzl36 := NdP.lt hNSb
    have hzs16 := hS.size
    have hzl37 := ho1.lt
    have hzl38 := ho4.lt
    refine VL_call (d := 69) (f := 10) (args := #[.pointer (some ⟨nd1, 0, none⟩)]) (by kernel_rfl) (by kernel_rfl) (by kernel_rfl) Try.call10 (nall_any nd1 _) ?_
    rintro _ w23 ⟨bb1, rfl, hfbb1, hbb1, hc10⟩
    replace hNSa := NdP.no hNSa hc10
    replace hNSb := NdP.no hNSb hc10
    replace hS := Step.trans hS hc10
    replace hA := hA.no hc10
    replace hA2 := hA2.no hc10
    replace ho1 := ho1.no hc10
    replace hwr := Nat.le_trans hwr (hc10).size
    replace ho4 := ho4.no hc10
    have hzbb1 := hbb1.lt
    refine VL_end (by kernel_rfl) ?_
    refine VQ_next ?_
    refine VC_block ?_
    have hzl39 := NdP.lt hNSa
    have hzl40 := NdP.lt hNSb
    have hzs17 := hS.size
    have hzl41 := ho1.lt
    have hzk3 := hwr
    have hzl42 := ho4.lt
    have hzl43 := hbb1.lt
    have hzl44 := NdP.lt hNSa
    have hzl45 := NdP.lt hNSb
    have hzs18 := hS.size
    have hzl46 := ho1.lt
    have hzk4 := hwr
    have hzl47 := ho4.lt
    have hzl48 := hbb1.lt
    refine VC_range2 (gf := 25) (lb := #[.pointer (some ⟨bb1, 0, none⟩)]) (xs := (keyV LS)) (by kernel_rfl) Try.call25 (niter bb1 nd1 lo1 XS (roomsN rs) LS iS) (keyV_sz LS) (by kernel_rfl) (fun M i => i = b3 ∨ M ≤ i) (fun M i hi => by (try simp only at hi); omega) (fun M k W => w23.heap.size + 2 ≤ M ∧ (NdP W nd1 XS lo1 (roomsN rs) LS iS) ∧ (NdP W nd2 XT lo2 (roomsN rs) (filP LS ((port : Nat) : Int)) iS) ∧ (Step No w W) ∧ (Sl W w.heap.size A (iL .i64 rs)) ∧ (Sl W w.heap.size A2 (flat opc os)) ∧ (Own W b1 #[.int .u8 ((port : Nat) : Int)] 5) ∧ (wr.heap.size ≤ W.heap.size) ∧ (Own W bb1 #[.pointer (some ⟨nd1, 0, none⟩)] 25) ∧ ∃ A9 m9 c9, Own W b3 #[.slice A9 m9 c9] 35 ∧ RwS W 3 M 28 A9 m9 c9 (flat keyc (filP (LS.take k) ((port : Nat) : Int)))) (by rintro M k W W' ⟨hMm, hNSa, hNSb, hS, hA, hA2, ho1, hwr, hbb1, A9, m9, c9, ho4, hr9⟩ hs; exact ⟨hMm, NdP.step hNSa hs (fun k9 hk9 hG => by have h8 := hXwnd1 k9 hk9; have h7 : k9 = (w23.heap.size + 1) := hG; omega), NdP.step hNSb hs (fun k9 hk9 hG => by have h8 := hXwnd2 k9 hk9; have h7 : k9 = (w23.heap.size + 1) := hG; omega), Step.transNew hS hs (fun i9 hi9 hG => by have h7 : i9 = (w23.heap.size + 1) := hG; omega), hA.step hs (fun k9 hk9 hG => by have h7 : k9 = (w23.heap.size + 1) := hG; omega), hA2.step hs (fun k9 hk9 hG => by have h7 : k9 = (w23.heap.size + 1) := hG; omega), ho1.step hs (fun hG => by have h7 : b1 = (w23.heap.size + 1) := hG; omega), Nat.le_trans hwr hs.size, hbb1.step hs (fun hG => by have h7 : bb1 = (w23.heap.size + 1) := hG; omega), A9, m9, c9, ho4.step hs (fun hG => by have h7 : b3 = (w23.heap.size + 1) := hG; omega), hr9.step hs (fun k9 hk9 hG => by have h7 : k9 = (w23.heap.size + 1) := hG; omega)⟩) (by rintro M k W W' ⟨hMm, hNSa, hNSb, hS, hA, hA2, ho1, hwr, hbb1, A9, m9, c9, ho4, hr9⟩ hs; exact ⟨hMm, NdP.step hNSa hs (fun k9 hk9 hG => by have h8 := hXwnd1 k9 hk9; have h7 := hG.1; have h6 := hG.2; omega), NdP.step hNSb hs (fun k9 hk9 hG => by have h8 := hXwnd2 k9 hk9; have h7 := hG.1; have h6 := hG.2; omega), Step.transNew hS hs (fun i9 hi9 hG => by have h7 := hG.1; have h6 := hG.2; omega), hA.step hs (fun k9 hk9 hG => by have h7 := hG.1; have h6 := hG.2; omega), hA2.step hs (fun k9 hk9 hG => by have h7 := hG.1; have h6 := hG.2; omega), ho1.step hs (fun hG => by have h7 := hG.1; have h6 := hG.2; omega), Nat.le_trans hwr hs.size, hbb1.step hs (fun hG => by have h7 := hG.1; have h6 := hG.2; omega), A9, m9, c9, ho4.step hs (fun hG => by have h7 := hG.1; have h6 := hG.2; omega), hr9.step hs (fun k9 hk9 hG => by have h7 := hG.1; have h6 := hG.2; omega)⟩) (by rintro M k W ⟨hMm, hNSa, hNSb, hS, hA, hA2, ho1, hwr, hbb1, A9, m9, c9, ho4, hr9⟩; exact fun _ => ⟨hbb1, hNSa⟩) (fun W hs _ => ⟨hbb1.no hs, hNSa.no hs⟩) (fun M W hMm hM2 hs _ => ⟨hMm, NdP.no hNSa hs, NdP.no hNSb hs, Step.trans hS hs, hA.no hs, hA2.no hs, ho1.no hs, Nat.le_trans hwr hs.size, hbb1.no hs, none, 0, 0, ho4.no hs, RwS.nil _ _ _ _⟩) ?_ ?_
    ·intro M k w24 args hM hM2 hx hJ0 hsz
     obtain ⟨hMm, hNSa, hNSb, hS, hA, hA2, ho1, hwr, hbb1, A9, m9, c9, ho4, hr9⟩ := hJ0
     obtain ⟨y, hy, rfl⟩ := keyV_inv hx
     have hAs : Step No w24 w24 := Step.refl _ _
     have hML : M ≤ w24.heap.size := hM2
     have hky := (List.getElem?_eq_some_iff.1 hy).1
     have hlr : (filP (LS.take k) ((port : Nat) : Int)).length = m9 := by have hq9 := RwS.len hr9; rw [flat_len keyc_len] at hq9; omega
     have hub9 := hr9.ub
     have hlq : m9 ≤ 64 := by have h7 := filP_len (LS.take k) ((port : Nat) : Int); have h6 : (LS.take k).length ≤ LS.length := (by rw [List.length_take]; omega); omega
     refine VC_keep [5, 12, 70] [(5, .pointer (some ⟨b1, 0, none⟩)), (12, .pointer (some ⟨b3, 0, none⟩)), (70, .agg #[.int .i64 y.p, .int .i64 y.v, .int .i64 y.c])] (by kernel_rfl) ?_
     refine VC_region ?_
     have hzl49 := NdP.lt hNSa
     have hzl50 := NdP.lt hNSb
     have hzs19 := hS.size
     have hzl51 := ho1.lt
     have hzk5 := hwr
     have hzl52 := hbb1.lt
     have hzl53 := ho4.lt
     have hzk6 := hML
     have hzs20 := hAs.size
     refine VL_box (d := 13) (t := 28) (c := #[.int .i64 0, .int .i64 0, .int .i64 0]) (by kernel_rfl) (by kernel_rfl) ?_
     intro b4 w25 hn4
     replace hNSa := NdP.no hNSa (hn4.step No)
     replace hNSb := NdP.no hNSb (hn4.step No)
     replace hS := Step.trans hS (hn4.step No)
     replace hA := hA.no (hn4.step No)
     replace hA2 := hA2.no (hn4.step No)
     replace ho1 := ho1.no (hn4.step No)
     replace hwr := Nat.le_trans hwr (hn4.step No).size
     replace hbb1 := hbb1.no (hn4.step No)
     replace ho4 := ho4.no (hn4.step No)
     replace hr9 := hr9.no (hn4.step No)
     replace hML := Nat.le_trans hML (hn4.step No).size
     replace hAs := Step.trans hAs (hn4.step No)
     have ho5 := hn4.own
     have hzhn4 := hn4.size
     have hqhn4 := hn4.eqb
     refine VL_store (b := b4) (o := 0) (vs := [.int .i64 y.p, .int .i64 y.v, .int .i64 y.c]) (by kernel_rfl) (by kernel_rfl) ho5 (Nat.le_of_ble_eq_true (by kernel_rfl)) ?_
     intro w26 hw2
     replace hNSa := NdP.blk hNSa ho5 (by decide) hw2.step
     replace hNSb := NdP.blk hNSb ho5 (by decide) hw2.step
     replace hS := Step.transNew hS hw2.step (fun _ _ _ => by omega)
     replace hA := hA.step hw2.step (fun k hk (hF : k = b4) => by omega)
     replace hA2 := hA2.step hw2.step (fun k hk (hF : k = b4) => by omega)
     replace ho1 := ho1.step hw2.step (show ¬ b1 = b4 by omega)
     replace hwr := Nat.le_trans hwr (hw2.step).size
     replace hbb1 := hbb1.step hw2.step (show ¬ bb1 = b4 by omega)
     replace ho4 := ho4.step hw2.step (show ¬ b3 = b4 by omega)
     replace hr9 := hr9.stepU hub9 hw2.step (fun k hk1 hk2 (hF : k = b4) => by omega)
     replace hML := Nat.le_trans hML (hw2.step).size
     replace hAs := Step.transNew hAs hw2.step (fun _ _ _ => by omega)
     have ho6 : Own w26 b4 #[.int .i64 y.p, .int .i64 y.v, .int .i64 y.c] 28 := Own.cast hw2.own (by kernel_rfl)
     have hzhw2 := hw2.same
     refine VL_end (by kernel_rfl) ?_
     refine VQ_begin hAs ?_
     intro w27 hb1 hzhb1
     have hzl54 := NdP.lt hNSa
     have hzl55 := NdP.lt hNSb
     have hzs21 := hS.size
     have hzl56 := ho1.lt
     have hzk7 := hwr
     have hzl57 := hbb1.lt
     have hzl58 := ho4.lt
     have hzk8 := hML
     have hzl59 := ho6.lt
     replace hNSa := NdP.step hNSa hb1 (fun k9 hk9 hF9 => by have h8 := hXwnd1 k9 hk9; have h7 : k9 = (w23.heap.size + 1) := hF9; omega)
     replace hNSb := NdP.step hNSb hb1 (fun k9 hk9 hF9 => by have h8 := hXwnd2 k9 hk9; have h7 : k9 = (w23.heap.size + 1) := hF9; omega)
     replace hS := Step.transNew hS hb1 (fun _ _ _ => by omega)
     replace hA := hA.step hb1 (fun k hk (hF : k = (w23.heap.size + 1)) => by omega)
     replace hA2 := hA2.step hb1 (fun k hk (hF : k = (w23.heap.size + 1)) => by omega)
     replace ho1 := ho1.step hb1 (show ¬ b1 = (w23.heap.size + 1) by omega)
     replace hwr := Nat.le_trans hwr (hb1).size
     replace hbb1 := hbb1.step hb1 (show ¬ bb1 = (w23.heap.size + 1) by omega)
     replace ho4 := ho4.step hb1 (show ¬ b3 = (w23.heap.size + 1) by omega)
     replace hr9 := hr9.stepU hub9 hb1 (fun k hk1 hk2 (hF : k = (w23.heap.size + 1)) => by omega)
     replace hML := Nat.le_trans hML (hb1).size
     replace ho6 := ho6.step hb1 (show ¬ b4 = (w23.heap.size + 1) by omega)
     have hR1 : Step ((fun M i => i = b3 ∨ M ≤ i) M) w27 w27 := Step.refl _ _
     refine VC_block ?_
     refine VC_seq ?_
     refine VC_region ?_
     refine VL_pure 1 [5, 12, 13, 71] [(5, .pointer (some ⟨b1, 0, none⟩)), (12, .pointer (some ⟨b3, 0, none⟩)), (13, .pointer (some ⟨b4, 0, none⟩)), (71, .pointer (some ⟨b4, 0, none⟩))] (by kernel_rfl) rfl ?_
     refine VL_load (d := 72) (t := 3) (a := ⟨b4, 0, none⟩) (v := .int .i64 y.p) (by kernel_rfl) (by kernel_rfl) (Loads.own1 ho6 (by kernel_rfl) (by rfl)) ?_
     refine VL_load (d := 73) (t := 5) (a := ⟨b1, 0, none⟩) (v := .int .u8 ((port : Nat) : Int)) (by kernel_rfl) (by kernel_rfl) (Loads.own1 ho1 (by kernel_rfl) (by rfl)) ?_
     refine VL_pure 4 [12, 13, 72, 74] [(12, .pointer (some ⟨b3, 0, none⟩)), (13, .pointer (some ⟨b4, 0, none⟩)), (72, .int .i64 y.p), (74, .int .i64 (IntKind.wrap .i64 ((port : Nat) : Int)))] (by kernel_rfl) rfl ?_
     have he4 : IntKind.wrap .i64 ((port : Nat) : Int) = ((port : Nat) : Int) := (by rw [wrap_i64 _ (by omega) (by omega)])
     refine VL_eq [(12, .pointer (some ⟨b3, 0, none⟩)), (13, .pointer (some ⟨b4, 0, none⟩)), (72, .int .i64 y.p), (74, .int .i64 ((port : Nat) : Int))] (by rw [he4]) ?_
     refine VL_pure 5 [12, 13, 75] [(12, .pointer (some ⟨b3, 0, none⟩)), (13, .pointer (some ⟨b4, 0, none⟩)), (75, .bool (y.p == ((port : Nat) : Int)))] (by kernel_rfl) rfl ?_
     refine VL_end (by kernel_rfl) ?_
     refine VQ_next ?_
     refine VC_eq y.p ((port : Nat) : Int) (by kernel_rfl) (fun h4 => ?_) (fun h4 => ?_)
     ·refine VC_region ?_
      refine VL_load (d := 76) (t := 35) (a := ⟨b3, 0, none⟩) (v := .slice A9 m9 c9) (by kernel_rfl) (by kernel_rfl) (Loads.own1 ho4 (by kernel_rfl) (by rfl)) ?_
      refine VL_load (d := 77) (t := 28) (a := ⟨b4, 0, none⟩) (v := .agg #[.int .i64 y.p, .int .i64 y.v, .int .i64 y.c]) (by kernel_rfl) (by kernel_rfl) (Loads.ownL ho6 (n := 3) (by kernel_rfl) (by kernel_rfl) (by kernel_rfl)) ?_
      have hzl60 := NdP.lt hNSa
      have hzl61 := NdP.lt hNSb
      have hzs22 := hS.size
      have hzl62 := ho1.lt
      have hzk9 := hwr
      have hzl63 := hbb1.lt
      have hzl64 := ho4.lt
      have hzk10 := hML
      have hzl65 := ho6.lt
      have hzs23 := hR1.size
      refine VL_bs (d := 78) (e := 28) (c := #[.int .i64 y.p, .int .i64 y.v, .int .i64 y.c]) (len := 1) (by kernel_rfl) (by kernel_rfl) ?_
      intro b5 w28 hn5
      replace hNSa := NdP.no hNSa (hn5.step No)
      replace hNSb := NdP.no hNSb (hn5.step No)
      replace hS := Step.trans hS (hn5.step No)
      replace hA := hA.no (hn5.step No)
      replace hA2 := hA2.no (hn5.step No)
      replace ho1 := ho1.no (hn5.step No)
      replace hwr := Nat.le_trans hwr (hn5.step No).size
      replace hbb1 := hbb1.no (hn5.step No)
      replace ho4 := ho4.no (hn5.step No)
      replace hr9 := hr9.no (hn5.step No)
      replace hML := Nat.le_trans hML (hn5.step No).size
      replace ho6 := ho6.no (hn5.step No)
      replace hR1 := Step.trans hR1 (Step.weak (hn5.step No))
      have ho7 := hn5.own
      have hzhn5 := hn5.size
      have hqhn5 := hn5.eqb
      have hzl66 := NdP.lt hNSa
      have hzl67 := NdP.lt hNSb
      have hzs24 := hS.size
      have hzl68 := ho1.lt
      have hzk11 := hwr
      have hzl69 := hbb1.lt
      have hzl70 := ho4.lt
      have hzk12 := hML
      have hzl71 := ho6.lt
      have hzs25 := hR1.size
      have hzl72 := ho7.lt
      refine VL_appendZ (d := 79) (e := 28) (A := A9) (m := m9) (c := c9) (A2 := (some ⟨b5, 0, none⟩)) (m2 := 1) (c2 := 1) (sz := 3) (bytes := 24) (by kernel_rfl) (by kernel_rfl) (by kernel_rfl) M w28.heap.size (flat keyc (filP (LS.take k) ((port : Nat) : Int))) (flat keyc [y]) hr9 (by rw [flat_one, keyc_len]) (Sl.mono (Sl.cast (Own.sl ho7 ho7.lt) (by first | rfl | simp [flat])) (by first | exact Nat.le_refl _ | omega)) (flat_one' keyc_one _) (m9 + 1) (by omega) (by simp only [maxLen]; omega) (by omega) (by omega) ?_
      intro A1 c1 w29 hr4 hg3
      replace hr4 : RwS w29 3 M 28 A1 (m9 + 1) c1 (flat keyc ((filP (LS.take k) ((port : Nat) : Int)) ++ ([y]))) := RwS.cast hr4 rfl (by simp only [flat_append, flat_one, List.append_assoc, List.nil_append, List.append_nil, show flat keyc [] = [] from rfl])
      replace hg3 := Step.mono (G := fun k => M ≤ k) hg3 (fun i hi => (RwS.lt hr9 i hi).1)
      have hzhg3 := hg3.size
      replace hNSa := NdP.step hNSa hg3 (fun k9 hk9 hF9 => by have h8 := hXwnd1 k9 hk9; (try simp only at hF9); omega)
      replace hNSb := NdP.step hNSb hg3 (fun k9 hk9 hF9 => by have h8 := hXwnd2 k9 hk9; (try simp only at hF9); omega)
      replace hS := Step.transNew hS hg3 (fun i hi hG => by (try simp only at hG); omega)
      replace hA := hA.step hg3 (fun k hk hG => by (try simp only at hG); omega)
      replace hA2 := hA2.step hg3 (fun k hk hG => by (try simp only at hG); omega)
      replace ho1 := ho1.step hg3 (by (try simp only); omega)
      replace hwr := Nat.le_trans hwr (hg3).size
      replace hbb1 := hbb1.step hg3 (by (try simp only); omega)
      replace ho4 := ho4.step hg3 (by (try simp only); omega)
      replace hML := Nat.le_trans hML (hg3).size
      replace hR1 := Step.transNew hR1 hg3 (fun i hi hG => by (try simp only at hG); (first | show _ ∨ _ | show _ = _); omega)
      have hlhr4 : ((filP (LS.take k) ((port : Nat) : Int)) ++ ([y])).length = m9 + 1 := by have hq9 := RwS.len hr4; rw [flat_len keyc_len] at hq9; omega
      refine VL_store (b := b3) (o := 0) (vs := [.slice A1 (m9 + 1) c1]) (by kernel_rfl) (by kernel_rfl) ho4 (Nat.le_of_ble_eq_true (by kernel_rfl)) ?_
      intro w30 hw3
      replace hNSa := NdP.blk hNSa ho4 (by decide) hw3.step
      replace hNSb := NdP.blk hNSb ho4 (by decide) hw3.step
      replace hS := Step.transNew hS hw3.step (fun _ _ _ => by omega)
      replace hA := hA.step hw3.step (fun k hk (hF : k = b3) => by omega)
      replace hA2 := hA2.step hw3.step (fun k hk (hF : k = b3) => by omega)
      replace ho1 := ho1.step hw3.step (show ¬ b1 = b3 by omega)
      replace hwr := Nat.le_trans hwr (hw3.step).size
      replace hbb1 := hbb1.step hw3.step (show ¬ bb1 = b3 by omega)
      replace hML := Nat.le_trans hML (hw3.step).size
      replace hR1 := Step.trans hR1 (Step.mono hw3.step (by intro i hi; first | exact hi | exact ⟨_, by assumption, hi⟩ | (have hi9 : i = b3 := hi; (first | show _ ∨ _ | show _ = _); omega)))
      replace hr4 := hr4.step hw3.step (fun k hk (hF : k = b3) => by omega)
      have ho8 : Own w30 b3 #[.slice A1 (m9 + 1) c1] 35 := Own.cast hw3.own (by kernel_rfl)
      have hzhw3 := hw3.same
      refine VL_end (by kernel_rfl) ?_
      refine VQ_block_normal ?_
      exact VQ_round_end hR1 ⟨hMm, hNSa, hNSb, hS, hA, hA2, ho1, hwr, hbb1, A1, _, _, ho8, RwS.cast hr4 rfl (by rw [filP_next hy]; first | rw [if_pos (by assumption)] | rw [if_neg (by assumption)])⟩
     ·refine VC_skip ?_
      refine VQ_block_normal ?_
      exact VQ_round_end hR1 ⟨hMm, hNSa, hNSb, hS, hA, hA2, ho1, hwr, hbb1, A9, _, _, ho4, RwS.cast hr9 rfl (by rw [filP_next hy]; first | rw [if_pos (by assumption)] | rw [if_neg (by assumption)])⟩
    ·intro M w31 hM hzM hJ0 hD
     rw [keyV_len] at hJ0
     obtain ⟨hMm, hNSa, hNSb, hS, hA, hA2, ho1, hwr, hbb1, A9, m9, c9, ho4, hr9⟩ := hJ0
     have hlr : (filP (LS.take LS.length) ((port : Nat) : Int)).length = m9 := by have hq9 := RwS.len hr9; rw [flat_len keyc_len] at hq9; omega
     have hub9 := hr9.ub
     have hlq : m9 ≤ 64 := by have h7 := filP_len (LS.take LS.length) ((port : Nat) : Int); have h6 : (LS.take LS.length).length ≤ LS.length := (by rw [List.length_take]; omega); omega
     rw [List.take_length] at hr9 hlr
     have hmk1 := hD
     refine VQ_block_normal ?_
     refine VQ_next ?_
     refine VC_seq ?_
     refine VC_region ?_
     refine VL_pure 1 [12, 80] [(12, .pointer (some ⟨b3, 0, none⟩)), (80, .pointer (some ⟨nd2, 0, none⟩))] (by kernel_rfl) rfl ?_
     have hzl73 := NdP.lt hNSa
     have hzl74 := NdP.lt hNSb
     have hzs26 := hS.size
     have hzl75 := ho1.lt
     have hzl76 := hbb1.lt
     have hzl77 := ho4.lt
     have hzl78 := hmk1.lt
     refine VL_call (d := 81) (f := 11) (args := #[.pointer (some ⟨nd2, 0, none⟩)]) (by kernel_rfl) (by kernel_rfl) (by kernel_rfl) Try.call11 (keys_any hNSb) ?_
     rintro _ w32 ⟨A2, n1, c2, rfl, hlhK1, hK1, hc11⟩
     replace hNSa := NdP.no hNSa hc11
     replace hNSb := NdP.no hNSb hc11
     replace hS := Step.trans hS hc11
     replace hA := hA.no hc11
     replace hA2 := hA2.no hc11
     replace ho1 := ho1.no hc11
     replace hwr := Nat.le_trans hwr (hc11).size
     replace hbb1 := hbb1.no hc11
     replace ho4 := ho4.no hc11
     replace hr9 := hr9.no hc11
     replace hmk1 := hmk1.no hc11
     have hubhK1 := hK1.ub
     have hszhK1 := Nat.le_refl w32.heap.size
     refine VL_pure 3 [12, 14] [(12, .pointer (some ⟨b3, 0, none⟩)), (14, .slice A2 n1 c2)] (by kernel_rfl) rfl ?_
     refine VL_end (by kernel_rfl) ?_
     refine VQ_next ?_
     refine VC_seq ?_
     refine VC_seq ?_
     refine VC_region ?_
     refine VL_load (d := 82) (t := 35) (a := ⟨b3, 0, none⟩) (v := .slice A9 m9 c9) (by kernel_rfl) (by kernel_rfl) (Loads.own1 ho4 (by kernel_rfl) (by rfl)) ?_
     refine VL_pure 5 [12, 14, 86] [(12, .pointer (some ⟨b3, 0, none⟩)), (14, .slice A2 n1 c2), (86, .bool (((m9 : Nat) : Int) != ((n1 : Nat) : Int)))] (by kernel_rfl) rfl ?_
     refine VL_end (by kernel_rfl) ?_
     refine VQ_next ?_
     refine VC_is (b := ((m9 : Nat) : Int) != ((n1 : Nat) : Int)) false (by kernel_rfl) (by rw [bne_eq_false_iff_eq]; omega) ?_
     refine VC_ite_false ?_
     refine VC_skip ?_
     refine VQ_next ?_
     refine VC_seq ?_
     refine VC_seq ?_
     refine VC_region ?_
     refine VL_load (d := 87) (t := 35) (a := ⟨b3, 0, none⟩) (v := .slice A9 m9 c9) (by kernel_rfl) (by kernel_rfl) (Loads.own1 ho4 (by kernel_rfl) (by rfl)) ?_
     refine VL_pure 3 [12, 14, 88, 89] [(12, .pointer (some ⟨b3, 0, none⟩)), (14, .slice A2 n1 c2), (88, .int .i64 ((m9 : Nat) : Int)), (89, .int .i64 0)] (by kernel_rfl) rfl ?_
     refine VL_end (by kernel_rfl) ?_
     refine VQ_next ?_
     refine VC_block ?_
     refine VC_loop (σ := Nat) (fun σs => [(12, .pointer (some ⟨b3, 0, none⟩)), (14, .slice A2 n1 c2), (88, .int .i64 ((m9 : Nat) : Int)), (89, .int .i64 ((σs : Nat) : Int))]) (fun σs wp => σs ≤ m9 ∧ (NdP wp nd1 XS lo1 (roomsN rs) LS iS) ∧ (NdP wp nd2 XT lo2 (roomsN rs) (filP LS ((port : Nat) : Int)) iS) ∧ (Step No w wp) ∧ (Own wp b1 #[.int .u8 ((port : Nat) : Int)] 5) ∧ (wr.heap.size ≤ wp.heap.size) ∧ (Own wp bb1 #[.pointer (some ⟨nd1, 0, none⟩)] 25) ∧ (Own wp b3 #[.slice A9 m9 c9] 35) ∧ (Dfr wp (w23.heap.size)) ∧ (RwS wp 3 w31.heap.size 28 A2 n1 c2 (flat keyc (filP LS ((port : Nat) : Int)))) ∧ (w32.heap.size ≤ wp.heap.size) ∧ (RwS wp 3 M 28 A9 m9 c9 (flat keyc (filP LS ((port : Nat) : Int))))) (fun σs wp => m9 - σs) 0 ⟨rfl, rfl, rfl, rfl, trivial⟩ ?_ ?_
     ·exact ⟨Nat.zero_le _, hNSa, hNSb, hS, ho1, hwr, hbb1, ho4, hmk1, hK1, hszhK1, hr9⟩
     rintro jS wp ⟨hj0, hNSa, hNSb, hS, ho1, hwr, hbb1, ho4, hmk1, hK1, hszhK1, hr9⟩
     try dsimp only at hj0 hNSa hNSb hS ho1 hwr hbb1 ho4 hmk1 hK1 hszhK1 hr9 ⊢
     refine VC_seq ?_
     refine VC_region ?_
     refine VL_pure 1 [12, 14, 88, 89, 90] [(12, .pointer (some ⟨b3, 0, none⟩)), (14, .slice A2 n1 c2), (88, .int .i64 ((m9 : Nat) : Int)), (89, .int .i64 ((jS : Nat) : Int)), (90, .bool (decide (((jS : Nat) : Int) < ((m9 : Nat) : Int))))] (by kernel_rfl) rfl ?_
     refine VL_end (by kernel_rfl) ?_
     refine VQ_next ?_
     refine VC_seq ?_
     refine VC_dec (((jS : Nat) : Int) < ((m9 : Nat) : Int)) (by kernel_rfl) (fun h5 => ?_) (fun h5 => ?_)
     ·refine VC_skip ?_
      refine VQ_next ?_
      refine VC_seq ?_
      refine VC_block ?_
      refine VC_seq ?_
      refine VC_region ?_
      refine VL_pure 2 [12, 14, 88, 89, 15] [(12, .pointer (some ⟨b3, 0, none⟩)), (14, .slice A2 n1 c2), (88, .int .i64 ((m9 : Nat) : Int)), (89, .int .i64 ((jS : Nat) : Int)), (15, .int .i64 ((jS : Nat) : Int))] (by kernel_rfl) rfl ?_
      refine VL_end (by kernel_rfl) ?_
      refine VQ_next ?_
      refine VC_seq ?_
      obtain ⟨g1, cur1, rfl, hgbg1, hglg1, -⟩ := RwS.open hr9 (by omega)
      obtain ⟨g2, cur2, rfl, hgbg2, hglg2, -⟩ := RwS.open hK1 (by omega)
      obtain ⟨y2, hy2⟩ : ∃ x, (filP LS ((port : Nat) : Int))[jS]? = some x := ⟨_, List.getElem?_eq_getElem (by have hq9 : (filP LS ((port : Nat) : Int)).length = m9 := hlr; omega)⟩
      obtain ⟨y3, hy3⟩ : ∃ x, (filP LS ((port : Nat) : Int))[jS]? = some x := ⟨_, List.getElem?_eq_getElem (by have hq9 : (filP LS ((port : Nat) : Int)).length = n1 := hlhK1; omega)⟩
      refine VC_det [[], [], [0, 1], [0, 1, 2], [], [], [4, 5], [4, 5, 6], [0, 1, 2, 3, 4, 5, 6, 7]] 8 [.slice (some ⟨g1, 0, none⟩) m9 c9, .int .i64 ((jS : Nat) : Int), .pointer (some ⟨g1, jS * 3, none⟩), .agg #[.int .i64 y2.p, .int .i64 y2.v, .int .i64 y2.c], .slice (some ⟨g2, 0, none⟩) n1 c2, .int .i64 ((jS : Nat) : Int), .pointer (some ⟨g2, jS * 3, none⟩), .agg #[.int .i64 y3.p, .int .i64 y3.v, .int .i64 y3.c]] [1, 4, 5] [0, 2, 3, 6, 7] (by kernel_rfl) (by kernel_rfl) (by kernel_rfl) (by kernel_rfl) ?_ ?_
      ·intro w33 hs5
       replace hNSa := NdP.no hNSa hs5
       replace hNSb := NdP.no hNSb hs5
       replace hS := Step.trans hS hs5
       replace ho1 := ho1.no hs5
       replace hwr := Nat.le_trans hwr (hs5).size
       replace hbb1 := hbb1.no hs5
       replace ho4 := ho4.no hs5
       replace hmk1 := hmk1.no hs5
       replace hK1 := hK1.no hs5
       replace hszhK1 := Nat.le_trans hszhK1 (hs5).size
       replace hr9 := hr9.no hs5
       replace hglg1 := Nat.lt_of_lt_of_le hglg1 (hs5).size
       replace hglg2 := Nat.lt_of_lt_of_le hglg2 (hs5).size
       exact ⟨Det1_load (d := 92) (t := 35) (a := ⟨b3, 0, none⟩) (by kernel_rfl) (by kernel_rfl) (Loads.own1 ho4 (by kernel_rfl) (by rfl)), Det1_index (d := 94) (b := g1) (o := 0) (len := m9) (sz := 3) (m := ((jS : Nat) : Int)) (by kernel_rfl) (by kernel_rfl) jS (by rfl) (by omega) (jS * 3) (by omega), Det1_load (d := 95) (t := 28) (a := ⟨g1, jS * 3, none⟩) (by kernel_rfl) (by kernel_rfl) (Sl.flatAgg (sz := 3) (RwS.sl2 hr9).sl keyc_len hy2 0 3 (by kernel_rfl) (by decide) _ (by first | rfl | omega)), Det1_index (d := 98) (b := g2) (o := 0) (len := n1) (sz := 3) (m := ((jS : Nat) : Int)) (by kernel_rfl) (by kernel_rfl) jS (by rfl) (by omega) (jS * 3) (by omega), Det1_load (d := 99) (t := 28) (a := ⟨g2, jS * 3, none⟩) (by kernel_rfl) (by kernel_rfl) (Sl.flatAgg (sz := 3) (RwS.sl2 hK1).sl keyc_len hy3 0 3 (by kernel_rfl) (by decide) _ (by first | rfl | omega)), trivial⟩
      intro w33 hs5
      replace hNSa := NdP.no hNSa hs5
      replace hNSb := NdP.no hNSb hs5
      replace hS := Step.trans hS hs5
      replace ho1 := ho1.no hs5
      replace hwr := Nat.le_trans hwr (hs5).size
      replace hbb1 := hbb1.no hs5
      replace ho4 := ho4.no hs5
      replace hmk1 := hmk1.no hs5
      replace hK1 := hK1.no hs5
      replace hszhK1 := Nat.le_trans hszhK1 (hs5).size
      replace hr9 := hr9.no hs5
      replace hglg1 := Nat.lt_of_lt_of_le hglg1 (hs5).size
      replace hglg2 := Nat.lt_of_lt_of_le hglg2 (hs5).size
      refine VL_keep [12, 14, 88, 89, 95, 99] [(12, .pointer (some ⟨b3, 0, none⟩)), (14, .slice (some ⟨g2, 0, none⟩) n1 c2), (88, .int .i64 ((m9 : Nat) : Int)), (89, .int .i64 ((jS : Nat) : Int)), (95, .agg #[.int .i64 y2.p, .int .i64 y2.v, .int .i64 y2.c]), (99, .agg #[.int .i64 y3.p, .int .i64 y3.v, .int .i64 y3.c])] (by kernel_rfl) ?_
      refine VL_agEq (d := 100) (dd := 9) (ls := ([.int .i64] ++ [.int .i64] ++ [.int .i64] ++ [])) (pos := false) (t := 28) (xs := #[.int .i64 y2.p, .int .i64 y2.v, .int .i64 y2.c]) (ys := #[.int .i64 y3.p, .int .i64 y3.v, .int .i64 y3.c]) (by kernel_rfl) (by kernel_rfl) (by kernel_rfl) (by kernel_rfl) (by first | exact ⟨⟨_, rfl⟩, ⟨_, rfl⟩, ⟨_, rfl⟩, trivial⟩ | trivial) (by first | exact ⟨⟨_, rfl⟩, ⟨_, rfl⟩, ⟨_, rfl⟩, trivial⟩ | trivial) false (by obtain rfl := Option.some.inj (hy2.symm.trans hy3); simp [cellsEq, leafEq]) ?_
      refine VL_end (by kernel_rfl) ?_
      refine VQ_next ?_
      refine VC_false (by kernel_rfl) ?_
      refine VC_skip ?_
      refine VQ_block_normal ?_
      refine VQ_next ?_
      refine VC_region ?_
      refine VL_pure 1 [12, 14, 88, 101] [(12, .pointer (some ⟨b3, 0, none⟩)), (14, .slice (some ⟨g2, 0, none⟩) n1 c2), (88, .int .i64 ((m9 : Nat) : Int)), (101, .int .i64 (IntKind.wrap .i64 (((jS : Nat) : Int) + 1)))] (by kernel_rfl) rfl ?_
      have he5 : IntKind.wrap .i64 (((jS : Nat) : Int) + 1) = ((jS + 1 : Nat) : Int) := (by rw [wrap_i64 _ (by omega) (by omega)]; omega)
      refine VL_eq [(12, .pointer (some ⟨b3, 0, none⟩)), (14, .slice (some ⟨g2, 0, none⟩) n1 c2), (88, .int .i64 ((m9 : Nat) : Int)), (101, .int .i64 ((jS + 1 : Nat) : Int))] (by rw [he5]) ?_
      refine VL_pure 2 [12, 14, 88, 89] [(12, .pointer (some ⟨b3, 0, none⟩)), (14, .slice (some ⟨g2, 0, none⟩) n1 c2), (88, .int .i64 ((m9 : Nat) : Int)), (89, .int .i64 ((jS + 1 : Nat) : Int))] (by kernel_rfl) rfl ?_
      refine VL_end (by kernel_rfl) ?_
      refine VQ_again (jS + 1) ⟨rfl, rfl, rfl, rfl, trivial⟩ ?_ ?_
      ·exact ⟨by omega, hNSa, hNSb, hS, ho1, hwr, hbb1, ho4, hmk1, hK1, hszhK1, hr9⟩
      ·(try dsimp only); omega
     ·refine VC_exit ?_
      refine VQ_then_exit ?_
      refine VQ_then_exit ?_
      refine VQ_block_hit ?_
      refine VQ_next ?_
      refine VC_seq ?_
      refine VC_region ?_
      refine VL_pure 1 [6] [(6, .bool true)] (by kernel_rfl) rfl ?_
      refine VL_end (by kernel_rfl) ?_
      refine VQ_next ?_
      refine VC_ret ?_
      have hzl79 := NdP.lt hNSa
      have hzl80 := NdP.lt hNSb
      have hzs27 := hS.size
      have hzl81 := ho1.lt
      have hzk13 := hwr
      have hzl82 := hbb1.lt
      have hzl83 := ho4.lt
      have hzl84 := hmk1.lt
      have hzk14 := hszhK1
      refine VQ_retM1 (.bool true) [w23.heap.size] (.inr rfl) rfl rfl ⟨hmk1, (by simp), trivial⟩ ?_
      intro w34 hq3
      replace hq3 : Step (Just w23.heap.size) wp w34 := Step.mono hq3 (fun i hi => by simpa using hi)
      replace hS := Step.transNew hS hq3 (fun _ _ _ => by omega)
      replace ho1 := ho1.step hq3 (show ¬ b1 = w23.heap.size by omega)
      replace hwr := Nat.le_trans hwr (hq3).size
      replace hbb1 := hbb1.step hq3 (show ¬ bb1 = w23.heap.size by omega)
      replace ho4 := ho4.step hq3 (show ¬ b3 = w23.heap.size by omega)
      replace hszhK1 := Nat.le_trans hszhK1 (hq3).size
      replace hr9 := hr9.stepU hub9 hq3 (fun k hk1 hk2 (hF : k = w23.heap.size) => by omega)
      exact ⟨rfl, hS⟩

end Go.Proofs.Ythchmlidobgkoaa
end
