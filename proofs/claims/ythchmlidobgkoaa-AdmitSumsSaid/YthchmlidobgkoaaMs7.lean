import Derived.Test.YthchmlidobgkoaaProg
import Derived.Test.YthchmlidobgkoaaMs6
section
/- Layer 20: AdmitSums. -/
set_option linter.unusedVariables false
set_option linter.unusedSimpArgs false
namespace Go.Proofs.Ythchmlidobgkoaa
open Go.Vc Go.RowKit

set_option maxRecDepth 100000 in
set_option maxHeartbeats 4000000 in
theorem admitSums_any (A : Option Addr) (m c : Nat) (rs : List Int) (A2 : Option Addr) (m2 c2 : Nat) (os : List OpA) (w : World) (hrs : rs.length = m) (hmc : m ≤ c) (hA : Sl w w.heap.size A (iL .i64 rs)) (hos : os.length = m2) (hA2 : Sl w w.heap.size A2 (flat opc os)) (hmm : m2 ≤ maxLen)  :
  CV Try.prog 4 #[.slice A m c, .slice A2 m2 c2] w (fun x w1 => x = .bool true ∧ Step No w w1) := by
 have hS : Step No w w := Step.refl _ _
 refine CV_enterM Try.f4 _ 125 [(0, .slice A m c), (1, .slice A2 m2 c2)] Try.func4 rfl rfl (by kernel_rfl) rfl ?_
 refine VC_seq ?_
 refine VC_region ?_
 have hzs1 := hS.size
 refine VL_box (d := 2) (t := 22) (c := #[.slice A m c]) (by kernel_rfl) (by kernel_rfl) ?_
 intro b1 w1 hn1
 replace hS := Step.trans hS (hn1.step No)
 replace hA := hA.no (hn1.step No)
 replace hA2 := hA2.no (hn1.step No)
 have ho1 := hn1.own
 have hzhn1 := hn1.size
 have hqhn1 := hn1.eqb
 have hzs2 := hS.size
 have hzl1 := ho1.lt
 refine VL_box (d := 4) (t := 4) (c := #[.bool false]) (by kernel_rfl) (by kernel_rfl) ?_
 intro b2 w2 hn2
 replace hS := Step.trans hS (hn2.step No)
 replace hA := hA.no (hn2.step No)
 replace hA2 := hA2.no (hn2.step No)
 replace ho1 := ho1.no (hn2.step No)
 have ho2 := hn2.own
 have hzhn2 := hn2.size
 have hqhn2 := hn2.eqb
 refine VL_end (by kernel_rfl) ?_
 refine VQ_next ?_
 refine VC_seq ?_
 refine VC_seq ?_
 refine VC_region ?_
 have hzs3 := hS.size
 have hzl2 := ho1.lt
 have hzl3 := ho2.lt
 refine VL_call (d := 14) (f := 6) (args := #[]) (by kernel_rfl) (by kernel_rfl) (by kernel_rfl) Try.call6 (awake_any _) ?_
 rintro _ w3 ⟨rfl, hc1⟩
 replace hS := Step.trans hS hc1
 replace hA := hA.no hc1
 replace hA2 := hA2.no hc1
 replace ho1 := ho1.no hc1
 replace ho2 := ho2.no hc1
 refine VL_pure 8 [1, 2, 4, 21] [(1, .slice A2 m2 c2), (2, .pointer (some ⟨b1, 0, none⟩)), (4, .pointer (some ⟨b2, 0, none⟩)), (21, .bool (decide (((m2 : Nat) : Int) > 100)))] (by kernel_rfl) rfl ?_
 refine VL_dec (((m2 : Nat) : Int) > 100) (fun bV => [(1, .slice A2 m2 c2), (2, .pointer (some ⟨b1, 0, none⟩)), (4, .pointer (some ⟨b2, 0, none⟩)), (21, .bool bV)]) rfl (fun hg1 => ?_) (fun hg1 => ?_)
 ·refine VL_pure 12 [1, 2, 4, 25] [(1, .slice A2 m2 c2), (2, .pointer (some ⟨b1, 0, none⟩)), (4, .pointer (some ⟨b2, 0, none⟩)), (25, .bool true)] (by kernel_rfl) rfl ?_
  refine VL_end (by kernel_rfl) ?_
  refine VQ_next ?_
  refine VC_true (by kernel_rfl) ?_
  refine VC_seq ?_
  refine VC_region ?_
  have hzs4 := hS.size
  have hzl4 := ho1.lt
  have hzl5 := ho2.lt
  refine VL_call (d := 26) (f := 6) (args := #[]) (by kernel_rfl) (by kernel_rfl) (by kernel_rfl) Try.call6 (awake_any _) ?_
  rintro _ w4 ⟨rfl, hc2⟩
  replace hS := Step.trans hS hc2
  replace hA := hA.no hc2
  replace hA2 := hA2.no hc2
  replace ho1 := ho1.no hc2
  replace ho2 := ho2.no hc2
  refine VL_store (b := b2) (o := 0) (vs := [.bool true]) (by kernel_rfl) (by kernel_rfl) ho2 (Nat.le_of_ble_eq_true (by kernel_rfl)) ?_
  intro w5 hw1
  replace hS := Step.transNew hS hw1.step (fun _ _ _ => by omega)
  replace hA := hA.step hw1.step (fun k hk (hF : k = b2) => by omega)
  replace hA2 := hA2.step hw1.step (fun k hk (hF : k = b2) => by omega)
  replace ho1 := ho1.step hw1.step (show ¬ b1 = b2 by omega)
  have ho3 : Own w5 b2 #[.bool true] 4 := Own.cast hw1.own (by kernel_rfl)
  have hzhw1 := hw1.same
  refine VL_end (by kernel_rfl) ?_
  refine VQ_next ?_
  refine VC_ret ?_
  refine VQ_then_ret ?_
  have hzs5 := hS.size
  have hzl6 := ho1.lt
  have hzl7 := ho3.lt
  have hzr := ho3.lt
  refine VQ_retMC1 (.bool true) [] (.inr rfl) rfl rfl trivial (fun w9 hq9 => Loads.own1 (ho3.step hq9 (by simp; try omega)) (by kernel_rfl) rfl) ?_
  intro w6 hq1
  replace hq1 : Step No w5 w6 := Step.mono hq1 (fun i hi => by simp at hi)
  replace hS := Step.trans hS hq1
  replace hA := hA.no hq1
  replace hA2 := hA2.no hq1
  replace ho1 := ho1.no hq1
  replace ho3 := ho3.no hq1
  exact ⟨rfl, hS⟩
 ·refine VL_load (d := 22) (t := 22) (a := ⟨b1, 0, none⟩) (v := .slice A m c) (by kernel_rfl) (by kernel_rfl) (Loads.own1 ho1 (by kernel_rfl) (by rfl)) ?_
  refine VL_pure 12 [1, 2, 4, 25] [(1, .slice A2 m2 c2), (2, .pointer (some ⟨b1, 0, none⟩)), (4, .pointer (some ⟨b2, 0, none⟩)), (25, .bool (decide (((m : Nat) : Int) > 20)))] (by kernel_rfl) rfl ?_
  refine VL_end (by kernel_rfl) ?_
  refine VQ_next ?_
  refine VC_dec (((m : Nat) : Int) > 20) (by kernel_rfl) (fun h1 => ?_) (fun h1 => ?_)
  ·refine VC_seq ?_
   refine VC_region ?_
   have hzs6 := hS.size
   have hzl8 := ho1.lt
   have hzl9 := ho2.lt
   refine VL_call (d := 26) (f := 6) (args := #[]) (by kernel_rfl) (by kernel_rfl) (by kernel_rfl) Try.call6 (awake_any _) ?_
   rintro _ w7 ⟨rfl, hc3⟩
   replace hS := Step.trans hS hc3
   replace hA := hA.no hc3
   replace hA2 := hA2.no hc3
   replace ho1 := ho1.no hc3
   replace ho2 := ho2.no hc3
   refine VL_store (b := b2) (o := 0) (vs := [.bool true]) (by kernel_rfl) (by kernel_rfl) ho2 (Nat.le_of_ble_eq_true (by kernel_rfl)) ?_
   intro w8 hw2
   replace hS := Step.transNew hS hw2.step (fun _ _ _ => by omega)
   replace hA := hA.step hw2.step (fun k hk (hF : k = b2) => by omega)
   replace hA2 := hA2.step hw2.step (fun k hk (hF : k = b2) => by omega)
   replace ho1 := ho1.step hw2.step (show ¬ b1 = b2 by omega)
   have ho4 : Own w8 b2 #[.bool true] 4 := Own.cast hw2.own (by kernel_rfl)
   have hzhw2 := hw2.same
   refine VL_end (by kernel_rfl) ?_
   refine VQ_next ?_
   refine VC_ret ?_
   refine VQ_then_ret ?_
   have hzs7 := hS.size
   have hzl10 := ho1.lt
   have hzl11 := ho4.lt
   have hzr := ho4.lt
   refine VQ_retMC1 (.bool true) [] (.inr rfl) rfl rfl trivial (fun w9 hq9 => Loads.own1 (ho4.step hq9 (by simp; try omega)) (by kernel_rfl) rfl) ?_
   intro w9 hq2
   replace hq2 : Step No w8 w9 := Step.mono hq2 (fun i hi => by simp at hi)
   replace hS := Step.trans hS hq2
   replace hA := hA.no hq2
   replace hA2 := hA2.no hq2
   replace ho1 := ho1.no hq2
   replace ho4 := ho4.no hq2
   exact ⟨rfl, hS⟩
  ·refine VC_skip ?_
   refine VQ_next ?_
   refine VC_seq ?_
   refine VC_region ?_
   refine VL_load (d := 27) (t := 22) (a := ⟨b1, 0, none⟩) (v := .slice A m c) (by kernel_rfl) (by kernel_rfl) (Loads.own1 ho1 (by kernel_rfl) (by rfl)) ?_
   have hzs8 := hS.size
   have hzl12 := ho1.lt
   have hzl13 := ho2.lt
   refine VL_call (d := 28) (f := 7) (args := #[.slice A m c]) (by kernel_rfl) (by kernel_rfl) (by kernel_rfl) Try.call7 (nnew hrs hA (by omega) (by omega)) ?_
   rintro _ w10 ⟨nd1, X1, rfl, hN1, hXg1, hc4⟩
   replace hS := Step.trans hS hc4
   replace hA := hA.no hc4
   replace hA2 := hA2.no hc4
   replace ho1 := ho1.no hc4
   replace ho2 := ho2.no hc4
   have hXwnd1 := fun k9 hk9 => NdP.ltX hN1 (k := k9) hk9
   obtain ⟨lo1, hlo1E⟩ : ∃ x, x = w3.heap.size := ⟨_, rfl⟩
   rw [← hlo1E] at hN1
   have hzs9 := hS.size
   have hzl14 := ho1.lt
   have hzl15 := ho2.lt
   have hzl16 := NdP.lt hN1
   refine VL_box (d := 5) (t := 25) (c := #[.pointer none]) (by kernel_rfl) (by kernel_rfl) ?_
   intro b3 w11 hn3
   replace hS := Step.trans hS (hn3.step No)
   replace hA := hA.no (hn3.step No)
   replace hA2 := hA2.no (hn3.step No)
   replace ho1 := ho1.no (hn3.step No)
   replace ho2 := ho2.no (hn3.step No)
   replace hN1 := NdP.no hN1 (hn3.step No)
   have ho5 := hn3.own
   have hzhn3 := hn3.size
   have hqhn3 := hn3.eqb
   refine VL_store (b := b3) (o := 0) (vs := [.pointer (some ⟨nd1, 0, none⟩)]) (by kernel_rfl) (by kernel_rfl) ho5 (Nat.le_of_ble_eq_true (by kernel_rfl)) ?_
   intro w12 hw3
   replace hS := Step.transNew hS hw3.step (fun _ _ _ => by omega)
   replace hA := hA.step hw3.step (fun k hk (hF : k = b3) => by omega)
   replace hA2 := hA2.step hw3.step (fun k hk (hF : k = b3) => by omega)
   replace ho1 := ho1.step hw3.step (show ¬ b1 = b3 by omega)
   replace ho2 := ho2.step hw3.step (show ¬ b2 = b3 by omega)
   replace hN1 := NdP.blk hN1 ho5 (by decide) hw3.step
   have ho6 : Own w12 b3 #[.pointer (some ⟨nd1, 0, none⟩)] 25 := Own.cast hw3.own (by kernel_rfl)
   have hzhw3 := hw3.same
   refine VL_end (by kernel_rfl) ?_
   refine VQ_next ?_
   refine VC_seq ?_
   refine VC_seq ?_
   refine VC_region ?_
   refine VL_pure 3 [1, 2, 4, 5, 30, 31] [(1, .slice A2 m2 c2), (2, .pointer (some ⟨b1, 0, none⟩)), (4, .pointer (some ⟨b2, 0, none⟩)), (5, .pointer (some ⟨b3, 0, none⟩)), (30, .int .i64 ((m2 : Nat) : Int)), (31, .int .i64 0)] (by kernel_rfl) rfl ?_
   refine VL_end (by kernel_rfl) ?_
   refine VQ_next ?_
   refine VC_block ?_
   have hMk0 := MarksI.nil w12 w.heap.size w12.heap.size
   refine VC_loopD (σ := Nat × (Nat → Prop) × (List Cx) × (List Nat)) (fun σs => σs.2.2.2) (fun σs => [(1, .slice A2 m2 c2), (2, .pointer (some ⟨b1, 0, none⟩)), (4, .pointer (some ⟨b2, 0, none⟩)), (5, .pointer (some ⟨b3, 0, none⟩)), (30, .int .i64 ((m2 : Nat) : Int)), (31, .int .i64 ((σs.1 : Nat) : Int))]) (fun σs wr => σs.1 ≤ m2 ∧ NdP wr nd1 σs.2.1 lo1 (roomsN rs) σs.2.2.1 σs.1 ∧ MarksI wr w.heap.size wr.heap.size σs.2.2.2 ∧ (Step No w wr) ∧ (Sl wr w.heap.size A (iL .i64 rs)) ∧ (Sl wr w.heap.size A2 (flat opc os)) ∧ (Own wr b1 #[.slice A m c] 22) ∧ (Own wr b2 #[.bool false] 4) ∧ (Own wr b3 #[.pointer (some ⟨nd1, 0, none⟩)] 25)) (fun σs wr => m2 - σs.1) ⟨0, X1, ([] : List Cx), []⟩ (by rfl) ⟨rfl, rfl, rfl, rfl, rfl, rfl, trivial⟩ ?_ ?_
   ·exact ⟨Nat.zero_le _, hN1, hMk0, hS, hA, hA2, ho1, ho2, ho6⟩
   rintro ⟨iS, XS, LS, Ds⟩ wr ⟨hi0, hNSnd1, hMk, hS, hA, hA2, ho1, ho2, ho6⟩
   have hwr : wr.heap.size ≤ wr.heap.size := Nat.le_refl _
   try dsimp only at hi0 hNSnd1 hMk hS hA hA2 ho1 ho2 ho6 ⊢
   have hXwnd1 := fun k9 hk9 => NdP.ltX hNSnd1 (k := k9) hk9
   refine VC_seq ?_
   refine VC_region ?_
   refine VL_pure 1 [1, 2, 4, 5, 30, 31, 32] [(1, .slice A2 m2 c2), (2, .pointer (some ⟨b1, 0, none⟩)), (4, .pointer (some ⟨b2, 0, none⟩)), (5, .pointer (some ⟨b3, 0, none⟩)), (30, .int .i64 ((m2 : Nat) : Int)), (31, .int .i64 ((iS : Nat) : Int)), (32, .bool (decide (((iS : Nat) : Int) < ((m2 : Nat) : Int))))] (by kernel_rfl) rfl ?_
   refine VL_end (by kernel_rfl) ?_
   refine VQ_next ?_
   refine VC_seq ?_
   refine VC_dec (((iS : Nat) : Int) < ((m2 : Nat) : Int)) (by kernel_rfl) (fun h2 => ?_) (fun h2 => ?_)
   ·refine VC_skip ?_
    refine VQ_next ?_
    refine VC_seq ?_
    refine VC_block ?_
    refine VC_seq ?_
    refine VC_region ?_
    refine VL_pure 2 [1, 2, 4, 5, 30, 31, 6] [(1, .slice A2 m2 c2), (2, .pointer (some ⟨b1, 0, none⟩)), (4, .pointer (some ⟨b2, 0, none⟩)), (5, .pointer (some ⟨b3, 0, none⟩)), (30, .int .i64 ((m2 : Nat) : Int)), (31, .int .i64 ((iS : Nat) : Int)), (6, .int .i64 ((iS : Nat) : Int))] (by kernel_rfl) rfl ?_
    refine VL_end (by kernel_rfl) ?_
    refine VQ_next ?_
    refine VC_seq ?_
    obtain ⟨sb1, so1, rfl, hlbsb1⟩ := hA2.open (by first | (simp only [iL_length]; omega) | (rw [flat_len opc_len]; omega))
    have hs1 := drew_step wr
    have hs1z : wr.heap.size = wr.drew.heap.size := rfl
    refine VC_text [[], [], [], [1, 2], [1, 2, 3], [0, 1, 2, 3, 4]] 5 (fun x y => Step (fun k => wr.heap.size ≤ k) x y) [] [0, 1, 2, 3, 4] (by kernel_rfl) (by kernel_rfl) (by kernel_rfl) (by kernel_rfl) (fun x => Step.refl _ x) (fun h k => Step.trans h k) Step.weak ?_
    have hzl17 := NdP.lt hNSnd1
    have hzs10 := hS.size
    have hzl18 := ho1.lt
    have hzl19 := ho2.lt
    have hzl20 := ho6.lt
    have hzo1 := hwr
    generalize wr.drew = w13 at hs1 hs1z ⊢
    replace hNSnd1 := NdP.no hNSnd1 hs1
    replace hMk := MarksI.no hMk hs1
    replace hS := Step.trans hS hs1
    replace hA := hA.no hs1
    replace hA2 := hA2.no hs1
    replace ho1 := ho1.no hs1
    replace ho2 := ho2.no hs1
    replace ho6 := ho6.no hs1
    replace hwr := Nat.le_trans hwr (hs1).size
    refine VT_load (d := 34) (t := 25) (a := ⟨b3, 0, none⟩) (v := .pointer (some ⟨nd1, 0, none⟩)) (by kernel_rfl) (by kernel_rfl) ?_ ?_
    ·intro w14 hr1
     replace hNSnd1 := NdP.step hNSnd1 hr1 (fun k9 hk9 hF9 => by have h8 := hXwnd1 k9 hk9; (try simp only at hF9); omega)
     replace hMk := MarksI.keep hMk hr1 (fun D9 hD9 h18 h28 hF9 => by (try simp only at hF9); omega)
     replace hS := Step.transNew hS hr1 (fun i hi hG => by (try simp only at hG); omega)
     replace hA := hA.step hr1 (fun k hk hG => by (try simp only at hG); omega)
     replace hA2 := hA2.keepB hr1 (by (try simp only); omega)
     replace ho1 := ho1.step hr1 (by (try simp only); omega)
     replace ho2 := ho2.step hr1 (by (try simp only); omega)
     replace ho6 := ho6.step hr1 (by (try simp only); omega)
     replace hwr := Nat.le_trans hwr (hr1).size
     exact (Loads.own1 ho6 (by kernel_rfl) (by rfl))
    refine VT_pures 2 (kn' := [(2, .int .i64 ((iS : Nat) : Int)), (1, .slice (some ⟨sb1, so1, none⟩) m2 c2), (0, .pointer (some ⟨nd1, 0, none⟩))]) (by kernel_rfl) ?_
    refine VT_index (d := 37) (b := sb1) (o := so1) (len := m2) (sz := 12) (mm := ((iS : Nat) : Int)) (by kernel_rfl) (by kernel_rfl) iS (by rfl) (by omega) (so1 + iS * 12) (by omega) ?_
    obtain ⟨y1, hy1⟩ : ∃ x, os[iS]? = some x := ⟨_, List.getElem?_eq_getElem (by have hq9 : os.length = m2 := hos; omega)⟩
    refine VT_load (d := 38) (t := 32) (a := ⟨sb1, so1 + iS * 12, none⟩) (v := .agg #[.int .i64 y1.d, .int .i64 y1.p, .int .i64 y1.v, .int .i64 y1.c, .int .i64 y1.k.kind, .int .i64 y1.k.peak, .int .i64 y1.k.early, .int .i64 y1.k.whole, .int .i64 y1.k.burst, .int .i64 y1.k.least, .int .i64 y1.t, .int .i64 y1.clp]) (by kernel_rfl) (by kernel_rfl) ?_ ?_
    ·intro w15 hr2
     replace hNSnd1 := NdP.step hNSnd1 hr2 (fun k9 hk9 hF9 => by have h8 := hXwnd1 k9 hk9; (try simp only at hF9); omega)
     replace hMk := MarksI.keep hMk hr2 (fun D9 hD9 h18 h28 hF9 => by (try simp only at hF9); omega)
     replace hS := Step.transNew hS hr2 (fun i hi hG => by (try simp only at hG); omega)
     replace hA := hA.step hr2 (fun k hk hG => by (try simp only at hG); omega)
     replace hA2 := hA2.keepB hr2 (by (try simp only); omega)
     replace ho1 := ho1.step hr2 (by (try simp only); omega)
     replace ho2 := ho2.step hr2 (by (try simp only); omega)
     replace ho6 := ho6.step hr2 (by (try simp only); omega)
     replace hwr := Nat.le_trans hwr (hr2).size
     exact (Sl.flatAgg (sz := 12) hA2 opc_len hy1 0 12 (by kernel_rfl) (by decide) _ (by first | rfl | omega))
    refine VT_end ?_
    intro w16 hs2
    replace hNSnd1 := NdP.no hNSnd1 hs2
    replace hMk := MarksI.no hMk hs2
    replace hS := Step.trans hS hs2
    replace hA := hA.no hs2
    replace hA2 := hA2.no hs2
    replace ho1 := ho1.no hs2
    replace ho2 := ho2.no hs2
    replace ho6 := ho6.no hs2
    replace hwr := Nat.le_trans hwr (hs2).size
    refine VL_keep [1, 2, 4, 5, 30, 31, 34, 38] [(1, .slice (some ⟨sb1, so1, none⟩) m2 c2), (2, .pointer (some ⟨b1, 0, none⟩)), (4, .pointer (some ⟨b2, 0, none⟩)), (5, .pointer (some ⟨b3, 0, none⟩)), (30, .int .i64 ((m2 : Nat) : Int)), (31, .int .i64 ((iS : Nat) : Int)), (34, .pointer (some ⟨nd1, 0, none⟩)), (38, .agg #[.int .i64 y1.d, .int .i64 y1.p, .int .i64 y1.v, .int .i64 y1.c, .int .i64 y1.k.kind, .int .i64 y1.k.peak, .int .i64 y1.k.early, .int .i64 y1.k.whole, .int .i64 y1.k.burst, .int .i64 y1.k.least, .int .i64 y1.t, .int .i64 y1.clp])] (by kernel_rfl) ?_
    have hzl21 := NdP.lt hNSnd1
    have hzs11 := hS.size
    have hzl22 := ho1.lt
    have hzl23 := ho2.lt
    have hzl24 := ho6.lt
    refine VL_call (d := 39) (f := 8) (args := #[.pointer (some ⟨nd1, 0, none⟩), .agg #[.int .i64 y1.d, .int .i64 y1.p, .int .i64 y1.v, .int .i64 y1.c, .int .i64 y1.k.kind, .int .i64 y1.k.peak, .int .i64 y1.k.early, .int .i64 y1.k.whole, .int .i64 y1.k.burst, .int .i64 y1.k.least, .int .i64 y1.t, .int .i64 y1.clp]]) (by kernel_rfl) (by kernel_rfl) (by kernel_rfl) Try.call8 (do_any hNSnd1 (by omega) y1) ?_
    rintro _ w17 ⟨rfl, X2, hN2, hXg2, hc5⟩
    have hzhc5 := (hc5).size
    replace hMk := MarksI.keep hMk hc5 (fun D9 hD9 h18 h28 hX9 => NdP.dfr hNSnd1 hD9 hX9)
    replace hS := Step.transNew hS hc5 (fun i9 hi9 hX9 => by have h8 := NdP.low hNSnd1 hX9; omega)
    replace hA := hA.step hc5 (fun k9 hk9 hX9 => by have h8 := NdP.low hNSnd1 hX9; omega)
    replace hA2 := hA2.keepB hc5 (fun hX9 => by have h8 := NdP.low hNSnd1 hX9; omega)
    replace ho1 := ho1.step hc5 (NdP.nx hNSnd1 ho1 (by decide))
    replace ho2 := ho2.step hc5 (NdP.nx hNSnd1 ho2 (by decide))
    replace ho6 := ho6.step hc5 (NdP.nx hNSnd1 ho6 (by decide))
    replace hwr := Nat.le_trans hwr (Step.size hc5)
    have hXwnd1 := fun k9 hk9 => NdP.ltX hN2 (k := k9) hk9
    refine VL_end (by kernel_rfl) ?_
    refine VQ_next ?_
    refine VC_seq ?_
    obtain ⟨L2, hL2E⟩ : ∃ x, x = doL (roomsN rs) LS y1 := ⟨_, rfl⟩
    rw [← hL2E] at hN2
    refine VC_region ?_
    have hzs12 := hS.size
    have hzl25 := ho1.lt
    have hzl26 := ho2.lt
    have hzl27 := ho6.lt
    have hzk1 := hwr
    have hzl28 := NdP.lt hN2
    refine VL_make (t := 22) (a := 8) (b := 8) (e := 3) (d := 40) (k := .i64) (bytes := 8) (by kernel_rfl) (by kernel_rfl) (by kernel_rfl) (by kernel_rfl) 8 rfl rfl (by omega) (by omega) ?_
    intro g1 w18 hn4
    replace hMk := MarksI.no hMk (hn4.step No)
    replace hS := Step.trans hS (hn4.step No)
    replace hA := hA.no (hn4.step No)
    replace hA2 := hA2.no (hn4.step No)
    replace ho1 := ho1.no (hn4.step No)
    replace ho2 := ho2.no (hn4.step No)
    replace ho6 := ho6.no (hn4.step No)
    replace hwr := Nat.le_trans hwr (hn4.step No).size
    replace hN2 := NdP.no hN2 (hn4.step No)
    have hzhn4 := hn4.size
    have hqhn4 := hn4.eqb
    have hr3 := Rw.made hn4.own (by simp only [maxLen]; omega)
    have hbase1 : g1 ≤ w18.heap.size := by omega
    have hglg1 : g1 < w18.heap.size := by omega
    have hzs13 := hS.size
    have hzl29 := ho1.lt
    have hzl30 := ho2.lt
    have hzl31 := ho6.lt
    have hzk2 := hwr
    have hzl32 := NdP.lt hN2
    have hzk3 := hbase1
    have hzk4 := hglg1
    refine VL_box (d := 7) (t := 22) (c := #[.slice none 0 0]) (by kernel_rfl) (by kernel_rfl) ?_
    intro b4 w19 hn5
    replace hMk := MarksI.no hMk (hn5.step No)
    replace hS := Step.trans hS (hn5.step No)
    replace hA := hA.no (hn5.step No)
    replace hA2 := hA2.no (hn5.step No)
    replace ho1 := ho1.no (hn5.step No)
    replace ho2 := ho2.no (hn5.step No)
    replace ho6 := ho6.no (hn5.step No)
    replace hwr := Nat.le_trans hwr (hn5.step No).size
    replace hN2 := NdP.no hN2 (hn5.step No)
    replace hbase1 := Nat.le_trans hbase1 (hn5.step No).size
    replace hglg1 := Nat.lt_of_lt_of_le hglg1 (hn5.step No).size
    replace hr3 := hr3.no (hn5.step No)
    have ho7 := hn5.own
    have hzhn5 := hn5.size
    have hqhn5 := hn5.eqb
    refine VL_store (b := b4) (o := 0) (vs := [.slice (some ⟨g1, 0, none⟩) 8 8]) (by kernel_rfl) (by kernel_rfl) ho7 (Nat.le_of_ble_eq_true (by kernel_rfl)) ?_
    intro w20 hw4
    replace hMk := MarksI.own hMk ho7 hw4.step
    replace hS := Step.transNew hS hw4.step (fun _ _ _ => by omega)
    replace hA := hA.step hw4.step (fun k hk (hF : k = b4) => by omega)
    replace hA2 := hA2.keepB hw4.step (show ¬ sb1 = b4 by omega)
    replace ho1 := ho1.step hw4.step (show ¬ b1 = b4 by omega)
    replace ho2 := ho2.step hw4.step (show ¬ b2 = b4 by omega)
    replace ho6 := ho6.step hw4.step (show ¬ b3 = b4 by omega)
    replace hwr := Nat.le_trans hwr (hw4.step).size
    replace hN2 := NdP.blk hN2 ho7 (by decide) hw4.step
    replace hbase1 := Nat.le_trans hbase1 (hw4.step).size
    replace hglg1 := Nat.lt_of_lt_of_le hglg1 (hw4.step).size
    replace hr3 := hr3.keepG hw4.step (show ¬ g1 = b4 by omega)
    have ho8 : Own w20 b4 #[.slice (some ⟨g1, 0, none⟩) 8 8] 22 := Own.cast hw4.own (by kernel_rfl)
    have hzhw4 := hw4.same
    refine VL_end (by kernel_rfl) ?_
    refine VQ_next ?_
    refine VC_seq ?_
    refine VC_region ?_
    have hzs14 := hS.size
    have hzl33 := ho1.lt
    have hzl34 := ho2.lt
    have hzl35 := ho6.lt
    have hzk5 := hwr
    have hzl36 := NdP.lt hN2
    have hzk6 := hbase1
    have hzk7 := hglg1
    have hzl37 := ho8.lt
    refine VL_box (d := 8) (t := 3) (c := #[.int .i64 0]) (by kernel_rfl) (by kernel_rfl) ?_
    intro b5 w21 hn6
    replace hMk := MarksI.no hMk (hn6.step No)
    replace hS := Step.trans hS (hn6.step No)
    replace hA := hA.no (hn6.step No)
    replace hA2 := hA2.no (hn6.step No)
    replace ho1 := ho1.no (hn6.step No)
    replace ho2 := ho2.no (hn6.step No)
    replace ho6 := ho6.no (hn6.step No)
    replace hwr := Nat.le_trans hwr (hn6.step No).size
    replace hN2 := NdP.no hN2 (hn6.step No)
    replace hbase1 := Nat.le_trans hbase1 (hn6.step No).size
    replace hglg1 := Nat.lt_of_lt_of_le hglg1 (hn6.step No).size
    replace hr3 := hr3.no (hn6.step No)
    replace ho8 := ho8.no (hn6.step No)
    have ho9 := hn6.own
    have hzhn6 := hn6.size
    have hqhn6 := hn6.eqb
    refine VL_store (b := b5) (o := 0) (vs := [.int .i64 0]) (by kernel_rfl) (by kernel_rfl) ho9 (Nat.le_of_ble_eq_true (by kernel_rfl)) ?_
    intro w22 hw5
    replace hMk := MarksI.own hMk ho9 hw5.step
    replace hS := Step.transNew hS hw5.step (fun _ _ _ => by omega)
    replace hA := hA.step hw5.step (fun k hk (hF : k = b5) => by omega)
    replace hA2 := hA2.keepB hw5.step (show ¬ sb1 = b5 by omega)
    replace ho1 := ho1.step hw5.step (show ¬ b1 = b5 by omega)
    replace ho2 := ho2.step hw5.step (show ¬ b2 = b5 by omega)
    replace ho6 := ho6.step hw5.step (show ¬ b3 = b5 by omega)
    replace hwr := Nat.le_trans hwr (hw5.step).size
    replace hN2 := NdP.blk hN2 ho9 (by decide) hw5.step
    replace hbase1 := Nat.le_trans hbase1 (hw5.step).size
    replace hglg1 := Nat.lt_of_lt_of_le hglg1 (hw5.step).size
    replace hr3 := hr3.keepG hw5.step (show ¬ g1 = b5 by omega)
    replace ho8 := ho8.step hw5.step (show ¬ b4 = b5 by omega)
    have ho10 : Own w22 b5 #[.int .i64 0] 3 := Own.cast hw5.own (by kernel_rfl)
    have hzhw5 := hw5.same
    refine VL_end (by kernel_rfl) ?_
    refine VQ_next ?_
    refine VC_seq ?_
    refine VC_seq ?_
    refine VC_region ?_
    refine VL_load (d := 41) (t := 25) (a := ⟨b3, 0, none⟩) (v := .pointer (some ⟨nd1, 0, none⟩)) (by kernel_rfl) (by kernel_rfl) (Loads.own1 ho6 (by kernel_rfl) (by rfl)) ?_
    have hzs15 := hS.size
    have hzl38 := ho1.lt
    have hzl39 := ho2.lt
    have hzl40 := ho6.lt
    have hzl41 := NdP.lt hN2
    have hzl42 := ho8.lt
    have hzl43 := ho10.lt
    refine VL_call (d := 42) (f := 10) (args := #[.pointer (some ⟨nd1, 0, none⟩)]) (by kernel_rfl) (by kernel_rfl) (by kernel_rfl) Try.call10 (nall_any nd1 _) ?_
    rintro _ w23 ⟨bb1, rfl, hfbb1, hbb1, hc6⟩
    replace hMk := MarksI.no hMk hc6
    replace hS := Step.trans hS hc6
    replace hA := hA.no hc6
    replace hA2 := hA2.no hc6
    replace ho1 := ho1.no hc6
    replace ho2 := ho2.no hc6
    replace ho6 := ho6.no hc6
    replace hwr := Nat.le_trans hwr (hc6).size
    replace hN2 := NdP.no hN2 hc6
    replace hbase1 := Nat.le_trans hbase1 (hc6).size
    replace hglg1 := Nat.lt_of_lt_of_le hglg1 (hc6).size
    replace hr3 := hr3.no hc6
    replace ho8 := ho8.no hc6
    replace ho10 := ho10.no hc6
    have hzbb1 := hbb1.lt
    refine VL_end (by kernel_rfl) ?_
    refine VQ_next ?_
    refine VC_block ?_
    have hzs16 := hS.size
    have hzl44 := ho1.lt
    have hzl45 := ho2.lt
    have hzl46 := ho6.lt
    have hzk8 := hwr
    have hzl47 := NdP.lt hN2
    have hzk9 := hbase1
    have hzk10 := hglg1
    have hzl48 := ho8.lt
    have hzl49 := ho10.lt
    have hzl50 := hbb1.lt
    have hzs17 := hS.size
    have hzl51 := ho1.lt
    have hzl52 := ho2.lt
    have hzl53 := ho6.lt
    have hzk11 := hwr
    have hzl54 := NdP.lt hN2
    have hzk12 := hbase1
    have hzk13 := hglg1
    have hzl55 := ho8.lt
    have hzl56 := ho10.lt
    have hzl57 := hbb1.lt
    refine VC_range2 (gf := 25) (lb := #[.pointer (some ⟨bb1, 0, none⟩)]) (xs := (keyV L2)) (by kernel_rfl) Try.call25 (niter bb1 nd1 lo1 X2 (roomsN rs) L2 (iS + 1)) (keyV_sz L2) (by kernel_rfl) (fun M i => i = g1 ∨ i = b5) (fun M i hi => by (try simp only at hi); omega) (fun M k W => w23.heap.size + 2 ≤ M ∧ (MarksI W w.heap.size wr.heap.size Ds) ∧ (Step No w W) ∧ (Sl W w.heap.size A (iL .i64 rs)) ∧ (Sl W w.heap.size (some ⟨sb1, so1, none⟩) (flat opc os)) ∧ (Own W b1 #[.slice A m c] 22) ∧ (Own W b2 #[.bool false] 4) ∧ (Own W b3 #[.pointer (some ⟨nd1, 0, none⟩)] 25) ∧ (wr.heap.size ≤ W.heap.size) ∧ (NdP W nd1 X2 lo1 (roomsN rs) L2 (iS + 1)) ∧ (g1 ≤ W.heap.size) ∧ (g1 < W.heap.size) ∧ (Rw W g1 3 (some ⟨g1, 0, none⟩) 8 8 (iL .i64 (sumL (L2.take k)))) ∧ (Own W b4 #[.slice (some ⟨g1, 0, none⟩) 8 8] 22) ∧ (Own W b5 #[.int .i64 ((k : Nat) : Int)] 3) ∧ (Own W bb1 #[.pointer (some ⟨nd1, 0, none⟩)] 25)) (by rintro M k W W' ⟨hMm, hMk, hS, hA, hA2, ho1, ho2, ho6, hwr, hN2, hbase1, hglg1, hr3, ho8, ho10, hbb1⟩ hs; exact ⟨hMm, MarksI.keep hMk hs (fun D9 hD9 h18 h28 hG => by have h7 : D9 = (w23.heap.size + 1) := hG; omega), Step.transNew hS hs (fun i9 hi9 hG => by have h7 : i9 = (w23.heap.size + 1) := hG; omega), hA.step hs (fun k9 hk9 hG => by have h7 : k9 = (w23.heap.size + 1) := hG; omega), hA2.keepB hs (fun hG => by have h7 : sb1 = (w23.heap.size + 1) := hG; omega), ho1.step hs (fun hG => by have h7 : b1 = (w23.heap.size + 1) := hG; omega), ho2.step hs (fun hG => by have h7 : b2 = (w23.heap.size + 1) := hG; omega), ho6.step hs (fun hG => by have h7 : b3 = (w23.heap.size + 1) := hG; omega), Nat.le_trans hwr hs.size, NdP.step hN2 hs (fun k9 hk9 hG => by have h8 := hXwnd1 k9 hk9; have h7 : k9 = (w23.heap.size + 1) := hG; omega), Nat.le_trans hbase1 hs.size, Nat.lt_of_lt_of_le hglg1 hs.size, hr3.keepG hs (fun hG => by have h7 : g1 = (w23.heap.size + 1) := hG; omega), ho8.step hs (fun hG => by have h7 : b4 = (w23.heap.size + 1) := hG; omega), ho10.step hs (fun hG => by have h7 : b5 = (w23.heap.size + 1) := hG; omega), hbb1.step hs (fun hG => by have h7 : bb1 = (w23.heap.size + 1) := hG; omega)⟩) (by rintro M k W W' ⟨hMm, hMk, hS, hA, hA2, ho1, ho2, ho6, hwr, hN2, hbase1, hglg1, hr3, ho8, ho10, hbb1⟩ hs; exact ⟨hMm, MarksI.keep hMk hs (fun D9 hD9 h18 h28 hG => by have h7 := hG.1; have h6 := hG.2; omega), Step.transNew hS hs (fun i9 hi9 hG => by have h7 := hG.1; have h6 := hG.2; omega), hA.step hs (fun k9 hk9 hG => by have h7 := hG.1; have h6 := hG.2; omega), hA2.keepB hs (fun hG => by have h7 := hG.1; have h6 := hG.2; omega), ho1.step hs (fun hG => by have h7 := hG.1; have h6 := hG.2; omega), ho2.step hs (fun hG => by have h7 := hG.1; have h6 := hG.2; omega), ho6.step hs (fun hG => by have h7 := hG.1; have h6 := hG.2; omega), Nat.le_trans hwr hs.size, NdP.step hN2 hs (fun k9 hk9 hG => by have h8 := hXwnd1 k9 hk9; have h7 := hG.1; have h6 := hG.2; omega), Nat.le_trans hbase1 hs.size, Nat.lt_of_lt_of_le hglg1 hs.size, hr3.keepG hs (fun hG => by have h7 := hG.1; have h6 := hG.2; omega), ho8.step hs (fun hG => by have h7 := hG.1; have h6 := hG.2; omega), ho10.step hs (fun hG => by have h7 := hG.1; have h6 := hG.2; omega), hbb1.step hs (fun hG => by have h7 := hG.1; have h6 := hG.2; omega)⟩) (by rintro M k W ⟨hMm, hMk, hS, hA, hA2, ho1, ho2, ho6, hwr, hN2, hbase1, hglg1, hr3, ho8, ho10, hbb1⟩; exact fun _ => ⟨hbb1, hN2⟩) (fun W hs _ => ⟨hbb1.no hs, hN2.no hs⟩) (fun M W hMm hM2 hs _ => ⟨hMm, MarksI.no hMk hs, Step.trans hS hs, hA.no hs, hA2.no hs, ho1.no hs, ho2.no hs, ho6.no hs, Nat.le_trans hwr hs.size, NdP.no hN2 hs, Nat.le_trans hbase1 hs.size, Nat.lt_of_lt_of_le hglg1 hs.size, (Rw.cast (hr3.no hs) rfl (by rw [sumL_zero L2])), ho8.no hs, (Own.cast (ho10.no hs) (by rfl)), hbb1.no hs⟩) ?_ ?_
    ·intro M k w24 args hM hM2 hx hJ0 hsz
     obtain ⟨hMm, hMk, hS, hA, hA2, ho1, ho2, ho6, hwr, hN2, hbase1, hglg1, hr3, ho8, ho10, hbb1⟩ := hJ0
     obtain ⟨y, hy, rfl⟩ := keyV_inv hx
     have hAs : Step No w24 w24 := Step.refl _ _
     have hML : M ≤ w24.heap.size := hM2
     have hky := (List.getElem?_eq_some_iff.1 hy).1
     have hl64 := NdP.len hN2
     obtain ⟨pn, hp, hpr, hp8, hrt, hu0, hn0, hun⟩ := NdP.at hN2 hy
     rw [roomsN_len, hrs] at hpr
     have hmin : imin 8 ((m : Nat) : Int) = ((min 8 m : Nat) : Int) := by unfold imin; split <;> omega
     refine VC_keep [2, 4, 5, 7, 8, 43] [(2, .pointer (some ⟨b1, 0, none⟩)), (4, .pointer (some ⟨b2, 0, none⟩)), (5, .pointer (some ⟨b3, 0, none⟩)), (7, .pointer (some ⟨b4, 0, none⟩)), (8, .pointer (some ⟨b5, 0, none⟩)), (43, .agg #[.int .i64 y.p, .int .i64 y.v, .int .i64 y.c])] (by kernel_rfl) ?_
     refine VC_region ?_
     have hzs18 := hS.size
     have hzl58 := ho1.lt
     have hzl59 := ho2.lt
     have hzl60 := ho6.lt
     have hzk14 := hwr
     have hzl61 := NdP.lt hN2
     have hzk15 := hbase1
     have hzk16 := hglg1
     have hzl62 := ho8.lt
     have hzl63 := ho10.lt
     have hzl64 := hbb1.lt
     have hzk17 := hML
     have hzs19 := hAs.size
     refine VL_box (d := 9) (t := 28) (c := #[.int .i64 0, .int .i64 0, .int .i64 0]) (by kernel_rfl) (by kernel_rfl) ?_
     intro b6 w25 hn7
     replace hMk := MarksI.no hMk (hn7.step No)
     replace hS := Step.trans hS (hn7.step No)
     replace hA := hA.no (hn7.step No)
     replace hA2 := hA2.no (hn7.step No)
     replace ho1 := ho1.no (hn7.step No)
     replace ho2 := ho2.no (hn7.step No)
     replace ho6 := ho6.no (hn7.step No)
     replace hwr := Nat.le_trans hwr (hn7.step No).size
     replace hN2 := NdP.no hN2 (hn7.step No)
     replace hbase1 := Nat.le_trans hbase1 (hn7.step No).size
     replace hglg1 := Nat.lt_of_lt_of_le hglg1 (hn7.step No).size
     replace hr3 := hr3.no (hn7.step No)
     replace ho8 := ho8.no (hn7.step No)
     replace ho10 := ho10.no (hn7.step No)
     replace hbb1 := hbb1.no (hn7.step No)
     replace hML := Nat.le_trans hML (hn7.step No).size
     replace hAs := Step.trans hAs (hn7.step No)
     have ho11 := hn7.own
     have hzhn7 := hn7.size
     have hqhn7 := hn7.eqb
     refine VL_store (b := b6) (o := 0) (vs := [.int .i64 y.p, .int .i64 y.v, .int .i64 y.c]) (by kernel_rfl) (by kernel_rfl) ho11 (Nat.le_of_ble_eq_true (by kernel_rfl)) ?_
     intro w26 hw6
     replace hMk := MarksI.own hMk ho11 hw6.step
     replace hS := Step.transNew hS hw6.step (fun _ _ _ => by omega)
     replace hA := hA.step hw6.step (fun k hk (hF : k = b6) => by omega)
     replace hA2 := hA2.keepB hw6.step (show ¬ sb1 = b6 by omega)
     replace ho1 := ho1.step hw6.step (show ¬ b1 = b6 by omega)
     replace ho2 := ho2.step hw6.step (show ¬ b2 = b6 by omega)
     replace ho6 := ho6.step hw6.step (show ¬ b3 = b6 by omega)
     replace hwr := Nat.le_trans hwr (hw6.step).size
     replace hN2 := NdP.blk hN2 ho11 (by decide) hw6.step
     replace hbase1 := Nat.le_trans hbase1 (hw6.step).size
     replace hglg1 := Nat.lt_of_lt_of_le hglg1 (hw6.step).size
     replace hr3 := hr3.keepG hw6.step (show ¬ g1 = b6 by omega)
     replace ho8 := ho8.step hw6.step (show ¬ b4 = b6 by omega)
     replace ho10 := ho10.step hw6.step (show ¬ b5 = b6 by omega)
     replace hbb1 := hbb1.step hw6.step (show ¬ bb1 = b6 by omega)
     replace hML := Nat.le_trans hML (hw6.step).size
     replace hAs := Step.transNew hAs hw6.step (fun _ _ _ => by omega)
     have ho12 : Own w26 b6 #[.int .i64 y.p, .int .i64 y.v, .int .i64 y.c] 28 := Own.cast hw6.own (by kernel_rfl)
     have hzhw6 := hw6.same
     refine VL_end (by kernel_rfl) ?_
     refine VQ_begin hAs ?_
     intro w27 hb1 hzhb1
     have hzs20 := hS.size
     have hzl65 := ho1.lt
     have hzl66 := ho2.lt
     have hzl67 := ho6.lt
     have hzk18 := hwr
     have hzl68 := NdP.lt hN2
     have hzk19 := hbase1
     have hzk20 := hglg1
     have hzl69 := ho8.lt
     have hzl70 := ho10.lt
     have hzl71 := hbb1.lt
     have hzk21 := hML
     have hzl72 := ho12.lt
     replace hMk := MarksI.keep hMk hb1 (fun D9 hD9 h18 h28 hF9 => by have hF8 : D9 = (w23.heap.size + 1) := hF9; omega)
     replace hS := Step.transNew hS hb1 (fun _ _ _ => by omega)
     replace hA := hA.step hb1 (fun k hk (hF : k = (w23.heap.size + 1)) => by omega)
     replace hA2 := hA2.keepB hb1 (show ¬ sb1 = (w23.heap.size + 1) by omega)
     replace ho1 := ho1.step hb1 (show ¬ b1 = (w23.heap.size + 1) by omega)
     replace ho2 := ho2.step hb1 (show ¬ b2 = (w23.heap.size + 1) by omega)
     replace ho6 := ho6.step hb1 (show ¬ b3 = (w23.heap.size + 1) by omega)
     replace hwr := Nat.le_trans hwr (hb1).size
     replace hN2 := NdP.step hN2 hb1 (fun k9 hk9 hF9 => by have h8 := hXwnd1 k9 hk9; have h7 : k9 = (w23.heap.size + 1) := hF9; omega)
     replace hbase1 := Nat.le_trans hbase1 (hb1).size
     replace hglg1 := Nat.lt_of_lt_of_le hglg1 (hb1).size
     replace hr3 := hr3.keepG hb1 (show ¬ g1 = (w23.heap.size + 1) by omega)
     replace ho8 := ho8.step hb1 (show ¬ b4 = (w23.heap.size + 1) by omega)
     replace ho10 := ho10.step hb1 (show ¬ b5 = (w23.heap.size + 1) by omega)
     replace hbb1 := hbb1.step hb1 (show ¬ bb1 = (w23.heap.size + 1) by omega)
     replace hML := Nat.le_trans hML (hb1).size
     replace ho12 := ho12.step hb1 (show ¬ b6 = (w23.heap.size + 1) by omega)
     have hR1 : Step ((fun M i => i = g1 ∨ i = b5) M) w27 w27 := Step.refl _ _
     refine VC_block ?_
     refine VC_seq ?_
     refine VC_region ?_
     refine VL_load (d := 45) (t := 25) (a := ⟨b3, 0, none⟩) (v := .pointer (some ⟨nd1, 0, none⟩)) (by kernel_rfl) (by kernel_rfl) (Loads.own1 ho6 (by kernel_rfl) (by rfl)) ?_
     refine VL_load (d := 46) (t := 28) (a := ⟨b6, 0, none⟩) (v := .agg #[.int .i64 y.p, .int .i64 y.v, .int .i64 y.c]) (by kernel_rfl) (by kernel_rfl) (Loads.ownL ho12 (n := 3) (by kernel_rfl) (by kernel_rfl) (by kernel_rfl)) ?_
     have hzs21 := hS.size
     have hzl73 := ho1.lt
     have hzl74 := ho2.lt
     have hzl75 := ho6.lt
     have hzl76 := NdP.lt hN2
     have hzl77 := ho8.lt
     have hzl78 := ho10.lt
     have hzl79 := hbb1.lt
     have hzl80 := ho12.lt
     have hzs22 := hR1.size
     refine VL_call (d := 47) (f := 12) (args := #[.pointer (some ⟨nd1, 0, none⟩), .agg #[.int .i64 y.p, .int .i64 y.v, .int .i64 y.c]]) (by kernel_rfl) (by kernel_rfl) (by kernel_rfl) Try.call12 (contract_at hN2 hy) ?_
     rintro _ w28 ⟨rfl, hc7⟩
     replace hMk := MarksI.no hMk hc7
     replace hS := Step.trans hS hc7
     replace hA := hA.no hc7
     replace hA2 := hA2.no hc7
     replace ho1 := ho1.no hc7
     replace ho2 := ho2.no hc7
     replace ho6 := ho6.no hc7
     replace hwr := Nat.le_trans hwr (hc7).size
     replace hN2 := NdP.no hN2 hc7
     replace hbase1 := Nat.le_trans hbase1 (hc7).size
     replace hglg1 := Nat.lt_of_lt_of_le hglg1 (hc7).size
     replace hr3 := hr3.no hc7
     replace ho8 := ho8.no hc7
     replace ho10 := ho10.no hc7
     replace hbb1 := hbb1.no hc7
     replace hML := Nat.le_trans hML (hc7).size
     replace ho12 := ho12.no hc7
     replace hR1 := Step.trans hR1 (Step.weak hc7)
     refine VL_pure 6 [2, 4, 7, 8, 9, 48, 49] [(2, .pointer (some ⟨b1, 0, none⟩)), (4, .pointer (some ⟨b2, 0, none⟩)), (7, .pointer (some ⟨b4, 0, none⟩)), (8, .pointer (some ⟨b5, 0, none⟩)), (9, .pointer (some ⟨b6, 0, none⟩)), (48, .agg #[.int .i64 y.k.kind, .int .i64 y.k.peak, .int .i64 y.k.early, .int .i64 y.k.whole, .int .i64 y.k.burst, .int .i64 y.k.least]), (49, .bool true)] (by kernel_rfl) rfl ?_
     have hzs23 := hS.size
     have hzl81 := ho1.lt
     have hzl82 := ho2.lt
     have hzl83 := ho6.lt
     have hzk22 := hwr
     have hzl84 := NdP.lt hN2
     have hzk23 := hbase1
     have hzk24 := hglg1
     have hzl85 := ho8.lt
     have hzl86 := ho10.lt
     have hzl87 := hbb1.lt
     have hzk25 := hML
     have hzl88 := ho12.lt
     have hzs24 := hR1.size
     refine VL_box (d := 10) (t := 30) (c := #[.int .i64 0, .int .i64 0, .int .i64 0, .int .i64 0, .int .i64 0, .int .i64 0]) (by kernel_rfl) (by kernel_rfl) ?_
     intro b7 w29 hn8
     replace hMk := MarksI.no hMk (hn8.step No)
     replace hS := Step.trans hS (hn8.step No)
     replace hA := hA.no (hn8.step No)
     replace hA2 := hA2.no (hn8.step No)
     replace ho1 := ho1.no (hn8.step No)
     replace ho2 := ho2.no (hn8.step No)
     replace ho6 := ho6.no (hn8.step No)
     replace hwr := Nat.le_trans hwr (hn8.step No).size
     replace hN2 := NdP.no hN2 (hn8.step No)
     replace hbase1 := Nat.le_trans hbase1 (hn8.step No).size
     replace hglg1 := Nat.lt_of_lt_of_le hglg1 (hn8.step No).size
     replace hr3 := hr3.no (hn8.step No)
     replace ho8 := ho8.no (hn8.step No)
     replace ho10 := ho10.no (hn8.step No)
     replace hbb1 := hbb1.no (hn8.step No)
     replace hML := Nat.le_trans hML (hn8.step No).size
     replace ho12 := ho12.no (hn8.step No)
     replace hR1 := Step.trans hR1 (Step.weak (hn8.step No))
     have ho13 := hn8.own
     have hzhn8 := hn8.size
     have hqhn8 := hn8.eqb
     refine VL_store (b := b7) (o := 0) (vs := [.int .i64 y.k.kind, .int .i64 y.k.peak, .int .i64 y.k.early, .int .i64 y.k.whole, .int .i64 y.k.burst, .int .i64 y.k.least]) (by kernel_rfl) (by kernel_rfl) ho13 (Nat.le_of_ble_eq_true (by kernel_rfl)) ?_
     intro w30 hw7
     replace hMk := MarksI.own hMk ho13 hw7.step
     replace hS := Step.transNew hS hw7.step (fun _ _ _ => by omega)
     replace hA := hA.step hw7.step (fun k hk (hF : k = b7) => by omega)
     replace hA2 := hA2.keepB hw7.step (show ¬ sb1 = b7 by omega)
     replace ho1 := ho1.step hw7.step (show ¬ b1 = b7 by omega)
     replace ho2 := ho2.step hw7.step (show ¬ b2 = b7 by omega)
     replace ho6 := ho6.step hw7.step (show ¬ b3 = b7 by omega)
     replace hwr := Nat.le_trans hwr (hw7.step).size
     replace hN2 := NdP.blk hN2 ho13 (by decide) hw7.step
     replace hbase1 := Nat.le_trans hbase1 (hw7.step).size
     replace hglg1 := Nat.lt_of_lt_of_le hglg1 (hw7.step).size
     replace hr3 := hr3.keepG hw7.step (show ¬ g1 = b7 by omega)
     replace ho8 := ho8.step hw7.step (show ¬ b4 = b7 by omega)
     replace ho10 := ho10.step hw7.step (show ¬ b5 = b7 by omega)
     replace hbb1 := hbb1.step hw7.step (show ¬ bb1 = b7 by omega)
     replace hML := Nat.le_trans hML (hw7.step).size
     replace ho12 := ho12.step hw7.step (show ¬ b6 = b7 by omega)
     replace hR1 := Step.transNew hR1 hw7.step (fun _ _ _ => by omega)
     have ho14 : Own w30 b7 #[.int .i64 y.k.kind, .int .i64 y.k.peak, .int .i64 y.k.early, .int .i64 y.k.whole, .int .i64 y.k.burst, .int .i64 y.k.least] 30 := Own.cast hw7.own (by kernel_rfl)
     have hzhw7 := hw7.same
     refine VL_pure 9 [2, 4, 7, 8, 9, 10, 11] [(2, .pointer (some ⟨b1, 0, none⟩)), (4, .pointer (some ⟨b2, 0, none⟩)), (7, .pointer (some ⟨b4, 0, none⟩)), (8, .pointer (some ⟨b5, 0, none⟩)), (9, .pointer (some ⟨b6, 0, none⟩)), (10, .pointer (some ⟨b7, 0, none⟩)), (11, .bool true)] (by kernel_rfl) rfl ?_
     refine VL_end (by kernel_rfl) ?_
     refine VQ_next ?_
     refine VC_seq ?_
     refine VC_seq ?_
     refine VC_region ?_
     refine VL_pure 4 [2, 4, 7, 8, 9, 10, 52, 53] [(2, .pointer (some ⟨b1, 0, none⟩)), (4, .pointer (some ⟨b2, 0, none⟩)), (7, .pointer (some ⟨b4, 0, none⟩)), (8, .pointer (some ⟨b5, 0, none⟩)), (9, .pointer (some ⟨b6, 0, none⟩)), (10, .pointer (some ⟨b7, 0, none⟩)), (52, .bool false), (53, .pointer (some ⟨b6, 0, none⟩))] (by kernel_rfl) rfl ?_
     refine VL_load (d := 54) (t := 3) (a := ⟨b6, 0, none⟩) (v := .int .i64 y.p) (by kernel_rfl) (by kernel_rfl) (Loads.own1 ho12 (by kernel_rfl) (by rfl)) ?_
     refine VL_pure 8 [2, 4, 7, 8, 9, 10, 57] [(2, .pointer (some ⟨b1, 0, none⟩)), (4, .pointer (some ⟨b2, 0, none⟩)), (7, .pointer (some ⟨b4, 0, none⟩)), (8, .pointer (some ⟨b5, 0, none⟩)), (9, .pointer (some ⟨b6, 0, none⟩)), (10, .pointer (some ⟨b7, 0, none⟩)), (57, .bool (decide (y.p < 0)))] (by kernel_rfl) rfl ?_
     refine VL_known (decide (y.p < 0)) (fun bV => [(2, .pointer (some ⟨b1, 0, none⟩)), (4, .pointer (some ⟨b2, 0, none⟩)), (7, .pointer (some ⟨b4, 0, none⟩)), (8, .pointer (some ⟨b5, 0, none⟩)), (9, .pointer (some ⟨b6, 0, none⟩)), (10, .pointer (some ⟨b7, 0, none⟩)), (57, .bool bV)]) false rfl (by first | (exact decide_eq_false (by omega)) | (rw [bne_eq_false_iff_eq]; exact hrt)) ?_
     refine VL_pure 9 [2, 4, 7, 8, 9, 10, 57, 58] [(2, .pointer (some ⟨b1, 0, none⟩)), (4, .pointer (some ⟨b2, 0, none⟩)), (7, .pointer (some ⟨b4, 0, none⟩)), (8, .pointer (some ⟨b5, 0, none⟩)), (9, .pointer (some ⟨b6, 0, none⟩)), (10, .pointer (some ⟨b7, 0, none⟩)), (57, .bool false), (58, .pointer (some ⟨b6, 0, none⟩))] (by kernel_rfl) rfl ?_
     refine VL_load (d := 59) (t := 3) (a := ⟨b6, 0, none⟩) (v := .int .i64 y.p) (by kernel_rfl) (by kernel_rfl) (Loads.own1 ho12 (by kernel_rfl) (by rfl)) ?_
     refine VL_load (d := 60) (t := 22) (a := ⟨b1, 0, none⟩) (v := .slice A m c) (by kernel_rfl) (by kernel_rfl) (Loads.own1 ho1 (by kernel_rfl) (by rfl)) ?_
     refine VL_pure 16 [4, 7, 8, 9, 10, 65] [(4, .pointer (some ⟨b2, 0, none⟩)), (7, .pointer (some ⟨b4, 0, none⟩)), (8, .pointer (some ⟨b5, 0, none⟩)), (9, .pointer (some ⟨b6, 0, none⟩)), (10, .pointer (some ⟨b7, 0, none⟩)), (65, .bool (decide (y.p ≥ (imin 8 ((m : Nat) : Int)))))] (by kernel_rfl) rfl ?_
     refine VL_known (decide (y.p ≥ (imin 8 ((m : Nat) : Int)))) (fun bV => [(4, .pointer (some ⟨b2, 0, none⟩)), (7, .pointer (some ⟨b4, 0, none⟩)), (8, .pointer (some ⟨b5, 0, none⟩)), (9, .pointer (some ⟨b6, 0, none⟩)), (10, .pointer (some ⟨b7, 0, none⟩)), (65, .bool bV)]) false rfl (by first | (exact decide_eq_false (by omega)) | (rw [bne_eq_false_iff_eq]; exact hrt)) ?_
     refine VL_load (d := 66) (t := 30) (a := ⟨b7, 0, none⟩) (v := .agg #[.int .i64 y.k.kind, .int .i64 y.k.peak, .int .i64 y.k.early, .int .i64 y.k.whole, .int .i64 y.k.burst, .int .i64 y.k.least]) (by kernel_rfl) (by kernel_rfl) (Loads.ownL ho14 (n := 6) (by kernel_rfl) (by kernel_rfl) (by kernel_rfl)) ?_
     have hzs25 := hS.size
     have hzl89 := ho1.lt
     have hzl90 := ho2.lt
     have hzl91 := ho6.lt
     have hzl92 := NdP.lt hN2
     have hzl93 := ho8.lt
     have hzl94 := ho10.lt
     have hzl95 := hbb1.lt
     have hzl96 := ho12.lt
     have hzs26 := hR1.size
     have hzl97 := ho14.lt
     refine VL_call (d := 67) (f := 13) (args := #[.agg #[.int .i64 y.k.kind, .int .i64 y.k.peak, .int .i64 y.k.early, .int .i64 y.k.whole, .int .i64 y.k.burst, .int .i64 y.k.least]]) (by kernel_rfl) (by kernel_rfl) (by kernel_rfl) Try.call13 (cright_any y.k _) ?_
     rintro _ w31 ⟨rfl, hc8⟩
     replace hMk := MarksI.no hMk hc8
     replace hS := Step.trans hS hc8
     replace hA := hA.no hc8
     replace hA2 := hA2.no hc8
     replace ho1 := ho1.no hc8
     replace ho2 := ho2.no hc8
     replace ho6 := ho6.no hc8
     replace hwr := Nat.le_trans hwr (hc8).size
     replace hN2 := NdP.no hN2 hc8
     replace hbase1 := Nat.le_trans hbase1 (hc8).size
     replace hglg1 := Nat.lt_of_lt_of_le hglg1 (hc8).size
     replace hr3 := hr3.no hc8
     replace ho8 := ho8.no hc8
     replace ho10 := ho10.no hc8
     replace hbb1 := hbb1.no hc8
     replace hML := Nat.le_trans hML (hc8).size
     replace ho12 := ho12.no hc8
     replace hR1 := Step.trans hR1 (Step.weak hc8)
     replace ho14 := ho14.no hc8
     refine VL_pure 20 [4, 7, 8, 9, 10, 69] [(4, .pointer (some ⟨b2, 0, none⟩)), (7, .pointer (some ⟨b4, 0, none⟩)), (8, .pointer (some ⟨b5, 0, none⟩)), (9, .pointer (some ⟨b6, 0, none⟩)), (10, .pointer (some ⟨b7, 0, none⟩)), (69, .bool ((rightC y.k) != 0))] (by kernel_rfl) rfl ?_
     refine VL_end (by kernel_rfl) ?_
     refine VQ_next ?_
     refine VC_is (b := (rightC y.k) != 0) false (by kernel_rfl) (by first | (exact decide_eq_false (by omega)) | (rw [bne_eq_false_iff_eq]; exact hrt)) ?_
     refine VC_ite_false ?_
     refine VC_skip ?_
     refine VQ_next ?_
     refine VC_seq ?_
     have hs3 := drew_step w31
     have hs3z : w31.heap.size = w31.drew.heap.size := rfl
     refine VC_text [[], [], [1], [0, 1, 2], [0, 1, 2, 3], [], [5], [0, 1, 2, 3, 4, 5, 6], [0, 1, 2, 3, 4, 5, 6, 7], [0, 1, 2, 3, 4, 5, 6, 7, 8]] 7 (fun x y => Step (fun k => w31.heap.size ≤ k) x y) [4] [0, 1, 2, 3, 5, 6, 4] (by kernel_rfl) (by kernel_rfl) (by kernel_rfl) (by kernel_rfl) (fun x => Step.refl _ x) (fun h k => Step.trans h k) Step.weak ?_
     have hzs27 := hS.size
     have hzl98 := ho1.lt
     have hzl99 := ho2.lt
     have hzl100 := ho6.lt
     have hzl101 := NdP.lt hN2
     have hzl102 := ho8.lt
     have hzl103 := ho10.lt
     have hzl104 := hbb1.lt
     have hzl105 := ho12.lt
     have hzs28 := hR1.size
     have hzl106 := ho14.lt
     have hzo2 := hwr
     have hzo3 := hbase1
     have hzo4 := hglg1
     have hzo5 := hML
     generalize w31.drew = w32 at hs3 hs3z ⊢
     replace hMk := MarksI.no hMk hs3
     replace hS := Step.trans hS hs3
     replace hA := hA.no hs3
     replace hA2 := hA2.no hs3
     replace ho1 := ho1.no hs3
     replace ho2 := ho2.no hs3
     replace ho6 := ho6.no hs3
     replace hwr := Nat.le_trans hwr (hs3).size
     replace hN2 := NdP.no hN2 hs3
     replace hbase1 := Nat.le_trans hbase1 (hs3).size
     replace hglg1 := Nat.lt_of_lt_of_le hglg1 (hs3).size
     replace hr3 := hr3.no hs3
     replace ho8 := ho8.no hs3
     replace ho10 := ho10.no hs3
     replace hbb1 := hbb1.no hs3
     replace hML := Nat.le_trans hML (hs3).size
     replace ho12 := ho12.no hs3
     replace hR1 := Step.trans hR1 (Step.weak hs3)
     replace ho14 := ho14.no hs3
     refine VT_load (d := 70) (t := 22) (a := ⟨b4, 0, none⟩) (v := .slice (some ⟨g1, 0, none⟩) 8 8) (by kernel_rfl) (by kernel_rfl) ?_ ?_
     ·intro w33 hr4
      replace hMk := MarksI.keep hMk hr4 (fun D9 hD9 h18 h28 hF9 => by (try simp only at hF9); omega)
      replace hS := Step.transNew hS hr4 (fun i hi hG => by (try simp only at hG); omega)
      replace hA := hA.step hr4 (fun k hk hG => by (try simp only at hG); omega)
      replace hA2 := hA2.keepB hr4 (by (try simp only); omega)
      replace ho1 := ho1.step hr4 (by (try simp only); omega)
      replace ho2 := ho2.step hr4 (by (try simp only); omega)
      replace ho6 := ho6.step hr4 (by (try simp only); omega)
      replace hwr := Nat.le_trans hwr (hr4).size
      replace hN2 := NdP.step hN2 hr4 (fun k9 hk9 hF9 => by have h8 := hXwnd1 k9 hk9; (try simp only at hF9); omega)
      replace hbase1 := Nat.le_trans hbase1 (hr4).size
      replace hglg1 := Nat.lt_of_lt_of_le hglg1 (hr4).size
      replace hr3 := hr3.keepG hr4 (by (try simp only); omega)
      replace ho8 := ho8.step hr4 (by (try simp only); omega)
      replace ho10 := ho10.step hr4 (by (try simp only); omega)
      replace hbb1 := hbb1.step hr4 (by (try simp only); omega)
      replace hML := Nat.le_trans hML (hr4).size
      replace ho12 := ho12.step hr4 (by (try simp only); omega)
      replace hR1 := Step.transNew hR1 hr4 (fun i hi hG => by (try simp only at hG); (first | show _ ∨ _ | show _ = _); omega)
      replace ho14 := ho14.step hr4 (by (try simp only); omega)
      exact (Loads.own1 ho8 (by kernel_rfl) (by rfl))
     refine VT_pures 1 (kn' := [(1, .pointer (some ⟨b6, 0, none⟩)), (0, .slice (some ⟨g1, 0, none⟩) 8 8)]) (by kernel_rfl) ?_
     refine VT_load (d := 72) (t := 3) (a := ⟨b6, 0, none⟩) (v := .int .i64 y.p) (by kernel_rfl) (by kernel_rfl) ?_ ?_
     ·intro w34 hr5
      replace hMk := MarksI.keep hMk hr5 (fun D9 hD9 h18 h28 hF9 => by (try simp only at hF9); omega)
      replace hS := Step.transNew hS hr5 (fun i hi hG => by (try simp only at hG); omega)
      replace hA := hA.step hr5 (fun k hk hG => by (try simp only at hG); omega)
      replace hA2 := hA2.keepB hr5 (by (try simp only); omega)
      replace ho1 := ho1.step hr5 (by (try simp only); omega)
      replace ho2 := ho2.step hr5 (by (try simp only); omega)
      replace ho6 := ho6.step hr5 (by (try simp only); omega)
      replace hwr := Nat.le_trans hwr (hr5).size
      replace hN2 := NdP.step hN2 hr5 (fun k9 hk9 hF9 => by have h8 := hXwnd1 k9 hk9; (try simp only at hF9); omega)
      replace hbase1 := Nat.le_trans hbase1 (hr5).size
      replace hglg1 := Nat.lt_of_lt_of_le hglg1 (hr5).size
      replace hr3 := hr3.keepG hr5 (by (try simp only); omega)
      replace ho8 := ho8.step hr5 (by (try simp only); omega)
      replace ho10 := ho10.step hr5 (by (try simp only); omega)
      replace hbb1 := hbb1.step hr5 (by (try simp only); omega)
      replace hML := Nat.le_trans hML (hr5).size
      replace ho12 := ho12.step hr5 (by (try simp only); omega)
      replace hR1 := Step.transNew hR1 hr5 (fun i hi hG => by (try simp only at hG); (first | show _ ∨ _ | show _ = _); omega)
      replace ho14 := ho14.step hr5 (by (try simp only); omega)
      exact (Loads.own1 ho12 (by kernel_rfl) (by rfl))
     refine VT_index (d := 73) (b := g1) (o := 0) (len := 8) (sz := 1) (mm := y.p) (by kernel_rfl) (by kernel_rfl) pn hp (by omega) pn (by omega) ?_
     refine VT_load (d := 75) (t := 30) (a := ⟨b7, 0, none⟩) (v := .agg #[.int .i64 y.k.kind, .int .i64 y.k.peak, .int .i64 y.k.early, .int .i64 y.k.whole, .int .i64 y.k.burst, .int .i64 y.k.least]) (by kernel_rfl) (by kernel_rfl) ?_ ?_
     ·intro w35 hr6
      replace hMk := MarksI.keep hMk hr6 (fun D9 hD9 h18 h28 hF9 => by (try simp only at hF9); omega)
      replace hS := Step.transNew hS hr6 (fun i hi hG => by (try simp only at hG); omega)
      replace hA := hA.step hr6 (fun k hk hG => by (try simp only at hG); omega)
      replace hA2 := hA2.keepB hr6 (by (try simp only); omega)
      replace ho1 := ho1.step hr6 (by (try simp only); omega)
      replace ho2 := ho2.step hr6 (by (try simp only); omega)
      replace ho6 := ho6.step hr6 (by (try simp only); omega)
      replace hwr := Nat.le_trans hwr (hr6).size
      replace hN2 := NdP.step hN2 hr6 (fun k9 hk9 hF9 => by have h8 := hXwnd1 k9 hk9; (try simp only at hF9); omega)
      replace hbase1 := Nat.le_trans hbase1 (hr6).size
      replace hglg1 := Nat.lt_of_lt_of_le hglg1 (hr6).size
      replace hr3 := hr3.keepG hr6 (by (try simp only); omega)
      replace ho8 := ho8.step hr6 (by (try simp only); omega)
      replace ho10 := ho10.step hr6 (by (try simp only); omega)
      replace hbb1 := hbb1.step hr6 (by (try simp only); omega)
      replace hML := Nat.le_trans hML (hr6).size
      replace ho12 := ho12.step hr6 (by (try simp only); omega)
      replace hR1 := Step.transNew hR1 hr6 (fun i hi hG => by (try simp only at hG); (first | show _ ∨ _ | show _ = _); omega)
      replace ho14 := ho14.step hr6 (by (try simp only); omega)
      exact (Loads.ownL ho14 (n := 6) (by kernel_rfl) (by kernel_rfl) (by kernel_rfl))
     refine VT_fcall (d := 76) (f := 14) (args := #[.agg #[.int .i64 y.k.kind, .int .i64 y.k.peak, .int .i64 y.k.early, .int .i64 y.k.whole, .int .i64 y.k.burst, .int .i64 y.k.least]]) (v := .int .i64 (needC y.k)) (by kernel_rfl) (by kernel_rfl) (by kernel_rfl) Try.call14 ?_ ?_
     ·intro w36 hr7
      replace hMk := MarksI.keep hMk hr7 (fun D9 hD9 h18 h28 hF9 => by (try simp only at hF9); omega)
      replace hS := Step.transNew hS hr7 (fun i hi hG => by (try simp only at hG); omega)
      replace hA := hA.step hr7 (fun k hk hG => by (try simp only at hG); omega)
      replace hA2 := hA2.keepB hr7 (by (try simp only); omega)
      replace ho1 := ho1.step hr7 (by (try simp only); omega)
      replace ho2 := ho2.step hr7 (by (try simp only); omega)
      replace ho6 := ho6.step hr7 (by (try simp only); omega)
      replace hwr := Nat.le_trans hwr (hr7).size
      replace hN2 := NdP.step hN2 hr7 (fun k9 hk9 hF9 => by have h8 := hXwnd1 k9 hk9; (try simp only at hF9); omega)
      replace hbase1 := Nat.le_trans hbase1 (hr7).size
      replace hglg1 := Nat.lt_of_lt_of_le hglg1 (hr7).size
      replace hr3 := hr3.keepG hr7 (by (try simp only); omega)
      replace ho8 := ho8.step hr7 (by (try simp only); omega)
      replace ho10 := ho10.step hr7 (by (try simp only); omega)
      replace hbb1 := hbb1.step hr7 (by (try simp only); omega)
      replace hML := Nat.le_trans hML (hr7).size
      replace ho12 := ho12.step hr7 (by (try simp only); omega)
      replace hR1 := Step.transNew hR1 hr7 (fun i hi hG => by (try simp only at hG); (first | show _ ∨ _ | show _ = _); omega)
      replace ho14 := ho14.step hr7 (by (try simp only); omega)
      exact need_any y.k _
     refine VT_chain (by kernel_rfl) ?_
     intro w37 hs4
     have hzhs4 := hs4.size
     replace hMk := MarksI.no hMk hs4
     replace hS := Step.trans hS hs4
     replace hA := hA.no hs4
     replace hA2 := hA2.no hs4
     replace ho1 := ho1.no hs4
     replace ho2 := ho2.no hs4
     replace ho6 := ho6.no hs4
     replace hwr := Nat.le_trans hwr (hs4).size
     replace hN2 := NdP.no hN2 hs4
     replace hbase1 := Nat.le_trans hbase1 (hs4).size
     replace hglg1 := Nat.lt_of_lt_of_le hglg1 (hs4).size
     replace hr3 := hr3.no hs4
     replace ho8 := ho8.no hs4
     replace ho10 := ho10.no hs4
     replace hbb1 := hbb1.no hs4
     replace hML := Nat.le_trans hML (hs4).size
     replace ho12 := ho12.no hs4
     replace hR1 := Step.trans hR1 (Step.weak hs4)
     replace ho14 := ho14.no hs4
     refine VTc_load (d := 74) (t := 3) (a := ⟨g1, pn, none⟩) (v := .int .i64 ((sumL (L2.take k)).getD pn 0)) (by kernel_rfl) (by kernel_rfl) (Rw.ldI hr3 (by kernel_rfl) (by omega)) (Step.refl _ _) ?_
     refine VT_end ?_
     intro w38 hs5
     replace hMk := MarksI.no hMk hs5
     replace hS := Step.trans hS hs5
     replace hA := hA.no hs5
     replace hA2 := hA2.no hs5
     replace ho1 := ho1.no hs5
     replace ho2 := ho2.no hs5
     replace ho6 := ho6.no hs5
     replace hwr := Nat.le_trans hwr (hs5).size
     replace hN2 := NdP.no hN2 hs5
     replace hbase1 := Nat.le_trans hbase1 (hs5).size
     replace hglg1 := Nat.lt_of_lt_of_le hglg1 (hs5).size
     replace hr3 := hr3.no hs5
     replace ho8 := ho8.no hs5
     replace ho10 := ho10.no hs5
     replace hbb1 := hbb1.no hs5
     replace hML := Nat.le_trans hML (hs5).size
     replace ho12 := ho12.no hs5
     replace hR1 := Step.trans hR1 (Step.weak hs5)
     replace ho14 := ho14.no hs5
     refine VL_keep [8, 70, 72, 76, 74] [(8, .pointer (some ⟨b5, 0, none⟩)), (70, .slice (some ⟨g1, 0, none⟩) 8 8), (72, .int .i64 y.p), (76, .int .i64 (needC y.k)), (74, .int .i64 ((sumL (L2.take k)).getD pn 0))] (by kernel_rfl) ?_
     refine VL_pure 8 [8, 70, 72, 77] [(8, .pointer (some ⟨b5, 0, none⟩)), (70, .slice (some ⟨g1, 0, none⟩) 8 8), (72, .int .i64 y.p), (77, .int .i64 (IntKind.wrap .i64 (((sumL (L2.take k)).getD pn 0) + (needC y.k))))] (by kernel_rfl) rfl ?_
     refine VL_index (d := 78) (b := g1) (o := 0) (len := 8) (sz := 1) (m := y.p) (by kernel_rfl) (by kernel_rfl) pn hp (by omega) pn (by omega) ?_
     obtain ⟨cur1, hgbcur1, hglcur1, howcur1, hcscur1, hcncur1, hcmcur1, hctcur1⟩ := hr3.openG
     refine VL_store (b := g1) (o := pn) (vs := [.int .i64 (IntKind.wrap .i64 (((sumL (L2.take k)).getD pn 0) + (needC y.k)))]) (by kernel_rfl) (by kernel_rfl) howcur1 (by simp only [List.length_singleton]; omega) ?_
     intro w39 hw8
     replace hMk := MarksI.keep hMk hw8.step (fun D9 hD9 h18 h28 hF9 => by have hF8 : D9 = g1 := hF9; omega)
     replace hS := Step.transNew hS hw8.step (fun _ _ _ => by omega)
     replace hA := hA.step hw8.step (fun k hk (hF : k = g1) => by omega)
     replace hA2 := hA2.keepB hw8.step (show ¬ sb1 = g1 by omega)
     replace ho1 := ho1.step hw8.step (show ¬ b1 = g1 by omega)
     replace ho2 := ho2.step hw8.step (show ¬ b2 = g1 by omega)
     replace ho6 := ho6.step hw8.step (show ¬ b3 = g1 by omega)
     replace hwr := Nat.le_trans hwr (hw8.step).size
     replace hN2 := NdP.step hN2 hw8.step (fun k9 hk9 hF9 => by have h8 := hXwnd1 k9 hk9; have h7 : k9 = g1 := hF9; omega)
     replace hbase1 := Nat.le_trans hbase1 (hw8.step).size
     replace hglg1 := Nat.lt_of_lt_of_le hglg1 (hw8.step).size
     replace ho8 := ho8.step hw8.step (show ¬ b4 = g1 by omega)
     replace ho10 := ho10.step hw8.step (show ¬ b5 = g1 by omega)
     replace hbb1 := hbb1.step hw8.step (show ¬ bb1 = g1 by omega)
     replace hML := Nat.le_trans hML (hw8.step).size
     replace ho12 := ho12.step hw8.step (show ¬ b6 = g1 by omega)
     replace hR1 := Step.trans hR1 (Step.mono hw8.step (by intro i hi; first | exact hi | exact ⟨_, by assumption, hi⟩ | (have hi9 : i = g1 := hi; (first | show _ ∨ _ | show _ = _); omega)))
     replace ho14 := ho14.step hw8.step (show ¬ b7 = g1 by omega)
     have ho15 := Rw.putI hctcur1 hw8 hgbcur1 hcscur1 hcncur1 hcmcur1 (j := pn) (by omega)
     have hzhw8 := hw8.same
     refine VL_end (by kernel_rfl) ?_
     refine VQ_next ?_
     refine VC_region ?_
     refine VL_load (d := 79) (t := 3) (a := ⟨b5, 0, none⟩) (v := .int .i64 ((k : Nat) : Int)) (by kernel_rfl) (by kernel_rfl) (Loads.own1 ho10 (by kernel_rfl) (by rfl)) ?_
     refine VL_pure 2 [8, 80] [(8, .pointer (some ⟨b5, 0, none⟩)), (80, .int .i64 (IntKind.wrap .i64 (((k : Nat) : Int) + 1)))] (by kernel_rfl) rfl ?_
     have he1 : IntKind.wrap .i64 (((k : Nat) : Int) + 1) = ((k + 1 : Nat) : Int) := (by rw [wrap_i64 _ (by omega) (by omega)]; omega)
     refine VL_eq [(8, .pointer (some ⟨b5, 0, none⟩)), (80, .int .i64 ((k + 1 : Nat) : Int))] (by rw [he1]) ?_
     refine VL_store (b := b5) (o := 0) (vs := [.int .i64 ((k + 1 : Nat) : Int)]) (by kernel_rfl) (by kernel_rfl) ho10 (Nat.le_of_ble_eq_true (by kernel_rfl)) ?_
     intro w40 hw9
     replace hMk := MarksI.own hMk ho10 hw9.step
     replace hS := Step.transNew hS hw9.step (fun _ _ _ => by omega)
     replace hA := hA.step hw9.step (fun k hk (hF : k = b5) => by omega)
     replace hA2 := hA2.keepB hw9.step (show ¬ sb1 = b5 by omega)
     replace ho1 := ho1.step hw9.step (show ¬ b1 = b5 by omega)
     replace ho2 := ho2.step hw9.step (show ¬ b2 = b5 by omega)
     replace ho6 := ho6.step hw9.step (show ¬ b3 = b5 by omega)
     replace hwr := Nat.le_trans hwr (hw9.step).size
     replace hN2 := NdP.blk hN2 ho10 (by decide) hw9.step
     replace hbase1 := Nat.le_trans hbase1 (hw9.step).size
     replace hglg1 := Nat.lt_of_lt_of_le hglg1 (hw9.step).size
     replace ho8 := ho8.step hw9.step (show ¬ b4 = b5 by omega)
     replace hbb1 := hbb1.step hw9.step (show ¬ bb1 = b5 by omega)
     replace hML := Nat.le_trans hML (hw9.step).size
     replace ho12 := ho12.step hw9.step (show ¬ b6 = b5 by omega)
     replace hR1 := Step.trans hR1 (Step.mono hw9.step (by intro i hi; first | exact hi | exact ⟨_, by assumption, hi⟩ | (have hi9 : i = b5 := hi; (first | show _ ∨ _ | show _ = _); omega)))
     replace ho14 := ho14.step hw9.step (show ¬ b7 = b5 by omega)
     replace ho15 := ho15.keepG hw9.step (show ¬ g1 = b5 by omega)
     have ho16 : Own w40 b5 #[.int .i64 ((k + 1 : Nat) : Int)] 3 := Own.cast hw9.own (by kernel_rfl)
     have hzhw9 := hw9.same
     refine VL_end (by kernel_rfl) ?_
     refine VQ_block_normal ?_
     exact VQ_round_end hR1 ⟨hMm, hMk, hS, hA, hA2, ho1, ho2, ho6, hwr, hN2, hbase1, hglg1, (Rw.cast ho15 rfl (by rw [sumL_at _ hp8, wrap_i64 _ (by omega) (by omega), sumL_next hy hp hp8])), ho8, (Own.cast ho16 (by first | rfl | (push_cast; rfl))), hbb1⟩
    ·intro M w41 hM hzM hJ0 hD
     rw [keyV_len] at hJ0
     obtain ⟨hMm, hMk, hS, hA, hA2, ho1, ho2, ho6, hwr, hN2, hbase1, hglg1, hr3, ho8, ho10, hbb1⟩ := hJ0
     rw [List.take_length] at hr3
     have hmk1 := hD
     refine VQ_block_normal ?_
     refine VQ_next ?_
     refine VC_seq ?_
     refine VC_seq ?_
     refine VC_region ?_
     refine VL_load (d := 81) (t := 22) (a := ⟨b1, 0, none⟩) (v := .slice A m c) (by kernel_rfl) (by kernel_rfl) (Loads.own1 ho1 (by kernel_rfl) (by rfl)) ?_
     refine VL_pure 3 [1, 2, 4, 5, 30, 31, 7, 8, 83] [(1, .slice (some ⟨sb1, so1, none⟩) m2 c2), (2, .pointer (some ⟨b1, 0, none⟩)), (4, .pointer (some ⟨b2, 0, none⟩)), (5, .pointer (some ⟨b3, 0, none⟩)), (30, .int .i64 ((m2 : Nat) : Int)), (31, .int .i64 ((iS : Nat) : Int)), (7, .pointer (some ⟨b4, 0, none⟩)), (8, .pointer (some ⟨b5, 0, none⟩)), (83, .int .i64 (imin 8 ((m : Nat) : Int)))] (by kernel_rfl) rfl ?_
     refine VL_eq [(1, .slice (some ⟨sb1, so1, none⟩) m2 c2), (2, .pointer (some ⟨b1, 0, none⟩)), (4, .pointer (some ⟨b2, 0, none⟩)), (5, .pointer (some ⟨b3, 0, none⟩)), (30, .int .i64 ((m2 : Nat) : Int)), (31, .int .i64 ((iS : Nat) : Int)), (7, .pointer (some ⟨b4, 0, none⟩)), (8, .pointer (some ⟨b5, 0, none⟩)), (83, .int .i64 ((min 8 m : Nat) : Int))] (by rw [show imin 8 ((m : Nat) : Int) = ((min 8 m : Nat) : Int) by unfold imin; split <;> omega]) ?_
     refine VL_pure 4 [1, 2, 4, 5, 30, 31, 7, 8, 83, 84] [(1, .slice (some ⟨sb1, so1, none⟩) m2 c2), (2, .pointer (some ⟨b1, 0, none⟩)), (4, .pointer (some ⟨b2, 0, none⟩)), (5, .pointer (some ⟨b3, 0, none⟩)), (30, .int .i64 ((m2 : Nat) : Int)), (31, .int .i64 ((iS : Nat) : Int)), (7, .pointer (some ⟨b4, 0, none⟩)), (8, .pointer (some ⟨b5, 0, none⟩)), (83, .int .i64 ((min 8 m : Nat) : Int)), (84, .int .i64 0)] (by kernel_rfl) rfl ?_
     refine VL_end (by kernel_rfl) ?_
     refine VQ_next ?_
     refine VC_block ?_
     refine VC_loop (σ := Nat) (fun σs => [(1, .slice (some ⟨sb1, so1, none⟩) m2 c2), (2, .pointer (some ⟨b1, 0, none⟩)), (4, .pointer (some ⟨b2, 0, none⟩)), (5, .pointer (some ⟨b3, 0, none⟩)), (30, .int .i64 ((m2 : Nat) : Int)), (31, .int .i64 ((iS : Nat) : Int)), (7, .pointer (some ⟨b4, 0, none⟩)), (8, .pointer (some ⟨b5, 0, none⟩)), (83, .int .i64 ((min 8 m : Nat) : Int)), (84, .int .i64 ((σs : Nat) : Int))]) (fun σs wp => σs ≤ min 8 m ∧ (MarksI wp w.heap.size wr.heap.size Ds) ∧ (Step No w wp) ∧ (Sl wp w.heap.size A (iL .i64 rs)) ∧ (Sl wp w.heap.size (some ⟨sb1, so1, none⟩) (flat opc os)) ∧ (Own wp b1 #[.slice A m c] 22) ∧ (Own wp b2 #[.bool false] 4) ∧ (Own wp b3 #[.pointer (some ⟨nd1, 0, none⟩)] 25) ∧ (wr.heap.size ≤ wp.heap.size) ∧ (NdP wp nd1 X2 lo1 (roomsN rs) L2 (iS + 1)) ∧ (g1 ≤ wp.heap.size) ∧ (g1 < wp.heap.size) ∧ (Own wp b4 #[.slice (some ⟨g1, 0, none⟩) 8 8] 22) ∧ (Own wp b5 #[.int .i64 ((L2.length : Nat) : Int)] 3) ∧ (Own wp bb1 #[.pointer (some ⟨nd1, 0, none⟩)] 25) ∧ (Dfr wp (w23.heap.size)) ∧ (Rw wp g1 3 (some ⟨g1, 0, none⟩) 8 8 (iL .i64 (sumL L2)))) (fun σs wp => min 8 m - σs) 0 ⟨rfl, rfl, rfl, rfl, rfl, rfl, rfl, rfl, rfl, rfl, trivial⟩ ?_ ?_
     ·exact ⟨Nat.zero_le _, hMk, hS, hA, hA2, ho1, ho2, ho6, hwr, hN2, hbase1, hglg1, ho8, ho10, hbb1, hmk1, hr3⟩
     rintro jS wp ⟨hj0, hMk, hS, hA, hA2, ho1, ho2, ho6, hwr, hN2, hbase1, hglg1, ho8, ho10, hbb1, hmk1, hr3⟩
     try dsimp only at hj0 hMk hS hA hA2 ho1 ho2 ho6 hwr hN2 hbase1 hglg1 ho8 ho10 hbb1 hmk1 hr3 ⊢
     refine VC_seq ?_
     refine VC_region ?_
     refine VL_pure 1 [1, 2, 4, 5, 30, 31, 7, 8, 83, 84, 85] [(1, .slice (some ⟨sb1, so1, none⟩) m2 c2), (2, .pointer (some ⟨b1, 0, none⟩)), (4, .pointer (some ⟨b2, 0, none⟩)), (5, .pointer (some ⟨b3, 0, none⟩)), (30, .int .i64 ((m2 : Nat) : Int)), (31, .int .i64 ((iS : Nat) : Int)), (7, .pointer (some ⟨b4, 0, none⟩)), (8, .pointer (some ⟨b5, 0, none⟩)), (83, .int .i64 ((min 8 m : Nat) : Int)), (84, .int .i64 ((jS : Nat) : Int)), (85, .bool (decide (((jS : Nat) : Int) < ((min 8 m : Nat) : Int))))] (by kernel_rfl) rfl ?_
     refine VL_end (by kernel_rfl) ?_
     refine VQ_next ?_
     refine VC_seq ?_
     refine VC_dec (((jS : Nat) : Int) < ((min 8 m : Nat) : Int)) (by kernel_rfl) (fun h3 => ?_) (fun h3 => ?_)
     ·refine VC_skip ?_
      refine VQ_next ?_
      refine VC_seq ?_
      refine VC_block ?_
      refine VC_seq ?_
      refine VC_region ?_
      refine VL_pure 2 [1, 2, 4, 5, 30, 31, 7, 8, 83, 84, 12] [(1, .slice (some ⟨sb1, so1, none⟩) m2 c2), (2, .pointer (some ⟨b1, 0, none⟩)), (4, .pointer (some ⟨b2, 0, none⟩)), (5, .pointer (some ⟨b3, 0, none⟩)), (30, .int .i64 ((m2 : Nat) : Int)), (31, .int .i64 ((iS : Nat) : Int)), (7, .pointer (some ⟨b4, 0, none⟩)), (8, .pointer (some ⟨b5, 0, none⟩)), (83, .int .i64 ((min 8 m : Nat) : Int)), (84, .int .i64 ((jS : Nat) : Int)), (12, .int .i64 ((jS : Nat) : Int))] (by kernel_rfl) rfl ?_
      refine VL_end (by kernel_rfl) ?_
      refine VQ_next ?_
      refine VC_seq ?_
      obtain ⟨hq1, hq2, hq3, hq4, hq5⟩ := NdP.port hN2 hrs (show jS < min 8 m by omega)
      refine VC_region ?_
      refine VL_load (d := 87) (t := 22) (a := ⟨b1, 0, none⟩) (v := .slice A m c) (by kernel_rfl) (by kernel_rfl) (Loads.own1 ho1 (by kernel_rfl) (by rfl)) ?_
      refine VL_pure 2 [1, 2, 4, 5, 30, 31, 7, 8, 83, 84, 12, 87, 88] [(1, .slice (some ⟨sb1, so1, none⟩) m2 c2), (2, .pointer (some ⟨b1, 0, none⟩)), (4, .pointer (some ⟨b2, 0, none⟩)), (5, .pointer (some ⟨b3, 0, none⟩)), (30, .int .i64 ((m2 : Nat) : Int)), (31, .int .i64 ((iS : Nat) : Int)), (7, .pointer (some ⟨b4, 0, none⟩)), (8, .pointer (some ⟨b5, 0, none⟩)), (83, .int .i64 ((min 8 m : Nat) : Int)), (84, .int .i64 ((jS : Nat) : Int)), (12, .int .i64 ((jS : Nat) : Int)), (87, .slice A m c), (88, .int .i64 ((jS : Nat) : Int))] (by kernel_rfl) rfl ?_
      obtain ⟨sb2, so2, rfl, hlbsb2⟩ := hA.open (by first | (simp only [iL_length]; omega) | (rw [flat_len opc_len]; omega))
      refine VL_index (d := 89) (b := sb2) (o := so2) (len := m) (sz := 1) (m := ((jS : Nat) : Int)) (by kernel_rfl) (by kernel_rfl) jS (by rfl) (by omega) (so2 + jS) (by omega) ?_
      refine VL_load (d := 90) (t := 3) (a := ⟨sb2, so2 + jS, none⟩) (v := .int .i64 (rs.getD jS 0)) (by kernel_rfl) (by kernel_rfl) (Sl.ldI hA (by kernel_rfl) jS (by (try simp only [List.length_set, List.length_append, List.length_map, List.length_replicate, List.length_cons, List.length_nil, List.length_take, List.length_drop, List.length_range]) <;> omega)) ?_
      refine VL_pure 7 [1, 2, 4, 5, 30, 31, 7, 8, 83, 84, 12, 13] [(1, .slice (some ⟨sb1, so1, none⟩) m2 c2), (2, .pointer (some ⟨b1, 0, none⟩)), (4, .pointer (some ⟨b2, 0, none⟩)), (5, .pointer (some ⟨b3, 0, none⟩)), (30, .int .i64 ((m2 : Nat) : Int)), (31, .int .i64 ((iS : Nat) : Int)), (7, .pointer (some ⟨b4, 0, none⟩)), (8, .pointer (some ⟨b5, 0, none⟩)), (83, .int .i64 ((min 8 m : Nat) : Int)), (84, .int .i64 ((jS : Nat) : Int)), (12, .int .i64 ((jS : Nat) : Int)), (13, .int .i64 (imax 0 (imin (rs.getD jS 0) 1152921504606846976)))] (by kernel_rfl) rfl ?_
      refine VL_end (by kernel_rfl) ?_
      refine VQ_next ?_
      refine VC_seq ?_
      have hs6 := drew_step wp
      have hs6z : wp.heap.size = wp.drew.heap.size := rfl
      refine VC_text [[], [], [0, 1], [], [], [3, 4], [3, 4, 5], [0, 1, 2, 3, 4, 5, 6], [0, 1, 2, 3, 4, 5, 6, 7], [0, 1, 2, 3, 4, 5, 6, 7, 8], [0, 1, 2, 3, 4, 5, 6, 7, 8], [0, 1, 2, 3, 4, 5, 6, 7, 8, 9, 10], [0, 1, 2, 3, 4, 5, 6, 7, 8, 9, 10, 11], [0, 1, 2, 3, 4, 5, 6, 7, 8], [0, 1, 2, 3, 4, 5, 6, 7, 8, 9, 10, 11, 12, 13], [0, 1, 2, 3, 4, 5, 6, 7, 8, 9, 10, 11, 12, 13, 14], [0, 1, 2, 3, 4, 5, 6, 7, 8, 9, 10, 11, 12, 13, 14, 15], [0, 1, 2, 3, 4, 5, 6, 7, 8, 9, 10, 11, 12, 13, 14, 15, 16], [0, 1, 2, 3, 4, 5, 6, 7, 8, 9, 10, 11, 12, 13, 14, 15, 16], [0, 1, 2, 3, 4, 5, 6, 7, 8, 9, 10, 11, 12, 13, 14, 15, 16, 17, 18], [0, 1, 2, 3, 4, 5, 6, 7, 8, 9, 10, 11, 12, 13, 14, 15, 16], [0, 1, 2, 3, 4, 5, 6, 7, 8, 9, 10, 11, 12, 13, 14, 15, 16], [0, 1, 2, 3, 4, 5, 6, 7, 8, 9, 10, 11, 12, 13, 14, 15, 16], [0, 1, 2, 3, 4, 5, 6, 7, 8, 9, 10, 11, 12, 13, 14, 15, 16, 21, 22], [0, 1, 2, 3, 4, 5, 6, 7, 8, 9, 10, 11, 12, 13, 14, 15, 16, 21, 22, 23], [0, 1, 2, 3, 4, 5, 6, 7, 8, 9, 10, 11, 12, 13, 14, 15, 16, 20, 21, 22, 23, 24], [0, 1, 2, 3, 4, 5, 6, 7, 8, 9, 10, 11, 12, 13, 14, 15, 16, 17, 18, 19, 20, 21, 22, 23, 24, 25], [0, 1, 2, 3, 4, 5, 6, 7, 8, 9, 10, 11, 12, 13, 14, 15, 16, 17, 18, 19, 20, 21, 22, 23, 24, 25, 26]] 26 (fun x y => Step (fun k => wp.heap.size ≤ k) x y) [2, 19] [0, 1, 3, 4, 5, 6, 2, 7, 8, 9, 10, 11, 12, 13, 14, 15, 16, 17, 18, 20, 21, 22, 23, 24, 25, 19] (by kernel_rfl) (by kernel_rfl) (by kernel_rfl) (by kernel_rfl) (fun x => Step.refl _ x) (fun h k => Step.trans h k) Step.weak ?_
      have hzs29 := hS.size
      have hzl107 := ho1.lt
      have hzl108 := ho2.lt
      have hzl109 := ho6.lt
      have hzl110 := NdP.lt hN2
      have hzl111 := ho8.lt
      have hzl112 := ho10.lt
      have hzl113 := hbb1.lt
      have hzl114 := hmk1.lt
      have hzo6 := hwr
      have hzo7 := hbase1
      have hzo8 := hglg1
      generalize wp.drew = w42 at hs6 hs6z ⊢
      replace hMk := MarksI.no hMk hs6
      replace hS := Step.trans hS hs6
      replace hA := hA.no hs6
      replace hA2 := hA2.no hs6
      replace ho1 := ho1.no hs6
      replace ho2 := ho2.no hs6
      replace ho6 := ho6.no hs6
      replace hwr := Nat.le_trans hwr (hs6).size
      replace hN2 := NdP.no hN2 hs6
      replace hbase1 := Nat.le_trans hbase1 (hs6).size
      replace hglg1 := Nat.lt_of_lt_of_le hglg1 (hs6).size
      replace ho8 := ho8.no hs6
      replace ho10 := ho10.no hs6
      replace hbb1 := hbb1.no hs6
      replace hmk1 := hmk1.no hs6
      replace hr3 := hr3.no hs6
      refine VT_load (d := 93) (t := 25) (a := ⟨b3, 0, none⟩) (v := .pointer (some ⟨nd1, 0, none⟩)) (by kernel_rfl) (by kernel_rfl) ?_ ?_
      ·intro w43 hr8
       replace hMk := MarksI.keep hMk hr8 (fun D9 hD9 h18 h28 hF9 => by (try simp only at hF9); omega)
       replace hS := Step.transNew hS hr8 (fun i hi hG => by (try simp only at hG); omega)
       replace hA := hA.keepB hr8 (by (try simp only); omega)
       replace hA2 := hA2.keepB hr8 (by (try simp only); omega)
       replace ho1 := ho1.step hr8 (by (try simp only); omega)
       replace ho2 := ho2.step hr8 (by (try simp only); omega)
       replace ho6 := ho6.step hr8 (by (try simp only); omega)
       replace hwr := Nat.le_trans hwr (hr8).size
       replace hN2 := NdP.step hN2 hr8 (fun k9 hk9 hF9 => by have h8 := hXwnd1 k9 hk9; (try simp only at hF9); omega)
       replace hbase1 := Nat.le_trans hbase1 (hr8).size
       replace hglg1 := Nat.lt_of_lt_of_le hglg1 (hr8).size
       replace ho8 := ho8.step hr8 (by (try simp only); omega)
       replace ho10 := ho10.step hr8 (by (try simp only); omega)
       replace hbb1 := hbb1.step hr8 (by (try simp only); omega)
       replace hmk1 := hmk1.step hr8 (by (try simp only); omega)
       replace hr3 := hr3.keepG hr8 (by (try simp only); omega)
       exact (Loads.own1 ho6 (by kernel_rfl) (by rfl))
      refine VT_pures 1 (kn' := [(1, .int .i64 ((jS : Nat) : Int)), (0, .pointer (some ⟨nd1, 0, none⟩))]) (by kernel_rfl) ?_
      refine VT_load (d := 96) (t := 22) (a := ⟨b4, 0, none⟩) (v := .slice (some ⟨g1, 0, none⟩) 8 8) (by kernel_rfl) (by kernel_rfl) ?_ ?_
      ·intro w44 hr9
       replace hMk := MarksI.keep hMk hr9 (fun D9 hD9 h18 h28 hF9 => by (try simp only at hF9); omega)
       replace hS := Step.transNew hS hr9 (fun i hi hG => by (try simp only at hG); omega)
       replace hA := hA.keepB hr9 (by (try simp only); omega)
       replace hA2 := hA2.keepB hr9 (by (try simp only); omega)
       replace ho1 := ho1.step hr9 (by (try simp only); omega)
       replace ho2 := ho2.step hr9 (by (try simp only); omega)
       replace ho6 := ho6.step hr9 (by (try simp only); omega)
       replace hwr := Nat.le_trans hwr (hr9).size
       replace hN2 := NdP.step hN2 hr9 (fun k9 hk9 hF9 => by have h8 := hXwnd1 k9 hk9; (try simp only at hF9); omega)
       replace hbase1 := Nat.le_trans hbase1 (hr9).size
       replace hglg1 := Nat.lt_of_lt_of_le hglg1 (hr9).size
       replace ho8 := ho8.step hr9 (by (try simp only); omega)
       replace ho10 := ho10.step hr9 (by (try simp only); omega)
       replace hbb1 := hbb1.step hr9 (by (try simp only); omega)
       replace hmk1 := hmk1.step hr9 (by (try simp only); omega)
       replace hr3 := hr3.keepG hr9 (by (try simp only); omega)
       exact (Loads.own1 ho8 (by kernel_rfl) (by rfl))
      refine VT_pures 1 (kn' := [(4, .int .i64 ((jS : Nat) : Int)), (3, .slice (some ⟨g1, 0, none⟩) 8 8), (1, .int .i64 ((jS : Nat) : Int)), (0, .pointer (some ⟨nd1, 0, none⟩))]) (by kernel_rfl) ?_
      refine VT_index (d := 98) (b := g1) (o := 0) (len := 8) (sz := 1) (mm := ((jS : Nat) : Int)) (by kernel_rfl) (by kernel_rfl) jS (by rfl) (by omega) jS (by omega) ?_
      refine VT_load (d := 99) (t := 3) (a := ⟨g1, jS, none⟩) (v := .int .i64 ((sumL L2).getD jS 0)) (by kernel_rfl) (by kernel_rfl) ?_ ?_
      ·intro w45 hr10
       replace hMk := MarksI.keep hMk hr10 (fun D9 hD9 h18 h28 hF9 => by (try simp only at hF9); omega)
       replace hS := Step.transNew hS hr10 (fun i hi hG => by (try simp only at hG); omega)
       replace hA := hA.keepB hr10 (by (try simp only); omega)
       replace hA2 := hA2.keepB hr10 (by (try simp only); omega)
       replace ho1 := ho1.step hr10 (by (try simp only); omega)
       replace ho2 := ho2.step hr10 (by (try simp only); omega)
       replace ho6 := ho6.step hr10 (by (try simp only); omega)
       replace hwr := Nat.le_trans hwr (hr10).size
       replace hN2 := NdP.step hN2 hr10 (fun k9 hk9 hF9 => by have h8 := hXwnd1 k9 hk9; (try simp only at hF9); omega)
       replace hbase1 := Nat.le_trans hbase1 (hr10).size
       replace hglg1 := Nat.lt_of_lt_of_le hglg1 (hr10).size
       replace ho8 := ho8.step hr10 (by (try simp only); omega)
       replace ho10 := ho10.step hr10 (by (try simp only); omega)
       replace hbb1 := hbb1.step hr10 (by (try simp only); omega)
       replace hmk1 := hmk1.step hr10 (by (try simp only); omega)
       replace hr3 := hr3.keepG hr10 (by (try simp only); omega)
       exact (Rw.ldI hr3 (by kernel_rfl) (by omega))
      refine VT_chain (by kernel_rfl) ?_
      intro w46 hs7
      have hzhs7 := hs7.size
      replace hMk := MarksI.no hMk hs7
      replace hS := Step.trans hS hs7
      replace hA := hA.no hs7
      replace hA2 := hA2.no hs7
      replace ho1 := ho1.no hs7
      replace ho2 := ho2.no hs7
      replace ho6 := ho6.no hs7
      replace hwr := Nat.le_trans hwr (hs7).size
      replace hN2 := NdP.no hN2 hs7
      replace hbase1 := Nat.le_trans hbase1 (hs7).size
      replace hglg1 := Nat.lt_of_lt_of_le hglg1 (hs7).size
      replace ho8 := ho8.no hs7
      replace ho10 := ho10.no hs7
      replace hbb1 := hbb1.no hs7
      replace hmk1 := hmk1.no hs7
      replace hr3 := hr3.no hs7
      have hzs30 := hS.size
      have hzl115 := ho1.lt
      have hzl116 := ho2.lt
      have hzl117 := ho6.lt
      have hzl118 := NdP.lt hN2
      have hzl119 := ho8.lt
      have hzl120 := ho10.lt
      have hzl121 := hbb1.lt
      have hzl122 := hmk1.lt
      refine VTc_call (d := 95) (f := 15) (args := #[.pointer (some ⟨nd1, 0, none⟩), .int .i64 ((jS : Nat) : Int)]) (by kernel_rfl) (by kernel_rfl) (by kernel_rfl) Try.call15 (nused hN2 ((jS : Nat) : Int)) ?_ ?_
      ·rintro _ w47 ⟨rfl, hc9⟩
       exact Step.mono hc9 (by intro i hi; first | exact hi.elim | exact .inl hi | ((try simp only at hi ⊢); omega))
      rintro _ w47 ⟨rfl, hc9⟩
      have hzhc9 := (hc9).size
      replace hMk := MarksI.no hMk hc9
      replace hS := Step.trans hS hc9
      replace hA := hA.no hc9
      replace hA2 := hA2.no hc9
      replace ho1 := ho1.no hc9
      replace ho2 := ho2.no hc9
      replace ho6 := ho6.no hc9
      replace hwr := Nat.le_trans hwr (hc9).size
      replace hN2 := NdP.no hN2 hc9
      replace hbase1 := Nat.le_trans hbase1 (hc9).size
      replace hglg1 := Nat.lt_of_lt_of_le hglg1 (hc9).size
      replace ho8 := ho8.no hc9
      replace ho10 := ho10.no hc9
      replace hbb1 := hbb1.no hc9
      replace hmk1 := hmk1.no hc9
      replace hr3 := hr3.no hc9
      refine VT_pures 2 (kn' := [(8, .bool ((usedN (roomsN rs) L2 ((jS : Nat) : Int)) != ((sumL L2).getD jS 0))), (7, .bool ((usedN (roomsN rs) L2 ((jS : Nat) : Int)) != ((sumL L2).getD jS 0))), (2, .int .i64 (usedN (roomsN rs) L2 ((jS : Nat) : Int))), (6, .int .i64 ((sumL L2).getD jS 0)), (5, .pointer (some ⟨g1, jS, none⟩)), (4, .int .i64 ((jS : Nat) : Int)), (3, .slice (some ⟨g1, 0, none⟩) 8 8), (1, .int .i64 ((jS : Nat) : Int)), (0, .pointer (some ⟨nd1, 0, none⟩))]) (by kernel_rfl) ?_
      have hg2 : ((usedN (roomsN rs) L2 ((jS : Nat) : Int)) != ((sumL L2).getD jS 0)) = false := (by rw [bne_eq_false_iff_eq, hq1, sumL_at _ (by omega)])
      refine VT_eq [(8, .bool false), (7, .bool false), (2, .int .i64 (usedN (roomsN rs) L2 ((jS : Nat) : Int))), (6, .int .i64 ((sumL L2).getD jS 0)), (5, .pointer (some ⟨g1, jS, none⟩)), (4, .int .i64 ((jS : Nat) : Int)), (3, .slice (some ⟨g1, 0, none⟩) 8 8), (1, .int .i64 ((jS : Nat) : Int)), (0, .pointer (some ⟨nd1, 0, none⟩))] (by simp only [hg2, Bool.not_true, Bool.not_false]) ?_
      refine VT_load (d := 102) (t := 22) (a := ⟨b4, 0, none⟩) (v := .slice (some ⟨g1, 0, none⟩) 8 8) (by kernel_rfl) (by kernel_rfl) ?_ ?_
      ·intro w48 hr11
       replace hMk := MarksI.keep hMk hr11 (fun D9 hD9 h18 h28 hF9 => by (try simp only at hF9); omega)
       replace hS := Step.transNew hS hr11 (fun i hi hG => by (try simp only at hG); omega)
       replace hA := hA.keepB hr11 (by (try simp only); omega)
       replace hA2 := hA2.keepB hr11 (by (try simp only); omega)
       replace ho1 := ho1.step hr11 (by (try simp only); omega)
       replace ho2 := ho2.step hr11 (by (try simp only); omega)
       replace ho6 := ho6.step hr11 (by (try simp only); omega)
       replace hwr := Nat.le_trans hwr (hr11).size
       replace hN2 := NdP.step hN2 hr11 (fun k9 hk9 hF9 => by have h8 := hXwnd1 k9 hk9; (try simp only at hF9); omega)
       replace hbase1 := Nat.le_trans hbase1 (hr11).size
       replace hglg1 := Nat.lt_of_lt_of_le hglg1 (hr11).size
       replace ho8 := ho8.step hr11 (by (try simp only); omega)
       replace ho10 := ho10.step hr11 (by (try simp only); omega)
       replace hbb1 := hbb1.step hr11 (by (try simp only); omega)
       replace hmk1 := hmk1.step hr11 (by (try simp only); omega)
       replace hr3 := hr3.keepG hr11 (by (try simp only); omega)
       exact (Loads.own1 ho8 (by kernel_rfl) (by rfl))
      refine VT_pures 1 (kn' := [(10, .int .i64 ((jS : Nat) : Int)), (9, .slice (some ⟨g1, 0, none⟩) 8 8), (8, .bool false), (7, .bool false), (2, .int .i64 (usedN (roomsN rs) L2 ((jS : Nat) : Int))), (6, .int .i64 ((sumL L2).getD jS 0)), (5, .pointer (some ⟨g1, jS, none⟩)), (4, .int .i64 ((jS : Nat) : Int)), (3, .slice (some ⟨g1, 0, none⟩) 8 8), (1, .int .i64 ((jS : Nat) : Int)), (0, .pointer (some ⟨nd1, 0, none⟩))]) (by kernel_rfl) ?_
      refine VT_index (d := 104) (b := g1) (o := 0) (len := 8) (sz := 1) (mm := ((jS : Nat) : Int)) (by kernel_rfl) (by kernel_rfl) jS (by rfl) (by omega) jS (by omega) ?_
      refine VT_load (d := 105) (t := 3) (a := ⟨g1, jS, none⟩) (v := .int .i64 ((sumL L2).getD jS 0)) (by kernel_rfl) (by kernel_rfl) ?_ ?_
      ·intro w49 hr12
       replace hMk := MarksI.keep hMk hr12 (fun D9 hD9 h18 h28 hF9 => by (try simp only at hF9); omega)
       replace hS := Step.transNew hS hr12 (fun i hi hG => by (try simp only at hG); omega)
       replace hA := hA.keepB hr12 (by (try simp only); omega)
       replace hA2 := hA2.keepB hr12 (by (try simp only); omega)
       replace ho1 := ho1.step hr12 (by (try simp only); omega)
       replace ho2 := ho2.step hr12 (by (try simp only); omega)
       replace ho6 := ho6.step hr12 (by (try simp only); omega)
       replace hwr := Nat.le_trans hwr (hr12).size
       replace hN2 := NdP.step hN2 hr12 (fun k9 hk9 hF9 => by have h8 := hXwnd1 k9 hk9; (try simp only at hF9); omega)
       replace hbase1 := Nat.le_trans hbase1 (hr12).size
       replace hglg1 := Nat.lt_of_lt_of_le hglg1 (hr12).size
       replace ho8 := ho8.step hr12 (by (try simp only); omega)
       replace ho10 := ho10.step hr12 (by (try simp only); omega)
       replace hbb1 := hbb1.step hr12 (by (try simp only); omega)
       replace hmk1 := hmk1.step hr12 (by (try simp only); omega)
       replace hr3 := hr3.keepG hr12 (by (try simp only); omega)
       exact (Rw.ldI hr3 (by kernel_rfl) (by omega))
      refine VT_pures 4 (kn' := [(16, .bool (decide (((sumL L2).getD jS 0) > (imax 0 (imin (rs.getD jS 0) 1152921504606846976))))), (15, .bool (decide (((sumL L2).getD jS 0) > (imax 0 (imin (rs.getD jS 0) 1152921504606846976))))), (14, .bool (decide (((sumL L2).getD jS 0) > (imax 0 (imin (rs.getD jS 0) 1152921504606846976))))), (13, .int .i64 (imax 0 (imin (rs.getD jS 0) 1152921504606846976))), (12, .int .i64 ((sumL L2).getD jS 0)), (11, .pointer (some ⟨g1, jS, none⟩)), (10, .int .i64 ((jS : Nat) : Int)), (9, .slice (some ⟨g1, 0, none⟩) 8 8), (8, .bool false), (7, .bool false), (2, .int .i64 (usedN (roomsN rs) L2 ((jS : Nat) : Int))), (6, .int .i64 ((sumL L2).getD jS 0)), (5, .pointer (some ⟨g1, jS, none⟩)), (4, .int .i64 ((jS : Nat) : Int)), (3, .slice (some ⟨g1, 0, none⟩) 8 8), (1, .int .i64 ((jS : Nat) : Int)), (0, .pointer (some ⟨nd1, 0, none⟩))]) (by kernel_rfl) ?_
      have hg3 : (decide (((sumL L2).getD jS 0) > (imax 0 (imin (rs.getD jS 0) 1152921504606846976)))) = false := (decide_eq_false (by rw [sumL_at _ (by omega)]; omega))
      refine VT_eq [(16, .bool false), (15, .bool false), (14, .bool false), (13, .int .i64 (imax 0 (imin (rs.getD jS 0) 1152921504606846976))), (12, .int .i64 ((sumL L2).getD jS 0)), (11, .pointer (some ⟨g1, jS, none⟩)), (10, .int .i64 ((jS : Nat) : Int)), (9, .slice (some ⟨g1, 0, none⟩) 8 8), (8, .bool false), (7, .bool false), (2, .int .i64 (usedN (roomsN rs) L2 ((jS : Nat) : Int))), (6, .int .i64 ((sumL L2).getD jS 0)), (5, .pointer (some ⟨g1, jS, none⟩)), (4, .int .i64 ((jS : Nat) : Int)), (3, .slice (some ⟨g1, 0, none⟩) 8 8), (1, .int .i64 ((jS : Nat) : Int)), (0, .pointer (some ⟨nd1, 0, none⟩))] (by simp only [hg3, Bool.not_true, Bool.not_false]) ?_
      refine VT_load (d := 110) (t := 25) (a := ⟨b3, 0, none⟩) (v := .pointer (some ⟨nd1, 0, none⟩)) (by kernel_rfl) (by kernel_rfl) ?_ ?_
      ·intro w50 hr13
       replace hMk := MarksI.keep hMk hr13 (fun D9 hD9 h18 h28 hF9 => by (try simp only at hF9); omega)
       replace hS := Step.transNew hS hr13 (fun i hi hG => by (try simp only at hG); omega)
       replace hA := hA.keepB hr13 (by (try simp only); omega)
       replace hA2 := hA2.keepB hr13 (by (try simp only); omega)
       replace ho1 := ho1.step hr13 (by (try simp only); omega)
       replace ho2 := ho2.step hr13 (by (try simp only); omega)
       replace ho6 := ho6.step hr13 (by (try simp only); omega)
       replace hwr := Nat.le_trans hwr (hr13).size
       replace hN2 := NdP.step hN2 hr13 (fun k9 hk9 hF9 => by have h8 := hXwnd1 k9 hk9; (try simp only at hF9); omega)
       replace hbase1 := Nat.le_trans hbase1 (hr13).size
       replace hglg1 := Nat.lt_of_lt_of_le hglg1 (hr13).size
       replace ho8 := ho8.step hr13 (by (try simp only); omega)
       replace ho10 := ho10.step hr13 (by (try simp only); omega)
       replace hbb1 := hbb1.step hr13 (by (try simp only); omega)
       replace hmk1 := hmk1.step hr13 (by (try simp only); omega)
       replace hr3 := hr3.keepG hr13 (by (try simp only); omega)
       exact (Loads.own1 ho6 (by kernel_rfl) (by rfl))
      refine VT_pures 2 (kn' := [(20, .int .i64 (imax 0 (imin (rs.getD jS 0) 1152921504606846976))), (18, .int .i64 ((jS : Nat) : Int)), (17, .pointer (some ⟨nd1, 0, none⟩)), (16, .bool false), (15, .bool false), (14, .bool false), (13, .int .i64 (imax 0 (imin (rs.getD jS 0) 1152921504606846976))), (12, .int .i64 ((sumL L2).getD jS 0)), (11, .pointer (some ⟨g1, jS, none⟩)), (10, .int .i64 ((jS : Nat) : Int)), (9, .slice (some ⟨g1, 0, none⟩) 8 8), (8, .bool false), (7, .bool false), (2, .int .i64 (usedN (roomsN rs) L2 ((jS : Nat) : Int))), (6, .int .i64 ((sumL L2).getD jS 0)), (5, .pointer (some ⟨g1, jS, none⟩)), (4, .int .i64 ((jS : Nat) : Int)), (3, .slice (some ⟨g1, 0, none⟩) 8 8), (1, .int .i64 ((jS : Nat) : Int)), (0, .pointer (some ⟨nd1, 0, none⟩))]) (by kernel_rfl) ?_
      refine VT_load (d := 114) (t := 22) (a := ⟨b4, 0, none⟩) (v := .slice (some ⟨g1, 0, none⟩) 8 8) (by kernel_rfl) (by kernel_rfl) ?_ ?_
      ·intro w51 hr14
       replace hMk := MarksI.keep hMk hr14 (fun D9 hD9 h18 h28 hF9 => by (try simp only at hF9); omega)
       replace hS := Step.transNew hS hr14 (fun i hi hG => by (try simp only at hG); omega)
       replace hA := hA.keepB hr14 (by (try simp only); omega)
       replace hA2 := hA2.keepB hr14 (by (try simp only); omega)
       replace ho1 := ho1.step hr14 (by (try simp only); omega)
       replace ho2 := ho2.step hr14 (by (try simp only); omega)
       replace ho6 := ho6.step hr14 (by (try simp only); omega)
       replace hwr := Nat.le_trans hwr (hr14).size
       replace hN2 := NdP.step hN2 hr14 (fun k9 hk9 hF9 => by have h8 := hXwnd1 k9 hk9; (try simp only at hF9); omega)
       replace hbase1 := Nat.le_trans hbase1 (hr14).size
       replace hglg1 := Nat.lt_of_lt_of_le hglg1 (hr14).size
       replace ho8 := ho8.step hr14 (by (try simp only); omega)
       replace ho10 := ho10.step hr14 (by (try simp only); omega)
       replace hbb1 := hbb1.step hr14 (by (try simp only); omega)
       replace hmk1 := hmk1.step hr14 (by (try simp only); omega)
       replace hr3 := hr3.keepG hr14 (by (try simp only); omega)
       exact (Loads.own1 ho8 (by kernel_rfl) (by rfl))
      refine VT_pures 1 (kn' := [(22, .int .i64 ((jS : Nat) : Int)), (21, .slice (some ⟨g1, 0, none⟩) 8 8), (20, .int .i64 (imax 0 (imin (rs.getD jS 0) 1152921504606846976))), (18, .int .i64 ((jS : Nat) : Int)), (17, .pointer (some ⟨nd1, 0, none⟩)), (16, .bool false), (15, .bool false), (14, .bool false), (13, .int .i64 (imax 0 (imin (rs.getD jS 0) 1152921504606846976))), (12, .int .i64 ((sumL L2).getD jS 0)), (11, .pointer (some ⟨g1, jS, none⟩)), (10, .int .i64 ((jS : Nat) : Int)), (9, .slice (some ⟨g1, 0, none⟩) 8 8), (8, .bool false), (7, .bool false), (2, .int .i64 (usedN (roomsN rs) L2 ((jS : Nat) : Int))), (6, .int .i64 ((sumL L2).getD jS 0)), (5, .pointer (some ⟨g1, jS, none⟩)), (4, .int .i64 ((jS : Nat) : Int)), (3, .slice (some ⟨g1, 0, none⟩) 8 8), (1, .int .i64 ((jS : Nat) : Int)), (0, .pointer (some ⟨nd1, 0, none⟩))]) (by kernel_rfl) ?_
      refine VT_index (d := 116) (b := g1) (o := 0) (len := 8) (sz := 1) (mm := ((jS : Nat) : Int)) (by kernel_rfl) (by kernel_rfl) jS (by rfl) (by omega) jS (by omega) ?_
      refine VT_load (d := 117) (t := 3) (a := ⟨g1, jS, none⟩) (v := .int .i64 ((sumL L2).getD jS 0)) (by kernel_rfl) (by kernel_rfl) ?_ ?_
      ·intro w52 hr15
       replace hMk := MarksI.keep hMk hr15 (fun D9 hD9 h18 h28 hF9 => by (try simp only at hF9); omega)
       replace hS := Step.transNew hS hr15 (fun i hi hG => by (try simp only at hG); omega)
       replace hA := hA.keepB hr15 (by (try simp only); omega)
       replace hA2 := hA2.keepB hr15 (by (try simp only); omega)
       replace ho1 := ho1.step hr15 (by (try simp only); omega)
       replace ho2 := ho2.step hr15 (by (try simp only); omega)
       replace ho6 := ho6.step hr15 (by (try simp only); omega)
       replace hwr := Nat.le_trans hwr (hr15).size
       replace hN2 := NdP.step hN2 hr15 (fun k9 hk9 hF9 => by have h8 := hXwnd1 k9 hk9; (try simp only at hF9); omega)
       replace hbase1 := Nat.le_trans hbase1 (hr15).size
       replace hglg1 := Nat.lt_of_lt_of_le hglg1 (hr15).size
       replace ho8 := ho8.step hr15 (by (try simp only); omega)
       replace ho10 := ho10.step hr15 (by (try simp only); omega)
       replace hbb1 := hbb1.step hr15 (by (try simp only); omega)
       replace hmk1 := hmk1.step hr15 (by (try simp only); omega)
       replace hr3 := hr3.keepG hr15 (by (try simp only); omega)
       exact (Rw.ldI hr3 (by kernel_rfl) (by omega))
      refine VT_pures 1 (kn' := [(25, .int .i64 (IntKind.wrap .i64 ((imax 0 (imin (rs.getD jS 0) 1152921504606846976)) - ((sumL L2).getD jS 0)))), (24, .int .i64 ((sumL L2).getD jS 0)), (23, .pointer (some ⟨g1, jS, none⟩)), (22, .int .i64 ((jS : Nat) : Int)), (21, .slice (some ⟨g1, 0, none⟩) 8 8), (20, .int .i64 (imax 0 (imin (rs.getD jS 0) 1152921504606846976))), (18, .int .i64 ((jS : Nat) : Int)), (17, .pointer (some ⟨nd1, 0, none⟩)), (16, .bool false), (15, .bool false), (14, .bool false), (13, .int .i64 (imax 0 (imin (rs.getD jS 0) 1152921504606846976))), (12, .int .i64 ((sumL L2).getD jS 0)), (11, .pointer (some ⟨g1, jS, none⟩)), (10, .int .i64 ((jS : Nat) : Int)), (9, .slice (some ⟨g1, 0, none⟩) 8 8), (8, .bool false), (7, .bool false), (2, .int .i64 (usedN (roomsN rs) L2 ((jS : Nat) : Int))), (6, .int .i64 ((sumL L2).getD jS 0)), (5, .pointer (some ⟨g1, jS, none⟩)), (4, .int .i64 ((jS : Nat) : Int)), (3, .slice (some ⟨g1, 0, none⟩) 8 8), (1, .int .i64 ((jS : Nat) : Int)), (0, .pointer (some ⟨nd1, 0, none⟩))]) (by kernel_rfl) ?_
      refine VT_chain (by kernel_rfl) ?_
      intro w53 hs8
      have hzhs8 := hs8.size
      replace hMk := MarksI.no hMk hs8
      replace hS := Step.trans hS hs8
      replace hA := hA.no hs8
      replace hA2 := hA2.no hs8
      replace ho1 := ho1.no hs8
      replace ho2 := ho2.no hs8
      replace ho6 := ho6.no hs8
      replace hwr := Nat.le_trans hwr (hs8).size
      replace hN2 := NdP.no hN2 hs8
      replace hbase1 := Nat.le_trans hbase1 (hs8).size
      replace hglg1 := Nat.lt_of_lt_of_le hglg1 (hs8).size
      replace ho8 := ho8.no hs8
      replace ho10 := ho10.no hs8
      replace hbb1 := hbb1.no hs8
      replace hmk1 := hmk1.no hs8
      replace hr3 := hr3.no hs8
      have hzs31 := hS.size
      have hzl123 := ho1.lt
      have hzl124 := ho2.lt
      have hzl125 := ho6.lt
      have hzl126 := NdP.lt hN2
      have hzl127 := ho8.lt
      have hzl128 := ho10.lt
      have hzl129 := hbb1.lt
      have hzl130 := hmk1.lt
      refine VTc_call (d := 112) (f := 9) (args := #[.pointer (some ⟨nd1, 0, none⟩), .int .i64 ((jS : Nat) : Int)]) (by kernel_rfl) (by kernel_rfl) (by kernel_rfl) Try.call9 (nleft hN2 ((jS : Nat) : Int)) ?_ ?_
      ·rintro _ w54 ⟨rfl, hc10⟩
       exact Step.mono hc10 (by intro i hi; first | exact hi.elim | exact .inl hi | ((try simp only at hi ⊢); omega))
      rintro _ w54 ⟨rfl, hc10⟩
      have hzhc10 := (hc10).size
      replace hMk := MarksI.no hMk hc10
      replace hS := Step.trans hS hc10
      replace hA := hA.no hc10
      replace hA2 := hA2.no hc10
      replace ho1 := ho1.no hc10
      replace ho2 := ho2.no hc10
      replace ho6 := ho6.no hc10
      replace hwr := Nat.le_trans hwr (hc10).size
      replace hN2 := NdP.no hN2 hc10
      replace hbase1 := Nat.le_trans hbase1 (hc10).size
      replace hglg1 := Nat.lt_of_lt_of_le hglg1 (hc10).size
      replace ho8 := ho8.no hc10
      replace ho10 := ho10.no hc10
      replace hbb1 := hbb1.no hc10
      replace hmk1 := hmk1.no hc10
      replace hr3 := hr3.no hc10
      refine VT_end ?_
      intro w55 hs9
      replace hMk := MarksI.no hMk hs9
      replace hS := Step.trans hS hs9
      replace hA := hA.no hs9
      replace hA2 := hA2.no hs9
      replace ho1 := ho1.no hs9
      replace ho2 := ho2.no hs9
      replace ho6 := ho6.no hs9
      replace hwr := Nat.le_trans hwr (hs9).size
      replace hN2 := NdP.no hN2 hs9
      replace hbase1 := Nat.le_trans hbase1 (hs9).size
      replace hglg1 := Nat.lt_of_lt_of_le hglg1 (hs9).size
      replace ho8 := ho8.no hs9
      replace ho10 := ho10.no hs9
      replace hbb1 := hbb1.no hs9
      replace hmk1 := hmk1.no hs9
      replace hr3 := hr3.no hs9
      refine VL_keep [1, 2, 4, 5, 30, 31, 7, 8, 83, 84, 109, 118, 112] [(1, .slice (some ⟨sb1, so1, none⟩) m2 c2), (2, .pointer (some ⟨b1, 0, none⟩)), (4, .pointer (some ⟨b2, 0, none⟩)), (5, .pointer (some ⟨b3, 0, none⟩)), (30, .int .i64 ((m2 : Nat) : Int)), (31, .int .i64 ((iS : Nat) : Int)), (7, .pointer (some ⟨b4, 0, none⟩)), (8, .pointer (some ⟨b5, 0, none⟩)), (83, .int .i64 ((min 8 m : Nat) : Int)), (84, .int .i64 ((jS : Nat) : Int)), (109, .bool false), (118, .int .i64 (IntKind.wrap .i64 ((imax 0 (imin (rs.getD jS 0) 1152921504606846976)) - ((sumL L2).getD jS 0)))), (112, .int .i64 (leftN (roomsN rs) L2 ((jS : Nat) : Int)))] (by kernel_rfl) ?_
      refine VL_pure 28 [1, 2, 4, 5, 30, 31, 7, 8, 83, 84, 120] [(1, .slice (some ⟨sb1, so1, none⟩) m2 c2), (2, .pointer (some ⟨b1, 0, none⟩)), (4, .pointer (some ⟨b2, 0, none⟩)), (5, .pointer (some ⟨b3, 0, none⟩)), (30, .int .i64 ((m2 : Nat) : Int)), (31, .int .i64 ((iS : Nat) : Int)), (7, .pointer (some ⟨b4, 0, none⟩)), (8, .pointer (some ⟨b5, 0, none⟩)), (83, .int .i64 ((min 8 m : Nat) : Int)), (84, .int .i64 ((jS : Nat) : Int)), (120, .bool ((leftN (roomsN rs) L2 ((jS : Nat) : Int)) != (IntKind.wrap .i64 ((imax 0 (imin (rs.getD jS 0) 1152921504606846976)) - ((sumL L2).getD jS 0)))))] (by kernel_rfl) rfl ?_
      refine VL_end (by kernel_rfl) ?_
      refine VQ_next ?_
      refine VC_is (b := (leftN (roomsN rs) L2 ((jS : Nat) : Int)) != (IntKind.wrap .i64 ((imax 0 (imin (rs.getD jS 0) 1152921504606846976)) - ((sumL L2).getD jS 0)))) false (by kernel_rfl) (by rw [bne_eq_false_iff_eq, hq3, sumL_at _ (by omega), wrap_i64 _ (by omega) (by omega)]) ?_
      refine VC_ite_false ?_
      refine VC_skip ?_
      refine VQ_block_normal ?_
      refine VQ_next ?_
      refine VC_region ?_
      refine VL_pure 1 [1, 2, 4, 5, 30, 31, 7, 8, 83, 121] [(1, .slice (some ⟨sb1, so1, none⟩) m2 c2), (2, .pointer (some ⟨b1, 0, none⟩)), (4, .pointer (some ⟨b2, 0, none⟩)), (5, .pointer (some ⟨b3, 0, none⟩)), (30, .int .i64 ((m2 : Nat) : Int)), (31, .int .i64 ((iS : Nat) : Int)), (7, .pointer (some ⟨b4, 0, none⟩)), (8, .pointer (some ⟨b5, 0, none⟩)), (83, .int .i64 ((min 8 m : Nat) : Int)), (121, .int .i64 (IntKind.wrap .i64 (((jS : Nat) : Int) + 1)))] (by kernel_rfl) rfl ?_
      have he2 : IntKind.wrap .i64 (((jS : Nat) : Int) + 1) = ((jS + 1 : Nat) : Int) := (by rw [wrap_i64 _ (by omega) (by omega)]; omega)
      refine VL_eq [(1, .slice (some ⟨sb1, so1, none⟩) m2 c2), (2, .pointer (some ⟨b1, 0, none⟩)), (4, .pointer (some ⟨b2, 0, none⟩)), (5, .pointer (some ⟨b3, 0, none⟩)), (30, .int .i64 ((m2 : Nat) : Int)), (31, .int .i64 ((iS : Nat) : Int)), (7, .pointer (some ⟨b4, 0, none⟩)), (8, .pointer (some ⟨b5, 0, none⟩)), (83, .int .i64 ((min 8 m : Nat) : Int)), (121, .int .i64 ((jS + 1 : Nat) : Int))] (by rw [he2]) ?_
      refine VL_pure 2 [1, 2, 4, 5, 30, 31, 7, 8, 83, 84] [(1, .slice (some ⟨sb1, so1, none⟩) m2 c2), (2, .pointer (some ⟨b1, 0, none⟩)), (4, .pointer (some ⟨b2, 0, none⟩)), (5, .pointer (some ⟨b3, 0, none⟩)), (30, .int .i64 ((m2 : Nat) : Int)), (31, .int .i64 ((iS : Nat) : Int)), (7, .pointer (some ⟨b4, 0, none⟩)), (8, .pointer (some ⟨b5, 0, none⟩)), (83, .int .i64 ((min 8 m : Nat) : Int)), (84, .int .i64 ((jS + 1 : Nat) : Int))] (by kernel_rfl) rfl ?_
      refine VL_end (by kernel_rfl) ?_
      refine VQ_again (jS + 1) ⟨rfl, rfl, rfl, rfl, rfl, rfl, rfl, rfl, rfl, rfl, trivial⟩ ?_ ?_
      ·exact ⟨by omega, hMk, hS, hA, hA2, ho1, ho2, ho6, hwr, hN2, hbase1, hglg1, ho8, ho10, hbb1, hmk1, hr3⟩
      ·(try dsimp only); omega
     ·refine VC_exit ?_
      refine VQ_then_exit ?_
      refine VQ_then_exit ?_
      refine VQ_block_hit ?_
      refine VQ_next ?_
      refine VC_seq ?_
      have hl64 := NdP.len hN2
      refine VC_region ?_
      refine VL_load (d := 122) (t := 3) (a := ⟨b5, 0, none⟩) (v := .int .i64 ((L2.length : Nat) : Int)) (by kernel_rfl) (by kernel_rfl) (Loads.own1 ho10 (by kernel_rfl) (by rfl)) ?_
      refine VL_pure 2 [1, 2, 4, 5, 30, 31, 123] [(1, .slice (some ⟨sb1, so1, none⟩) m2 c2), (2, .pointer (some ⟨b1, 0, none⟩)), (4, .pointer (some ⟨b2, 0, none⟩)), (5, .pointer (some ⟨b3, 0, none⟩)), (30, .int .i64 ((m2 : Nat) : Int)), (31, .int .i64 ((iS : Nat) : Int)), (123, .bool (decide (((L2.length : Nat) : Int) > 64)))] (by kernel_rfl) rfl ?_
      refine VL_end (by kernel_rfl) ?_
      refine VQ_next ?_
      refine VC_is (b := decide (((L2.length : Nat) : Int) > 64)) false (by kernel_rfl) (decide_eq_false (by omega)) ?_
      refine VC_ite_false ?_
      refine VC_skip ?_
      refine VQ_block_normal ?_
      refine VQ_next ?_
      refine VC_region ?_
      refine VL_pure 1 [1, 2, 4, 5, 30, 124] [(1, .slice (some ⟨sb1, so1, none⟩) m2 c2), (2, .pointer (some ⟨b1, 0, none⟩)), (4, .pointer (some ⟨b2, 0, none⟩)), (5, .pointer (some ⟨b3, 0, none⟩)), (30, .int .i64 ((m2 : Nat) : Int)), (124, .int .i64 (IntKind.wrap .i64 (((iS : Nat) : Int) + 1)))] (by kernel_rfl) rfl ?_
      have he3 : IntKind.wrap .i64 (((iS : Nat) : Int) + 1) = ((iS + 1 : Nat) : Int) := (by rw [wrap_i64 _ (by omega) (by omega)]; omega)
      refine VL_eq [(1, .slice (some ⟨sb1, so1, none⟩) m2 c2), (2, .pointer (some ⟨b1, 0, none⟩)), (4, .pointer (some ⟨b2, 0, none⟩)), (5, .pointer (some ⟨b3, 0, none⟩)), (30, .int .i64 ((m2 : Nat) : Int)), (124, .int .i64 ((iS + 1 : Nat) : Int))] (by rw [he3]) ?_
      refine VL_pure 2 [1, 2, 4, 5, 30, 31] [(1, .slice (some ⟨sb1, so1, none⟩) m2 c2), (2, .pointer (some ⟨b1, 0, none⟩)), (4, .pointer (some ⟨b2, 0, none⟩)), (5, .pointer (some ⟨b3, 0, none⟩)), (30, .int .i64 ((m2 : Nat) : Int)), (31, .int .i64 ((iS + 1 : Nat) : Int))] (by kernel_rfl) rfl ?_
      refine VL_end (by kernel_rfl) ?_
      have hzs32 := hS.size
      have hzl131 := ho1.lt
      have hzl132 := ho2.lt
      have hzl133 := ho6.lt
      have hzk26 := hwr
      have hzl134 := NdP.lt hN2
      have hzk27 := hbase1
      have hzk28 := hglg1
      have hzl135 := ho8.lt
      have hzl136 := ho10.lt
      have hzl137 := hbb1.lt
      have hzl138 := hmk1.lt
      refine VQ_againD ⟨iS + 1, X2, L2, (w23.heap.size :: Ds)⟩ (by rfl) ⟨rfl, rfl, rfl, rfl, rfl, rfl, trivial⟩ ?_ ?_
      ·exact ⟨by omega, hN2, (MarksI.mono (MarksI.cons hMk hmk1 (by omega) (by omega)) (by omega)), hS, hA, hA2, ho1, ho2, ho6⟩
      ·(try dsimp only); omega
   ·refine VC_exit ?_
    refine VQ_then_exit ?_
    refine VQ_then_exit ?_
    refine VQ_block_hit ?_
    refine VQ_next ?_
    refine VC_seq ?_
    refine VC_region ?_
    refine VL_store (b := b2) (o := 0) (vs := [.bool true]) (by kernel_rfl) (by kernel_rfl) ho2 (Nat.le_of_ble_eq_true (by kernel_rfl)) ?_
    intro w56 hw10
    replace hNSnd1 := NdP.blk hNSnd1 ho2 (by decide) hw10.step
    replace hMk := MarksI.own hMk ho2 hw10.step
    replace hS := Step.transNew hS hw10.step (fun _ _ _ => by omega)
    replace hA := hA.step hw10.step (fun k hk (hF : k = b2) => by omega)
    replace hA2 := hA2.step hw10.step (fun k hk (hF : k = b2) => by omega)
    replace ho1 := ho1.step hw10.step (show ¬ b1 = b2 by omega)
    replace ho6 := ho6.step hw10.step (show ¬ b3 = b2 by omega)
    replace hwr := Nat.le_trans hwr (hw10.step).size
    have ho17 : Own w56 b2 #[.bool true] 4 := Own.cast hw10.own (by kernel_rfl)
    have hzhw10 := hw10.same
    refine VL_end (by kernel_rfl) ?_
    refine VQ_next ?_
    refine VC_ret ?_
    refine VQ_retMC1 (.bool true) Ds (.inr rfl) rfl rfl hMk.1 (fun w9 hq9 => Loads.own1 (ho17.step hq9 (fun hm9 => MarksI.ne (hMk.1.dfr _ hm9) ho17 rfl)) (by kernel_rfl) rfl) ?_
    intro w57 hq3
    replace hS := Step.transNew hS hq3 (fun i hi hG => by have h9 := (hMk.2 i hG).1; omega)
    exact ⟨rfl, hS⟩

end Go.Proofs.Ythchmlidobgkoaa
end
