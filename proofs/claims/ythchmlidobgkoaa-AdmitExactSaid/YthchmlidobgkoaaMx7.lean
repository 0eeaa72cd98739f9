import Derived.Test.YthchmlidobgkoaaProg
import Derived.Test.YthchmlidobgkoaaMx6
section
/- Layer 20: AdmitExact. -/
set_option linter.unusedVariables false
set_option linter.unusedSimpArgs false
namespace Go.Proofs.Ythchmlidobgkoaa
open Go.Vc Go.RowKit

set_option maxRecDepth 100000 in
set_option maxHeartbeats 4000000 in
theorem admitExact_any (A : Option Addr) (m c : Nat) (rs : List Int) (A2 : Option Addr) (m2 c2 : Nat) (os : List OpA) (kp kv kc : Int) (kk : Con) (w : World) (hrs : rs.length = m) (hmc : m ≤ c) (hA : Sl w w.heap.size A (iL .i64 rs)) (hos : os.length = m2) (hA2 : Sl w w.heap.size A2 (flat opc os)) (hmm : m2 ≤ maxLen)  :
  CV Try.prog 5 #[.slice A m c, .slice A2 m2 c2, .agg #[.int .i64 kp, .int .i64 kv, .int .i64 kc], .agg #[.int .i64 kk.kind, .int .i64 kk.peak, .int .i64 kk.early, .int .i64 kk.whole, .int .i64 kk.burst, .int .i64 kk.least]] w (fun x w1 => x = .bool true ∧ Step No w w1) := by
 have hS : Step No w w := Step.refl _ _
 refine CV_enterM Try.f5 _ 183 [(0, .slice A m c), (1, .slice A2 m2 c2), (2, .agg #[.int .i64 kp, .int .i64 kv, .int .i64 kc]), (3, .agg #[.int .i64 kk.kind, .int .i64 kk.peak, .int .i64 kk.early, .int .i64 kk.whole, .int .i64 kk.burst, .int .i64 kk.least])] Try.func5 rfl rfl (by kernel_rfl) rfl ?_
 refine VC_seq ?_
 refine VC_region ?_
 have hzs1 := hS.size
 refine VL_box (d := 6) (t := 28) (c := #[.int .i64 kp, .int .i64 kv, .int .i64 kc]) (by kernel_rfl) (by kernel_rfl) ?_
 intro b1 w1 hn1
 replace hS := Step.trans hS (hn1.step No)
 replace hA := hA.no (hn1.step No)
 replace hA2 := hA2.no (hn1.step No)
 have ho1 := hn1.own
 have hzhn1 := hn1.size
 have hqhn1 := hn1.eqb
 have hzs2 := hS.size
 have hzl1 := ho1.lt
 refine VL_box (d := 7) (t := 30) (c := #[.int .i64 kk.kind, .int .i64 kk.peak, .int .i64 kk.early, .int .i64 kk.whole, .int .i64 kk.burst, .int .i64 kk.least]) (by kernel_rfl) (by kernel_rfl) ?_
 intro b2 w2 hn2
 replace hS := Step.trans hS (hn2.step No)
 replace hA := hA.no (hn2.step No)
 replace hA2 := hA2.no (hn2.step No)
 replace ho1 := ho1.no (hn2.step No)
 have ho2 := hn2.own
 have hzhn2 := hn2.size
 have hqhn2 := hn2.eqb
 refine VL_pure 3 [0, 1, 6, 7, 8] [(0, .slice A m c), (1, .slice A2 m2 c2), (6, .pointer (some ⟨b1, 0, none⟩)), (7, .pointer (some ⟨b2, 0, none⟩)), (8, .bool false)] (by kernel_rfl) rfl ?_
 refine VL_end (by kernel_rfl) ?_
 refine VQ_next ?_
 refine VC_seq ?_
 refine VC_seq ?_
 refine VC_region ?_
 have hzs3 := hS.size
 have hzl2 := ho1.lt
 have hzl3 := ho2.lt
 refine VL_call (d := 22) (f := 6) (args := #[]) (by kernel_rfl) (by kernel_rfl) (by kernel_rfl) Try.call6 (awake_any _) ?_
 rintro _ w3 ⟨rfl, hc1⟩
 replace hS := Step.trans hS hc1
 replace hA := hA.no hc1
 replace hA2 := hA2.no hc1
 replace ho1 := ho1.no hc1
 replace ho2 := ho2.no hc1
 refine VL_pure 8 [0, 1, 6, 7, 8, 29] [(0, .slice A m c), (1, .slice A2 m2 c2), (6, .pointer (some ⟨b1, 0, none⟩)), (7, .pointer (some ⟨b2, 0, none⟩)), (8, .bool false), (29, .bool (decide (((m2 : Nat) : Int) > 100)))] (by kernel_rfl) rfl ?_
 refine VL_join (decide (((m2 : Nat) : Int) > 100)) (fun bV => [(0, .slice A m c), (1, .slice A2 m2 c2), (6, .pointer (some ⟨b1, 0, none⟩)), (7, .pointer (some ⟨b2, 0, none⟩)), (8, .bool false), (29, .bool bV)]) 12 [(0, .slice A m c), (1, .slice A2 m2 c2), (6, .pointer (some ⟨b1, 0, none⟩)), (7, .pointer (some ⟨b2, 0, none⟩)), (8, .bool false), (33, .bool ((decide (((m2 : Nat) : Int) > 100)) || (decide (((m : Nat) : Int) > 20))))] rfl (fun hg1 J1 => ?_) (fun hg1 J1 => ?_) ?_
 ·refine VL_pure 12 [0, 1, 6, 7, 8, 33] [(0, .slice A m c), (1, .slice A2 m2 c2), (6, .pointer (some ⟨b1, 0, none⟩)), (7, .pointer (some ⟨b2, 0, none⟩)), (8, .bool false), (33, .bool true)] (by kernel_rfl) rfl ?_
  exact VL_eq _ (by simp only [hg1, Bool.true_and, Bool.false_and, Bool.true_or, Bool.false_or, Bool.not_true, Bool.not_false]) J1
 ·refine VL_pure 12 [0, 1, 6, 7, 8, 33] [(0, .slice A m c), (1, .slice A2 m2 c2), (6, .pointer (some ⟨b1, 0, none⟩)), (7, .pointer (some ⟨b2, 0, none⟩)), (8, .bool false), (33, .bool (decide (((m : Nat) : Int) > 20)))] (by kernel_rfl) rfl ?_
  exact VL_eq _ (by simp only [hg1, Bool.true_and, Bool.false_and, Bool.true_or, Bool.false_or, Bool.not_true, Bool.not_false]) J1
 refine VL_end (by kernel_rfl) ?_
 refine VQ_next ?_
 refine VC_cond ((decide (((m2 : Nat) : Int) > 100)) || (decide (((m : Nat) : Int) > 20))) (by kernel_rfl) (fun h1 => ?_) (fun h1 => ?_)
 ·try simp only [Bool.and_eq_true, Bool.or_eq_true, decide_eq_true_eq, Bool.not_eq_true', decide_eq_false_iff_not, Bool.and_eq_false_iff, Bool.or_eq_false_iff, beq_iff_eq, bne_iff_ne, beq_eq_false_iff_ne, bne_eq_false_iff_eq, Bool.not_eq_eq_eq_not, Bool.not_true, Bool.not_false] at h1
  refine VC_seq ?_
  refine VC_region ?_
  have hzs4 := hS.size
  have hzl4 := ho1.lt
  have hzl5 := ho2.lt
  refine VL_call (d := 34) (f := 6) (args := #[]) (by kernel_rfl) (by kernel_rfl) (by kernel_rfl) Try.call6 (awake_any _) ?_
  rintro _ w4 ⟨rfl, hc2⟩
  replace hS := Step.trans hS hc2
  replace hA := hA.no hc2
  replace hA2 := hA2.no hc2
  replace ho1 := ho1.no hc2
  replace ho2 := ho2.no hc2
  refine VL_pure 2 [8] [(8, .bool true)] (by kernel_rfl) rfl ?_
  refine VL_end (by kernel_rfl) ?_
  refine VQ_next ?_
  refine VC_ret ?_
  refine VQ_then_ret ?_
  have hzs5 := hS.size
  have hzl6 := ho1.lt
  have hzl7 := ho2.lt
  refine VQ_retM1 (.bool true) [] (.inr rfl) rfl rfl trivial ?_
  intro w5 hq1
  replace hq1 : Step No w4 w5 := Step.mono hq1 (fun i hi => by simp at hi)
  replace hS := Step.trans hS hq1
  replace hA := hA.no hq1
  replace hA2 := hA2.no hq1
  replace ho1 := ho1.no hq1
  replace ho2 := ho2.no hq1
  exact ⟨congrArg Value.bool (by first | rfl | (rw [beq_iff_eq, hk9]) | (rw [beq_iff_eq]; exact ht5) | simp [*]), hS⟩
 ·try simp only [Bool.and_eq_true, Bool.or_eq_true, decide_eq_true_eq, Bool.not_eq_true', decide_eq_false_iff_not, Bool.and_eq_false_iff, Bool.or_eq_false_iff, beq_iff_eq, bne_iff_ne, beq_eq_false_iff_ne, bne_eq_false_iff_eq, Bool.not_eq_eq_eq_not, Bool.not_true, Bool.not_false] at h1
  refine VC_skip ?_
  refine VQ_next ?_
  refine VC_seq ?_
  refine VC_region ?_
  refine VL_pure 1 [0, 1, 6, 7, 8, 35] [(0, .slice A m c), (1, .slice A2 m2 c2), (6, .pointer (some ⟨b1, 0, none⟩)), (7, .pointer (some ⟨b2, 0, none⟩)), (8, .bool false), (35, .slice A m c)] (by kernel_rfl) rfl ?_
  have hzs6 := hS.size
  have hzl8 := ho1.lt
  have hzl9 := ho2.lt
  refine VL_call (d := 36) (f := 7) (args := #[.slice A m c]) (by kernel_rfl) (by kernel_rfl) (by kernel_rfl) Try.call7 (nnew hrs hA (by omega) (by omega)) ?_
  rintro _ w6 ⟨nd1, X1, rfl, hN1, hXg1, hc3⟩
  replace hS := Step.trans hS hc3
  replace hA := hA.no hc3
  replace hA2 := hA2.no hc3
  replace ho1 := ho1.no hc3
  replace ho2 := ho2.no hc3
  have hXwnd1 := fun k9 hk9 => NdP.ltX hN1 (k := k9) hk9
  obtain ⟨lo1, hlo1E⟩ : ∃ x, x = w3.heap.size := ⟨_, rfl⟩
  rw [← hlo1E] at hN1
  refine VL_pure 3 [0, 1, 6, 7, 8, 9] [(0, .slice A m c), (1, .slice A2 m2 c2), (6, .pointer (some ⟨b1, 0, none⟩)), (7, .pointer (some ⟨b2, 0, none⟩)), (8, .bool false), (9, .pointer (some ⟨nd1, 0, none⟩))] (by kernel_rfl) rfl ?_
  refine VL_end (by kernel_rfl) ?_
  refine VQ_next ?_
  refine VC_seq ?_
  refine VC_seq ?_
  refine VC_region ?_
  refine VL_pure 3 [0, 1, 6, 7, 8, 9, 38, 39] [(0, .slice A m c), (1, .slice A2 m2 c2), (6, .pointer (some ⟨b1, 0, none⟩)), (7, .pointer (some ⟨b2, 0, none⟩)), (8, .bool false), (9, .pointer (some ⟨nd1, 0, none⟩)), (38, .int .i64 ((m2 : Nat) : Int)), (39, .int .i64 0)] (by kernel_rfl) rfl ?_
  refine VL_end (by kernel_rfl) ?_
  refine VQ_next ?_
  refine VC_block ?_
  refine VC_loop (σ := Nat × (Nat → Prop) × (List Cx)) (fun σs => [(0, .slice A m c), (1, .slice A2 m2 c2), (6, .pointer (some ⟨b1, 0, none⟩)), (7, .pointer (some ⟨b2, 0, none⟩)), (8, .bool false), (9, .pointer (some ⟨nd1, 0, none⟩)), (38, .int .i64 ((m2 : Nat) : Int)), (39, .int .i64 ((σs.1 : Nat) : Int))]) (fun σs wr => σs.1 ≤ m2 ∧ NdP wr nd1 σs.2.1 lo1 (roomsN rs) σs.2.2 σs.1 ∧ (Step No w wr) ∧ (Sl wr w.heap.size A (iL .i64 rs)) ∧ (Sl wr w.heap.size A2 (flat opc os)) ∧ (Own wr b1 #[.int .i64 kp, .int .i64 kv, .int .i64 kc] 28) ∧ (Own wr b2 #[.int .i64 kk.kind, .int .i64 kk.peak, .int .i64 kk.early, .int .i64 kk.whole, .int .i64 kk.burst, .int .i64 kk.least] 30)) (fun σs wr => m2 - σs.1) ⟨0, X1, ([] : List Cx)⟩ ⟨rfl, rfl, rfl, rfl, rfl, rfl, rfl, rfl, trivial⟩ ?_ ?_
  ·exact ⟨Nat.zero_le _, hN1, hS, hA, hA2, ho1, ho2⟩
  rintro ⟨iS, XS, LS⟩ wr ⟨hi0, hNSnd1, hS, hA, hA2, ho1, ho2⟩
  have hwr : wr.heap.size ≤ wr.heap.size := Nat.le_refl _
  try dsimp only at hi0 hNSnd1 hS hA hA2 ho1 ho2 ⊢
  have hXwnd1 := fun k9 hk9 => NdP.ltX hNSnd1 (k := k9) hk9
  refine VC_seq ?_
  refine VC_region ?_
  refine VL_pure 1 [0, 1, 6, 7, 8, 9, 38, 39, 40] [(0, .slice A m c), (1, .slice A2 m2 c2), (6, .pointer (some ⟨b1, 0, none⟩)), (7, .pointer (some ⟨b2, 0, none⟩)), (8, .bool false), (9, .pointer (some ⟨nd1, 0, none⟩)), (38, .int .i64 ((m2 : Nat) : Int)), (39, .int .i64 ((iS : Nat) : Int)), (40, .bool (decide (((iS : Nat) : Int) < ((m2 : Nat) : Int))))] (by kernel_rfl) rfl ?_
  refine VL_end (by kernel_rfl) ?_
  refine VQ_next ?_
  refine VC_seq ?_
  refine VC_dec (((iS : Nat) : Int) < ((m2 : Nat) : Int)) (by kernel_rfl) (fun h2 => ?_) (fun h2 => ?_)
  ·refine VC_skip ?_
   refine VQ_next ?_
   refine VC_seq ?_
   refine VC_block ?_
   refine VC_seq ?_
   refine VC_region ?_
   refine VL_pure 2 [0, 1, 6, 7, 8, 9, 38, 39, 10] [(0, .slice A m c), (1, .slice A2 m2 c2), (6, .pointer (some ⟨b1, 0, none⟩)), (7, .pointer (some ⟨b2, 0, none⟩)), (8, .bool false), (9, .pointer (some ⟨nd1, 0, none⟩)), (38, .int .i64 ((m2 : Nat) : Int)), (39, .int .i64 ((iS : Nat) : Int)), (10, .int .i64 ((iS : Nat) : Int))] (by kernel_rfl) rfl ?_
   refine VL_end (by kernel_rfl) ?_
   refine VQ_next ?_
   refine VC_region ?_
   refine VL_pure 3 [0, 1, 6, 7, 8, 9, 38, 39, 42, 43, 44] [(0, .slice A m c), (1, .slice A2 m2 c2), (6, .pointer (some ⟨b1, 0, none⟩)), (7, .pointer (some ⟨b2, 0, none⟩)), (8, .bool false), (9, .pointer (some ⟨nd1, 0, none⟩)), (38, .int .i64 ((m2 : Nat) : Int)), (39, .int .i64 ((iS : Nat) : Int)), (42, .pointer (some ⟨nd1, 0, none⟩)), (43, .slice A2 m2 c2), (44, .int .i64 ((iS : Nat) : Int))] (by kernel_rfl) rfl ?_
   obtain ⟨sb1, so1, rfl, hlbsb1⟩ := hA2.open (by first | (simp only [iL_length]; omega) | (rw [flat_len opc_len]; omega))
   refine VL_index (d := 45) (b := sb1) (o := so1) (len := m2) (sz := 12) (m := ((iS : Nat) : Int)) (by kernel_rfl) (by kernel_rfl) iS (by rfl) (by omega) (so1 + iS * 12) (by omega) ?_
   obtain ⟨y1, hy1⟩ : ∃ x, os[iS]? = some x := ⟨_, List.getElem?_eq_getElem (by have hq9 : os.length = m2 := hos; omega)⟩
   refine VL_load (d := 46) (t := 32) (a := ⟨sb1, so1 + iS * 12, none⟩) (v := .agg #[.int .i64 y1.d, .int .i64 y1.p, .int .i64 y1.v, .int .i64 y1.c, .int .i64 y1.k.kind, .int .i64 y1.k.peak, .int .i64 y1.k.early, .int .i64 y1.k.whole, .int .i64 y1.k.burst, .int .i64 y1.k.least, .int .i64 y1.t, .int .i64 y1.clp]) (by kernel_rfl) (by kernel_rfl) (Sl.flatAgg (sz := 12) hA2 opc_len hy1 0 12 (by kernel_rfl) (by decide) _ (by first | rfl | omega)) ?_
   have hzl10 := NdP.lt hNSnd1
   have hzs7 := hS.size
   have hzl11 := ho1.lt
   have hzl12 := ho2.lt
   refine VL_call (d := 47) (f := 8) (args := #[.pointer (some ⟨nd1, 0, none⟩), .agg #[.int .i64 y1.d, .int .i64 y1.p, .int .i64 y1.v, .int .i64 y1.c, .int .i64 y1.k.kind, .int .i64 y1.k.peak, .int .i64 y1.k.early, .int .i64 y1.k.whole, .int .i64 y1.k.burst, .int .i64 y1.k.least, .int .i64 y1.t, .int .i64 y1.clp]]) (by kernel_rfl) (by kernel_rfl) (by kernel_rfl) Try.call8 (do_any hNSnd1 (by omega) y1) ?_
   rintro _ w7 ⟨rfl, X2, hN2, hXg2, hc4⟩
   have hzhc4 := (hc4).size
   replace hS := Step.transNew hS hc4 (fun i9 hi9 hX9 => by have h8 := NdP.low hNSnd1 hX9; omega)
   replace hA := hA.step hc4 (fun k9 hk9 hX9 => by have h8 := NdP.low hNSnd1 hX9; omega)
   replace hA2 := hA2.keepB hc4 (fun hX9 => by have h8 := NdP.low hNSnd1 hX9; omega)
   replace ho1 := ho1.step hc4 (NdP.nx hNSnd1 ho1 (by decide))
   replace ho2 := ho2.step hc4 (NdP.nx hNSnd1 ho2 (by decide))
   replace hwr := Nat.le_trans hwr (Step.size hc4)
   have hXwnd1 := fun k9 hk9 => NdP.ltX hN2 (k := k9) hk9
   have hszhN2 := Nat.le_refl w7.heap.size
   refine VL_end (by kernel_rfl) ?_
   refine VQ_block_normal ?_
   refine VQ_next ?_
   refine VC_region ?_
   refine VL_pure 1 [0, 1, 6, 7, 8, 9, 38, 48] [(0, .slice A m c), (1, .slice (some ⟨sb1, so1, none⟩) m2 c2), (6, .pointer (some ⟨b1, 0, none⟩)), (7, .pointer (some ⟨b2, 0, none⟩)), (8, .bool false), (9, .pointer (some ⟨nd1, 0, none⟩)), (38, .int .i64 ((m2 : Nat) : Int)), (48, .int .i64 (IntKind.wrap .i64 (((iS : Nat) : Int) + 1)))] (by kernel_rfl) rfl ?_
   have he1 : IntKind.wrap .i64 (((iS : Nat) : Int) + 1) = ((iS + 1 : Nat) : Int) := (by rw [wrap_i64 _ (by omega) (by omega)]; omega)
   refine VL_eq [(0, .slice A m c), (1, .slice (some ⟨sb1, so1, none⟩) m2 c2), (6, .pointer (some ⟨b1, 0, none⟩)), (7, .pointer (some ⟨b2, 0, none⟩)), (8, .bool false), (9, .pointer (some ⟨nd1, 0, none⟩)), (38, .int .i64 ((m2 : Nat) : Int)), (48, .int .i64 ((iS + 1 : Nat) : Int))] (by rw [he1]) ?_
   refine VL_pure 2 [0, 1, 6, 7, 8, 9, 38, 39] [(0, .slice A m c), (1, .slice (some ⟨sb1, so1, none⟩) m2 c2), (6, .pointer (some ⟨b1, 0, none⟩)), (7, .pointer (some ⟨b2, 0, none⟩)), (8, .bool false), (9, .pointer (some ⟨nd1, 0, none⟩)), (38, .int .i64 ((m2 : Nat) : Int)), (39, .int .i64 ((iS + 1 : Nat) : Int))] (by kernel_rfl) rfl ?_
   refine VL_end (by kernel_rfl) ?_
   refine VQ_again ⟨iS + 1, X2, doL (roomsN rs) LS y1⟩ ⟨rfl, rfl, rfl, rfl, rfl, rfl, rfl, rfl, trivial⟩ ?_ ?_
   ·exact ⟨by omega, hN2, hS, hA, hA2, ho1, ho2⟩
   ·(try dsimp only); omega
  ·refine VC_exit ?_
   refine VQ_then_exit ?_
   refine VQ_then_exit ?_
   refine VQ_block_hit ?_
   refine VQ_next ?_
   refine VC_seq ?_
   refine VC_region ?_
   have hzl13 := NdP.lt hNSnd1
   have hzs8 := hS.size
   have hzl14 := ho1.lt
   have hzl15 := ho2.lt
   have hzk1 := hwr
   refine VL_box (d := 11) (t := 4) (c := #[.bool false]) (by kernel_rfl) (by kernel_rfl) ?_
   intro b3 w8 hn3
   replace hNSnd1 := NdP.no hNSnd1 (hn3.step No)
   replace hS := Step.trans hS (hn3.step No)
   replace hA := hA.no (hn3.step No)
   replace hA2 := hA2.no (hn3.step No)
   replace ho1 := ho1.no (hn3.step No)
   replace ho2 := ho2.no (hn3.step No)
   replace hwr := Nat.le_trans hwr (hn3.step No).size
   have ho3 := hn3.own
   have hzhn3 := hn3.size
   have hqhn3 := hn3.eqb
   refine VL_store (b := b3) (o := 0) (vs := [.bool false]) (by kernel_rfl) (by kernel_rfl) ho3 (Nat.le_of_ble_eq_true (by kernel_rfl)) ?_
   intro w9 hw1
   replace hNSnd1 := NdP.blk hNSnd1 ho3 (by decide) hw1.step
   replace hS := Step.transNew hS hw1.step (fun _ _ _ => by omega)
   replace hA := hA.step hw1.step (fun k hk (hF : k = b3) => by omega)
   replace hA2 := hA2.step hw1.step (fun k hk (hF : k = b3) => by omega)
   replace ho1 := ho1.step hw1.step (show ¬ b1 = b3 by omega)
   replace ho2 := ho2.step hw1.step (show ¬ b2 = b3 by omega)
   replace hwr := Nat.le_trans hwr (hw1.step).size
   have ho4 : Own w9 b3 #[.bool false] 4 := Own.cast hw1.own (by kernel_rfl)
   have hzhw1 := hw1.same
   refine VL_end (by kernel_rfl) ?_
   refine VQ_next ?_
   refine VC_seq ?_
   refine VC_region ?_
   have hzl16 := NdP.lt hNSnd1
   have hzs9 := hS.size
   have hzl17 := ho1.lt
   have hzl18 := ho2.lt
   have hzk2 := hwr
   have hzl19 := ho4.lt
   refine VL_box (d := 12) (t := 3) (c := #[.int .i64 0]) (by kernel_rfl) (by kernel_rfl) ?_
   intro b4 w10 hn4
   replace hNSnd1 := NdP.no hNSnd1 (hn4.step No)
   replace hS := Step.trans hS (hn4.step No)
   replace hA := hA.no (hn4.step No)
   replace hA2 := hA2.no (hn4.step No)
   replace ho1 := ho1.no (hn4.step No)
   replace ho2 := ho2.no (hn4.step No)
   replace hwr := Nat.le_trans hwr (hn4.step No).size
   replace ho4 := ho4.no (hn4.step No)
   have ho5 := hn4.own
   have hzhn4 := hn4.size
   have hqhn4 := hn4.eqb
   refine VL_store (b := b4) (o := 0) (vs := [.int .i64 0]) (by kernel_rfl) (by kernel_rfl) ho5 (Nat.le_of_ble_eq_true (by kernel_rfl)) ?_
   intro w11 hw2
   replace hNSnd1 := NdP.blk hNSnd1 ho5 (by decide) hw2.step
   replace hS := Step.transNew hS hw2.step (fun _ _ _ => by omega)
   replace hA := hA.step hw2.step (fun k hk (hF : k = b4) => by omega)
   replace hA2 := hA2.step hw2.step (fun k hk (hF : k = b4) => by omega)
   replace ho1 := ho1.step hw2.step (show ¬ b1 = b4 by omega)
   replace ho2 := ho2.step hw2.step (show ¬ b2 = b4 by omega)
   replace hwr := Nat.le_trans hwr (hw2.step).size
   replace ho4 := ho4.step hw2.step (show ¬ b3 = b4 by omega)
   have ho6 : Own w11 b4 #[.int .i64 0] 3 := Own.cast hw2.own (by kernel_rfl)
   have hzhw2 := hw2.same
   refine VL_end (by kernel_rfl) ?_
   refine VQ_next ?_
   refine VC_seq ?_
   refine VC_seq ?_
   refine VC_region ?_
   refine VL_pure 1 [0, 6, 7, 8, 9, 11, 12, 49] [(0, .slice A m c), (6, .pointer (some ⟨b1, 0, none⟩)), (7, .pointer (some ⟨b2, 0, none⟩)), (8, .bool false), (9, .pointer (some ⟨nd1, 0, none⟩)), (11, .pointer (some ⟨b3, 0, none⟩)), (12, .pointer (some ⟨b4, 0, none⟩)), (49, .pointer (some ⟨nd1, 0, none⟩))] (by kernel_rfl) rfl ?_
   have hzl20 := NdP.lt hNSnd1
   have hzs10 := hS.size
   have hzl21 := ho1.lt
   have hzl22 := ho2.lt
   have hzl23 := ho4.lt
   have hzl24 := ho6.lt
   refine VL_call (d := 50) (f := 10) (args := #[.pointer (some ⟨nd1, 0, none⟩)]) (by kernel_rfl) (by kernel_rfl) (by kernel_rfl) Try.call10 (nall_any nd1 _) ?_
   rintro _ w12 ⟨bb1, rfl, hfbb1, hbb1, hc5⟩
   replace hNSnd1 := NdP.no hNSnd1 hc5
   replace hS := Step.trans hS hc5
   replace hA := hA.no hc5
   replace hA2 := hA2.no hc5
   replace ho1 := ho1.no hc5
   replace ho2 := ho2.no hc5
   replace hwr := Nat.le_trans hwr (hc5).size
   replace ho4 := ho4.no hc5
   replace ho6 := ho6.no hc5
   have hzbb1 := hbb1.lt
   refine VL_end (by kernel_rfl) ?_
   refine VQ_next ?_
   refine VC_block ?_
   have hzl25 := NdP.lt hNSnd1
   have hzs11 := hS.size
   have hzl26 := ho1.lt
   have hzl27 := ho2.lt
   have hzk3 := hwr
   have hzl28 := ho4.lt
   have hzl29 := ho6.lt
   have hzl30 := hbb1.lt
   have hzl31 := NdP.lt hNSnd1
   have hzs12 := hS.size
   have hzl32 := ho1.lt
   have hzl33 := ho2.lt
   have hzk4 := hwr
   have hzl34 := ho4.lt
   have hzl35 := ho6.lt
   have hzl36 := hbb1.lt
   refine VC_range2 (gf := 25) (lb := #[.pointer (some ⟨bb1, 0, none⟩)]) (xs := (keyV LS)) (by kernel_rfl) Try.call25 (niter bb1 nd1 lo1 XS (roomsN rs) LS iS) (keyV_sz LS) (by kernel_rfl) (fun M i => i = b3 ∨ i = b4) (fun M i hi => by (try simp only at hi); omega) (fun M k W => w12.heap.size + 2 ≤ M ∧ (NdP W nd1 XS lo1 (roomsN rs) LS iS) ∧ (Step No w W) ∧ (Sl W w.heap.size A (iL .i64 rs)) ∧ (Sl W w.heap.size A2 (flat opc os)) ∧ (Own W b1 #[.int .i64 kp, .int .i64 kv, .int .i64 kc] 28) ∧ (Own W b2 #[.int .i64 kk.kind, .int .i64 kk.peak, .int .i64 kk.early, .int .i64 kk.whole, .int .i64 kk.burst, .int .i64 kk.least] 30) ∧ (wr.heap.size ≤ W.heap.size) ∧ (Own W b3 #[.bool ((findC (LS.take k) kp kv kc).isSome)] 4) ∧ (Own W b4 #[.int .i64 ((k : Nat) : Int)] 3) ∧ (Own W bb1 #[.pointer (some ⟨nd1, 0, none⟩)] 25)) (by rintro M k W W' ⟨hMm, hNSnd1, hS, hA, hA2, ho1, ho2, hwr, ho4, ho6, hbb1⟩ hs; exact ⟨hMm, NdP.step hNSnd1 hs (fun k9 hk9 hG => by have h8 := hXwnd1 k9 hk9; have h7 : k9 = (w12.heap.size + 1) := hG; omega), Step.transNew hS hs (fun i9 hi9 hG => by have h7 : i9 = (w12.heap.size + 1) := hG; omega), hA.step hs (fun k9 hk9 hG => by have h7 : k9 = (w12.heap.size + 1) := hG; omega), hA2.step hs (fun k9 hk9 hG => by have h7 : k9 = (w12.heap.size + 1) := hG; omega), ho1.step hs (fun hG => by have h7 : b1 = (w12.heap.size + 1) := hG; omega), ho2.step hs (fun hG => by have h7 : b2 = (w12.heap.size + 1) := hG; omega), Nat.le_trans hwr hs.size, ho4.step hs (fun hG => by have h7 : b3 = (w12.heap.size + 1) := hG; omega), ho6.step hs (fun hG => by have h7 : b4 = (w12.heap.size + 1) := hG; omega), hbb1.step hs (fun hG => by have h7 : bb1 = (w12.heap.size + 1) := hG; omega)⟩) (by rintro M k W W' ⟨hMm, hNSnd1, hS, hA, hA2, ho1, ho2, hwr, ho4, ho6, hbb1⟩ hs; exact ⟨hMm, NdP.step hNSnd1 hs (fun k9 hk9 hG => by have h8 := hXwnd1 k9 hk9; have h7 := hG.1; have h6 := hG.2; omega), Step.transNew hS hs (fun i9 hi9 hG => by have h7 := hG.1; have h6 := hG.2; omega), hA.step hs (fun k9 hk9 hG => by have h7 := hG.1; have h6 := hG.2; omega), hA2.step hs (fun k9 hk9 hG => by have h7 := hG.1; have h6 := hG.2; omega), ho1.step hs (fun hG => by have h7 := hG.1; have h6 := hG.2; omega), ho2.step hs (fun hG => by have h7 := hG.1; have h6 := hG.2; omega), Nat.le_trans hwr hs.size, ho4.step hs (fun hG => by have h7 := hG.1; have h6 := hG.2; omega), ho6.step hs (fun hG => by have h7 := hG.1; have h6 := hG.2; omega), hbb1.step hs (fun hG => by have h7 := hG.1; have h6 := hG.2; omega)⟩) (by rintro M k W ⟨hMm, hNSnd1, hS, hA, hA2, ho1, ho2, hwr, ho4, ho6, hbb1⟩; exact fun _ => ⟨hbb1, hNSnd1⟩) (fun W hs _ => ⟨hbb1.no hs, hNSnd1.no hs⟩) (fun M W hMm hM2 hs _ => ⟨hMm, NdP.no hNSnd1 hs, Step.trans hS hs, hA.no hs, hA2.no hs, ho1.no hs, ho2.no hs, Nat.le_trans hwr hs.size, (Own.cast (ho4.no hs) (by rfl)), (Own.cast (ho6.no hs) (by rfl)), hbb1.no hs⟩) ?_ ?_
   ·intro M k w13 args hM hM2 hx hJ0 hsz
    obtain ⟨hMm, hNSnd1, hS, hA, hA2, ho1, ho2, hwr, ho4, ho6, hbb1⟩ := hJ0
    obtain ⟨y, hy, rfl⟩ := keyV_inv hx
    have hAs : Step No w13 w13 := Step.refl _ _
    have hML : M ≤ w13.heap.size := hM2
    have hky := (List.getElem?_eq_some_iff.1 hy).1
    have hl64 := NdP.len hNSnd1
    refine VC_keep [6, 11, 12, 51] [(6, .pointer (some ⟨b1, 0, none⟩)), (11, .pointer (some ⟨b3, 0, none⟩)), (12, .pointer (some ⟨b4, 0, none⟩)), (51, .agg #[.int .i64 y.p, .int .i64 y.v, .int .i64 y.c])] (by kernel_rfl) ?_
    refine VC_region ?_
    have hzl37 := NdP.lt hNSnd1
    have hzs13 := hS.size
    have hzl38 := ho1.lt
    have hzl39 := ho2.lt
    have hzk5 := hwr
    have hzl40 := ho4.lt
    have hzl41 := ho6.lt
    have hzl42 := hbb1.lt
    have hzk6 := hML
    have hzs14 := hAs.size
    refine VL_box (d := 13) (t := 28) (c := #[.int .i64 0, .int .i64 0, .int .i64 0]) (by kernel_rfl) (by kernel_rfl) ?_
    intro b5 w14 hn5
    replace hNSnd1 := NdP.no hNSnd1 (hn5.step No)
    replace hS := Step.trans hS (hn5.step No)
    replace hA := hA.no (hn5.step No)
    replace hA2 := hA2.no (hn5.step No)
    replace ho1 := ho1.no (hn5.step No)
    replace ho2 := ho2.no (hn5.step No)
    replace hwr := Nat.le_trans hwr (hn5.step No).size
    replace ho4 := ho4.no (hn5.step No)
    replace ho6 := ho6.no (hn5.step No)
    replace hbb1 := hbb1.no (hn5.step No)
    replace hML := Nat.le_trans hML (hn5.step No).size
    replace hAs := Step.trans hAs (hn5.step No)
    have ho7 := hn5.own
    have hzhn5 := hn5.size
    have hqhn5 := hn5.eqb
    refine VL_store (b := b5) (o := 0) (vs := [.int .i64 y.p, .int .i64 y.v, .int .i64 y.c]) (by kernel_rfl) (by kernel_rfl) ho7 (Nat.le_of_ble_eq_true (by kernel_rfl)) ?_
    intro w15 hw3
    replace hNSnd1 := NdP.blk hNSnd1 ho7 (by decide) hw3.step
    replace hS := Step.transNew hS hw3.step (fun _ _ _ => by omega)
    replace hA := hA.step hw3.step (fun k hk (hF : k = b5) => by omega)
    replace hA2 := hA2.step hw3.step (fun k hk (hF : k = b5) => by omega)
    replace ho1 := ho1.step hw3.step (show ¬ b1 = b5 by omega)
    replace ho2 := ho2.step hw3.step (show ¬ b2 = b5 by omega)
    replace hwr := Nat.le_trans hwr (hw3.step).size
    replace ho4 := ho4.step hw3.step (show ¬ b3 = b5 by omega)
    replace ho6 := ho6.step hw3.step (show ¬ b4 = b5 by omega)
    replace hbb1 := hbb1.step hw3.step (show ¬ bb1 = b5 by omega)
    replace hML := Nat.le_trans hML (hw3.step).size
    replace hAs := Step.transNew hAs hw3.step (fun _ _ _ => by omega)
    have ho8 : Own w15 b5 #[.int .i64 y.p, .int .i64 y.v, .int .i64 y.c] 28 := Own.cast hw3.own (by kernel_rfl)
    have hzhw3 := hw3.same
    refine VL_end (by kernel_rfl) ?_
    refine VQ_begin hAs ?_
    intro w16 hb1 hzhb1
    have hzl43 := NdP.lt hNSnd1
    have hzs15 := hS.size
    have hzl44 := ho1.lt
    have hzl45 := ho2.lt
    have hzk7 := hwr
    have hzl46 := ho4.lt
    have hzl47 := ho6.lt
    have hzl48 := hbb1.lt
    have hzk8 := hML
    have hzl49 := ho8.lt
    replace hNSnd1 := NdP.step hNSnd1 hb1 (fun k9 hk9 hF9 => by have h8 := hXwnd1 k9 hk9; have h7 : k9 = (w12.heap.size + 1) := hF9; omega)
    replace hS := Step.transNew hS hb1 (fun _ _ _ => by omega)
    replace hA := hA.step hb1 (fun k hk (hF : k = (w12.heap.size + 1)) => by omega)
    replace hA2 := hA2.step hb1 (fun k hk (hF : k = (w12.heap.size + 1)) => by omega)
    replace ho1 := ho1.step hb1 (show ¬ b1 = (w12.heap.size + 1) by omega)
    replace ho2 := ho2.step hb1 (show ¬ b2 = (w12.heap.size + 1) by omega)
    replace hwr := Nat.le_trans hwr (hb1).size
    replace ho4 := ho4.step hb1 (show ¬ b3 = (w12.heap.size + 1) by omega)
    replace ho6 := ho6.step hb1 (show ¬ b4 = (w12.heap.size + 1) by omega)
    replace hbb1 := hbb1.step hb1 (show ¬ bb1 = (w12.heap.size + 1) by omega)
    replace hML := Nat.le_trans hML (hb1).size
    replace ho8 := ho8.step hb1 (show ¬ b5 = (w12.heap.size + 1) by omega)
    have hR1 : Step ((fun M i => i = b3 ∨ i = b4) M) w16 w16 := Step.refl _ _
    refine VC_block ?_
    refine VC_seq ?_
    refine VC_region ?_
    refine VL_load (d := 52) (t := 4) (a := ⟨b3, 0, none⟩) (v := .bool ((findC (LS.take k) kp kv kc).isSome)) (by kernel_rfl) (by kernel_rfl) (Loads.own1 ho4 (by kernel_rfl) (by rfl)) ?_
    refine VL_pure 2 [6, 11, 12, 13, 53] [(6, .pointer (some ⟨b1, 0, none⟩)), (11, .pointer (some ⟨b3, 0, none⟩)), (12, .pointer (some ⟨b4, 0, none⟩)), (13, .pointer (some ⟨b5, 0, none⟩)), (53, .bool ((findC (LS.take k) kp kv kc).isSome))] (by kernel_rfl) rfl ?_
    refine VL_bool ((findC (LS.take k) kp kv kc).isSome) (fun bV => [(6, .pointer (some ⟨b1, 0, none⟩)), (11, .pointer (some ⟨b3, 0, none⟩)), (12, .pointer (some ⟨b4, 0, none⟩)), (13, .pointer (some ⟨b5, 0, none⟩)), (53, .bool bV)]) rfl (fun hg2 => ?_) (fun hg2 => ?_)
    ·refine VL_pure 6 [11, 12, 57] [(11, .pointer (some ⟨b3, 0, none⟩)), (12, .pointer (some ⟨b4, 0, none⟩)), (57, .bool true)] (by kernel_rfl) rfl ?_
     refine VL_store (b := b3) (o := 0) (vs := [.bool true]) (by kernel_rfl) (by kernel_rfl) ho4 (Nat.le_of_ble_eq_true (by kernel_rfl)) ?_
     intro w17 hw4
     replace hNSnd1 := NdP.blk hNSnd1 ho4 (by decide) hw4.step
     replace hS := Step.transNew hS hw4.step (fun _ _ _ => by omega)
     replace hA := hA.step hw4.step (fun k hk (hF : k = b3) => by omega)
     replace hA2 := hA2.step hw4.step (fun k hk (hF : k = b3) => by omega)
     replace ho1 := ho1.step hw4.step (show ¬ b1 = b3 by omega)
     replace ho2 := ho2.step hw4.step (show ¬ b2 = b3 by omega)
     replace hwr := Nat.le_trans hwr (hw4.step).size
     replace ho6 := ho6.step hw4.step (show ¬ b4 = b3 by omega)
     replace hbb1 := hbb1.step hw4.step (show ¬ bb1 = b3 by omega)
     replace hML := Nat.le_trans hML (hw4.step).size
     replace ho8 := ho8.step hw4.step (show ¬ b5 = b3 by omega)
     replace hR1 := Step.trans hR1 (Step.mono hw4.step (by intro i hi; first | exact hi | exact ⟨_, by assumption, hi⟩ | (have hi9 : i = b3 := hi; (first | show _ ∨ _ | show _ = _); omega)))
     have ho9 : Own w17 b3 #[.bool true] 4 := Own.cast hw4.own (by kernel_rfl)
     have hzhw4 := hw4.same
     refine VL_end (by kernel_rfl) ?_
     refine VQ_next ?_
     refine VC_region ?_
     refine VL_load (d := 58) (t := 3) (a := ⟨b4, 0, none⟩) (v := .int .i64 ((k : Nat) : Int)) (by kernel_rfl) (by kernel_rfl) (Loads.own1 ho6 (by kernel_rfl) (by rfl)) ?_
     refine VL_pure 2 [12, 59] [(12, .pointer (some ⟨b4, 0, none⟩)), (59, .int .i64 (IntKind.wrap .i64 (((k : Nat) : Int) + 1)))] (by kernel_rfl) rfl ?_
     have he2 : IntKind.wrap .i64 (((k : Nat) : Int) + 1) = ((k + 1 : Nat) : Int) := (by rw [wrap_i64 _ (by omega) (by omega)]; omega)
     refine VL_eq [(12, .pointer (some ⟨b4, 0, none⟩)), (59, .int .i64 ((k + 1 : Nat) : Int))] (by rw [he2]) ?_
     refine VL_store (b := b4) (o := 0) (vs := [.int .i64 ((k + 1 : Nat) : Int)]) (by kernel_rfl) (by kernel_rfl) ho6 (Nat.le_of_ble_eq_true (by kernel_rfl)) ?_
     intro w18 hw5
     replace hNSnd1 := NdP.blk hNSnd1 ho6 (by decide) hw5.step
     replace hS := Step.transNew hS hw5.step (fun _ _ _ => by omega)
     replace hA := hA.step hw5.step (fun k hk (hF : k = b4) => by omega)
     replace hA2 := hA2.step hw5.step (fun k hk (hF : k = b4) => by omega)
     replace ho1 := ho1.step hw5.step (show ¬ b1 = b4 by omega)
     replace ho2 := ho2.step hw5.step (show ¬ b2 = b4 by omega)
     replace hwr := Nat.le_trans hwr (hw5.step).size
     replace hbb1 := hbb1.step hw5.step (show ¬ bb1 = b4 by omega)
     replace hML := Nat.le_trans hML (hw5.step).size
     replace ho8 := ho8.step hw5.step (show ¬ b5 = b4 by omega)
     replace hR1 := Step.trans hR1 (Step.mono hw5.step (by intro i hi; first | exact hi | exact ⟨_, by assumption, hi⟩ | (have hi9 : i = b4 := hi; (first | show _ ∨ _ | show _ = _); omega)))
     replace ho9 := ho9.step hw5.step (show ¬ b3 = b4 by omega)
     have ho10 : Own w18 b4 #[.int .i64 ((k + 1 : Nat) : Int)] 3 := Own.cast hw5.own (by kernel_rfl)
     have hzhw5 := hw5.same
     refine VL_end (by kernel_rfl) ?_
     refine VQ_block_normal ?_
     exact VQ_round_end hR1 ⟨hMm, hNSnd1, hS, hA, hA2, ho1, ho2, hwr, (Own.cast ho9 (by rw [find_next hy]; simp [*])), (Own.cast ho10 (by first | rfl | (push_cast; rfl))), hbb1⟩
    ·refine VL_load (d := 54) (t := 28) (a := ⟨b5, 0, none⟩) (v := .agg #[.int .i64 y.p, .int .i64 y.v, .int .i64 y.c]) (by kernel_rfl) (by kernel_rfl) (Loads.ownL ho8 (n := 3) (by kernel_rfl) (by kernel_rfl) (by kernel_rfl)) ?_
     refine VL_load (d := 55) (t := 28) (a := ⟨b1, 0, none⟩) (v := .agg #[.int .i64 kp, .int .i64 kv, .int .i64 kc]) (by kernel_rfl) (by kernel_rfl) (Loads.ownL ho1 (n := 3) (by kernel_rfl) (by kernel_rfl) (by kernel_rfl)) ?_
     refine VL_agEq (d := 56) (dd := 9) (ls := ([.int .i64] ++ [.int .i64] ++ [.int .i64] ++ [])) (pos := true) (t := 28) (xs := #[.int .i64 y.p, .int .i64 y.v, .int .i64 y.c]) (ys := #[.int .i64 kp, .int .i64 kv, .int .i64 kc]) (by kernel_rfl) (by kernel_rfl) (by kernel_rfl) (by kernel_rfl) (by first | exact ⟨⟨_, rfl⟩, ⟨_, rfl⟩, ⟨_, rfl⟩, trivial⟩ | trivial) (by first | exact ⟨⟨_, rfl⟩, ⟨_, rfl⟩, ⟨_, rfl⟩, trivial⟩ | trivial) (keyX kp kv kc y) (by rw [Bool.eq_iff_iff]; simp [cellsEq, leafEq, keyX]) ?_
     refine VL_pure 6 [11, 12, 57] [(11, .pointer (some ⟨b3, 0, none⟩)), (12, .pointer (some ⟨b4, 0, none⟩)), (57, .bool (keyX kp kv kc y))] (by kernel_rfl) rfl ?_
     refine VL_store (b := b3) (o := 0) (vs := [.bool (keyX kp kv kc y)]) (by kernel_rfl) (by kernel_rfl) ho4 (Nat.le_of_ble_eq_true (by kernel_rfl)) ?_
     intro w19 hw6
     replace hNSnd1 := NdP.blk hNSnd1 ho4 (by decide) hw6.step
     replace hS := Step.transNew hS hw6.step (fun _ _ _ => by omega)
     replace hA := hA.step hw6.step (fun k hk (hF : k = b3) => by omega)
     replace hA2 := hA2.step hw6.step (fun k hk (hF : k = b3) => by omega)
     replace ho1 := ho1.step hw6.step (show ¬ b1 = b3 by omega)
     replace ho2 := ho2.step hw6.step (show ¬ b2 = b3 by omega)
     replace hwr := Nat.le_trans hwr (hw6.step).size
     replace ho6 := ho6.step hw6.step (show ¬ b4 = b3 by omega)
     replace hbb1 := hbb1.step hw6.step (show ¬ bb1 = b3 by omega)
     replace hML := Nat.le_trans hML (hw6.step).size
     replace ho8 := ho8.step hw6.step (show ¬ b5 = b3 by omega)
     replace hR1 := Step.trans hR1 (Step.mono hw6.step (by intro i hi; first | exact hi | exact ⟨_, by assumption, hi⟩ | (have hi9 : i = b3 := hi; (first | show _ ∨ _ | show _ = _); omega)))
     have ho11 : Own w19 b3 #[.bool (keyX kp kv kc y)] 4 := Own.cast hw6.own (by kernel_rfl)
     have hzhw6 := hw6.same
     refine VL_end (by kernel_rfl) ?_
     refine VQ_next ?_
     refine VC_region ?_
     refine VL_load (d := 58) (t := 3) (a := ⟨b4, 0, none⟩) (v := .int .i64 ((k : Nat) : Int)) (by kernel_rfl) (by kernel_rfl) (Loads.own1 ho6 (by kernel_rfl) (by rfl)) ?_
     refine VL_pure 2 [12, 59] [(12, .pointer (some ⟨b4, 0, none⟩)), (59, .int .i64 (IntKind.wrap .i64 (((k : Nat) : Int) + 1)))] (by kernel_rfl) rfl ?_
     have he3 : IntKind.wrap .i64 (((k : Nat) : Int) + 1) = ((k + 1 : Nat) : Int) := (by rw [wrap_i64 _ (by omega) (by omega)]; omega)
     refine VL_eq [(12, .pointer (some ⟨b4, 0, none⟩)), (59, .int .i64 ((k + 1 : Nat) : Int))] (by rw [he3]) ?_
     refine VL_store (b := b4) (o := 0) (vs := [.int .i64 ((k + 1 : Nat) : Int)]) (by kernel_rfl) (by kernel_rfl) ho6 (Nat.le_of_ble_eq_true (by kernel_rfl)) ?_
     intro w20 hw7
     replace hNSnd1 := NdP.blk hNSnd1 ho6 (by decide) hw7.step
     replace hS := Step.transNew hS hw7.step (fun _ _ _ => by omega)
     replace hA := hA.step hw7.step (fun k hk (hF : k = b4) => by omega)
     replace hA2 := hA2.step hw7.step (fun k hk (hF : k = b4) => by omega)
     replace ho1 := ho1.step hw7.step (show ¬ b1 = b4 by omega)
     replace ho2 := ho2.step hw7.step (show ¬ b2 = b4 by omega)
     replace hwr := Nat.le_trans hwr (hw7.step).size
     replace hbb1 := hbb1.step hw7.step (show ¬ bb1 = b4 by omega)
     replace hML := Nat.le_trans hML (hw7.step).size
     replace ho8 := ho8.step hw7.step (show ¬ b5 = b4 by omega)
     replace hR1 := Step.trans hR1 (Step.mono hw7.step (by intro i hi; first | exact hi | exact ⟨_, by assumption, hi⟩ | (have hi9 : i = b4 := hi; (first | show _ ∨ _ | show _ = _); omega)))
     replace ho11 := ho11.step hw7.step (show ¬ b3 = b4 by omega)
     have ho12 : Own w20 b4 #[.int .i64 ((k + 1 : Nat) : Int)] 3 := Own.cast hw7.own (by kernel_rfl)
     have hzhw7 := hw7.same
     refine VL_end (by kernel_rfl) ?_
     refine VQ_block_normal ?_
     exact VQ_round_end hR1 ⟨hMm, hNSnd1, hS, hA, hA2, ho1, ho2, hwr, (Own.cast ho11 (by rw [find_next hy]; simp [*])), (Own.cast ho12 (by first | rfl | (push_cast; rfl))), hbb1⟩
   ·intro M w21 hM hzM hJ0 hD
    rw [keyV_len] at hJ0
    obtain ⟨hMm, hNSnd1, hS, hA, hA2, ho1, ho2, hwr, ho4, ho6, hbb1⟩ := hJ0
    rw [List.take_length] at ho4
    have hl64 := NdP.len hNSnd1
    have hLI := NdP.li hNSnd1
    have hmk1 := hD
    refine VQ_block_normal ?_
    refine VQ_next ?_
    refine VC_seq ?_
    refine VC_region ?_
    refine VL_pure 1 [0, 6, 7, 9, 11, 12, 60] [(0, .slice A m c), (6, .pointer (some ⟨b1, 0, none⟩)), (7, .pointer (some ⟨b2, 0, none⟩)), (9, .pointer (some ⟨nd1, 0, none⟩)), (11, .pointer (some ⟨b3, 0, none⟩)), (12, .pointer (some ⟨b4, 0, none⟩)), (60, .pointer (some ⟨b1, 0, none⟩))] (by kernel_rfl) rfl ?_
    refine VL_load (d := 61) (t := 3) (a := ⟨b1, 0, none⟩) (v := .int .i64 kp) (by kernel_rfl) (by kernel_rfl) (Loads.own1 ho1 (by kernel_rfl) (by rfl)) ?_
    refine VL_pure 4 [0, 6, 7, 9, 11, 12, 63] [(0, .slice A m c), (6, .pointer (some ⟨b1, 0, none⟩)), (7, .pointer (some ⟨b2, 0, none⟩)), (9, .pointer (some ⟨nd1, 0, none⟩)), (11, .pointer (some ⟨b3, 0, none⟩)), (12, .pointer (some ⟨b4, 0, none⟩)), (63, .bool (decide (kp ≥ 0)))] (by kernel_rfl) rfl ?_
    refine VL_join (decide (kp ≥ 0)) (fun bV => [(0, .slice A m c), (6, .pointer (some ⟨b1, 0, none⟩)), (7, .pointer (some ⟨b2, 0, none⟩)), (9, .pointer (some ⟨nd1, 0, none⟩)), (11, .pointer (some ⟨b3, 0, none⟩)), (12, .pointer (some ⟨b4, 0, none⟩)), (63, .bool bV)]) 11 [(6, .pointer (some ⟨b1, 0, none⟩)), (7, .pointer (some ⟨b2, 0, none⟩)), (9, .pointer (some ⟨nd1, 0, none⟩)), (11, .pointer (some ⟨b3, 0, none⟩)), (12, .pointer (some ⟨b4, 0, none⟩)), (70, .bool ((decide (kp ≥ 0)) && (decide (kp < (imin 8 ((m : Nat) : Int))))))] rfl (fun hg3 J2 => ?_) (fun hg3 J2 => ?_) ?_
    ·refine VL_pure 5 [0, 6, 7, 9, 11, 12, 63, 64] [(0, .slice A m c), (6, .pointer (some ⟨b1, 0, none⟩)), (7, .pointer (some ⟨b2, 0, none⟩)), (9, .pointer (some ⟨nd1, 0, none⟩)), (11, .pointer (some ⟨b3, 0, none⟩)), (12, .pointer (some ⟨b4, 0, none⟩)), (63, .bool true), (64, .pointer (some ⟨b1, 0, none⟩))] (by kernel_rfl) rfl ?_
     refine VL_load (d := 65) (t := 3) (a := ⟨b1, 0, none⟩) (v := .int .i64 kp) (by kernel_rfl) (by kernel_rfl) (Loads.own1 ho1 (by kernel_rfl) (by rfl)) ?_
     refine VL_pure 11 [6, 7, 9, 11, 12, 70] [(6, .pointer (some ⟨b1, 0, none⟩)), (7, .pointer (some ⟨b2, 0, none⟩)), (9, .pointer (some ⟨nd1, 0, none⟩)), (11, .pointer (some ⟨b3, 0, none⟩)), (12, .pointer (some ⟨b4, 0, none⟩)), (70, .bool (decide (kp < (imin 8 ((m : Nat) : Int)))))] (by kernel_rfl) rfl ?_
     exact VL_eq _ (by simp only [hg3, Bool.true_and, Bool.false_and, Bool.true_or, Bool.false_or, Bool.not_true, Bool.not_false]) J2
    ·refine VL_pure 11 [6, 7, 9, 11, 12, 70] [(6, .pointer (some ⟨b1, 0, none⟩)), (7, .pointer (some ⟨b2, 0, none⟩)), (9, .pointer (some ⟨nd1, 0, none⟩)), (11, .pointer (some ⟨b3, 0, none⟩)), (12, .pointer (some ⟨b4, 0, none⟩)), (70, .bool false)] (by kernel_rfl) rfl ?_
     exact VL_eq _ (by simp only [hg3, Bool.true_and, Bool.false_and, Bool.true_or, Bool.false_or, Bool.not_true, Bool.not_false]) J2
    refine VL_pure 12 [6, 7, 9, 11, 12, 71] [(6, .pointer (some ⟨b1, 0, none⟩)), (7, .pointer (some ⟨b2, 0, none⟩)), (9, .pointer (some ⟨nd1, 0, none⟩)), (11, .pointer (some ⟨b3, 0, none⟩)), (12, .pointer (some ⟨b4, 0, none⟩)), (71, .bool ((decide (kp ≥ 0)) && (decide (kp < (imin 8 ((m : Nat) : Int))))))] (by kernel_rfl) rfl ?_
    refine VL_join ((decide (kp ≥ 0)) && (decide (kp < (imin 8 ((m : Nat) : Int))))) (fun bV => [(6, .pointer (some ⟨b1, 0, none⟩)), (7, .pointer (some ⟨b2, 0, none⟩)), (9, .pointer (some ⟨nd1, 0, none⟩)), (11, .pointer (some ⟨b3, 0, none⟩)), (12, .pointer (some ⟨b4, 0, none⟩)), (71, .bool bV)]) 16 [(6, .pointer (some ⟨b1, 0, none⟩)), (7, .pointer (some ⟨b2, 0, none⟩)), (9, .pointer (some ⟨nd1, 0, none⟩)), (11, .pointer (some ⟨b3, 0, none⟩)), (12, .pointer (some ⟨b4, 0, none⟩)), (75, .bool (((decide (kp ≥ 0)) && (decide (kp < (imin 8 ((m : Nat) : Int))))) && (decide (kv ≥ 0))))] rfl (fun hg4 J3 => ?_) (fun hg4 J3 => ?_) ?_
    ·refine VL_pure 13 [6, 7, 9, 11, 12, 71, 72] [(6, .pointer (some ⟨b1, 0, none⟩)), (7, .pointer (some ⟨b2, 0, none⟩)), (9, .pointer (some ⟨nd1, 0, none⟩)), (11, .pointer (some ⟨b3, 0, none⟩)), (12, .pointer (some ⟨b4, 0, none⟩)), (71, .bool true), (72, .pointer (some ⟨b1, 1, none⟩))] (by kernel_rfl) rfl ?_
     refine VL_load (d := 73) (t := 3) (a := ⟨b1, 1, none⟩) (v := .int .i64 kv) (by kernel_rfl) (by kernel_rfl) (Loads.own1 ho1 (by kernel_rfl) (by rfl)) ?_
     refine VL_pure 16 [6, 7, 9, 11, 12, 75] [(6, .pointer (some ⟨b1, 0, none⟩)), (7, .pointer (some ⟨b2, 0, none⟩)), (9, .pointer (some ⟨nd1, 0, none⟩)), (11, .pointer (some ⟨b3, 0, none⟩)), (12, .pointer (some ⟨b4, 0, none⟩)), (75, .bool (decide (kv ≥ 0)))] (by kernel_rfl) rfl ?_
     exact VL_eq _ (by simp only [hg4, Bool.true_and, Bool.false_and, Bool.true_or, Bool.false_or, Bool.not_true, Bool.not_false]) J3
    ·refine VL_pure 16 [6, 7, 9, 11, 12, 75] [(6, .pointer (some ⟨b1, 0, none⟩)), (7, .pointer (some ⟨b2, 0, none⟩)), (9, .pointer (some ⟨nd1, 0, none⟩)), (11, .pointer (some ⟨b3, 0, none⟩)), (12, .pointer (some ⟨b4, 0, none⟩)), (75, .bool false)] (by kernel_rfl) rfl ?_
     exact VL_eq _ (by simp only [hg4, Bool.true_and, Bool.false_and, Bool.true_or, Bool.false_or, Bool.not_true, Bool.not_false]) J3
    refine VL_pure 17 [6, 7, 9, 11, 12, 76] [(6, .pointer (some ⟨b1, 0, none⟩)), (7, .pointer (some ⟨b2, 0, none⟩)), (9, .pointer (some ⟨nd1, 0, none⟩)), (11, .pointer (some ⟨b3, 0, none⟩)), (12, .pointer (some ⟨b4, 0, none⟩)), (76, .bool (((decide (kp ≥ 0)) && (decide (kp < (imin 8 ((m : Nat) : Int))))) && (decide (kv ≥ 0))))] (by kernel_rfl) rfl ?_
    refine VL_join (((decide (kp ≥ 0)) && (decide (kp < (imin 8 ((m : Nat) : Int))))) && (decide (kv ≥ 0))) (fun bV => [(6, .pointer (some ⟨b1, 0, none⟩)), (7, .pointer (some ⟨b2, 0, none⟩)), (9, .pointer (some ⟨nd1, 0, none⟩)), (11, .pointer (some ⟨b3, 0, none⟩)), (12, .pointer (some ⟨b4, 0, none⟩)), (76, .bool bV)]) 21 [(6, .pointer (some ⟨b1, 0, none⟩)), (7, .pointer (some ⟨b2, 0, none⟩)), (9, .pointer (some ⟨nd1, 0, none⟩)), (11, .pointer (some ⟨b3, 0, none⟩)), (12, .pointer (some ⟨b4, 0, none⟩)), (80, .bool ((((decide (kp ≥ 0)) && (decide (kp < (imin 8 ((m : Nat) : Int))))) && (decide (kv ≥ 0))) && (decide (kv < 4096))))] rfl (fun hg5 J4 => ?_) (fun hg5 J4 => ?_) ?_
    ·refine VL_pure 18 [6, 7, 9, 11, 12, 76, 77] [(6, .pointer (some ⟨b1, 0, none⟩)), (7, .pointer (some ⟨b2, 0, none⟩)), (9, .pointer (some ⟨nd1, 0, none⟩)), (11, .pointer (some ⟨b3, 0, none⟩)), (12, .pointer (some ⟨b4, 0, none⟩)), (76, .bool true), (77, .pointer (some ⟨b1, 1, none⟩))] (by kernel_rfl) rfl ?_
     refine VL_load (d := 78) (t := 3) (a := ⟨b1, 1, none⟩) (v := .int .i64 kv) (by kernel_rfl) (by kernel_rfl) (Loads.own1 ho1 (by kernel_rfl) (by rfl)) ?_
     refine VL_pure 21 [6, 7, 9, 11, 12, 80] [(6, .pointer (some ⟨b1, 0, none⟩)), (7, .pointer (some ⟨b2, 0, none⟩)), (9, .pointer (some ⟨nd1, 0, none⟩)), (11, .pointer (some ⟨b3, 0, none⟩)), (12, .pointer (some ⟨b4, 0, none⟩)), (80, .bool (decide (kv < 4096)))] (by kernel_rfl) rfl ?_
     exact VL_eq _ (by simp only [hg5, Bool.true_and, Bool.false_and, Bool.true_or, Bool.false_or, Bool.not_true, Bool.not_false]) J4
    ·refine VL_pure 21 [6, 7, 9, 11, 12, 80] [(6, .pointer (some ⟨b1, 0, none⟩)), (7, .pointer (some ⟨b2, 0, none⟩)), (9, .pointer (some ⟨nd1, 0, none⟩)), (11, .pointer (some ⟨b3, 0, none⟩)), (12, .pointer (some ⟨b4, 0, none⟩)), (80, .bool false)] (by kernel_rfl) rfl ?_
     exact VL_eq _ (by simp only [hg5, Bool.true_and, Bool.false_and, Bool.true_or, Bool.false_or, Bool.not_true, Bool.not_false]) J4
    refine VL_pure 22 [6, 7, 9, 11, 12, 81] [(6, .pointer (some ⟨b1, 0, none⟩)), (7, .pointer (some ⟨b2, 0, none⟩)), (9, .pointer (some ⟨nd1, 0, none⟩)), (11, .pointer (some ⟨b3, 0, none⟩)), (12, .pointer (some ⟨b4, 0, none⟩)), (81, .bool ((((decide (kp ≥ 0)) && (decide (kp < (imin 8 ((m : Nat) : Int))))) && (decide (kv ≥ 0))) && (decide (kv < 4096))))] (by kernel_rfl) rfl ?_
    refine VL_join ((((decide (kp ≥ 0)) && (decide (kp < (imin 8 ((m : Nat) : Int))))) && (decide (kv ≥ 0))) && (decide (kv < 4096))) (fun bV => [(6, .pointer (some ⟨b1, 0, none⟩)), (7, .pointer (some ⟨b2, 0, none⟩)), (9, .pointer (some ⟨nd1, 0, none⟩)), (11, .pointer (some ⟨b3, 0, none⟩)), (12, .pointer (some ⟨b4, 0, none⟩)), (81, .bool bV)]) 26 [(6, .pointer (some ⟨b1, 0, none⟩)), (7, .pointer (some ⟨b2, 0, none⟩)), (9, .pointer (some ⟨nd1, 0, none⟩)), (11, .pointer (some ⟨b3, 0, none⟩)), (12, .pointer (some ⟨b4, 0, none⟩)), (85, .bool (((((decide (kp ≥ 0)) && (decide (kp < (imin 8 ((m : Nat) : Int))))) && (decide (kv ≥ 0))) && (decide (kv < 4096))) && (decide (kc ≥ 32))))] rfl (fun hg6 J5 => ?_) (fun hg6 J5 => ?_) ?_
    ·refine VL_pure 23 [6, 7, 9, 11, 12, 81, 82] [(6, .pointer (some ⟨b1, 0, none⟩)), (7, .pointer (some ⟨b2, 0, none⟩)), (9, .pointer (some ⟨nd1, 0, none⟩)), (11, .pointer (some ⟨b3, 0, none⟩)), (12, .pointer (some ⟨b4, 0, none⟩)), (81, .bool true), (82, .pointer (some ⟨b1, 2, none⟩))] (by kernel_rfl) rfl ?_
     refine VL_load (d := 83) (t := 3) (a := ⟨b1, 2, none⟩) (v := .int .i64 kc) (by kernel_rfl) (by kernel_rfl) (Loads.own1 ho1 (by kernel_rfl) (by rfl)) ?_
     refine VL_pure 26 [6, 7, 9, 11, 12, 85] [(6, .pointer (some ⟨b1, 0, none⟩)), (7, .pointer (some ⟨b2, 0, none⟩)), (9, .pointer (some ⟨nd1, 0, none⟩)), (11, .pointer (some ⟨b3, 0, none⟩)), (12, .pointer (some ⟨b4, 0, none⟩)), (85, .bool (decide (kc ≥ 32)))] (by kernel_rfl) rfl ?_
     exact VL_eq _ (by simp only [hg6, Bool.true_and, Bool.false_and, Bool.true_or, Bool.false_or, Bool.not_true, Bool.not_false]) J5
    ·refine VL_pure 26 [6, 7, 9, 11, 12, 85] [(6, .pointer (some ⟨b1, 0, none⟩)), (7, .pointer (some ⟨b2, 0, none⟩)), (9, .pointer (some ⟨nd1, 0, none⟩)), (11, .pointer (some ⟨b3, 0, none⟩)), (12, .pointer (some ⟨b4, 0, none⟩)), (85, .bool false)] (by kernel_rfl) rfl ?_
     exact VL_eq _ (by simp only [hg6, Bool.true_and, Bool.false_and, Bool.true_or, Bool.false_or, Bool.not_true, Bool.not_false]) J5
    refine VL_pure 27 [6, 7, 9, 11, 12, 86] [(6, .pointer (some ⟨b1, 0, none⟩)), (7, .pointer (some ⟨b2, 0, none⟩)), (9, .pointer (some ⟨nd1, 0, none⟩)), (11, .pointer (some ⟨b3, 0, none⟩)), (12, .pointer (some ⟨b4, 0, none⟩)), (86, .bool (((((decide (kp ≥ 0)) && (decide (kp < (imin 8 ((m : Nat) : Int))))) && (decide (kv ≥ 0))) && (decide (kv < 4096))) && (decide (kc ≥ 32))))] (by kernel_rfl) rfl ?_
    refine VL_join (((((decide (kp ≥ 0)) && (decide (kp < (imin 8 ((m : Nat) : Int))))) && (decide (kv ≥ 0))) && (decide (kv < 4096))) && (decide (kc ≥ 32))) (fun bV => [(6, .pointer (some ⟨b1, 0, none⟩)), (7, .pointer (some ⟨b2, 0, none⟩)), (9, .pointer (some ⟨nd1, 0, none⟩)), (11, .pointer (some ⟨b3, 0, none⟩)), (12, .pointer (some ⟨b4, 0, none⟩)), (86, .bool bV)]) 31 [(6, .pointer (some ⟨b1, 0, none⟩)), (7, .pointer (some ⟨b2, 0, none⟩)), (9, .pointer (some ⟨nd1, 0, none⟩)), (11, .pointer (some ⟨b3, 0, none⟩)), (12, .pointer (some ⟨b4, 0, none⟩)), (90, .bool ((((((decide (kp ≥ 0)) && (decide (kp < (imin 8 ((m : Nat) : Int))))) && (decide (kv ≥ 0))) && (decide (kv < 4096))) && (decide (kc ≥ 32))) && (decide (kc < 65536))))] rfl (fun hg7 J6 => ?_) (fun hg7 J6 => ?_) ?_
    ·refine VL_pure 28 [6, 7, 9, 11, 12, 86, 87] [(6, .pointer (some ⟨b1, 0, none⟩)), (7, .pointer (some ⟨b2, 0, none⟩)), (9, .pointer (some ⟨nd1, 0, none⟩)), (11, .pointer (some ⟨b3, 0, none⟩)), (12, .pointer (some ⟨b4, 0, none⟩)), (86, .bool true), (87, .pointer (some ⟨b1, 2, none⟩))] (by kernel_rfl) rfl ?_
     refine VL_load (d := 88) (t := 3) (a := ⟨b1, 2, none⟩) (v := .int .i64 kc) (by kernel_rfl) (by kernel_rfl) (Loads.own1 ho1 (by kernel_rfl) (by rfl)) ?_
     refine VL_pure 31 [6, 7, 9, 11, 12, 90] [(6, .pointer (some ⟨b1, 0, none⟩)), (7, .pointer (some ⟨b2, 0, none⟩)), (9, .pointer (some ⟨nd1, 0, none⟩)), (11, .pointer (some ⟨b3, 0, none⟩)), (12, .pointer (some ⟨b4, 0, none⟩)), (90, .bool (decide (kc < 65536)))] (by kernel_rfl) rfl ?_
     exact VL_eq _ (by simp only [hg7, Bool.true_and, Bool.false_and, Bool.true_or, Bool.false_or, Bool.not_true, Bool.not_false]) J6
    ·refine VL_pure 31 [6, 7, 9, 11, 12, 90] [(6, .pointer (some ⟨b1, 0, none⟩)), (7, .pointer (some ⟨b2, 0, none⟩)), (9, .pointer (some ⟨nd1, 0, none⟩)), (11, .pointer (some ⟨b3, 0, none⟩)), (12, .pointer (some ⟨b4, 0, none⟩)), (90, .bool false)] (by kernel_rfl) rfl ?_
     exact VL_eq _ (by simp only [hg7, Bool.true_and, Bool.false_and, Bool.true_or, Bool.false_or, Bool.not_true, Bool.not_false]) J6
    refine VL_pure 32 [6, 7, 9, 11, 12, 14] [(6, .pointer (some ⟨b1, 0, none⟩)), (7, .pointer (some ⟨b2, 0, none⟩)), (9, .pointer (some ⟨nd1, 0, none⟩)), (11, .pointer (some ⟨b3, 0, none⟩)), (12, .pointer (some ⟨b4, 0, none⟩)), (14, .bool ((((((decide (kp ≥ 0)) && (decide (kp < (imin 8 ((m : Nat) : Int))))) && (decide (kv ≥ 0))) && (decide (kv < 4096))) && (decide (kc ≥ 32))) && (decide (kc < 65536))))] (by kernel_rfl) rfl ?_
    refine VL_end (by kernel_rfl) ?_
    refine VQ_next ?_
    refine VC_seq ?_
    refine VC_eqL [(6, .pointer (some ⟨b1, 0, none⟩)), (7, .pointer (some ⟨b2, 0, none⟩)), (9, .pointer (some ⟨nd1, 0, none⟩)), (11, .pointer (some ⟨b3, 0, none⟩)), (12, .pointer (some ⟨b4, 0, none⟩)), (14, .bool (linkB m kp kv kc))] (by rfl) ?_
    have hs1 := drew_step w21
    have hs1z : w21.heap.size = w21.drew.heap.size := rfl
    refine VC_text [[], [0], [0, 1], [0, 1, 2], [0, 1, 2, 3], [0, 1, 2, 3, 4], [0, 1, 2, 3, 4, 5], [0, 1, 2, 3, 4, 5, 6], [0, 1, 2, 3, 4, 5, 6, 7], [0, 1, 2, 3, 4, 5, 6, 7, 8], [0, 1, 2, 3, 4, 5, 6, 7, 8, 9], [0, 1, 2, 3, 4, 5, 6, 7, 8, 9, 10], [0, 1, 2, 3, 4, 5, 6, 7, 8, 9, 10, 11], [0, 1, 2, 3, 4, 5, 6, 7, 8, 9, 10, 11, 12], [0, 1, 2, 3, 4, 5, 6, 7, 8, 9, 10, 11, 12, 13], [0, 1, 2, 3, 4, 5, 6, 7, 8, 9, 10, 11, 12, 13, 14], [0, 1, 2, 3, 4, 5, 6, 7, 8, 9, 10, 11, 12, 13, 14, 15], [0, 1, 2, 3, 4, 5, 6, 7, 8, 9, 10, 11, 12, 13, 14], [0, 1, 2, 3, 4, 5, 6, 7, 8, 9, 10, 11, 12, 13, 14], [0, 1, 2, 3, 4, 5, 6, 7, 8, 9, 10, 11, 12, 13, 14, 18], [0, 1, 2, 3, 4, 5, 6, 7, 8, 9, 10, 11, 12, 13, 14, 15, 16, 17, 18, 19], [0, 1, 2, 3, 4, 5, 6, 7, 8, 9, 10, 11, 12, 13, 14, 15, 16, 17, 18, 19, 20], [0, 1, 2, 3, 4, 5, 6, 7, 8, 9, 10, 11, 12, 13, 14, 15, 16, 17, 18, 19, 20, 21], [0, 1, 2, 3, 4, 5, 6, 7, 8, 9, 10, 11, 12, 13, 14, 15, 16, 17, 18, 19, 20, 21, 22]] 20 (fun x y => Step (fun k => w21.heap.size ≤ k) x y) [3, 16] [0, 1, 2, 3, 4, 5, 6, 7, 8, 9, 10, 11, 12, 13, 14, 15, 17, 18, 19, 16] (by kernel_rfl) (by kernel_rfl) (by kernel_rfl) (by kernel_rfl) (fun x => Step.refl _ x) (fun h k => Step.trans h k) Step.weak ?_
    have hzl50 := NdP.lt hNSnd1
    have hzs16 := hS.size
    have hzl51 := ho1.lt
    have hzl52 := ho2.lt
    have hzl53 := ho4.lt
    have hzl54 := ho6.lt
    have hzl55 := hmk1.lt
    generalize w21.drew = w22 at hs1 hs1z ⊢
    replace hNSnd1 := NdP.no hNSnd1 hs1
    replace hS := Step.trans hS hs1
    replace ho1 := ho1.no hs1
    replace ho2 := ho2.no hs1
    replace ho4 := ho4.no hs1
    replace ho6 := ho6.no hs1
    replace hmk1 := hmk1.no hs1
    refine VT_pures 2 (kn' := [(1, .bool (linkB m kp kv kc)), (0, .bool (linkB m kp kv kc))]) (by kernel_rfl) ?_
    rcases Bool.eq_false_or_eq_true (linkB m kp kv kc) with hg8 | hg8
    ·refine VT_eq [(1, .bool true), (0, .bool true)] (by simp only [hg8, Bool.not_true, Bool.not_false]) ?_
     try simp only [bne_iff_ne, beq_iff_eq, decide_eq_true_eq, decide_eq_false_iff_not, bne_eq_false_iff_eq, beq_eq_false_iff_ne, ne_eq] at hg8
     refine VT_load (d := 93) (t := 30) (a := ⟨b2, 0, none⟩) (v := .agg #[.int .i64 kk.kind, .int .i64 kk.peak, .int .i64 kk.early, .int .i64 kk.whole, .int .i64 kk.burst, .int .i64 kk.least]) (by kernel_rfl) (by kernel_rfl) ?_ ?_
     ·intro w23 hr1
      replace hNSnd1 := NdP.step hNSnd1 hr1 (fun k9 hk9 hF9 => by have h8 := hXwnd1 k9 hk9; (try simp only at hF9); omega)
      replace hS := Step.transNew hS hr1 (fun i hi hG => by (try simp only at hG); omega)
      replace ho1 := ho1.step hr1 (by (try simp only); omega)
      replace ho2 := ho2.step hr1 (by (try simp only); omega)
      replace ho4 := ho4.step hr1 (by (try simp only); omega)
      replace ho6 := ho6.step hr1 (by (try simp only); omega)
      replace hmk1 := hmk1.step hr1 (by (try simp only); omega)
      exact (Loads.ownL ho2 (n := 6) (by kernel_rfl) (by kernel_rfl) (by kernel_rfl))
     refine VT_chain (by kernel_rfl) ?_
     intro w24 hs2
     have hzhs2 := hs2.size
     replace hNSnd1 := NdP.no hNSnd1 hs2
     replace hS := Step.trans hS hs2
     replace ho1 := ho1.no hs2
     replace ho2 := ho2.no hs2
     replace ho4 := ho4.no hs2
     replace ho6 := ho6.no hs2
     replace hmk1 := hmk1.no hs2
     have hzl56 := NdP.lt hNSnd1
     have hzs17 := hS.size
     have hzl57 := ho1.lt
     have hzl58 := ho2.lt
     have hzl59 := ho4.lt
     have hzl60 := ho6.lt
     have hzl61 := hmk1.lt
     refine VTc_call (d := 94) (f := 13) (args := #[.agg #[.int .i64 kk.kind, .int .i64 kk.peak, .int .i64 kk.early, .int .i64 kk.whole, .int .i64 kk.burst, .int .i64 kk.least]]) (by kernel_rfl) (by kernel_rfl) (by kernel_rfl) Try.call13 (cright_any kk _) ?_ ?_
     ·rintro _ w25 ⟨rfl, hc6⟩
      exact Step.mono hc6 (by intro i hi; first | exact hi.elim | exact .inl hi | ((try simp only at hi ⊢); omega))
     rintro _ w25 ⟨rfl, hc6⟩
     have hzhc6 := (hc6).size
     replace hNSnd1 := NdP.no hNSnd1 hc6
     replace hS := Step.trans hS hc6
     replace ho1 := ho1.no hc6
     replace ho2 := ho2.no hc6
     replace ho4 := ho4.no hc6
     replace ho6 := ho6.no hc6
     replace hmk1 := hmk1.no hc6
     refine VT_pures 3 (kn' := [(6, .bool ((rightC kk) == 0)), (5, .bool ((rightC kk) == 0)), (4, .bool ((rightC kk) == 0)), (3, .int .i64 (rightC kk)), (2, .agg #[.int .i64 kk.kind, .int .i64 kk.peak, .int .i64 kk.early, .int .i64 kk.whole, .int .i64 kk.burst, .int .i64 kk.least]), (1, .bool true), (0, .bool true)]) (by kernel_rfl) ?_
     rcases Bool.eq_false_or_eq_true ((rightC kk) == 0) with hg9 | hg9
     ·refine VT_eq [(6, .bool true), (5, .bool true), (4, .bool true), (3, .int .i64 (rightC kk)), (2, .agg #[.int .i64 kk.kind, .int .i64 kk.peak, .int .i64 kk.early, .int .i64 kk.whole, .int .i64 kk.burst, .int .i64 kk.least]), (1, .bool true), (0, .bool true)] (by simp only [hg9, Bool.not_true, Bool.not_false]) ?_
      try simp only [bne_iff_ne, beq_iff_eq, decide_eq_true_eq, decide_eq_false_iff_not, bne_eq_false_iff_eq, beq_eq_false_iff_ne, ne_eq] at hg9
      refine VT_load (d := 98) (t := 4) (a := ⟨b3, 0, none⟩) (v := .bool ((findC LS kp kv kc).isSome)) (by kernel_rfl) (by kernel_rfl) ?_ ?_
      ·intro w26 hr2
       replace hNSnd1 := NdP.step hNSnd1 hr2 (fun k9 hk9 hF9 => by have h8 := hXwnd1 k9 hk9; (try simp only at hF9); omega)
       replace hS := Step.transNew hS hr2 (fun i hi hG => by (try simp only at hG); omega)
       replace ho1 := ho1.step hr2 (by (try simp only); omega)
       replace ho2 := ho2.step hr2 (by (try simp only); omega)
       replace ho4 := ho4.step hr2 (by (try simp only); omega)
       replace ho6 := ho6.step hr2 (by (try simp only); omega)
       replace hmk1 := hmk1.step hr2 (by (try simp only); omega)
       exact (Loads.own1 ho4 (by kernel_rfl) (by rfl))
      refine VT_pures 3 (kn' := [(10, .bool (!((findC LS kp kv kc).isSome))), (9, .bool (!((findC LS kp kv kc).isSome))), (8, .bool (!((findC LS kp kv kc).isSome))), (7, .bool ((findC LS kp kv kc).isSome)), (6, .bool true), (5, .bool true), (4, .bool true), (3, .int .i64 (rightC kk)), (2, .agg #[.int .i64 kk.kind, .int .i64 kk.peak, .int .i64 kk.early, .int .i64 kk.whole, .int .i64 kk.burst, .int .i64 kk.least]), (1, .bool true), (0, .bool true)]) (by kernel_rfl) ?_
      rcases Bool.eq_false_or_eq_true ((findC LS kp kv kc).isSome) with hg10 | hg10
      ·refine VT_eq [(10, .bool false), (9, .bool false), (8, .bool false), (7, .bool true), (6, .bool true), (5, .bool true), (4, .bool true), (3, .int .i64 (rightC kk)), (2, .agg #[.int .i64 kk.kind, .int .i64 kk.peak, .int .i64 kk.early, .int .i64 kk.whole, .int .i64 kk.burst, .int .i64 kk.least]), (1, .bool true), (0, .bool true)] (by simp only [hg10, Bool.not_true, Bool.not_false]) ?_
       try simp only [bne_iff_ne, beq_iff_eq, decide_eq_true_eq, decide_eq_false_iff_not, bne_eq_false_iff_eq, beq_eq_false_iff_ne, ne_eq] at hg10
       refine VT_pures 9 (kn' := [(16, undef), (19, undef), (18, undef), (17, undef), (15, undef), (14, .bool false), (13, .bool false), (12, undef), (11, undef), (10, .bool false), (9, .bool false), (8, .bool false), (7, .bool true), (6, .bool true), (5, .bool true), (4, .bool true), (3, .int .i64 (rightC kk)), (2, .agg #[.int .i64 kk.kind, .int .i64 kk.peak, .int .i64 kk.early, .int .i64 kk.whole, .int .i64 kk.burst, .int .i64 kk.least]), (1, .bool true), (0, .bool true)]) (by kernel_rfl) ?_
       refine VT_end ?_
       intro w27 hs3
       replace hNSnd1 := NdP.no hNSnd1 hs3
       replace hS := Step.trans hS hs3
       replace ho1 := ho1.no hs3
       replace ho2 := ho2.no hs3
       replace ho4 := ho4.no hs3
       replace ho6 := ho6.no hs3
       replace hmk1 := hmk1.no hs3
       refine VL_keep [6, 7, 9, 105, 108, 110, 107] [(6, .pointer (some ⟨b1, 0, none⟩)), (7, .pointer (some ⟨b2, 0, none⟩)), (9, .pointer (some ⟨nd1, 0, none⟩)), (105, .bool false), (108, undef), (110, undef), (107, undef)] (by kernel_rfl) ?_
       refine VL_pure 24 [6, 7, 9, 15] [(6, .pointer (some ⟨b1, 0, none⟩)), (7, .pointer (some ⟨b2, 0, none⟩)), (9, .pointer (some ⟨nd1, 0, none⟩)), (15, .bool false)] (by kernel_rfl) rfl ?_
       refine VL_end (by kernel_rfl) ?_
       refine VQ_next ?_
       refine VC_seq ?_
       have hn0 : ¬ (chkN (roomsN rs) LS kp kv kc kk) = 0 := fun h9 => by
        obtain ⟨q1, q2, q3, q4, q5⟩ := (chk_want hrs).1 h9
        first | omega | (have q9 : linkB m kp kv kc = false := (by assumption); rw [q9] at q1; cases q1; done) | (have q9 : (findC LS kp kv kc).isSome = true := (by assumption); rw [q9] at q3; cases q3; done)
       refine VC_eqL [(6, .pointer (some ⟨b1, 0, none⟩)), (7, .pointer (some ⟨b2, 0, none⟩)), (9, .pointer (some ⟨nd1, 0, none⟩)), (15, .bool (decide ((chkN (roomsN rs) LS kp kv kc kk) = 0)))] (by rw [decide_eq_false hn0]) ?_
       have hs4 := drew_step w27
       have hs4z : w27.heap.size = w27.drew.heap.size := rfl
       refine VC_text [[], [0], [], [], [3], [0, 1, 2, 3, 4], [0, 1, 2, 3, 4, 5], [0, 1, 2, 3, 4, 5, 6]] 5 (fun x y => Step (fun k => w27.heap.size ≤ k) x y) [1] [0, 2, 3, 4, 1] (by kernel_rfl) (by kernel_rfl) (by kernel_rfl) (by kernel_rfl) (fun x => Step.refl _ x) (fun h k => Step.trans h k) Step.weak ?_
       have hzl62 := NdP.lt hNSnd1
       have hzs18 := hS.size
       have hzl63 := ho1.lt
       have hzl64 := ho2.lt
       have hzl65 := ho4.lt
       have hzl66 := ho6.lt
       have hzl67 := hmk1.lt
       generalize w27.drew = w28 at hs4 hs4z ⊢
       replace hNSnd1 := NdP.no hNSnd1 hs4
       replace hS := Step.trans hS hs4
       replace ho1 := ho1.no hs4
       replace ho2 := ho2.no hs4
       replace ho4 := ho4.no hs4
       replace ho6 := ho6.no hs4
       replace hmk1 := hmk1.no hs4
       refine VT_pures 3 (kn' := [(3, .pointer (some ⟨b1, 0, none⟩)), (2, .pointer (some ⟨nd1, 0, none⟩)), (0, .pointer (some ⟨nd1, 0, none⟩))]) (by kernel_rfl) ?_
       refine VT_load (d := 118) (t := 3) (a := ⟨b1, 0, none⟩) (v := .int .i64 kp) (by kernel_rfl) (by kernel_rfl) ?_ ?_
       ·intro w29 hr3
        replace hNSnd1 := NdP.step hNSnd1 hr3 (fun k9 hk9 hF9 => by have h8 := hXwnd1 k9 hk9; (try simp only at hF9); omega)
        replace hS := Step.transNew hS hr3 (fun i hi hG => by (try simp only at hG); omega)
        replace ho1 := ho1.step hr3 (by (try simp only); omega)
        replace ho2 := ho2.step hr3 (by (try simp only); omega)
        replace ho4 := ho4.step hr3 (by (try simp only); omega)
        replace ho6 := ho6.step hr3 (by (try simp only); omega)
        replace hmk1 := hmk1.step hr3 (by (try simp only); omega)
        exact (Loads.own1 ho1 (by kernel_rfl) (by rfl))
       refine VT_chain (by kernel_rfl) ?_
       intro w30 hs5
       have hzhs5 := hs5.size
       replace hNSnd1 := NdP.no hNSnd1 hs5
       replace hS := Step.trans hS hs5
       replace ho1 := ho1.no hs5
       replace ho2 := ho2.no hs5
       replace ho4 := ho4.no hs5
       replace ho6 := ho6.no hs5
       replace hmk1 := hmk1.no hs5
       have hzl68 := NdP.lt hNSnd1
       have hzs19 := hS.size
       have hzl69 := ho1.lt
       have hzl70 := ho2.lt
       have hzl71 := ho4.lt
       have hzl72 := ho6.lt
       have hzl73 := hmk1.lt
       refine VTc_call (d := 115) (f := 11) (args := #[.pointer (some ⟨nd1, 0, none⟩)]) (by kernel_rfl) (by kernel_rfl) (by kernel_rfl) Try.call11 (keys_any hNSnd1) ?_ ?_
       ·rintro _ w31 ⟨A1, n1, c1, rfl, hlhK1, hK1, hc7⟩
        exact Step.mono hc7 (by intro i hi; first | exact hi.elim | exact .inl hi | ((try simp only at hi ⊢); omega))
       rintro _ w31 ⟨A1, n1, c1, rfl, hlhK1, hK1, hc7⟩
       have hzhc7 := (hc7).size
       replace hNSnd1 := NdP.no hNSnd1 hc7
       replace hS := Step.trans hS hc7
       replace ho1 := ho1.no hc7
       replace ho2 := ho2.no hc7
       replace ho4 := ho4.no hc7
       replace ho6 := ho6.no hc7
       replace hmk1 := hmk1.no hc7
       have hubhK1 := hK1.ub
       have hszhK1 := Nat.le_refl w31.heap.size
       refine VT_end ?_
       intro w32 hs6
       replace hNSnd1 := NdP.no hNSnd1 hs6
       replace hS := Step.trans hS hs6
       replace ho1 := ho1.no hs6
       replace ho2 := ho2.no hs6
       replace ho4 := ho4.no hs6
       replace ho6 := ho6.no hs6
       replace hmk1 := hmk1.no hs6
       replace hK1 := hK1.no hs6
       replace hszhK1 := Nat.le_trans hszhK1 (hs6).size
       refine VL_keep [6, 7, 9, 15, 116, 118, 115] [(6, .pointer (some ⟨b1, 0, none⟩)), (7, .pointer (some ⟨b2, 0, none⟩)), (9, .pointer (some ⟨nd1, 0, none⟩)), (15, .bool (decide ((chkN (roomsN rs) LS kp kv kc kk) = 0))), (116, .pointer (some ⟨nd1, 0, none⟩)), (118, .int .i64 kp), (115, .slice A1 n1 c1)] (by kernel_rfl) ?_
       have hzl74 := NdP.lt hNSnd1
       have hzs20 := hS.size
       have hzl75 := ho1.lt
       have hzl76 := ho2.lt
       have hzl77 := ho4.lt
       have hzl78 := ho6.lt
       have hzl79 := hmk1.lt
       refine VL_call (d := 119) (f := 9) (args := #[.pointer (some ⟨nd1, 0, none⟩), .int .i64 kp]) (by kernel_rfl) (by kernel_rfl) (by kernel_rfl) Try.call9 (nleft hNSnd1 kp) ?_
       rintro _ w33 ⟨rfl, hc8⟩
       replace hNSnd1 := NdP.no hNSnd1 hc8
       replace hS := Step.trans hS hc8
       replace ho1 := ho1.no hc8
       replace ho2 := ho2.no hc8
       replace ho4 := ho4.no hc8
       replace ho6 := ho6.no hc8
       replace hmk1 := hmk1.no hc8
       replace hK1 := hK1.no hc8
       replace hszhK1 := Nat.le_trans hszhK1 (hc8).size
       refine VL_pure 8 [6, 7, 9, 15, 16, 17] [(6, .pointer (some ⟨b1, 0, none⟩)), (7, .pointer (some ⟨b2, 0, none⟩)), (9, .pointer (some ⟨nd1, 0, none⟩)), (15, .bool (decide ((chkN (roomsN rs) LS kp kv kc kk) = 0))), (16, .slice A1 n1 c1), (17, .int .i64 (leftN (roomsN rs) LS kp))] (by kernel_rfl) rfl ?_
       refine VL_end (by kernel_rfl) ?_
       refine VQ_next ?_
       refine VC_seq ?_
       refine VC_region ?_
       refine VL_pure 1 [6, 7, 9, 15, 16, 17, 120] [(6, .pointer (some ⟨b1, 0, none⟩)), (7, .pointer (some ⟨b2, 0, none⟩)), (9, .pointer (some ⟨nd1, 0, none⟩)), (15, .bool (decide ((chkN (roomsN rs) LS kp kv kc kk) = 0))), (16, .slice A1 n1 c1), (17, .int .i64 (leftN (roomsN rs) LS kp)), (120, .pointer (some ⟨nd1, 0, none⟩))] (by kernel_rfl) rfl ?_
       refine VL_load (d := 121) (t := 28) (a := ⟨b1, 0, none⟩) (v := .agg #[.int .i64 kp, .int .i64 kv, .int .i64 kc]) (by kernel_rfl) (by kernel_rfl) (Loads.ownL ho1 (n := 3) (by kernel_rfl) (by kernel_rfl) (by kernel_rfl)) ?_
       refine VL_load (d := 122) (t := 30) (a := ⟨b2, 0, none⟩) (v := .agg #[.int .i64 kk.kind, .int .i64 kk.peak, .int .i64 kk.early, .int .i64 kk.whole, .int .i64 kk.burst, .int .i64 kk.least]) (by kernel_rfl) (by kernel_rfl) (Loads.ownL ho2 (n := 6) (by kernel_rfl) (by kernel_rfl) (by kernel_rfl)) ?_
       have hzl80 := NdP.lt hNSnd1
       have hzs21 := hS.size
       have hzl81 := ho1.lt
       have hzl82 := ho2.lt
       have hzl83 := ho4.lt
       have hzl84 := ho6.lt
       have hzl85 := hmk1.lt
       refine VL_call (d := 123) (f := 16) (args := #[.pointer (some ⟨nd1, 0, none⟩), .agg #[.int .i64 kp, .int .i64 kv, .int .i64 kc], .agg #[.int .i64 kk.kind, .int .i64 kk.peak, .int .i64 kk.early, .int .i64 kk.whole, .int .i64 kk.burst, .int .i64 kk.least]]) (by kernel_rfl) (by kernel_rfl) (by kernel_rfl) Try.call16 (ntake hNSnd1 (by omega) kp kv kc kk) ?_
       rintro _ w34 ⟨rfl, X3, hN3, hXg3, hc9⟩
       have hzhc9 := (hc9).size
       replace hS := Step.transNew hS hc9 (fun i9 hi9 hX9 => by have h8 := NdP.low hNSnd1 hX9; omega)
       replace ho1 := ho1.step hc9 (NdP.nx hNSnd1 ho1 (by decide))
       replace ho2 := ho2.step hc9 (NdP.nx hNSnd1 ho2 (by decide))
       replace ho4 := ho4.step hc9 (NdP.nx hNSnd1 ho4 (by decide))
       replace ho6 := ho6.step hc9 (NdP.nx hNSnd1 ho6 (by decide))
       replace hmk1 := Dfr.step hmk1 hc9 (NdP.dfr hNSnd1 hmk1)
       replace hK1 := RwS_nd hNSnd1 hK1 (by decide) hc9
       replace hszhK1 := Nat.le_trans hszhK1 (Step.size hc9)
       have hXwnd1 := fun k9 hk9 => NdP.ltX hN3 (k := k9) hk9
       have hszhN3 := Nat.le_refl w34.heap.size
       refine VL_pure 5 [6, 7, 9, 15, 16, 17, 18] [(6, .pointer (some ⟨b1, 0, none⟩)), (7, .pointer (some ⟨b2, 0, none⟩)), (9, .pointer (some ⟨nd1, 0, none⟩)), (15, .bool (decide ((chkN (roomsN rs) LS kp kv kc kk) = 0))), (16, .slice A1 n1 c1), (17, .int .i64 (leftN (roomsN rs) LS kp)), (18, .int .i64 (chkN (roomsN rs) LS kp kv kc kk))] (by kernel_rfl) rfl ?_
       refine VL_end (by kernel_rfl) ?_
       refine VQ_next ?_
       refine VC_seq ?_
       refine VC_seq ?_
       obtain ⟨L2, hL2E⟩ : ∃ x, x = takeN (roomsN rs) LS kp kv kc kk := ⟨_, rfl⟩
       rw [← hL2E] at hN3
       refine VC_region ?_
       refine VL_pure 4 [6, 7, 9, 16, 17, 18, 127] [(6, .pointer (some ⟨b1, 0, none⟩)), (7, .pointer (some ⟨b2, 0, none⟩)), (9, .pointer (some ⟨nd1, 0, none⟩)), (16, .slice A1 n1 c1), (17, .int .i64 (leftN (roomsN rs) LS kp)), (18, .int .i64 (chkN (roomsN rs) LS kp kv kc kk)), (127, .bool (!(((chkN (roomsN rs) LS kp kv kc kk) == 0) == (decide ((chkN (roomsN rs) LS kp kv kc kk) = 0)))))] (by kernel_rfl) rfl ?_
       refine VL_end (by kernel_rfl) ?_
       refine VQ_next ?_
       refine VC_is (b := !(((chkN (roomsN rs) LS kp kv kc kk) == 0) == (decide ((chkN (roomsN rs) LS kp kv kc kk) = 0)))) false (by kernel_rfl) ((show ∀ b : Bool, (!(b == b)) = false from by decide) (decide ((chkN (roomsN rs) LS kp kv kc kk) = 0))) ?_
       refine VC_ite_false ?_
       refine VC_skip ?_
       refine VQ_next ?_
       refine VC_seq ?_
       refine VC_region ?_
       refine VL_pure 1 [6, 7, 9, 16, 17, 18, 128] [(6, .pointer (some ⟨b1, 0, none⟩)), (7, .pointer (some ⟨b2, 0, none⟩)), (9, .pointer (some ⟨nd1, 0, none⟩)), (16, .slice A1 n1 c1), (17, .int .i64 (leftN (roomsN rs) LS kp)), (18, .int .i64 (chkN (roomsN rs) LS kp kv kc kk)), (128, .pointer (some ⟨nd1, 0, none⟩))] (by kernel_rfl) rfl ?_
       have hzs22 := hS.size
       have hzl86 := ho1.lt
       have hzl87 := ho2.lt
       have hzl88 := ho4.lt
       have hzl89 := ho6.lt
       have hzl90 := hmk1.lt
       have hzl91 := NdP.lt hN3
       refine VL_call (d := 129) (f := 11) (args := #[.pointer (some ⟨nd1, 0, none⟩)]) (by kernel_rfl) (by kernel_rfl) (by kernel_rfl) Try.call11 (keys_any hN3) ?_
       rintro _ w35 ⟨A2, n2, c2, rfl, hlhK2, hK2, hc10⟩
       replace hS := Step.trans hS hc10
       replace ho1 := ho1.no hc10
       replace ho2 := ho2.no hc10
       replace ho4 := ho4.no hc10
       replace ho6 := ho6.no hc10
       replace hmk1 := hmk1.no hc10
       replace hK1 := hK1.no hc10
       replace hszhK1 := Nat.le_trans hszhK1 (hc10).size
       replace hN3 := NdP.no hN3 hc10
       replace hszhN3 := Nat.le_trans hszhN3 (hc10).size
       have hubhK2 := hK2.ub
       have hszhK2 := Nat.le_refl w35.heap.size
       refine VL_pure 3 [6, 7, 9, 16, 17, 18, 19] [(6, .pointer (some ⟨b1, 0, none⟩)), (7, .pointer (some ⟨b2, 0, none⟩)), (9, .pointer (some ⟨nd1, 0, none⟩)), (16, .slice A1 n1 c1), (17, .int .i64 (leftN (roomsN rs) LS kp)), (18, .int .i64 (chkN (roomsN rs) LS kp kv kc kk)), (19, .slice A2 n2 c2)] (by kernel_rfl) rfl ?_
       refine VL_end (by kernel_rfl) ?_
       refine VQ_next ?_
       refine VC_seq ?_
       refine VC_seq ?_
       refine VC_region ?_
       refine VL_pure 2 [6, 7, 9, 16, 17, 19, 131] [(6, .pointer (some ⟨b1, 0, none⟩)), (7, .pointer (some ⟨b2, 0, none⟩)), (9, .pointer (some ⟨nd1, 0, none⟩)), (16, .slice A1 n1 c1), (17, .int .i64 (leftN (roomsN rs) LS kp)), (19, .slice A2 n2 c2), (131, .bool ((chkN (roomsN rs) LS kp kv kc kk) != 0))] (by kernel_rfl) rfl ?_
       refine VL_end (by kernel_rfl) ?_
       refine VQ_next ?_
       refine VC_is (b := (chkN (roomsN rs) LS kp kv kc kk) != 0) true (by kernel_rfl) (by rw [bne_iff_ne]; exact hn0) ?_
       refine VC_ite_true ?_
       refine VC_seq ?_
       have hn9 : ¬ (chkN (roomsN rs) LS kp kv kc kk) = 0 := by assumption
       have hk9 := kept hn9
       rw [← hL2E] at hk9
       have hlen9 : L2.length = LS.length := by rw [hk9]
       refine VC_region ?_
       refine VL_pure 6 [6, 9, 17, 137] [(6, .pointer (some ⟨b1, 0, none⟩)), (9, .pointer (some ⟨nd1, 0, none⟩)), (17, .int .i64 (leftN (roomsN rs) LS kp)), (137, .bool (((n2 : Nat) : Int) == ((n1 : Nat) : Int)))] (by kernel_rfl) rfl ?_
       refine VL_known (((n2 : Nat) : Int) == ((n1 : Nat) : Int)) (fun bV => [(6, .pointer (some ⟨b1, 0, none⟩)), (9, .pointer (some ⟨nd1, 0, none⟩)), (17, .int .i64 (leftN (roomsN rs) LS kp)), (137, .bool bV)]) true rfl (by rw [beq_iff_eq]; first | omega | (rw [wrap_i64 _ (by omega) (by omega)]; omega)) ?_
       refine VL_pure 8 [17, 137, 138, 139] [(17, .int .i64 (leftN (roomsN rs) LS kp)), (137, .bool true), (138, .pointer (some ⟨nd1, 0, none⟩)), (139, .pointer (some ⟨b1, 0, none⟩))] (by kernel_rfl) rfl ?_
       refine VL_load (d := 140) (t := 3) (a := ⟨b1, 0, none⟩) (v := .int .i64 kp) (by kernel_rfl) (by kernel_rfl) (Loads.own1 ho1 (by kernel_rfl) (by rfl)) ?_
       have hzs23 := hS.size
       have hzl92 := ho1.lt
       have hzl93 := ho2.lt
       have hzl94 := ho4.lt
       have hzl95 := ho6.lt
       have hzl96 := hmk1.lt
       have hzl97 := NdP.lt hN3
       refine VL_call (d := 141) (f := 9) (args := #[.pointer (some ⟨nd1, 0, none⟩), .int .i64 kp]) (by kernel_rfl) (by kernel_rfl) (by kernel_rfl) Try.call9 (nleft hN3 kp) ?_
       rintro _ w36 ⟨rfl, hc11⟩
       replace hS := Step.trans hS hc11
       replace ho1 := ho1.no hc11
       replace ho2 := ho2.no hc11
       replace ho4 := ho4.no hc11
       replace ho6 := ho6.no hc11
       replace hmk1 := hmk1.no hc11
       replace hK1 := hK1.no hc11
       replace hszhK1 := Nat.le_trans hszhK1 (hc11).size
       replace hN3 := NdP.no hN3 hc11
       replace hszhN3 := Nat.le_trans hszhN3 (hc11).size
       replace hK2 := hK2.no hc11
       replace hszhK2 := Nat.le_trans hszhK2 (hc11).size
       refine VL_pure 14 [8] [(8, .bool ((leftN (roomsN rs) L2 kp) == (leftN (roomsN rs) LS kp)))] (by kernel_rfl) rfl ?_
       refine VL_end (by kernel_rfl) ?_
       refine VQ_next ?_
       refine VC_ret ?_
       refine VQ_then_ret ?_
       have hzs24 := hS.size
       have hzl98 := ho1.lt
       have hzl99 := ho2.lt
       have hzl100 := ho4.lt
       have hzl101 := ho6.lt
       have hzl102 := hmk1.lt
       have hzk9 := hszhK1
       have hzl103 := NdP.lt hN3
       have hzk10 := hszhN3
       have hzk11 := hszhK2
       refine VQ_retM1 (.bool ((leftN (roomsN rs) L2 kp) == (leftN (roomsN rs) LS kp))) [w12.heap.size] (.inr rfl) rfl rfl ⟨hmk1, (by simp), trivial⟩ ?_
       intro w37 hq2
       replace hq2 : Step (Just w12.heap.size) w36 w37 := Step.mono hq2 (fun i hi => by simpa using hi)
       replace hS := Step.transNew hS hq2 (fun _ _ _ => by omega)
       replace ho1 := ho1.step hq2 (show ¬ b1 = w12.heap.size by omega)
       replace ho2 := ho2.step hq2 (show ¬ b2 = w12.heap.size by omega)
       replace ho4 := ho4.step hq2 (show ¬ b3 = w12.heap.size by omega)
       replace ho6 := ho6.step hq2 (show ¬ b4 = w12.heap.size by omega)
       replace hszhK1 := Nat.le_trans hszhK1 (hq2).size
       replace hszhN3 := Nat.le_trans hszhN3 (hq2).size
       replace hszhK2 := Nat.le_trans hszhK2 (hq2).size
       exact ⟨congrArg Value.bool (by first | rfl | (rw [beq_iff_eq, hk9]) | (rw [beq_iff_eq]; exact ht5) | simp [*]), hS⟩
      ·refine VT_eq [(10, .bool true), (9, .bool true), (8, .bool true), (7, .bool false), (6, .bool true), (5, .bool true), (4, .bool true), (3, .int .i64 (rightC kk)), (2, .agg #[.int .i64 kk.kind, .int .i64 kk.peak, .int .i64 kk.early, .int .i64 kk.whole, .int .i64 kk.burst, .int .i64 kk.least]), (1, .bool true), (0, .bool true)] (by simp only [hg10, Bool.not_true, Bool.not_false]) ?_
       try simp only [bne_iff_ne, beq_iff_eq, decide_eq_true_eq, decide_eq_false_iff_not, bne_eq_false_iff_eq, beq_eq_false_iff_ne, ne_eq] at hg10
       refine VT_load (d := 102) (t := 3) (a := ⟨b4, 0, none⟩) (v := .int .i64 ((LS.length : Nat) : Int)) (by kernel_rfl) (by kernel_rfl) ?_ ?_
       ·intro w38 hr4
        replace hNSnd1 := NdP.step hNSnd1 hr4 (fun k9 hk9 hF9 => by have h8 := hXwnd1 k9 hk9; (try simp only at hF9); omega)
        replace hS := Step.transNew hS hr4 (fun i hi hG => by (try simp only at hG); omega)
        replace ho1 := ho1.step hr4 (by (try simp only); omega)
        replace ho2 := ho2.step hr4 (by (try simp only); omega)
        replace ho4 := ho4.step hr4 (by (try simp only); omega)
        replace ho6 := ho6.step hr4 (by (try simp only); omega)
        replace hmk1 := hmk1.step hr4 (by (try simp only); omega)
        exact (Loads.own1 ho6 (by kernel_rfl) (by rfl))
       refine VT_pures 3 (kn' := [(14, .bool (decide (((LS.length : Nat) : Int) < 64))), (13, .bool (decide (((LS.length : Nat) : Int) < 64))), (12, .bool (decide (((LS.length : Nat) : Int) < 64))), (11, .int .i64 ((LS.length : Nat) : Int)), (10, .bool true), (9, .bool true), (8, .bool true), (7, .bool false), (6, .bool true), (5, .bool true), (4, .bool true), (3, .int .i64 (rightC kk)), (2, .agg #[.int .i64 kk.kind, .int .i64 kk.peak, .int .i64 kk.early, .int .i64 kk.whole, .int .i64 kk.burst, .int .i64 kk.least]), (1, .bool true), (0, .bool true)]) (by kernel_rfl) ?_
       rcases Bool.eq_false_or_eq_true (decide (((LS.length : Nat) : Int) < 64)) with hg11 | hg11
       ·refine VT_eq [(14, .bool true), (13, .bool true), (12, .bool true), (11, .int .i64 ((LS.length : Nat) : Int)), (10, .bool true), (9, .bool true), (8, .bool true), (7, .bool false), (6, .bool true), (5, .bool true), (4, .bool true), (3, .int .i64 (rightC kk)), (2, .agg #[.int .i64 kk.kind, .int .i64 kk.peak, .int .i64 kk.early, .int .i64 kk.whole, .int .i64 kk.burst, .int .i64 kk.least]), (1, .bool true), (0, .bool true)] (by simp only [hg11, Bool.not_true, Bool.not_false]) ?_
        try simp only [bne_iff_ne, beq_iff_eq, decide_eq_true_eq, decide_eq_false_iff_not, bne_eq_false_iff_eq, beq_eq_false_iff_ne, ne_eq] at hg11
        refine VT_load (d := 106) (t := 30) (a := ⟨b2, 0, none⟩) (v := .agg #[.int .i64 kk.kind, .int .i64 kk.peak, .int .i64 kk.early, .int .i64 kk.whole, .int .i64 kk.burst, .int .i64 kk.least]) (by kernel_rfl) (by kernel_rfl) ?_ ?_
        ·intro w39 hr5
         replace hNSnd1 := NdP.step hNSnd1 hr5 (fun k9 hk9 hF9 => by have h8 := hXwnd1 k9 hk9; (try simp only at hF9); omega)
         replace hS := Step.transNew hS hr5 (fun i hi hG => by (try simp only at hG); omega)
         replace ho1 := ho1.step hr5 (by (try simp only); omega)
         replace ho2 := ho2.step hr5 (by (try simp only); omega)
         replace ho4 := ho4.step hr5 (by (try simp only); omega)
         replace ho6 := ho6.step hr5 (by (try simp only); omega)
         replace hmk1 := hmk1.step hr5 (by (try simp only); omega)
         exact (Loads.ownL ho2 (n := 6) (by kernel_rfl) (by kernel_rfl) (by kernel_rfl))
        refine VT_pures 2 (kn' := [(18, .pointer (some ⟨b1, 0, none⟩)), (17, .pointer (some ⟨nd1, 0, none⟩)), (15, .agg #[.int .i64 kk.kind, .int .i64 kk.peak, .int .i64 kk.early, .int .i64 kk.whole, .int .i64 kk.burst, .int .i64 kk.least]), (14, .bool true), (13, .bool true), (12, .bool true), (11, .int .i64 ((LS.length : Nat) : Int)), (10, .bool true), (9, .bool true), (8, .bool true), (7, .bool false), (6, .bool true), (5, .bool true), (4, .bool true), (3, .int .i64 (rightC kk)), (2, .agg #[.int .i64 kk.kind, .int .i64 kk.peak, .int .i64 kk.early, .int .i64 kk.whole, .int .i64 kk.burst, .int .i64 kk.least]), (1, .bool true), (0, .bool true)]) (by kernel_rfl) ?_
        refine VT_load (d := 110) (t := 3) (a := ⟨b1, 0, none⟩) (v := .int .i64 kp) (by kernel_rfl) (by kernel_rfl) ?_ ?_
        ·intro w40 hr6
         replace hNSnd1 := NdP.step hNSnd1 hr6 (fun k9 hk9 hF9 => by have h8 := hXwnd1 k9 hk9; (try simp only at hF9); omega)
         replace hS := Step.transNew hS hr6 (fun i hi hG => by (try simp only at hG); omega)
         replace ho1 := ho1.step hr6 (by (try simp only); omega)
         replace ho2 := ho2.step hr6 (by (try simp only); omega)
         replace ho4 := ho4.step hr6 (by (try simp only); omega)
         replace ho6 := ho6.step hr6 (by (try simp only); omega)
         replace hmk1 := hmk1.step hr6 (by (try simp only); omega)
         exact (Loads.own1 ho1 (by kernel_rfl) (by rfl))
        refine VT_chain (by kernel_rfl) ?_
        intro w41 hs7
        have hzhs7 := hs7.size
        replace hNSnd1 := NdP.no hNSnd1 hs7
        replace hS := Step.trans hS hs7
        replace ho1 := ho1.no hs7
        replace ho2 := ho2.no hs7
        replace ho4 := ho4.no hs7
        replace ho6 := ho6.no hs7
        replace hmk1 := hmk1.no hs7
        have hzl104 := NdP.lt hNSnd1
        have hzs25 := hS.size
        have hzl105 := ho1.lt
        have hzl106 := ho2.lt
        have hzl107 := ho4.lt
        have hzl108 := ho6.lt
        have hzl109 := hmk1.lt
        refine VTc_call (d := 107) (f := 14) (args := #[.agg #[.int .i64 kk.kind, .int .i64 kk.peak, .int .i64 kk.early, .int .i64 kk.whole, .int .i64 kk.burst, .int .i64 kk.least]]) (by kernel_rfl) (by kernel_rfl) (by kernel_rfl) Try.call14 (need_any kk _) ?_ ?_
        ·rintro _ w42 ⟨rfl, hc12⟩
         exact Step.mono hc12 (by intro i hi; first | exact hi.elim | exact .inl hi | ((try simp only at hi ⊢); omega))
        rintro _ w42 ⟨rfl, hc12⟩
        have hzhc12 := (hc12).size
        replace hNSnd1 := NdP.no hNSnd1 hc12
        replace hS := Step.trans hS hc12
        replace ho1 := ho1.no hc12
        replace ho2 := ho2.no hc12
        replace ho4 := ho4.no hc12
        replace ho6 := ho6.no hc12
        replace hmk1 := hmk1.no hc12
        refine VT_end ?_
        intro w43 hs8
        replace hNSnd1 := NdP.no hNSnd1 hs8
        replace hS := Step.trans hS hs8
        replace ho1 := ho1.no hs8
        replace ho2 := ho2.no hs8
        replace ho4 := ho4.no hs8
        replace ho6 := ho6.no hs8
        replace hmk1 := hmk1.no hs8
        refine VL_keep [6, 7, 9, 105, 108, 110, 107] [(6, .pointer (some ⟨b1, 0, none⟩)), (7, .pointer (some ⟨b2, 0, none⟩)), (9, .pointer (some ⟨nd1, 0, none⟩)), (105, .bool true), (108, .pointer (some ⟨nd1, 0, none⟩)), (110, .int .i64 kp), (107, .int .i64 (needC kk))] (by kernel_rfl) ?_
        have hzl110 := NdP.lt hNSnd1
        have hzs26 := hS.size
        have hzl111 := ho1.lt
        have hzl112 := ho2.lt
        have hzl113 := ho4.lt
        have hzl114 := ho6.lt
        have hzl115 := hmk1.lt
        refine VL_call (d := 111) (f := 9) (args := #[.pointer (some ⟨nd1, 0, none⟩), .int .i64 kp]) (by kernel_rfl) (by kernel_rfl) (by kernel_rfl) Try.call9 (nleft hNSnd1 kp) ?_
        rintro _ w44 ⟨rfl, hc13⟩
        replace hNSnd1 := NdP.no hNSnd1 hc13
        replace hS := Step.trans hS hc13
        replace ho1 := ho1.no hc13
        replace ho2 := ho2.no hc13
        replace ho4 := ho4.no hc13
        replace ho6 := ho6.no hc13
        replace hmk1 := hmk1.no hc13
        refine VL_pure 24 [6, 7, 9, 15] [(6, .pointer (some ⟨b1, 0, none⟩)), (7, .pointer (some ⟨b2, 0, none⟩)), (9, .pointer (some ⟨nd1, 0, none⟩)), (15, .bool (decide ((needC kk) ≤ (leftN (roomsN rs) LS kp))))] (by kernel_rfl) rfl ?_
        refine VL_end (by kernel_rfl) ?_
        refine VQ_next ?_
        refine VC_seq ?_
        refine VC_eqL [(6, .pointer (some ⟨b1, 0, none⟩)), (7, .pointer (some ⟨b2, 0, none⟩)), (9, .pointer (some ⟨nd1, 0, none⟩)), (15, .bool (decide ((chkN (roomsN rs) LS kp kv kc kk) = 0)))] (by rw [show decide ((needC kk) ≤ (leftN (roomsN rs) LS kp)) = decide ((chkN (roomsN rs) LS kp kv kc kk) = 0) from decide_eq_decide.2 ⟨fun h9 => (chk_want hrs).2 ⟨by assumption, by omega, by assumption, by omega, h9⟩, fun h9 => ((chk_want hrs).1 h9).2.2.2.2⟩]) ?_
        have hs9 := drew_step w44
        have hs9z : w44.heap.size = w44.drew.heap.size := rfl
        refine VC_text [[], [0], [], [], [3], [0, 1, 2, 3, 4], [0, 1, 2, 3, 4, 5], [0, 1, 2, 3, 4, 5, 6]] 5 (fun x y => Step (fun k => w44.heap.size ≤ k) x y) [1] [0, 2, 3, 4, 1] (by kernel_rfl) (by kernel_rfl) (by kernel_rfl) (by kernel_rfl) (fun x => Step.refl _ x) (fun h k => Step.trans h k) Step.weak ?_
        have hzl116 := NdP.lt hNSnd1
        have hzs27 := hS.size
        have hzl117 := ho1.lt
        have hzl118 := ho2.lt
        have hzl119 := ho4.lt
        have hzl120 := ho6.lt
        have hzl121 := hmk1.lt
        generalize w44.drew = w45 at hs9 hs9z ⊢
        replace hNSnd1 := NdP.no hNSnd1 hs9
        replace hS := Step.trans hS hs9
        replace ho1 := ho1.no hs9
        replace ho2 := ho2.no hs9
        replace ho4 := ho4.no hs9
        replace ho6 := ho6.no hs9
        replace hmk1 := hmk1.no hs9
        refine VT_pures 3 (kn' := [(3, .pointer (some ⟨b1, 0, none⟩)), (2, .pointer (some ⟨nd1, 0, none⟩)), (0, .pointer (some ⟨nd1, 0, none⟩))]) (by kernel_rfl) ?_
        refine VT_load (d := 118) (t := 3) (a := ⟨b1, 0, none⟩) (v := .int .i64 kp) (by kernel_rfl) (by kernel_rfl) ?_ ?_
        ·intro w46 hr7
         replace hNSnd1 := NdP.step hNSnd1 hr7 (fun k9 hk9 hF9 => by have h8 := hXwnd1 k9 hk9; (try simp only at hF9); omega)
         replace hS := Step.transNew hS hr7 (fun i hi hG => by (try simp only at hG); omega)
         replace ho1 := ho1.step hr7 (by (try simp only); omega)
         replace ho2 := ho2.step hr7 (by (try simp only); omega)
         replace ho4 := ho4.step hr7 (by (try simp only); omega)
         replace ho6 := ho6.step hr7 (by (try simp only); omega)
         replace hmk1 := hmk1.step hr7 (by (try simp only); omega)
         exact (Loads.own1 ho1 (by kernel_rfl) (by rfl))
        refine VT_chain (by kernel_rfl) ?_
        intro w47 hs10
        have hzhs10 := hs10.size
        replace hNSnd1 := NdP.no hNSnd1 hs10
        replace hS := Step.trans hS hs10
        replace ho1 := ho1.no hs10
        replace ho2 := ho2.no hs10
        replace ho4 := ho4.no hs10
        replace ho6 := ho6.no hs10
        replace hmk1 := hmk1.no hs10
        have hzl122 := NdP.lt hNSnd1
        have hzs28 := hS.size
        have hzl123 := ho1.lt
        have hzl124 := ho2.lt
        have hzl125 := ho4.lt
        have hzl126 := ho6.lt
        have hzl127 := hmk1.lt
        refine VTc_call (d := 115) (f := 11) (args := #[.pointer (some ⟨nd1, 0, none⟩)]) (by kernel_rfl) (by kernel_rfl) (by kernel_rfl) Try.call11 (keys_any hNSnd1) ?_ ?_
        ·rintro _ w48 ⟨A3, n3, c3, rfl, hlhK3, hK3, hc14⟩
         exact Step.mono hc14 (by intro i hi; first | exact hi.elim | exact .inl hi | ((try simp only at hi ⊢); omega))
        rintro _ w48 ⟨A3, n3, c3, rfl, hlhK3, hK3, hc14⟩
        have hzhc14 := (hc14).size
        replace hNSnd1 := NdP.no hNSnd1 hc14
        replace hS := Step.trans hS hc14
        replace ho1 := ho1.no hc14
        replace ho2 := ho2.no hc14
        replace ho4 := ho4.no hc14
        replace ho6 := ho6.no hc14
        replace hmk1 := hmk1.no hc14
        have hubhK3 := hK3.ub
        have hszhK3 := Nat.le_refl w48.heap.size
        refine VT_end ?_
        intro w49 hs11
        replace hNSnd1 := NdP.no hNSnd1 hs11
        replace hS := Step.trans hS hs11
        replace ho1 := ho1.no hs11
        replace ho2 := ho2.no hs11
        replace ho4 := ho4.no hs11
        replace ho6 := ho6.no hs11
        replace hmk1 := hmk1.no hs11
        replace hK3 := hK3.no hs11
        replace hszhK3 := Nat.le_trans hszhK3 (hs11).size
        refine VL_keep [6, 7, 9, 15, 116, 118, 115] [(6, .pointer (some ⟨b1, 0, none⟩)), (7, .pointer (some ⟨b2, 0, none⟩)), (9, .pointer (some ⟨nd1, 0, none⟩)), (15, .bool (decide ((chkN (roomsN rs) LS kp kv kc kk) = 0))), (116, .pointer (some ⟨nd1, 0, none⟩)), (118, .int .i64 kp), (115, .slice A3 n3 c3)] (by kernel_rfl) ?_
        have hzl128 := NdP.lt hNSnd1
        have hzs29 := hS.size
        have hzl129 := ho1.lt
        have hzl130 := ho2.lt
        have hzl131 := ho4.lt
        have hzl132 := ho6.lt
        have hzl133 := hmk1.lt
        refine VL_call (d := 119) (f := 9) (args := #[.pointer (some ⟨nd1, 0, none⟩), .int .i64 kp]) (by kernel_rfl) (by kernel_rfl) (by kernel_rfl) Try.call9 (nleft hNSnd1 kp) ?_
        rintro _ w50 ⟨rfl, hc15⟩
        replace hNSnd1 := NdP.no hNSnd1 hc15
        replace hS := Step.trans hS hc15
        replace ho1 := ho1.no hc15
        replace ho2 := ho2.no hc15
        replace ho4 := ho4.no hc15
        replace ho6 := ho6.no hc15
        replace hmk1 := hmk1.no hc15
        replace hK3 := hK3.no hc15
        replace hszhK3 := Nat.le_trans hszhK3 (hc15).size
        refine VL_pure 8 [6, 7, 9, 15, 16, 17] [(6, .pointer (some ⟨b1, 0, none⟩)), (7, .pointer (some ⟨b2, 0, none⟩)), (9, .pointer (some ⟨nd1, 0, none⟩)), (15, .bool (decide ((chkN (roomsN rs) LS kp kv kc kk) = 0))), (16, .slice A3 n3 c3), (17, .int .i64 (leftN (roomsN rs) LS kp))] (by kernel_rfl) rfl ?_
        refine VL_end (by kernel_rfl) ?_
        refine VQ_next ?_
        refine VC_seq ?_
        refine VC_region ?_
        refine VL_pure 1 [6, 7, 9, 15, 16, 17, 120] [(6, .pointer (some ⟨b1, 0, none⟩)), (7, .pointer (some ⟨b2, 0, none⟩)), (9, .pointer (some ⟨nd1, 0, none⟩)), (15, .bool (decide ((chkN (roomsN rs) LS kp kv kc kk) = 0))), (16, .slice A3 n3 c3), (17, .int .i64 (leftN (roomsN rs) LS kp)), (120, .pointer (some ⟨nd1, 0, none⟩))] (by kernel_rfl) rfl ?_
        refine VL_load (d := 121) (t := 28) (a := ⟨b1, 0, none⟩) (v := .agg #[.int .i64 kp, .int .i64 kv, .int .i64 kc]) (by kernel_rfl) (by kernel_rfl) (Loads.ownL ho1 (n := 3) (by kernel_rfl) (by kernel_rfl) (by kernel_rfl)) ?_
        refine VL_load (d := 122) (t := 30) (a := ⟨b2, 0, none⟩) (v := .agg #[.int .i64 kk.kind, .int .i64 kk.peak, .int .i64 kk.early, .int .i64 kk.whole, .int .i64 kk.burst, .int .i64 kk.least]) (by kernel_rfl) (by kernel_rfl) (Loads.ownL ho2 (n := 6) (by kernel_rfl) (by kernel_rfl) (by kernel_rfl)) ?_
        have hzl134 := NdP.lt hNSnd1
        have hzs30 := hS.size
        have hzl135 := ho1.lt
        have hzl136 := ho2.lt
        have hzl137 := ho4.lt
        have hzl138 := ho6.lt
        have hzl139 := hmk1.lt
        refine VL_call (d := 123) (f := 16) (args := #[.pointer (some ⟨nd1, 0, none⟩), .agg #[.int .i64 kp, .int .i64 kv, .int .i64 kc], .agg #[.int .i64 kk.kind, .int .i64 kk.peak, .int .i64 kk.early, .int .i64 kk.whole, .int .i64 kk.burst, .int .i64 kk.least]]) (by kernel_rfl) (by kernel_rfl) (by kernel_rfl) Try.call16 (ntake hNSnd1 (by omega) kp kv kc kk) ?_
        rintro _ w51 ⟨rfl, X4, hN4, hXg4, hc16⟩
        have hzhc16 := (hc16).size
        replace hS := Step.transNew hS hc16 (fun i9 hi9 hX9 => by have h8 := NdP.low hNSnd1 hX9; omega)
        replace ho1 := ho1.step hc16 (NdP.nx hNSnd1 ho1 (by decide))
        replace ho2 := ho2.step hc16 (NdP.nx hNSnd1 ho2 (by decide))
        replace ho4 := ho4.step hc16 (NdP.nx hNSnd1 ho4 (by decide))
        replace ho6 := ho6.step hc16 (NdP.nx hNSnd1 ho6 (by decide))
        replace hmk1 := Dfr.step hmk1 hc16 (NdP.dfr hNSnd1 hmk1)
        replace hK3 := RwS_nd hNSnd1 hK3 (by decide) hc16
        replace hszhK3 := Nat.le_trans hszhK3 (Step.size hc16)
        have hXwnd1 := fun k9 hk9 => NdP.ltX hN4 (k := k9) hk9
        have hszhN4 := Nat.le_refl w51.heap.size
        refine VL_pure 5 [6, 7, 9, 15, 16, 17, 18] [(6, .pointer (some ⟨b1, 0, none⟩)), (7, .pointer (some ⟨b2, 0, none⟩)), (9, .pointer (some ⟨nd1, 0, none⟩)), (15, .bool (decide ((chkN (roomsN rs) LS kp kv kc kk) = 0))), (16, .slice A3 n3 c3), (17, .int .i64 (leftN (roomsN rs) LS kp)), (18, .int .i64 (chkN (roomsN rs) LS kp kv kc kk))] (by kernel_rfl) rfl ?_
        refine VL_end (by kernel_rfl) ?_
        refine VQ_next ?_
        refine VC_seq ?_
        refine VC_seq ?_
        obtain ⟨L2, hL2E⟩ : ∃ x, x = takeN (roomsN rs) LS kp kv kc kk := ⟨_, rfl⟩
        rw [← hL2E] at hN4
        refine VC_region ?_
        refine VL_pure 4 [6, 7, 9, 16, 17, 18, 127] [(6, .pointer (some ⟨b1, 0, none⟩)), (7, .pointer (some ⟨b2, 0, none⟩)), (9, .pointer (some ⟨nd1, 0, none⟩)), (16, .slice A3 n3 c3), (17, .int .i64 (leftN (roomsN rs) LS kp)), (18, .int .i64 (chkN (roomsN rs) LS kp kv kc kk)), (127, .bool (!(((chkN (roomsN rs) LS kp kv kc kk) == 0) == (decide ((chkN (roomsN rs) LS kp kv kc kk) = 0)))))] (by kernel_rfl) rfl ?_
        refine VL_end (by kernel_rfl) ?_
        refine VQ_next ?_
        refine VC_is (b := !(((chkN (roomsN rs) LS kp kv kc kk) == 0) == (decide ((chkN (roomsN rs) LS kp kv kc kk) = 0)))) false (by kernel_rfl) ((show ∀ b : Bool, (!(b == b)) = false from by decide) (decide ((chkN (roomsN rs) LS kp kv kc kk) = 0))) ?_
        refine VC_ite_false ?_
        refine VC_skip ?_
        refine VQ_next ?_
        refine VC_seq ?_
        refine VC_region ?_
        refine VL_pure 1 [6, 7, 9, 16, 17, 18, 128] [(6, .pointer (some ⟨b1, 0, none⟩)), (7, .pointer (some ⟨b2, 0, none⟩)), (9, .pointer (some ⟨nd1, 0, none⟩)), (16, .slice A3 n3 c3), (17, .int .i64 (leftN (roomsN rs) LS kp)), (18, .int .i64 (chkN (roomsN rs) LS kp kv kc kk)), (128, .pointer (some ⟨nd1, 0, none⟩))] (by kernel_rfl) rfl ?_
        have hzs31 := hS.size
        have hzl140 := ho1.lt
        have hzl141 := ho2.lt
        have hzl142 := ho4.lt
        have hzl143 := ho6.lt
        have hzl144 := hmk1.lt
        have hzl145 := NdP.lt hN4
        refine VL_call (d := 129) (f := 11) (args := #[.pointer (some ⟨nd1, 0, none⟩)]) (by kernel_rfl) (by kernel_rfl) (by kernel_rfl) Try.call11 (keys_any hN4) ?_
        rintro _ w52 ⟨A4, n4, c4, rfl, hlhK4, hK4, hc17⟩
        replace hS := Step.trans hS hc17
        replace ho1 := ho1.no hc17
        replace ho2 := ho2.no hc17
        replace ho4 := ho4.no hc17
        replace ho6 := ho6.no hc17
        replace hmk1 := hmk1.no hc17
        replace hK3 := hK3.no hc17
        replace hszhK3 := Nat.le_trans hszhK3 (hc17).size
        replace hN4 := NdP.no hN4 hc17
        replace hszhN4 := Nat.le_trans hszhN4 (hc17).size
        have hubhK4 := hK4.ub
        have hszhK4 := Nat.le_refl w52.heap.size
        refine VL_pure 3 [6, 7, 9, 16, 17, 18, 19] [(6, .pointer (some ⟨b1, 0, none⟩)), (7, .pointer (some ⟨b2, 0, none⟩)), (9, .pointer (some ⟨nd1, 0, none⟩)), (16, .slice A3 n3 c3), (17, .int .i64 (leftN (roomsN rs) LS kp)), (18, .int .i64 (chkN (roomsN rs) LS kp kv kc kk)), (19, .slice A4 n4 c4)] (by kernel_rfl) rfl ?_
        refine VL_end (by kernel_rfl) ?_
        refine VQ_next ?_
        refine VC_seq ?_
        refine VC_seq ?_
        refine VC_region ?_
        refine VL_pure 2 [6, 7, 9, 16, 17, 19, 131] [(6, .pointer (some ⟨b1, 0, none⟩)), (7, .pointer (some ⟨b2, 0, none⟩)), (9, .pointer (some ⟨nd1, 0, none⟩)), (16, .slice A3 n3 c3), (17, .int .i64 (leftN (roomsN rs) LS kp)), (19, .slice A4 n4 c4), (131, .bool ((chkN (roomsN rs) LS kp kv kc kk) != 0))] (by kernel_rfl) rfl ?_
        refine VL_end (by kernel_rfl) ?_
        refine VQ_next ?_
        refine VC_ne (chkN (roomsN rs) LS kp kv kc kk) 0 (by kernel_rfl) (fun h3 => ?_) (fun h3 => ?_)
        ·refine VC_seq ?_
         have hn9 : ¬ (chkN (roomsN rs) LS kp kv kc kk) = 0 := by assumption
         have hk9 := kept hn9
         rw [← hL2E] at hk9
         have hlen9 : L2.length = LS.length := by rw [hk9]
         refine VC_region ?_
         refine VL_pure 6 [6, 9, 17, 137] [(6, .pointer (some ⟨b1, 0, none⟩)), (9, .pointer (some ⟨nd1, 0, none⟩)), (17, .int .i64 (leftN (roomsN rs) LS kp)), (137, .bool (((n4 : Nat) : Int) == ((n3 : Nat) : Int)))] (by kernel_rfl) rfl ?_
         refine VL_known (((n4 : Nat) : Int) == ((n3 : Nat) : Int)) (fun bV => [(6, .pointer (some ⟨b1, 0, none⟩)), (9, .pointer (some ⟨nd1, 0, none⟩)), (17, .int .i64 (leftN (roomsN rs) LS kp)), (137, .bool bV)]) true rfl (by rw [beq_iff_eq]; first | omega | (rw [wrap_i64 _ (by omega) (by omega)]; omega)) ?_
         refine VL_pure 8 [17, 137, 138, 139] [(17, .int .i64 (leftN (roomsN rs) LS kp)), (137, .bool true), (138, .pointer (some ⟨nd1, 0, none⟩)), (139, .pointer (some ⟨b1, 0, none⟩))] (by kernel_rfl) rfl ?_
         refine VL_load (d := 140) (t := 3) (a := ⟨b1, 0, none⟩) (v := .int .i64 kp) (by kernel_rfl) (by kernel_rfl) (Loads.own1 ho1 (by kernel_rfl) (by rfl)) ?_
         have hzs32 := hS.size
         have hzl146 := ho1.lt
         have hzl147 := ho2.lt
         have hzl148 := ho4.lt
         have hzl149 := ho6.lt
         have hzl150 := hmk1.lt
         have hzl151 := NdP.lt hN4
         refine VL_call (d := 141) (f := 9) (args := #[.pointer (some ⟨nd1, 0, none⟩), .int .i64 kp]) (by kernel_rfl) (by kernel_rfl) (by kernel_rfl) Try.call9 (nleft hN4 kp) ?_
         rintro _ w53 ⟨rfl, hc18⟩
         replace hS := Step.trans hS hc18
         replace ho1 := ho1.no hc18
         replace ho2 := ho2.no hc18
         replace ho4 := ho4.no hc18
         replace ho6 := ho6.no hc18
         replace hmk1 := hmk1.no hc18
         replace hK3 := hK3.no hc18
         replace hszhK3 := Nat.le_trans hszhK3 (hc18).size
         replace hN4 := NdP.no hN4 hc18
         replace hszhN4 := Nat.le_trans hszhN4 (hc18).size
         replace hK4 := hK4.no hc18
         replace hszhK4 := Nat.le_trans hszhK4 (hc18).size
         refine VL_pure 14 [8] [(8, .bool ((leftN (roomsN rs) L2 kp) == (leftN (roomsN rs) LS kp)))] (by kernel_rfl) rfl ?_
         refine VL_end (by kernel_rfl) ?_
         refine VQ_next ?_
         refine VC_ret ?_
         refine VQ_then_ret ?_
         have hzs33 := hS.size
         have hzl152 := ho1.lt
         have hzl153 := ho2.lt
         have hzl154 := ho4.lt
         have hzl155 := ho6.lt
         have hzl156 := hmk1.lt
         have hzk12 := hszhK3
         have hzl157 := NdP.lt hN4
         have hzk13 := hszhN4
         have hzk14 := hszhK4
         refine VQ_retM1 (.bool ((leftN (roomsN rs) L2 kp) == (leftN (roomsN rs) LS kp))) [w12.heap.size] (.inr rfl) rfl rfl ⟨hmk1, (by simp), trivial⟩ ?_
         intro w54 hq3
         replace hq3 : Step (Just w12.heap.size) w53 w54 := Step.mono hq3 (fun i hi => by simpa using hi)
         replace hS := Step.transNew hS hq3 (fun _ _ _ => by omega)
         replace ho1 := ho1.step hq3 (show ¬ b1 = w12.heap.size by omega)
         replace ho2 := ho2.step hq3 (show ¬ b2 = w12.heap.size by omega)
         replace ho4 := ho4.step hq3 (show ¬ b3 = w12.heap.size by omega)
         replace ho6 := ho6.step hq3 (show ¬ b4 = w12.heap.size by omega)
         replace hszhK3 := Nat.le_trans hszhK3 (hq3).size
         replace hszhN4 := Nat.le_trans hszhN4 (hq3).size
         replace hszhK4 := Nat.le_trans hszhK4 (hq3).size
         exact ⟨congrArg Value.bool (by first | rfl | (rw [beq_iff_eq, hk9]) | (rw [beq_iff_eq]; exact ht5) | simp [*]), hS⟩
        ·refine VC_skip ?_
         refine VQ_next ?_
         refine VC_seq ?_
         have h09 : (chkN (roomsN rs) LS kp kv kc kk) = 0 := by assumption
         obtain ⟨ht1, ht2, ht3, ht4, ht5⟩ := taken hLI h09
         rw [← hL2E] at ht1 ht2 ht3 ht4 ht5
         obtain ⟨hb1, hb2⟩ := left_bd hLI kp
         have hb3 := (needC_le kk).1
         have hb4 := (needC_le kk).2
         refine VC_region ?_
         refine VL_pure 1 [6, 7, 9, 16, 17, 19, 146] [(6, .pointer (some ⟨b1, 0, none⟩)), (7, .pointer (some ⟨b2, 0, none⟩)), (9, .pointer (some ⟨nd1, 0, none⟩)), (16, .slice A3 n3 c3), (17, .int .i64 (leftN (roomsN rs) LS kp)), (19, .slice A4 n4 c4), (146, .pointer (some ⟨nd1, 0, none⟩))] (by kernel_rfl) rfl ?_
         refine VL_load (d := 147) (t := 28) (a := ⟨b1, 0, none⟩) (v := .agg #[.int .i64 kp, .int .i64 kv, .int .i64 kc]) (by kernel_rfl) (by kernel_rfl) (Loads.ownL ho1 (n := 3) (by kernel_rfl) (by kernel_rfl) (by kernel_rfl)) ?_
         have hzs34 := hS.size
         have hzl158 := ho1.lt
         have hzl159 := ho2.lt
         have hzl160 := ho4.lt
         have hzl161 := ho6.lt
         have hzl162 := hmk1.lt
         have hzl163 := NdP.lt hN4
         refine VL_call (d := 148) (f := 12) (args := #[.pointer (some ⟨nd1, 0, none⟩), .agg #[.int .i64 kp, .int .i64 kv, .int .i64 kc]]) (by kernel_rfl) (by kernel_rfl) (by kernel_rfl) Try.call12 (contract_is hN4 ht3 ht4) ?_
         rintro _ w55 ⟨rfl, hc19⟩
         replace hS := Step.trans hS hc19
         replace ho1 := ho1.no hc19
         replace ho2 := ho2.no hc19
         replace ho4 := ho4.no hc19
         replace ho6 := ho6.no hc19
         replace hmk1 := hmk1.no hc19
         replace hK3 := hK3.no hc19
         replace hszhK3 := Nat.le_trans hszhK3 (hc19).size
         replace hN4 := NdP.no hN4 hc19
         replace hszhN4 := Nat.le_trans hszhN4 (hc19).size
         replace hK4 := hK4.no hc19
         replace hszhK4 := Nat.le_trans hszhK4 (hc19).size
         refine VL_pure 6 [6, 7, 9, 16, 17, 19, 149, 150] [(6, .pointer (some ⟨b1, 0, none⟩)), (7, .pointer (some ⟨b2, 0, none⟩)), (9, .pointer (some ⟨nd1, 0, none⟩)), (16, .slice A3 n3 c3), (17, .int .i64 (leftN (roomsN rs) LS kp)), (19, .slice A4 n4 c4), (149, .agg #[.int .i64 kk.kind, .int .i64 kk.peak, .int .i64 kk.early, .int .i64 kk.whole, .int .i64 kk.burst, .int .i64 kk.least]), (150, .bool true)] (by kernel_rfl) rfl ?_
         have hzs35 := hS.size
         have hzl164 := ho1.lt
         have hzl165 := ho2.lt
         have hzl166 := ho4.lt
         have hzl167 := ho6.lt
         have hzl168 := hmk1.lt
         have hzk15 := hszhK3
         have hzl169 := NdP.lt hN4
         have hzk16 := hszhN4
         have hzk17 := hszhK4
         refine VL_box (d := 20) (t := 30) (c := #[.int .i64 0, .int .i64 0, .int .i64 0, .int .i64 0, .int .i64 0, .int .i64 0]) (by kernel_rfl) (by kernel_rfl) ?_
         intro b6 w56 hn6
         replace hS := Step.trans hS (hn6.step No)
         replace ho1 := ho1.no (hn6.step No)
         replace ho2 := ho2.no (hn6.step No)
         replace ho4 := ho4.no (hn6.step No)
         replace ho6 := ho6.no (hn6.step No)
         replace hmk1 := hmk1.no (hn6.step No)
         replace hK3 := hK3.no (hn6.step No)
         replace hszhK3 := Nat.le_trans hszhK3 (hn6.step No).size
         replace hN4 := NdP.no hN4 (hn6.step No)
         replace hszhN4 := Nat.le_trans hszhN4 (hn6.step No).size
         replace hK4 := hK4.no (hn6.step No)
         replace hszhK4 := Nat.le_trans hszhK4 (hn6.step No).size
         have ho13 := hn6.own
         have hzhn6 := hn6.size
         have hqhn6 := hn6.eqb
         refine VL_store (b := b6) (o := 0) (vs := [.int .i64 kk.kind, .int .i64 kk.peak, .int .i64 kk.early, .int .i64 kk.whole, .int .i64 kk.burst, .int .i64 kk.least]) (by kernel_rfl) (by kernel_rfl) ho13 (Nat.le_of_ble_eq_true (by kernel_rfl)) ?_
         intro w57 hw8
         replace hS := Step.transNew hS hw8.step (fun _ _ _ => by omega)
         replace ho1 := ho1.step hw8.step (show ¬ b1 = b6 by omega)
         replace ho2 := ho2.step hw8.step (show ¬ b2 = b6 by omega)
         replace ho4 := ho4.step hw8.step (show ¬ b3 = b6 by omega)
         replace ho6 := ho6.step hw8.step (show ¬ b4 = b6 by omega)
         replace hmk1 := hmk1.step hw8.step (show ¬ w12.heap.size = b6 by omega)
         replace hK3 := hK3.stepU hubhK3 hw8.step (fun k hk1 hk2 (hF : k = b6) => by omega)
         replace hszhK3 := Nat.le_trans hszhK3 (hw8.step).size
         replace hN4 := NdP.blk hN4 ho13 (by decide) hw8.step
         replace hszhN4 := Nat.le_trans hszhN4 (hw8.step).size
         replace hK4 := hK4.stepU hubhK4 hw8.step (fun k hk1 hk2 (hF : k = b6) => by omega)
         replace hszhK4 := Nat.le_trans hszhK4 (hw8.step).size
         have ho14 : Own w57 b6 #[.int .i64 kk.kind, .int .i64 kk.peak, .int .i64 kk.early, .int .i64 kk.whole, .int .i64 kk.burst, .int .i64 kk.least] 30 := Own.cast hw8.own (by kernel_rfl)
         have hzhw8 := hw8.same
         refine VL_pure 9 [6, 7, 9, 16, 17, 19, 20, 21] [(6, .pointer (some ⟨b1, 0, none⟩)), (7, .pointer (some ⟨b2, 0, none⟩)), (9, .pointer (some ⟨nd1, 0, none⟩)), (16, .slice A3 n3 c3), (17, .int .i64 (leftN (roomsN rs) LS kp)), (19, .slice A4 n4 c4), (20, .pointer (some ⟨b6, 0, none⟩)), (21, .bool true)] (by kernel_rfl) rfl ?_
         refine VL_end (by kernel_rfl) ?_
         refine VQ_next ?_
         refine VC_seq ?_
         have hs12 := drew_step w57
         have hs12z : w57.heap.size = w57.drew.heap.size := rfl
         refine VC_text [[], [0], [], [2], [2, 3], [0, 1, 2, 3, 4], [0, 1, 2, 3, 4, 5], [0, 1, 2, 3, 4, 5, 6], [0, 1, 2, 3, 4, 5, 6], [0, 1, 2, 3, 4, 5, 6, 8], [0, 1, 2, 3, 4, 5, 6, 7, 8, 9], [0, 1, 2, 3, 4, 5, 6], [0, 1, 2, 3, 4, 5, 6], [0, 1, 2, 3, 4, 5, 6, 7, 8, 9, 10, 12], [0, 1, 2, 3, 4, 5, 6, 7, 8, 9, 10, 11, 12, 13], [0, 1, 2, 3, 4, 5, 6, 7, 8, 9, 10, 11, 12, 13, 14], [0, 1, 2, 3, 4, 5, 6, 7, 8, 9, 10, 11, 12, 13, 14, 15], [0, 1, 2, 3, 4, 5, 6, 7, 8, 9, 10, 11, 12, 13, 14, 15, 16], [0, 1, 2, 3, 4, 5, 6, 7, 8, 9, 10, 11, 12, 13, 14, 15, 16, 17], [0, 1, 2, 3, 4, 5, 6, 7, 8, 9, 10, 11, 12, 13, 14, 15, 16, 17, 18], [0, 1, 2, 3, 4, 5, 6, 7, 8, 9, 10, 11, 12, 13, 14, 15, 16, 17, 18, 19], [0, 1, 2, 3, 4, 5, 6, 7, 8, 9, 10, 11, 12, 13, 14, 15, 16, 17, 18, 19, 20], [0, 1, 2, 3, 4, 5, 6, 7, 8, 9, 10, 11, 12, 13, 14, 15, 16, 17, 18, 19, 20], [0, 1, 2, 3, 4, 5, 6, 7, 8, 9, 10, 11, 12, 13, 14, 15, 16, 17, 18, 19, 20, 21, 22], [0, 1, 2, 3, 4, 5, 6, 7, 8, 9, 10, 11, 12, 13, 14, 15, 16, 17, 18, 19, 20, 21, 22, 23], [0, 1, 2, 3, 4, 5, 6, 7, 8, 9, 10, 11, 12, 13, 14, 15, 16, 17, 18, 19, 20, 21, 22, 23, 24], [0, 1, 2, 3, 4, 5, 6, 7, 8, 9, 10, 11, 12, 13, 14, 15, 16, 17, 18, 19, 20, 21, 22, 23, 24, 25], [0, 1, 2, 3, 4, 5, 6, 7, 8, 9, 10, 11, 12, 13, 14, 15, 16, 17, 18, 19, 20, 21, 22, 23, 24, 25], [0, 1, 2, 3, 4, 5, 6, 7, 8, 9, 10, 11, 12, 13, 14, 15, 16, 17, 18, 19, 20, 21, 22, 23, 24, 25], [0, 1, 2, 3, 4, 5, 6, 7, 8, 9, 10, 11, 12, 13, 14, 15, 16, 17, 18, 19, 20, 21, 22, 23, 24, 25, 26, 27, 28], [0, 1, 2, 3, 4, 5, 6, 7, 8, 9, 10, 11, 12, 13, 14, 15, 16, 17, 18, 19, 20, 21, 22, 23, 24, 25, 26, 27, 28, 29], [0, 1, 2, 3, 4, 5, 6, 7, 8, 9, 10, 11, 12, 13, 14, 15, 16, 17, 18, 19, 20, 21, 22, 23, 24, 25, 26, 27, 28, 29, 30], [0, 1, 2, 3, 4, 5, 6, 7, 8, 9, 10, 11, 12, 13, 14, 15, 16, 17, 18, 19, 20, 21, 22, 23, 24, 25, 26, 27, 28, 29, 30, 31]] 29 (fun x y => Step (fun k => w57.heap.size ≤ k) x y) [10, 13] [0, 1, 2, 3, 4, 5, 6, 7, 8, 9, 11, 12, 10, 13, 14, 15, 16, 17, 18, 19, 20, 21, 22, 23, 24, 25, 26, 27, 28] (by kernel_rfl) (by kernel_rfl) (by kernel_rfl) (by kernel_rfl) (fun x => Step.refl _ x) (fun h k => Step.trans h k) Step.weak ?_
         have hzs36 := hS.size
         have hzl170 := ho1.lt
         have hzl171 := ho2.lt
         have hzl172 := ho4.lt
         have hzl173 := ho6.lt
         have hzl174 := hmk1.lt
         have hzl175 := NdP.lt hN4
         have hzl176 := ho14.lt
         have hzo1 := hszhK3
         have hzo2 := hszhN4
         have hzo3 := hszhK4
         generalize w57.drew = w58 at hs12 hs12z ⊢
         replace hS := Step.trans hS hs12
         replace ho1 := ho1.no hs12
         replace ho2 := ho2.no hs12
         replace ho4 := ho4.no hs12
         replace ho6 := ho6.no hs12
         replace hmk1 := hmk1.no hs12
         replace hK3 := hK3.no hs12
         replace hszhK3 := Nat.le_trans hszhK3 (hs12).size
         replace hN4 := NdP.no hN4 hs12
         replace hszhN4 := Nat.le_trans hszhN4 (hs12).size
         replace hK4 := hK4.no hs12
         replace hszhK4 := Nat.le_trans hszhK4 (hs12).size
         replace ho14 := ho14.no hs12
         refine VT_pures 7 (kn' := [(6, .bool (((n4 : Nat) : Int) == (IntKind.wrap .i64 (((n3 : Nat) : Int) + 1)))), (5, .bool (((n4 : Nat) : Int) == (IntKind.wrap .i64 (((n3 : Nat) : Int) + 1)))), (4, .int .i64 (IntKind.wrap .i64 (((n3 : Nat) : Int) + 1))), (3, .int .i64 ((n3 : Nat) : Int)), (2, .slice A3 n3 c3), (1, .int .i64 ((n4 : Nat) : Int)), (0, .slice A4 n4 c4)]) (by kernel_rfl) ?_
         have hg12 : (((n4 : Nat) : Int) == (IntKind.wrap .i64 (((n3 : Nat) : Int) + 1))) = true := (by rw [beq_iff_eq]; first | omega | (rw [wrap_i64 _ (by omega) (by omega)]; omega))
         refine VT_eq [(6, .bool true), (5, .bool true), (4, .int .i64 (IntKind.wrap .i64 (((n3 : Nat) : Int) + 1))), (3, .int .i64 ((n3 : Nat) : Int)), (2, .slice A3 n3 c3), (1, .int .i64 ((n4 : Nat) : Int)), (0, .slice A4 n4 c4)] (by simp only [hg12, Bool.not_true, Bool.not_false]) ?_
         refine VT_pures 2 (kn' := [(8, .pointer (some ⟨b1, 0, none⟩)), (7, .pointer (some ⟨nd1, 0, none⟩)), (6, .bool true), (5, .bool true), (4, .int .i64 (IntKind.wrap .i64 (((n3 : Nat) : Int) + 1))), (3, .int .i64 ((n3 : Nat) : Int)), (2, .slice A3 n3 c3), (1, .int .i64 ((n4 : Nat) : Int)), (0, .slice A4 n4 c4)]) (by kernel_rfl) ?_
         refine VT_load (d := 160) (t := 3) (a := ⟨b1, 0, none⟩) (v := .int .i64 kp) (by kernel_rfl) (by kernel_rfl) ?_ ?_
         ·intro w59 hr8
          replace hS := Step.transNew hS hr8 (fun i hi hG => by (try simp only at hG); omega)
          replace ho1 := ho1.step hr8 (by (try simp only); omega)
          replace ho2 := ho2.step hr8 (by (try simp only); omega)
          replace ho4 := ho4.step hr8 (by (try simp only); omega)
          replace ho6 := ho6.step hr8 (by (try simp only); omega)
          replace hmk1 := hmk1.step hr8 (by (try simp only); omega)
          replace hK3 := hK3.stepU hubhK3 hr8 (fun k hk hk2 hG => by (try simp only at hG); omega)
          replace hszhK3 := Nat.le_trans hszhK3 (hr8).size
          replace hN4 := NdP.step hN4 hr8 (fun k9 hk9 hF9 => by have h8 := hXwnd1 k9 hk9; (try simp only at hF9); omega)
          replace hszhN4 := Nat.le_trans hszhN4 (hr8).size
          replace hK4 := hK4.stepU hubhK4 hr8 (fun k hk hk2 hG => by (try simp only at hG); omega)
          replace hszhK4 := Nat.le_trans hszhK4 (hr8).size
          replace ho14 := ho14.step hr8 (by (try simp only); omega)
          exact (Loads.own1 ho1 (by kernel_rfl) (by rfl))
         refine VT_pures 1 (kn' := [(11, .int .i64 (leftN (roomsN rs) LS kp)), (9, .int .i64 kp), (8, .pointer (some ⟨b1, 0, none⟩)), (7, .pointer (some ⟨nd1, 0, none⟩)), (6, .bool true), (5, .bool true), (4, .int .i64 (IntKind.wrap .i64 (((n3 : Nat) : Int) + 1))), (3, .int .i64 ((n3 : Nat) : Int)), (2, .slice A3 n3 c3), (1, .int .i64 ((n4 : Nat) : Int)), (0, .slice A4 n4 c4)]) (by kernel_rfl) ?_
         refine VT_load (d := 163) (t := 30) (a := ⟨b2, 0, none⟩) (v := .agg #[.int .i64 kk.kind, .int .i64 kk.peak, .int .i64 kk.early, .int .i64 kk.whole, .int .i64 kk.burst, .int .i64 kk.least]) (by kernel_rfl) (by kernel_rfl) ?_ ?_
         ·intro w60 hr9
          replace hS := Step.transNew hS hr9 (fun i hi hG => by (try simp only at hG); omega)
          replace ho1 := ho1.step hr9 (by (try simp only); omega)
          replace ho2 := ho2.step hr9 (by (try simp only); omega)
          replace ho4 := ho4.step hr9 (by (try simp only); omega)
          replace ho6 := ho6.step hr9 (by (try simp only); omega)
          replace hmk1 := hmk1.step hr9 (by (try simp only); omega)
          replace hK3 := hK3.stepU hubhK3 hr9 (fun k hk hk2 hG => by (try simp only at hG); omega)
          replace hszhK3 := Nat.le_trans hszhK3 (hr9).size
          replace hN4 := NdP.step hN4 hr9 (fun k9 hk9 hF9 => by have h8 := hXwnd1 k9 hk9; (try simp only at hF9); omega)
          replace hszhN4 := Nat.le_trans hszhN4 (hr9).size
          replace hK4 := hK4.stepU hubhK4 hr9 (fun k hk hk2 hG => by (try simp only at hG); omega)
          replace hszhK4 := Nat.le_trans hszhK4 (hr9).size
          replace ho14 := ho14.step hr9 (by (try simp only); omega)
          exact (Loads.ownL ho2 (n := 6) (by kernel_rfl) (by kernel_rfl) (by kernel_rfl))
         refine VT_chain (by kernel_rfl) ?_
         intro w61 hs13
         have hzhs13 := hs13.size
         replace hS := Step.trans hS hs13
         replace ho1 := ho1.no hs13
         replace ho2 := ho2.no hs13
         replace ho4 := ho4.no hs13
         replace ho6 := ho6.no hs13
         replace hmk1 := hmk1.no hs13
         replace hK3 := hK3.no hs13
         replace hszhK3 := Nat.le_trans hszhK3 (hs13).size
         replace hN4 := NdP.no hN4 hs13
         replace hszhN4 := Nat.le_trans hszhN4 (hs13).size
         replace hK4 := hK4.no hs13
         replace hszhK4 := Nat.le_trans hszhK4 (hs13).size
         replace ho14 := ho14.no hs13
         have hzs37 := hS.size
         have hzl177 := ho1.lt
         have hzl178 := ho2.lt
         have hzl179 := ho4.lt
         have hzl180 := ho6.lt
         have hzl181 := hmk1.lt
         have hzl182 := NdP.lt hN4
         have hzl183 := ho14.lt
         refine VTc_call (d := 161) (f := 9) (args := #[.pointer (some ⟨nd1, 0, none⟩), .int .i64 kp]) (by kernel_rfl) (by kernel_rfl) (by kernel_rfl) Try.call9 (nleft hN4 kp) ?_ ?_
         ·rintro _ w62 ⟨rfl, hc20⟩
          exact Step.mono hc20 (by intro i hi; first | exact hi.elim | exact .inl hi | ((try simp only at hi ⊢); omega))
         rintro _ w62 ⟨rfl, hc20⟩
         have hzhc20 := (hc20).size
         replace hS := Step.trans hS hc20
         replace ho1 := ho1.no hc20
         replace ho2 := ho2.no hc20
         replace ho4 := ho4.no hc20
         replace ho6 := ho6.no hc20
         replace hmk1 := hmk1.no hc20
         replace hK3 := hK3.no hc20
         replace hszhK3 := Nat.le_trans hszhK3 (hc20).size
         replace hN4 := NdP.no hN4 hc20
         replace hszhN4 := Nat.le_trans hszhN4 (hc20).size
         replace hK4 := hK4.no hc20
         replace hszhK4 := Nat.le_trans hszhK4 (hc20).size
         replace ho14 := ho14.no hc20
         refine VT_chain (by kernel_rfl) ?_
         intro w63 hs14
         have hzhs14 := hs14.size
         replace hS := Step.trans hS hs14
         replace ho1 := ho1.no hs14
         replace ho2 := ho2.no hs14
         replace ho4 := ho4.no hs14
         replace ho6 := ho6.no hs14
         replace hmk1 := hmk1.no hs14
         replace hK3 := hK3.no hs14
         replace hszhK3 := Nat.le_trans hszhK3 (hs14).size
         replace hN4 := NdP.no hN4 hs14
         replace hszhN4 := Nat.le_trans hszhN4 (hs14).size
         replace hK4 := hK4.no hs14
         replace hszhK4 := Nat.le_trans hszhK4 (hs14).size
         replace ho14 := ho14.no hs14
         have hzs38 := hS.size
         have hzl184 := ho1.lt
         have hzl185 := ho2.lt
         have hzl186 := ho4.lt
         have hzl187 := ho6.lt
         have hzl188 := hmk1.lt
         have hzl189 := NdP.lt hN4
         have hzl190 := ho14.lt
         refine VTc_call (d := 164) (f := 14) (args := #[.agg #[.int .i64 kk.kind, .int .i64 kk.peak, .int .i64 kk.early, .int .i64 kk.whole, .int .i64 kk.burst, .int .i64 kk.least]]) (by kernel_rfl) (by kernel_rfl) (by kernel_rfl) Try.call14 (need_any kk _) ?_ ?_
         ·rintro _ w64 ⟨rfl, hc21⟩
          exact Step.mono hc21 (by intro i hi; first | exact hi.elim | exact .inl hi | ((try simp only at hi ⊢); omega))
         rintro _ w64 ⟨rfl, hc21⟩
         have hzhc21 := (hc21).size
         replace hS := Step.trans hS hc21
         replace ho1 := ho1.no hc21
         replace ho2 := ho2.no hc21
         replace ho4 := ho4.no hc21
         replace ho6 := ho6.no hc21
         replace hmk1 := hmk1.no hc21
         replace hK3 := hK3.no hc21
         replace hszhK3 := Nat.le_trans hszhK3 (hc21).size
         replace hN4 := NdP.no hN4 hc21
         replace hszhN4 := Nat.le_trans hszhN4 (hc21).size
         replace hK4 := hK4.no hc21
         replace hszhK4 := Nat.le_trans hszhK4 (hc21).size
         replace ho14 := ho14.no hc21
         refine VT_pures 4 (kn' := [(17, .bool ((leftN (roomsN rs) L2 kp) == (IntKind.wrap .i64 ((leftN (roomsN rs) LS kp) - (needC kk))))), (16, .bool ((leftN (roomsN rs) L2 kp) == (IntKind.wrap .i64 ((leftN (roomsN rs) LS kp) - (needC kk))))), (15, .bool ((leftN (roomsN rs) L2 kp) == (IntKind.wrap .i64 ((leftN (roomsN rs) LS kp) - (needC kk))))), (14, .int .i64 (IntKind.wrap .i64 ((leftN (roomsN rs) LS kp) - (needC kk)))), (13, .int .i64 (needC kk)), (10, .int .i64 (leftN (roomsN rs) L2 kp)), (12, .agg #[.int .i64 kk.kind, .int .i64 kk.peak, .int .i64 kk.early, .int .i64 kk.whole, .int .i64 kk.burst, .int .i64 kk.least]), (11, .int .i64 (leftN (roomsN rs) LS kp)), (9, .int .i64 kp), (8, .pointer (some ⟨b1, 0, none⟩)), (7, .pointer (some ⟨nd1, 0, none⟩)), (6, .bool true), (5, .bool true), (4, .int .i64 (IntKind.wrap .i64 (((n3 : Nat) : Int) + 1))), (3, .int .i64 ((n3 : Nat) : Int)), (2, .slice A3 n3 c3), (1, .int .i64 ((n4 : Nat) : Int)), (0, .slice A4 n4 c4)]) (by kernel_rfl) ?_
         have hg13 : ((leftN (roomsN rs) L2 kp) == (IntKind.wrap .i64 ((leftN (roomsN rs) LS kp) - (needC kk)))) = true := (by rw [beq_iff_eq, ht2, wrap_i64 _ (by omega) (by omega)])
         refine VT_eq [(17, .bool true), (16, .bool true), (15, .bool true), (14, .int .i64 (IntKind.wrap .i64 ((leftN (roomsN rs) LS kp) - (needC kk)))), (13, .int .i64 (needC kk)), (10, .int .i64 (leftN (roomsN rs) L2 kp)), (12, .agg #[.int .i64 kk.kind, .int .i64 kk.peak, .int .i64 kk.early, .int .i64 kk.whole, .int .i64 kk.burst, .int .i64 kk.least]), (11, .int .i64 (leftN (roomsN rs) LS kp)), (9, .int .i64 kp), (8, .pointer (some ⟨b1, 0, none⟩)), (7, .pointer (some ⟨nd1, 0, none⟩)), (6, .bool true), (5, .bool true), (4, .int .i64 (IntKind.wrap .i64 (((n3 : Nat) : Int) + 1))), (3, .int .i64 ((n3 : Nat) : Int)), (2, .slice A3 n3 c3), (1, .int .i64 ((n4 : Nat) : Int)), (0, .slice A4 n4 c4)] (by simp only [hg13, Bool.not_true, Bool.not_false]) ?_
         refine VT_pures 3 (kn' := [(20, .bool true), (19, .bool true), (18, .bool true), (17, .bool true), (16, .bool true), (15, .bool true), (14, .int .i64 (IntKind.wrap .i64 ((leftN (roomsN rs) LS kp) - (needC kk)))), (13, .int .i64 (needC kk)), (10, .int .i64 (leftN (roomsN rs) L2 kp)), (12, .agg #[.int .i64 kk.kind, .int .i64 kk.peak, .int .i64 kk.early, .int .i64 kk.whole, .int .i64 kk.burst, .int .i64 kk.least]), (11, .int .i64 (leftN (roomsN rs) LS kp)), (9, .int .i64 kp), (8, .pointer (some ⟨b1, 0, none⟩)), (7, .pointer (some ⟨nd1, 0, none⟩)), (6, .bool true), (5, .bool true), (4, .int .i64 (IntKind.wrap .i64 (((n3 : Nat) : Int) + 1))), (3, .int .i64 ((n3 : Nat) : Int)), (2, .slice A3 n3 c3), (1, .int .i64 ((n4 : Nat) : Int)), (0, .slice A4 n4 c4)]) (by kernel_rfl) ?_
         refine VT_load (d := 172) (t := 30) (a := ⟨b6, 0, none⟩) (v := .agg #[.int .i64 kk.kind, .int .i64 kk.peak, .int .i64 kk.early, .int .i64 kk.whole, .int .i64 kk.burst, .int .i64 kk.least]) (by kernel_rfl) (by kernel_rfl) ?_ ?_
         ·intro w65 hr10
          replace hS := Step.transNew hS hr10 (fun i hi hG => by (try simp only at hG); omega)
          replace ho1 := ho1.step hr10 (by (try simp only); omega)
          replace ho2 := ho2.step hr10 (by (try simp only); omega)
          replace ho4 := ho4.step hr10 (by (try simp only); omega)
          replace ho6 := ho6.step hr10 (by (try simp only); omega)
          replace hmk1 := hmk1.step hr10 (by (try simp only); omega)
          replace hK3 := hK3.stepU hubhK3 hr10 (fun k hk hk2 hG => by (try simp only at hG); omega)
          replace hszhK3 := Nat.le_trans hszhK3 (hr10).size
          replace hN4 := NdP.step hN4 hr10 (fun k9 hk9 hF9 => by have h8 := hXwnd1 k9 hk9; (try simp only at hF9); omega)
          replace hszhN4 := Nat.le_trans hszhN4 (hr10).size
          replace hK4 := hK4.stepU hubhK4 hr10 (fun k hk hk2 hG => by (try simp only at hG); omega)
          replace hszhK4 := Nat.le_trans hszhK4 (hr10).size
          replace ho14 := ho14.step hr10 (by (try simp only); omega)
          exact (Loads.ownL ho14 (n := 6) (by kernel_rfl) (by kernel_rfl) (by kernel_rfl))
         refine VT_load (d := 173) (t := 30) (a := ⟨b2, 0, none⟩) (v := .agg #[.int .i64 kk.kind, .int .i64 kk.peak, .int .i64 kk.early, .int .i64 kk.whole, .int .i64 kk.burst, .int .i64 kk.least]) (by kernel_rfl) (by kernel_rfl) ?_ ?_
         ·intro w66 hr11
          replace hS := Step.transNew hS hr11 (fun i hi hG => by (try simp only at hG); omega)
          replace ho1 := ho1.step hr11 (by (try simp only); omega)
          replace ho2 := ho2.step hr11 (by (try simp only); omega)
          replace ho4 := ho4.step hr11 (by (try simp only); omega)
          replace ho6 := ho6.step hr11 (by (try simp only); omega)
          replace hmk1 := hmk1.step hr11 (by (try simp only); omega)
          replace hK3 := hK3.stepU hubhK3 hr11 (fun k hk hk2 hG => by (try simp only at hG); omega)
          replace hszhK3 := Nat.le_trans hszhK3 (hr11).size
          replace hN4 := NdP.step hN4 hr11 (fun k9 hk9 hF9 => by have h8 := hXwnd1 k9 hk9; (try simp only at hF9); omega)
          replace hszhN4 := Nat.le_trans hszhN4 (hr11).size
          replace hK4 := hK4.stepU hubhK4 hr11 (fun k hk hk2 hG => by (try simp only at hG); omega)
          replace hszhK4 := Nat.le_trans hszhK4 (hr11).size
          replace ho14 := ho14.step hr11 (by (try simp only); omega)
          exact (Loads.ownL ho2 (n := 6) (by kernel_rfl) (by kernel_rfl) (by kernel_rfl))
         refine VT_agEq (d := 174) (dd := 9) (ls := ([.int .i64] ++ [.int .i64] ++ [.int .i64] ++ [.int .i64] ++ [.int .i64] ++ [.int .i64] ++ [])) (pos := true) (t := 30) (xs := #[.int .i64 kk.kind, .int .i64 kk.peak, .int .i64 kk.early, .int .i64 kk.whole, .int .i64 kk.burst, .int .i64 kk.least]) (ys := #[.int .i64 kk.kind, .int .i64 kk.peak, .int .i64 kk.early, .int .i64 kk.whole, .int .i64 kk.burst, .int .i64 kk.least]) (by kernel_rfl) (by kernel_rfl) (by kernel_rfl) (by kernel_rfl) (by first | exact ⟨⟨_, rfl⟩, ⟨_, rfl⟩, ⟨_, rfl⟩, ⟨_, rfl⟩, ⟨_, rfl⟩, ⟨_, rfl⟩, trivial⟩ | trivial) (by first | exact ⟨⟨_, rfl⟩, ⟨_, rfl⟩, ⟨_, rfl⟩, ⟨_, rfl⟩, ⟨_, rfl⟩, ⟨_, rfl⟩, trivial⟩ | trivial) true (by simp [cellsEq, leafEq]) ?_
         refine VT_pures 3 (kn' := [(26, .pointer (some ⟨nd1, 0, none⟩)), (25, .bool true), (24, .bool true), (23, .bool true), (22, .agg #[.int .i64 kk.kind, .int .i64 kk.peak, .int .i64 kk.early, .int .i64 kk.whole, .int .i64 kk.burst, .int .i64 kk.least]), (21, .agg #[.int .i64 kk.kind, .int .i64 kk.peak, .int .i64 kk.early, .int .i64 kk.whole, .int .i64 kk.burst, .int .i64 kk.least]), (20, .bool true), (19, .bool true), (18, .bool true), (17, .bool true), (16, .bool true), (15, .bool true), (14, .int .i64 (IntKind.wrap .i64 ((leftN (roomsN rs) LS kp) - (needC kk)))), (13, .int .i64 (needC kk)), (10, .int .i64 (leftN (roomsN rs) L2 kp)), (12, .agg #[.int .i64 kk.kind, .int .i64 kk.peak, .int .i64 kk.early, .int .i64 kk.whole, .int .i64 kk.burst, .int .i64 kk.least]), (11, .int .i64 (leftN (roomsN rs) LS kp)), (9, .int .i64 kp), (8, .pointer (some ⟨b1, 0, none⟩)), (7, .pointer (some ⟨nd1, 0, none⟩)), (6, .bool true), (5, .bool true), (4, .int .i64 (IntKind.wrap .i64 (((n3 : Nat) : Int) + 1))), (3, .int .i64 ((n3 : Nat) : Int)), (2, .slice A3 n3 c3), (1, .int .i64 ((n4 : Nat) : Int)), (0, .slice A4 n4 c4)]) (by kernel_rfl) ?_
         refine VT_load (d := 178) (t := 28) (a := ⟨b1, 0, none⟩) (v := .agg #[.int .i64 kp, .int .i64 kv, .int .i64 kc]) (by kernel_rfl) (by kernel_rfl) ?_ ?_
         ·intro w67 hr12
          replace hS := Step.transNew hS hr12 (fun i hi hG => by (try simp only at hG); omega)
          replace ho1 := ho1.step hr12 (by (try simp only); omega)
          replace ho2 := ho2.step hr12 (by (try simp only); omega)
          replace ho4 := ho4.step hr12 (by (try simp only); omega)
          replace ho6 := ho6.step hr12 (by (try simp only); omega)
          replace hmk1 := hmk1.step hr12 (by (try simp only); omega)
          replace hK3 := hK3.stepU hubhK3 hr12 (fun k hk hk2 hG => by (try simp only at hG); omega)
          replace hszhK3 := Nat.le_trans hszhK3 (hr12).size
          replace hN4 := NdP.step hN4 hr12 (fun k9 hk9 hF9 => by have h8 := hXwnd1 k9 hk9; (try simp only at hF9); omega)
          replace hszhN4 := Nat.le_trans hszhN4 (hr12).size
          replace hK4 := hK4.stepU hubhK4 hr12 (fun k hk hk2 hG => by (try simp only at hG); omega)
          replace hszhK4 := Nat.le_trans hszhK4 (hr12).size
          replace ho14 := ho14.step hr12 (by (try simp only); omega)
          exact (Loads.ownL ho1 (n := 3) (by kernel_rfl) (by kernel_rfl) (by kernel_rfl))
         refine VT_load (d := 179) (t := 30) (a := ⟨b2, 0, none⟩) (v := .agg #[.int .i64 kk.kind, .int .i64 kk.peak, .int .i64 kk.early, .int .i64 kk.whole, .int .i64 kk.burst, .int .i64 kk.least]) (by kernel_rfl) (by kernel_rfl) ?_ ?_
         ·intro w68 hr13
          replace hS := Step.transNew hS hr13 (fun i hi hG => by (try simp only at hG); omega)
          replace ho1 := ho1.step hr13 (by (try simp only); omega)
          replace ho2 := ho2.step hr13 (by (try simp only); omega)
          replace ho4 := ho4.step hr13 (by (try simp only); omega)
          replace ho6 := ho6.step hr13 (by (try simp only); omega)
          replace hmk1 := hmk1.step hr13 (by (try simp only); omega)
          replace hK3 := hK3.stepU hubhK3 hr13 (fun k hk hk2 hG => by (try simp only at hG); omega)
          replace hszhK3 := Nat.le_trans hszhK3 (hr13).size
          replace hN4 := NdP.step hN4 hr13 (fun k9 hk9 hF9 => by have h8 := hXwnd1 k9 hk9; (try simp only at hF9); omega)
          replace hszhN4 := Nat.le_trans hszhN4 (hr13).size
          replace hK4 := hK4.stepU hubhK4 hr13 (fun k hk hk2 hG => by (try simp only at hG); omega)
          replace hszhK4 := Nat.le_trans hszhK4 (hr13).size
          replace ho14 := ho14.step hr13 (by (try simp only); omega)
          exact (Loads.ownL ho2 (n := 6) (by kernel_rfl) (by kernel_rfl) (by kernel_rfl))
         refine VT_end ?_
         intro w69 hs15
         replace hS := Step.trans hS hs15
         replace ho1 := ho1.no hs15
         replace ho2 := ho2.no hs15
         replace ho4 := ho4.no hs15
         replace ho6 := ho6.no hs15
         replace hmk1 := hmk1.no hs15
         replace hK3 := hK3.no hs15
         replace hszhK3 := Nat.le_trans hszhK3 (hs15).size
         replace hN4 := NdP.no hN4 hs15
         replace hszhN4 := Nat.le_trans hszhN4 (hs15).size
         replace hK4 := hK4.no hs15
         replace hszhK4 := Nat.le_trans hszhK4 (hs15).size
         replace ho14 := ho14.no hs15
         refine VL_keep [176, 177, 178, 179] [(176, .bool true), (177, .pointer (some ⟨nd1, 0, none⟩)), (178, .agg #[.int .i64 kp, .int .i64 kv, .int .i64 kc]), (179, .agg #[.int .i64 kk.kind, .int .i64 kk.peak, .int .i64 kk.early, .int .i64 kk.whole, .int .i64 kk.burst, .int .i64 kk.least])] (by kernel_rfl) ?_
         have hzs39 := hS.size
         have hzl191 := ho1.lt
         have hzl192 := ho2.lt
         have hzl193 := ho4.lt
         have hzl194 := ho6.lt
         have hzl195 := hmk1.lt
         have hzl196 := NdP.lt hN4
         have hzl197 := ho14.lt
         refine VL_call (d := 180) (f := 17) (args := #[.pointer (some ⟨nd1, 0, none⟩), .agg #[.int .i64 kp, .int .i64 kv, .int .i64 kc], .agg #[.int .i64 kk.kind, .int .i64 kk.peak, .int .i64 kk.early, .int .i64 kk.whole, .int .i64 kk.burst, .int .i64 kk.least]]) (by kernel_rfl) (by kernel_rfl) (by kernel_rfl) Try.call17 (ncheck (hN4) kp kv kc kk) ?_
         rintro _ w70 ⟨rfl, hc22⟩
         replace hS := Step.trans hS hc22
         replace ho1 := ho1.no hc22
         replace ho2 := ho2.no hc22
         replace ho4 := ho4.no hc22
         replace ho6 := ho6.no hc22
         replace hmk1 := hmk1.no hc22
         replace hK3 := hK3.no hc22
         replace hszhK3 := Nat.le_trans hszhK3 (hc22).size
         replace hN4 := NdP.no hN4 hc22
         replace hszhN4 := Nat.le_trans hszhN4 (hc22).size
         replace hK4 := hK4.no hc22
         replace hszhK4 := Nat.le_trans hszhK4 (hc22).size
         replace ho14 := ho14.no hc22
         refine VL_pure 33 [8] [(8, .bool ((chkN (roomsN rs) L2 kp kv kc kk) == 35))] (by kernel_rfl) rfl ?_
         refine VL_end (by kernel_rfl) ?_
         refine VQ_next ?_
         refine VC_ret ?_
         have hzs40 := hS.size
         have hzl198 := ho1.lt
         have hzl199 := ho2.lt
         have hzl200 := ho4.lt
         have hzl201 := ho6.lt
         have hzl202 := hmk1.lt
         have hzk18 := hszhK3
         have hzl203 := NdP.lt hN4
         have hzk19 := hszhN4
         have hzk20 := hszhK4
         have hzl204 := ho14.lt
         refine VQ_retM1 (.bool ((chkN (roomsN rs) L2 kp kv kc kk) == 35)) [w12.heap.size] (.inr rfl) rfl rfl ⟨hmk1, (by simp), trivial⟩ ?_
         intro w71 hq4
         replace hq4 : Step (Just w12.heap.size) w70 w71 := Step.mono hq4 (fun i hi => by simpa using hi)
         replace hS := Step.transNew hS hq4 (fun _ _ _ => by omega)
         replace ho1 := ho1.step hq4 (show ¬ b1 = w12.heap.size by omega)
         replace ho2 := ho2.step hq4 (show ¬ b2 = w12.heap.size by omega)
         replace ho4 := ho4.step hq4 (show ¬ b3 = w12.heap.size by omega)
         replace ho6 := ho6.step hq4 (show ¬ b4 = w12.heap.size by omega)
         replace hszhK3 := Nat.le_trans hszhK3 (hq4).size
         replace hszhN4 := Nat.le_trans hszhN4 (hq4).size
         replace hszhK4 := Nat.le_trans hszhK4 (hq4).size
         replace ho14 := ho14.step hq4 (show ¬ b6 = w12.heap.size by omega)
         exact ⟨congrArg Value.bool (by first | rfl | (rw [beq_iff_eq, hk9]) | (rw [beq_iff_eq]; exact ht5) | simp [*]), hS⟩
       ·refine VT_eq [(14, .bool false), (13, .bool false), (12, .bool false), (11, .int .i64 ((LS.length : Nat) : Int)), (10, .bool true), (9, .bool true), (8, .bool true), (7, .bool false), (6, .bool true), (5, .bool true), (4, .bool true), (3, .int .i64 (rightC kk)), (2, .agg #[.int .i64 kk.kind, .int .i64 kk.peak, .int .i64 kk.early, .int .i64 kk.whole, .int .i64 kk.burst, .int .i64 kk.least]), (1, .bool true), (0, .bool true)] (by simp only [hg11, Bool.not_true, Bool.not_false]) ?_
        try simp only [bne_iff_ne, beq_iff_eq, decide_eq_true_eq, decide_eq_false_iff_not, bne_eq_false_iff_eq, beq_eq_false_iff_ne, ne_eq] at hg11
        refine VT_pures 5 (kn' := [(16, undef), (19, undef), (18, undef), (17, undef), (15, undef), (14, .bool false), (13, .bool false), (12, .bool false), (11, .int .i64 ((LS.length : Nat) : Int)), (10, .bool true), (9, .bool true), (8, .bool true), (7, .bool false), (6, .bool true), (5, .bool true), (4, .bool true), (3, .int .i64 (rightC kk)), (2, .agg #[.int .i64 kk.kind, .int .i64 kk.peak, .int .i64 kk.early, .int .i64 kk.whole, .int .i64 kk.burst, .int .i64 kk.least]), (1, .bool true), (0, .bool true)]) (by kernel_rfl) ?_
        refine VT_end ?_
        intro w72 hs16
        replace hNSnd1 := NdP.no hNSnd1 hs16
        replace hS := Step.trans hS hs16
        replace ho1 := ho1.no hs16
        replace ho2 := ho2.no hs16
        replace ho4 := ho4.no hs16
        replace ho6 := ho6.no hs16
        replace hmk1 := hmk1.no hs16
        refine VL_keep [6, 7, 9, 105, 108, 110, 107] [(6, .pointer (some ⟨b1, 0, none⟩)), (7, .pointer (some ⟨b2, 0, none⟩)), (9, .pointer (some ⟨nd1, 0, none⟩)), (105, .bool false), (108, undef), (110, undef), (107, undef)] (by kernel_rfl) ?_
        refine VL_pure 24 [6, 7, 9, 15] [(6, .pointer (some ⟨b1, 0, none⟩)), (7, .pointer (some ⟨b2, 0, none⟩)), (9, .pointer (some ⟨nd1, 0, none⟩)), (15, .bool false)] (by kernel_rfl) rfl ?_
        refine VL_end (by kernel_rfl) ?_
        refine VQ_next ?_
        refine VC_seq ?_
        have hn0 : ¬ (chkN (roomsN rs) LS kp kv kc kk) = 0 := fun h9 => by
         obtain ⟨q1, q2, q3, q4, q5⟩ := (chk_want hrs).1 h9
         first | omega | (have q9 : linkB m kp kv kc = false := (by assumption); rw [q9] at q1; cases q1; done) | (have q9 : (findC LS kp kv kc).isSome = true := (by assumption); rw [q9] at q3; cases q3; done)
        refine VC_eqL [(6, .pointer (some ⟨b1, 0, none⟩)), (7, .pointer (some ⟨b2, 0, none⟩)), (9, .pointer (some ⟨nd1, 0, none⟩)), (15, .bool (decide ((chkN (roomsN rs) LS kp kv kc kk) = 0)))] (by rw [decide_eq_false hn0]) ?_
        have hs17 := drew_step w72
        have hs17z : w72.heap.size = w72.drew.heap.size := rfl
        refine VC_text [[], [0], [], [], [3], [0, 1, 2, 3, 4], [0, 1, 2, 3, 4, 5], [0, 1, 2, 3, 4, 5, 6]] 5 (fun x y => Step (fun k => w72.heap.size ≤ k) x y) [1] [0, 2, 3, 4, 1] (by kernel_rfl) (by kernel_rfl) (by kernel_rfl) (by kernel_rfl) (fun x => Step.refl _ x) (fun h k => Step.trans h k) Step.weak ?_
        have hzl205 := NdP.lt hNSnd1
        have hzs41 := hS.size
        have hzl206 := ho1.lt
        have hzl207 := ho2.lt
        have hzl208 := ho4.lt
        have hzl209 := ho6.lt
        have hzl210 := hmk1.lt
        generalize w72.drew = w73 at hs17 hs17z ⊢
        replace hNSnd1 := NdP.no hNSnd1 hs17
        replace hS := Step.trans hS hs17
        replace ho1 := ho1.no hs17
        replace ho2 := ho2.no hs17
        replace ho4 := ho4.no hs17
        replace ho6 := ho6.no hs17
        replace hmk1 := hmk1.no hs17
        refine VT_pures 3 (kn' := [(3, .pointer (some ⟨b1, 0, none⟩)), (2, .pointer (some ⟨nd1, 0, none⟩)), (0, .pointer (some ⟨nd1, 0, none⟩))]) (by kernel_rfl) ?_
        refine VT_load (d := 118) (t := 3) (a := ⟨b1, 0, none⟩) (v := .int .i64 kp) (by kernel_rfl) (by kernel_rfl) ?_ ?_
        ·intro w74 hr14
         replace hNSnd1 := NdP.step hNSnd1 hr14 (fun k9 hk9 hF9 => by have h8 := hXwnd1 k9 hk9; (try simp only at hF9); omega)
         replace hS := Step.transNew hS hr14 (fun i hi hG => by (try simp only at hG); omega)
         replace ho1 := ho1.step hr14 (by (try simp only); omega)
         replace ho2 := ho2.step hr14 (by (try simp only); omega)
         replace ho4 := ho4.step hr14 (by (try simp only); omega)
         replace ho6 := ho6.step hr14 (by (try simp only); omega)
         replace hmk1 := hmk1.step hr14 (by (try simp only); omega)
         exact (Loads.own1 ho1 (by kernel_rfl) (by rfl))
        refine VT_chain (by kernel_rfl) ?_
        intro w75 hs18
        have hzhs18 := hs18.size
        replace hNSnd1 := NdP.no hNSnd1 hs18
        replace hS := Step.trans hS hs18
        replace ho1 := ho1.no hs18
        replace ho2 := ho2.no hs18
        replace ho4 := ho4.no hs18
        replace ho6 := ho6.no hs18
        replace hmk1 := hmk1.no hs18
        have hzl211 := NdP.lt hNSnd1
        have hzs42 := hS.size
        have hzl212 := ho1.lt
        have hzl213 := ho2.lt
        have hzl214 := ho4.lt
        have hzl215 := ho6.lt
        have hzl216 := hmk1.lt
        refine VTc_call (d := 115) (f := 11) (args := #[.pointer (some ⟨nd1, 0, none⟩)]) (by kernel_rfl) (by kernel_rfl) (by kernel_rfl) Try.call11 (keys_any hNSnd1) ?_ ?_
        ·rintro _ w76 ⟨A5, n5, c5, rfl, hlhK5, hK5, hc23⟩
         exact Step.mono hc23 (by intro i hi; first | exact hi.elim | exact .inl hi | ((try simp only at hi ⊢); omega))
        rintro _ w76 ⟨A5, n5, c5, rfl, hlhK5, hK5, hc23⟩
        have hzhc23 := (hc23).size
        replace hNSnd1 := NdP.no hNSnd1 hc23
        replace hS := Step.trans hS hc23
        replace ho1 := ho1.no hc23
        replace ho2 := ho2.no hc23
        replace ho4 := ho4.no hc23
        replace ho6 := ho6.no hc23
        replace hmk1 := hmk1.no hc23
        have hubhK5 := hK5.ub
        have hszhK5 := Nat.le_refl w76.heap.size
        refine VT_end ?_
        intro w77 hs19
        replace hNSnd1 := NdP.no hNSnd1 hs19
        replace hS := Step.trans hS hs19
        replace ho1 := ho1.no hs19
        replace ho2 := ho2.no hs19
        replace ho4 := ho4.no hs19
        replace ho6 := ho6.no hs19
        replace hmk1 := hmk1.no hs19
        replace hK5 := hK5.no hs19
        replace hszhK5 := Nat.le_trans hszhK5 (hs19).size
        refine VL_keep [6, 7, 9, 15, 116, 118, 115] [(6, .pointer (some ⟨b1, 0, none⟩)), (7, .pointer (some ⟨b2, 0, none⟩)), (9, .pointer (some ⟨nd1, 0, none⟩)), (15, .bool (decide ((chkN (roomsN rs) LS kp kv kc kk) = 0))), (116, .pointer (some ⟨nd1, 0, none⟩)), (118, .int .i64 kp), (115, .slice A5 n5 c5)] (by kernel_rfl) ?_
        have hzl217 := NdP.lt hNSnd1
        have hzs43 := hS.size
        have hzl218 := ho1.lt
        have hzl219 := ho2.lt
        have hzl220 := ho4.lt
        have hzl221 := ho6.lt
        have hzl222 := hmk1.lt
        refine VL_call (d := 119) (f := 9) (args := #[.pointer (some ⟨nd1, 0, none⟩), .int .i64 kp]) (by kernel_rfl) (by kernel_rfl) (by kernel_rfl) Try.call9 (nleft hNSnd1 kp) ?_
        rintro _ w78 ⟨rfl, hc24⟩
        replace hNSnd1 := NdP.no hNSnd1 hc24
        replace hS := Step.trans hS hc24
        replace ho1 := ho1.no hc24
        replace ho2 := ho2.no hc24
        replace ho4 := ho4.no hc24
        replace ho6 := ho6.no hc24
        replace hmk1 := hmk1.no hc24
        replace hK5 := hK5.no hc24
        replace hszhK5 := Nat.le_trans hszhK5 (hc24).size
        refine VL_pure 8 [6, 7, 9, 15, 16, 17] [(6, .pointer (some ⟨b1, 0, none⟩)), (7, .pointer (some ⟨b2, 0, none⟩)), (9, .pointer (some ⟨nd1, 0, none⟩)), (15, .bool (decide ((chkN (roomsN rs) LS kp kv kc kk) = 0))), (16, .slice A5 n5 c5), (17, .int .i64 (leftN (roomsN rs) LS kp))] (by kernel_rfl) rfl ?_
        refine VL_end (by kernel_rfl) ?_
        refine VQ_next ?_
        refine VC_seq ?_
        refine VC_region ?_
        refine VL_pure 1 [6, 7, 9, 15, 16, 17, 120] [(6, .pointer (some ⟨b1, 0, none⟩)), (7, .pointer (some ⟨b2, 0, none⟩)), (9, .pointer (some ⟨nd1, 0, none⟩)), (15, .bool (decide ((chkN (roomsN rs) LS kp kv kc kk) = 0))), (16, .slice A5 n5 c5), (17, .int .i64 (leftN (roomsN rs) LS kp)), (120, .pointer (some ⟨nd1, 0, none⟩))] (by kernel_rfl) rfl ?_
        refine VL_load (d := 121) (t := 28) (a := ⟨b1, 0, none⟩) (v := .agg #[.int .i64 kp, .int .i64 kv, .int .i64 kc]) (by kernel_rfl) (by kernel_rfl) (Loads.ownL ho1 (n := 3) (by kernel_rfl) (by kernel_rfl) (by kernel_rfl)) ?_
        refine VL_load (d := 122) (t := 30) (a := ⟨b2, 0, none⟩) (v := .agg #[.int .i64 kk.kind, .int .i64 kk.peak, .int .i64 kk.early, .int .i64 kk.whole, .int .i64 kk.burst, .int .i64 kk.least]) (by kernel_rfl) (by kernel_rfl) (Loads.ownL ho2 (n := 6) (by kernel_rfl) (by kernel_rfl) (by kernel_rfl)) ?_
        have hzl223 := NdP.lt hNSnd1
        have hzs44 := hS.size
        have hzl224 := ho1.lt
        have hzl225 := ho2.lt
        have hzl226 := ho4.lt
        have hzl227 := ho6.lt
        have hzl228 := hmk1.lt
        refine VL_call (d := 123) (f := 16) (args := #[.pointer (some ⟨nd1, 0, none⟩), .agg #[.int .i64 kp, .int .i64 kv, .int .i64 kc], .agg #[.int .i64 kk.kind, .int .i64 kk.peak, .int .i64 kk.early, .int .i64 kk.whole, .int .i64 kk.burst, .int .i64 kk.least]]) (by kernel_rfl) (by kernel_rfl) (by kernel_rfl) Try.call16 (ntake hNSnd1 (by omega) kp kv kc kk) ?_
        rintro _ w79 ⟨rfl, X5, hN5, hXg5, hc25⟩
        have hzhc25 := (hc25).size
        replace hS := Step.transNew hS hc25 (fun i9 hi9 hX9 => by have h8 := NdP.low hNSnd1 hX9; omega)
        replace ho1 := ho1.step hc25 (NdP.nx hNSnd1 ho1 (by decide))
        replace ho2 := ho2.step hc25 (NdP.nx hNSnd1 ho2 (by decide))
        replace ho4 := ho4.step hc25 (NdP.nx hNSnd1 ho4 (by decide))
        replace ho6 := ho6.step hc25 (NdP.nx hNSnd1 ho6 (by decide))
        replace hmk1 := Dfr.step hmk1 hc25 (NdP.dfr hNSnd1 hmk1)
        replace hK5 := RwS_nd hNSnd1 hK5 (by decide) hc25
        replace hszhK5 := Nat.le_trans hszhK5 (Step.size hc25)
        have hXwnd1 := fun k9 hk9 => NdP.ltX hN5 (k := k9) hk9
        have hszhN5 := Nat.le_refl w79.heap.size
        refine VL_pure 5 [6, 7, 9, 15, 16, 17, 18] [(6, .pointer (some ⟨b1, 0, none⟩)), (7, .pointer (some ⟨b2, 0, none⟩)), (9, .pointer (some ⟨nd1, 0, none⟩)), (15, .bool (decide ((chkN (roomsN rs) LS kp kv kc kk) = 0))), (16, .slice A5 n5 c5), (17, .int .i64 (leftN (roomsN rs) LS kp)), (18, .int .i64 (chkN (roomsN rs) LS kp kv kc kk))] (by kernel_rfl) rfl ?_
        refine VL_end (by kernel_rfl) ?_
        refine VQ_next ?_
        refine VC_seq ?_
        refine VC_seq ?_
        obtain ⟨L2, hL2E⟩ : ∃ x, x = takeN (roomsN rs) LS kp kv kc kk := ⟨_, rfl⟩
        rw [← hL2E] at hN5
        refine VC_region ?_
        refine VL_pure 4 [6, 7, 9, 16, 17, 18, 127] [(6, .pointer (some ⟨b1, 0, none⟩)), (7, .pointer (some ⟨b2, 0, none⟩)), (9, .pointer (some ⟨nd1, 0, none⟩)), (16, .slice A5 n5 c5), (17, .int .i64 (leftN (roomsN rs) LS kp)), (18, .int .i64 (chkN (roomsN rs) LS kp kv kc kk)), (127, .bool (!(((chkN (roomsN rs) LS kp kv kc kk) == 0) == (decide ((chkN (roomsN rs) LS kp kv kc kk) = 0)))))] (by kernel_rfl) rfl ?_
        refine VL_end (by kernel_rfl) ?_
        refine VQ_next ?_
        refine VC_is (b := !(((chkN (roomsN rs) LS kp kv kc kk) == 0) == (decide ((chkN (roomsN rs) LS kp kv kc kk) = 0)))) false (by kernel_rfl) ((show ∀ b : Bool, (!(b == b)) = false from by decide) (decide ((chkN (roomsN rs) LS kp kv kc kk) = 0))) ?_
        refine VC_ite_false ?_
        refine VC_skip ?_
        refine VQ_next ?_
        refine VC_seq ?_
        refine VC_region ?_
        refine VL_pure 1 [6, 7, 9, 16, 17, 18, 128] [(6, .pointer (some ⟨b1, 0, none⟩)), (7, .pointer (some ⟨b2, 0, none⟩)), (9, .pointer (some ⟨nd1, 0, none⟩)), (16, .slice A5 n5 c5), (17, .int .i64 (leftN (roomsN rs) LS kp)), (18, .int .i64 (chkN (roomsN rs) LS kp kv kc kk)), (128, .pointer (some ⟨nd1, 0, none⟩))] (by kernel_rfl) rfl ?_
        have hzs45 := hS.size
        have hzl229 := ho1.lt
        have hzl230 := ho2.lt
        have hzl231 := ho4.lt
        have hzl232 := ho6.lt
        have hzl233 := hmk1.lt
        have hzl234 := NdP.lt hN5
        refine VL_call (d := 129) (f := 11) (args := #[.pointer (some ⟨nd1, 0, none⟩)]) (by kernel_rfl) (by kernel_rfl) (by kernel_rfl) Try.call11 (keys_any hN5) ?_
        rintro _ w80 ⟨A6, n6, c6, rfl, hlhK6, hK6, hc26⟩
        replace hS := Step.trans hS hc26
        replace ho1 := ho1.no hc26
        replace ho2 := ho2.no hc26
        replace ho4 := ho4.no hc26
        replace ho6 := ho6.no hc26
        replace hmk1 := hmk1.no hc26
        replace hK5 := hK5.no hc26
        replace hszhK5 := Nat.le_trans hszhK5 (hc26).size
        replace hN5 := NdP.no hN5 hc26
        replace hszhN5 := Nat.le_trans hszhN5 (hc26).size
        have hubhK6 := hK6.ub
        have hszhK6 := Nat.le_refl w80.heap.size
        refine VL_pure 3 [6, 7, 9, 16, 17, 18, 19] [(6, .pointer (some ⟨b1, 0, none⟩)), (7, .pointer (some ⟨b2, 0, none⟩)), (9, .pointer (some ⟨nd1, 0, none⟩)), (16, .slice A5 n5 c5), (17, .int .i64 (leftN (roomsN rs) LS kp)), (18, .int .i64 (chkN (roomsN rs) LS kp kv kc kk)), (19, .slice A6 n6 c6)] (by kernel_rfl) rfl ?_
        refine VL_end (by kernel_rfl) ?_
        refine VQ_next ?_
        refine VC_seq ?_
        refine VC_seq ?_
        refine VC_region ?_
        refine VL_pure 2 [6, 7, 9, 16, 17, 19, 131] [(6, .pointer (some ⟨b1, 0, none⟩)), (7, .pointer (some ⟨b2, 0, none⟩)), (9, .pointer (some ⟨nd1, 0, none⟩)), (16, .slice A5 n5 c5), (17, .int .i64 (leftN (roomsN rs) LS kp)), (19, .slice A6 n6 c6), (131, .bool ((chkN (roomsN rs) LS kp kv kc kk) != 0))] (by kernel_rfl) rfl ?_
        refine VL_end (by kernel_rfl) ?_
        refine VQ_next ?_
        refine VC_is (b := (chkN (roomsN rs) LS kp kv kc kk) != 0) true (by kernel_rfl) (by rw [bne_iff_ne]; exact hn0) ?_
        refine VC_ite_true ?_
        refine VC_seq ?_
        have hn9 : ¬ (chkN (roomsN rs) LS kp kv kc kk) = 0 := by assumption
        have hk9 := kept hn9
        rw [← hL2E] at hk9
        have hlen9 : L2.length = LS.length := by rw [hk9]
        refine VC_region ?_
        refine VL_pure 6 [6, 9, 17, 137] [(6, .pointer (some ⟨b1, 0, none⟩)), (9, .pointer (some ⟨nd1, 0, none⟩)), (17, .int .i64 (leftN (roomsN rs) LS kp)), (137, .bool (((n6 : Nat) : Int) == ((n5 : Nat) : Int)))] (by kernel_rfl) rfl ?_
        refine VL_known (((n6 : Nat) : Int) == ((n5 : Nat) : Int)) (fun bV => [(6, .pointer (some ⟨b1, 0, none⟩)), (9, .pointer (some ⟨nd1, 0, none⟩)), (17, .int .i64 (leftN (roomsN rs) LS kp)), (137, .bool bV)]) true rfl (by rw [beq_iff_eq]; first | omega | (rw [wrap_i64 _ (by omega) (by omega)]; omega)) ?_
        refine VL_pure 8 [17, 137, 138, 139] [(17, .int .i64 (leftN (roomsN rs) LS kp)), (137, .bool true), (138, .pointer (some ⟨nd1, 0, none⟩)), (139, .pointer (some ⟨b1, 0, none⟩))] (by kernel_rfl) rfl ?_
        refine VL_load (d := 140) (t := 3) (a := ⟨b1, 0, none⟩) (v := .int .i64 kp) (by kernel_rfl) (by kernel_rfl) (Loads.own1 ho1 (by kernel_rfl) (by rfl)) ?_
        have hzs46 := hS.size
        have hzl235 := ho1.lt
        have hzl236 := ho2.lt
        have hzl237 := ho4.lt
        have hzl238 := ho6.lt
        have hzl239 := hmk1.lt
        have hzl240 := NdP.lt hN5
        refine VL_call (d := 141) (f := 9) (args := #[.pointer (some ⟨nd1, 0, none⟩), .int .i64 kp]) (by kernel_rfl) (by kernel_rfl) (by kernel_rfl) Try.call9 (nleft hN5 kp) ?_
        rintro _ w81 ⟨rfl, hc27⟩
        replace hS := Step.trans hS hc27
        replace ho1 := ho1.no hc27
        replace ho2 := ho2.no hc27
        replace ho4 := ho4.no hc27
        replace ho6 := ho6.no hc27
        replace hmk1 := hmk1.no hc27
        replace hK5 := hK5.no hc27
        replace hszhK5 := Nat.le_trans hszhK5 (hc27).size
        replace hN5 := NdP.no hN5 hc27
        replace hszhN5 := Nat.le_trans hszhN5 (hc27).size
        replace hK6 := hK6.no hc27
        replace hszhK6 := Nat.le_trans hszhK6 (hc27).size
        refine VL_pure 14 [8] [(8, .bool ((leftN (roomsN rs) L2 kp) == (leftN (roomsN rs) LS kp)))] (by kernel_rfl) rfl ?_
        refine VL_end (by kernel_rfl) ?_
        refine VQ_next ?_
        refine VC_ret ?_
        refine VQ_then_ret ?_
        have hzs47 := hS.size
        have hzl241 := ho1.lt
        have hzl242 := ho2.lt
        have hzl243 := ho4.lt
        have hzl244 := ho6.lt
        have hzl245 := hmk1.lt
        have hzk21 := hszhK5
        have hzl246 := NdP.lt hN5
        have hzk22 := hszhN5
        have hzk23 := hszhK6
        refine VQ_retM1 (.bool ((leftN (roomsN rs) L2 kp) == (leftN (roomsN rs) LS kp))) [w12.heap.size] (.inr rfl) rfl rfl ⟨hmk1, (by simp), trivial⟩ ?_
        intro w82 hq5
        replace hq5 : Step (Just w12.heap.size) w81 w82 := Step.mono hq5 (fun i hi => by simpa using hi)
        replace hS := Step.transNew hS hq5 (fun _ _ _ => by omega)
        replace ho1 := ho1.step hq5 (show ¬ b1 = w12.heap.size by omega)
        replace ho2 := ho2.step hq5 (show ¬ b2 = w12.heap.size by omega)
        replace ho4 := ho4.step hq5 (show ¬ b3 = w12.heap.size by omega)
        replace ho6 := ho6.step hq5 (show ¬ b4 = w12.heap.size by omega)
        replace hszhK5 := Nat.le_trans hszhK5 (hq5).size
        replace hszhN5 := Nat.le_trans hszhN5 (hq5).size
        replace hszhK6 := Nat.le_trans hszhK6 (hq5).size
        exact ⟨congrArg Value.bool (by first | rfl | (rw [beq_iff_eq, hk9]) | (rw [beq_iff_eq]; exact ht5) | simp [*]), hS⟩
     ·refine VT_eq [(6, .bool false), (5, .bool false), (4, .bool false), (3, .int .i64 (rightC kk)), (2, .agg #[.int .i64 kk.kind, .int .i64 kk.peak, .int .i64 kk.early, .int .i64 kk.whole, .int .i64 kk.burst, .int .i64 kk.least]), (1, .bool true), (0, .bool true)] (by simp only [hg9, Bool.not_true, Bool.not_false]) ?_
      try simp only [bne_iff_ne, beq_iff_eq, decide_eq_true_eq, decide_eq_false_iff_not, bne_eq_false_iff_eq, beq_eq_false_iff_ne, ne_eq] at hg9
      refine VT_pures 13 (kn' := [(16, undef), (19, undef), (18, undef), (17, undef), (15, undef), (14, .bool false), (13, .bool false), (12, undef), (11, undef), (10, .bool false), (9, .bool false), (8, undef), (7, undef), (6, .bool false), (5, .bool false), (4, .bool false), (3, .int .i64 (rightC kk)), (2, .agg #[.int .i64 kk.kind, .int .i64 kk.peak, .int .i64 kk.early, .int .i64 kk.whole, .int .i64 kk.burst, .int .i64 kk.least]), (1, .bool true), (0, .bool true)]) (by kernel_rfl) ?_
      refine VT_end ?_
      intro w83 hs20
      replace hNSnd1 := NdP.no hNSnd1 hs20
      replace hS := Step.trans hS hs20
      replace ho1 := ho1.no hs20
      replace ho2 := ho2.no hs20
      replace ho4 := ho4.no hs20
      replace ho6 := ho6.no hs20
      replace hmk1 := hmk1.no hs20
      refine VL_keep [6, 7, 9, 105, 108, 110, 107] [(6, .pointer (some ⟨b1, 0, none⟩)), (7, .pointer (some ⟨b2, 0, none⟩)), (9, .pointer (some ⟨nd1, 0, none⟩)), (105, .bool false), (108, undef), (110, undef), (107, undef)] (by kernel_rfl) ?_
      refine VL_pure 24 [6, 7, 9, 15] [(6, .pointer (some ⟨b1, 0, none⟩)), (7, .pointer (some ⟨b2, 0, none⟩)), (9, .pointer (some ⟨nd1, 0, none⟩)), (15, .bool false)] (by kernel_rfl) rfl ?_
      refine VL_end (by kernel_rfl) ?_
      refine VQ_next ?_
      refine VC_seq ?_
      have hn0 : ¬ (chkN (roomsN rs) LS kp kv kc kk) = 0 := fun h9 => by
       obtain ⟨q1, q2, q3, q4, q5⟩ := (chk_want hrs).1 h9
       first | omega | (have q9 : linkB m kp kv kc = false := (by assumption); rw [q9] at q1; cases q1; done) | (have q9 : (findC LS kp kv kc).isSome = true := (by assumption); rw [q9] at q3; cases q3; done)
      refine VC_eqL [(6, .pointer (some ⟨b1, 0, none⟩)), (7, .pointer (some ⟨b2, 0, none⟩)), (9, .pointer (some ⟨nd1, 0, none⟩)), (15, .bool (decide ((chkN (roomsN rs) LS kp kv kc kk) = 0)))] (by rw [decide_eq_false hn0]) ?_
      have hs21 := drew_step w83
      have hs21z : w83.heap.size = w83.drew.heap.size := rfl
      refine VC_text [[], [0], [], [], [3], [0, 1, 2, 3, 4], [0, 1, 2, 3, 4, 5], [0, 1, 2, 3, 4, 5, 6]] 5 (fun x y => Step (fun k => w83.heap.size ≤ k) x y) [1] [0, 2, 3, 4, 1] (by kernel_rfl) (by kernel_rfl) (by kernel_rfl) (by kernel_rfl) (fun x => Step.refl _ x) (fun h k => Step.trans h k) Step.weak ?_
      have hzl247 := NdP.lt hNSnd1
      have hzs48 := hS.size
      have hzl248 := ho1.lt
      have hzl249 := ho2.lt
      have hzl250 := ho4.lt
      have hzl251 := ho6.lt
      have hzl252 := hmk1.lt
      generalize w83.drew = w84 at hs21 hs21z ⊢
      replace hNSnd1 := NdP.no hNSnd1 hs21
      replace hS := Step.trans hS hs21
      replace ho1 := ho1.no hs21
      replace ho2 := ho2.no hs21
      replace ho4 := ho4.no hs21
      replace ho6 := ho6.no hs21
      replace hmk1 := hmk1.no hs21
      refine VT_pures 3 (kn' := [(3, .pointer (some ⟨b1, 0, none⟩)), (2, .pointer (some ⟨nd1, 0, none⟩)), (0, .pointer (some ⟨nd1, 0, none⟩))]) (by kernel_rfl) ?_
      refine VT_load (d := 118) (t := 3) (a := ⟨b1, 0, none⟩) (v := .int .i64 kp) (by kernel_rfl) (by kernel_rfl) ?_ ?_
      ·intro w85 hr15
       replace hNSnd1 := NdP.step hNSnd1 hr15 (fun k9 hk9 hF9 => by have h8 := hXwnd1 k9 hk9; (try simp only at hF9); omega)
       replace hS := Step.transNew hS hr15 (fun i hi hG => by (try simp only at hG); omega)
       replace ho1 := ho1.step hr15 (by (try simp only); omega)
       replace ho2 := ho2.step hr15 (by (try simp only); omega)
       replace ho4 := ho4.step hr15 (by (try simp only); omega)
       replace ho6 := ho6.step hr15 (by (try simp only); omega)
       replace hmk1 := hmk1.step hr15 (by (try simp only); omega)
       exact (Loads.own1 ho1 (by kernel_rfl) (by rfl))
      refine VT_chain (by kernel_rfl) ?_
      intro w86 hs22
      have hzhs22 := hs22.size
      replace hNSnd1 := NdP.no hNSnd1 hs22
      replace hS := Step.trans hS hs22
      replace ho1 := ho1.no hs22
      replace ho2 := ho2.no hs22
      replace ho4 := ho4.no hs22
      replace ho6 := ho6.no hs22
      replace hmk1 := hmk1.no hs22
      have hzl253 := NdP.lt hNSnd1
      have hzs49 := hS.size
      have hzl254 := ho1.lt
      have hzl255 := ho2.lt
      have hzl256 := ho4.lt
      have hzl257 := ho6.lt
      have hzl258 := hmk1.lt
      refine VTc_call (d := 115) (f := 11) (args := #[.pointer (some ⟨nd1, 0, none⟩)]) (by kernel_rfl) (by kernel_rfl) (by kernel_rfl) Try.call11 (keys_any hNSnd1) ?_ ?_
      ·rintro _ w87 ⟨A7, n7, c7, rfl, hlhK7, hK7, hc28⟩
       exact Step.mono hc28 (by intro i hi; first | exact hi.elim | exact .inl hi | ((try simp only at hi ⊢); omega))
      rintro _ w87 ⟨A7, n7, c7, rfl, hlhK7, hK7, hc28⟩
      have hzhc28 := (hc28).size
      replace hNSnd1 := NdP.no hNSnd1 hc28
      replace hS := Step.trans hS hc28
      replace ho1 := ho1.no hc28
      replace ho2 := ho2.no hc28
      replace ho4 := ho4.no hc28
      replace ho6 := ho6.no hc28
      replace hmk1 := hmk1.no hc28
      have hubhK7 := hK7.ub
      have hszhK7 := Nat.le_refl w87.heap.size
      refine VT_end ?_
      intro w88 hs23
      replace hNSnd1 := NdP.no hNSnd1 hs23
      replace hS := Step.trans hS hs23
      replace ho1 := ho1.no hs23
      replace ho2 := ho2.no hs23
      replace ho4 := ho4.no hs23
      replace ho6 := ho6.no hs23
      replace hmk1 := hmk1.no hs23
      replace hK7 := hK7.no hs23
      replace hszhK7 := Nat.le_trans hszhK7 (hs23).size
      refine VL_keep [6, 7, 9, 15, 116, 118, 115] [(6, .pointer (some ⟨b1, 0, none⟩)), (7, .pointer (some ⟨b2, 0, none⟩)), (9, .pointer (some ⟨nd1, 0, none⟩)), (15, .bool (decide ((chkN (roomsN rs) LS kp kv kc kk) = 0))), (116, .pointer (some ⟨nd1, 0, none⟩)), (118, .int .i64 kp), (115, .slice A7 n7 c7)] (by kernel_rfl) ?_
      have hzl259 := NdP.lt hNSnd1
      have hzs50 := hS.size
      have hzl260 := ho1.lt
      have hzl261 := ho2.lt
      have hzl262 := ho4.lt
      have hzl263 := ho6.lt
      have hzl264 := hmk1.lt
      refine VL_call (d := 119) (f := 9) (args := #[.pointer (some ⟨nd1, 0, none⟩), .int .i64 kp]) (by kernel_rfl) (by kernel_rfl) (by kernel_rfl) Try.call9 (nleft hNSnd1 kp) ?_
      rintro _ w89 ⟨rfl, hc29⟩
      replace hNSnd1 := NdP.no hNSnd1 hc29
      replace hS := Step.trans hS hc29
      replace ho1 := ho1.no hc29
      replace ho2 := ho2.no hc29
      replace ho4 := ho4.no hc29
      replace ho6 := ho6.no hc29
      replace hmk1 := hmk1.no hc29
      replace hK7 := hK7.no hc29
      replace hszhK7 := Nat.le_trans hszhK7 (hc29).size
      refine VL_pure 8 [6, 7, 9, 15, 16, 17] [(6, .pointer (some ⟨b1, 0, none⟩)), (7, .pointer (some ⟨b2, 0, none⟩)), (9, .pointer (some ⟨nd1, 0, none⟩)), (15, .bool (decide ((chkN (roomsN rs) LS kp kv kc kk) = 0))), (16, .slice A7 n7 c7), (17, .int .i64 (leftN (roomsN rs) LS kp))] (by kernel_rfl) rfl ?_
      refine VL_end (by kernel_rfl) ?_
      refine VQ_next ?_
      refine VC_seq ?_
      refine VC_region ?_
      refine VL_pure 1 [6, 7, 9, 15, 16, 17, 120] [(6, .pointer (some ⟨b1, 0, none⟩)), (7, .pointer (some ⟨b2, 0, none⟩)), (9, .pointer (some ⟨nd1, 0, none⟩)), (15, .bool (decide ((chkN (roomsN rs) LS kp kv kc kk) = 0))), (16, .slice A7 n7 c7), (17, .int .i64 (leftN (roomsN rs) LS kp)), (120, .pointer (some ⟨nd1, 0, none⟩))] (by kernel_rfl) rfl ?_
      refine VL_load (d := 121) (t := 28) (a := ⟨b1, 0, none⟩) (v := .agg #[.int .i64 kp, .int .i64 kv, .int .i64 kc]) (by kernel_rfl) (by kernel_rfl) (Loads.ownL ho1 (n := 3) (by kernel_rfl) (by kernel_rfl) (by kernel_rfl)) ?_
      refine VL_load (d := 122) (t := 30) (a := ⟨b2, 0, none⟩) (v := .agg #[.int .i64 kk.kind, .int .i64 kk.peak, .int .i64 kk.early, .int .i64 kk.whole, .int .i64 kk.burst, .int .i64 kk.least]) (by kernel_rfl) (by kernel_rfl) (Loads.ownL ho2 (n := 6) (by kernel_rfl) (by kernel_rfl) (by kernel_rfl)) ?_
      have hzl265 := NdP.lt hNSnd1
      have hzs51 := hS.size
      have hzl266 := ho1.lt
      have hzl267 := ho2.lt
      have hzl268 := ho4.lt
      have hzl269 := ho6.lt
      have hzl270 := hmk1.lt
      refine VL_call (d := 123) (f := 16) (args := #[.pointer (some ⟨nd1, 0, none⟩), .agg #[.int .i64 kp, .int .i64 kv, .int .i64 kc], .agg #[.int .i64 kk.kind, .int .i64 kk.peak, .int .i64 kk.early, .int .i64 kk.whole, .int .i64 kk.burst, .int .i64 kk.least]]) (by kernel_rfl) (by kernel_rfl) (by kernel_rfl) Try.call16 (ntake hNSnd1 (by omega) kp kv kc kk) ?_
      rintro _ w90 ⟨rfl, X6, hN6, hXg6, hc30⟩
      have hzhc30 := (hc30).size
      replace hS := Step.transNew hS hc30 (fun i9 hi9 hX9 => by have h8 := NdP.low hNSnd1 hX9; omega)
      replace ho1 := ho1.step hc30 (NdP.nx hNSnd1 ho1 (by decide))
      replace ho2 := ho2.step hc30 (NdP.nx hNSnd1 ho2 (by decide))
      replace ho4 := ho4.step hc30 (NdP.nx hNSnd1 ho4 (by decide))
      replace ho6 := ho6.step hc30 (NdP.nx hNSnd1 ho6 (by decide))
      replace hmk1 := Dfr.step hmk1 hc30 (NdP.dfr hNSnd1 hmk1)
      replace hK7 := RwS_nd hNSnd1 hK7 (by decide) hc30
      replace hszhK7 := Nat.le_trans hszhK7 (Step.size hc30)
      have hXwnd1 := fun k9 hk9 => NdP.ltX hN6 (k := k9) hk9
      have hszhN6 := Nat.le_refl w90.heap.size
      refine VL_pure 5 [6, 7, 9, 15, 16, 17, 18] [(6, .pointer (some ⟨b1, 0, none⟩)), (7, .pointer (some ⟨b2, 0, none⟩)), (9, .pointer (some ⟨nd1, 0, none⟩)), (15, .bool (decide ((chkN (roomsN rs) LS kp kv kc kk) = 0))), (16, .slice A7 n7 c7), (17, .int .i64 (leftN (roomsN rs) LS kp)), (18, .int .i64 (chkN (roomsN rs) LS kp kv kc kk))] (by kernel_rfl) rfl ?_
      refine VL_end (by kernel_rfl) ?_
      refine VQ_next ?_
      refine VC_seq ?_
      refine VC_seq ?_
      obtain ⟨L2, hL2E⟩ : ∃ x, x = takeN (roomsN rs) LS kp kv kc kk := ⟨_, rfl⟩
      rw [← hL2E] at hN6
      refine VC_region ?_
      refine VL_pure 4 [6, 7, 9, 16, 17, 18, 127] [(6, .pointer (some ⟨b1, 0, none⟩)), (7, .pointer (some ⟨b2, 0, none⟩)), (9, .pointer (some ⟨nd1, 0, none⟩)), (16, .slice A7 n7 c7), (17, .int .i64 (leftN (roomsN rs) LS kp)), (18, .int .i64 (chkN (roomsN rs) LS kp kv kc kk)), (127, .bool (!(((chkN (roomsN rs) LS kp kv kc kk) == 0) == (decide ((chkN (roomsN rs) LS kp kv kc kk) = 0)))))] (by kernel_rfl) rfl ?_
      refine VL_end (by kernel_rfl) ?_
      refine VQ_next ?_
      refine VC_is (b := !(((chkN (roomsN rs) LS kp kv kc kk) == 0) == (decide ((chkN (roomsN rs) LS kp kv kc kk) = 0)))) false (by kernel_rfl) ((show ∀ b : Bool, (!(b == b)) = false from by decide) (decide ((chkN (roomsN rs) LS kp kv kc kk) = 0))) ?_
      refine VC_ite_false ?_
      refine VC_skip ?_
      refine VQ_next ?_
      refine VC_seq ?_
      refine VC_region ?_
      refine VL_pure 1 [6, 7, 9, 16, 17, 18, 128] [(6, .pointer (some ⟨b1, 0, none⟩)), (7, .pointer (some ⟨b2, 0, none⟩)), (9, .pointer (some ⟨nd1, 0, none⟩)), (16, .slice A7 n7 c7), (17, .int .i64 (leftN (roomsN rs) LS kp)), (18, .int .i64 (chkN (roomsN rs) LS kp kv kc kk)), (128, .pointer (some ⟨nd1, 0, none⟩))] (by kernel_rfl) rfl ?_
      have hzs52 := hS.size
      have hzl271 := ho1.lt
      have hzl272 := ho2.lt
      have hzl273 := ho4.lt
      have hzl274 := ho6.lt
      have hzl275 := hmk1.lt
      have hzl276 := NdP.lt hN6
      refine VL_call (d := 129) (f := 11) (args := #[.pointer (some ⟨nd1, 0, none⟩)]) (by kernel_rfl) (by kernel_rfl) (by kernel_rfl) Try.call11 (keys_any hN6) ?_
      rintro _ w91 ⟨A8, n8, c8, rfl, hlhK8, hK8, hc31⟩
      replace hS := Step.trans hS hc31
      replace ho1 := ho1.no hc31
      replace ho2 := ho2.no hc31
      replace ho4 := ho4.no hc31
      replace ho6 := ho6.no hc31
      replace hmk1 := hmk1.no hc31
      replace hK7 := hK7.no hc31
      replace hszhK7 := Nat.le_trans hszhK7 (hc31).size
      replace hN6 := NdP.no hN6 hc31
      replace hszhN6 := Nat.le_trans hszhN6 (hc31).size
      have hubhK8 := hK8.ub
      have hszhK8 := Nat.le_refl w91.heap.size
      refine VL_pure 3 [6, 7, 9, 16, 17, 18, 19] [(6, .pointer (some ⟨b1, 0, none⟩)), (7, .pointer (some ⟨b2, 0, none⟩)), (9, .pointer (some ⟨nd1, 0, none⟩)), (16, .slice A7 n7 c7), (17, .int .i64 (leftN (roomsN rs) LS kp)), (18, .int .i64 (chkN (roomsN rs) LS kp kv kc kk)), (19, .slice A8 n8 c8)] (by kernel_rfl) rfl ?_
      refine VL_end (by kernel_rfl) ?_
      refine VQ_next ?_
      refine VC_seq ?_
      refine VC_seq ?_
      refine VC_region ?_
      refine VL_pure 2 [6, 7, 9, 16, 17, 19, 131] [(6, .pointer (some ⟨b1, 0, none⟩)), (7, .pointer (some ⟨b2, 0, none⟩)), (9, .pointer (some ⟨nd1, 0, none⟩)), (16, .slice A7 n7 c7), (17, .int .i64 (leftN (roomsN rs) LS kp)), (19, .slice A8 n8 c8), (131, .bool ((chkN (roomsN rs) LS kp kv kc kk) != 0))] (by kernel_rfl) rfl ?_
      refine VL_end (by kernel_rfl) ?_
      refine VQ_next ?_
      refine VC_is (b := (chkN (roomsN rs) LS kp kv kc kk) != 0) true (by kernel_rfl) (by rw [bne_iff_ne]; exact hn0) ?_
      refine VC_ite_true ?_
      refine VC_seq ?_
      have hn9 : ¬ (chkN (roomsN rs) LS kp kv kc kk) = 0 := by assumption
      have hk9 := kept hn9
      rw [← hL2E] at hk9
      have hlen9 : L2.length = LS.length := by rw [hk9]
      refine VC_region ?_
      refine VL_pure 6 [6, 9, 17, 137] [(6, .pointer (some ⟨b1, 0, none⟩)), (9, .pointer (some ⟨nd1, 0, none⟩)), (17, .int .i64 (leftN (roomsN rs) LS kp)), (137, .bool (((n8 : Nat) : Int) == ((n7 : Nat) : Int)))] (by kernel_rfl) rfl ?_
      refine VL_known (((n8 : Nat) : Int) == ((n7 : Nat) : Int)) (fun bV => [(6, .pointer (some ⟨b1, 0, none⟩)), (9, .pointer (some ⟨nd1, 0, none⟩)), (17, .int .i64 (leftN (roomsN rs) LS kp)), (137, .bool bV)]) true rfl (by rw [beq_iff_eq]; first | omega | (rw [wrap_i64 _ (by omega) (by omega)]; omega)) ?_
      refine VL_pure 8 [17, 137, 138, 139] [(17, .int .i64 (leftN (roomsN rs) LS kp)), (137, .bool true), (138, .pointer (some ⟨nd1, 0, none⟩)), (139, .pointer (some ⟨b1, 0, none⟩))] (by kernel_rfl) rfl ?_
      refine VL_load (d := 140) (t := 3) (a := ⟨b1, 0, none⟩) (v := .int .i64 kp) (by kernel_rfl) (by kernel_rfl) (Loads.own1 ho1 (by kernel_rfl) (by rfl)) ?_
      have hzs53 := hS.size
      have hzl277 := ho1.lt
      have hzl278 := ho2.lt
      have hzl279 := ho4.lt
      have hzl280 := ho6.lt
      have hzl281 := hmk1.lt
      have hzl282 := NdP.lt hN6
      refine VL_call (d := 141) (f := 9) (args := #[.pointer (some ⟨nd1, 0, none⟩), .int .i64 kp]) (by kernel_rfl) (by kernel_rfl) (by kernel_rfl) Try.call9 (nleft hN6 kp) ?_
      rintro _ w92 ⟨rfl, hc32⟩
      replace hS := Step.trans hS hc32
      replace ho1 := ho1.no hc32
      replace ho2 := ho2.no hc32
      replace ho4 := ho4.no hc32
      replace ho6 := ho6.no hc32
      replace hmk1 := hmk1.no hc32
      replace hK7 := hK7.no hc32
      replace hszhK7 := Nat.le_trans hszhK7 (hc32).size
      replace hN6 := NdP.no hN6 hc32
      replace hszhN6 := Nat.le_trans hszhN6 (hc32).size
      replace hK8 := hK8.no hc32
      replace hszhK8 := Nat.le_trans hszhK8 (hc32).size
      refine VL_pure 14 [8] [(8, .bool ((leftN (roomsN rs) L2 kp) == (leftN (roomsN rs) LS kp)))] (by kernel_rfl) rfl ?_
      refine VL_end (by kernel_rfl) ?_
      refine VQ_next ?_
      refine VC_ret ?_
      refine VQ_then_ret ?_
      have hzs54 := hS.size
      have hzl283 := ho1.lt
      have hzl284 := ho2.lt
      have hzl285 := ho4.lt
      have hzl286 := ho6.lt
      have hzl287 := hmk1.lt
      have hzk24 := hszhK7
      have hzl288 := NdP.lt hN6
      have hzk25 := hszhN6
      have hzk26 := hszhK8
      refine VQ_retM1 (.bool ((leftN (roomsN rs) L2 kp) == (leftN (roomsN rs) LS kp))) [w12.heap.size] (.inr rfl) rfl rfl ⟨hmk1, (by simp), trivial⟩ ?_
      intro w93 hq6
      replace hq6 : Step (Just w12.heap.size) w92 w93 := Step.mono hq6 (fun i hi => by simpa using hi)
      replace hS := Step.transNew hS hq6 (fun _ _ _ => by omega)
      replace ho1 := ho1.step hq6 (show ¬ b1 = w12.heap.size by omega)
      replace ho2 := ho2.step hq6 (show ¬ b2 = w12.heap.size by omega)
      replace ho4 := ho4.step hq6 (show ¬ b3 = w12.heap.size by omega)
      replace ho6 := ho6.step hq6 (show ¬ b4 = w12.heap.size by omega)
      replace hszhK7 := Nat.le_trans hszhK7 (hq6).size
      replace hszhN6 := Nat.le_trans hszhN6 (hq6).size
      replace hszhK8 := Nat.le_trans hszhK8 (hq6).size
      exact ⟨congrArg Value.bool (by first | rfl | (rw [beq_iff_eq, hk9]) | (rw [beq_iff_eq]; exact ht5) | simp [*]), hS⟩
    ·refine VT_eq [(1, .bool false), (0, .bool false)] (by simp only [hg8, Bool.not_true, Bool.not_false]) ?_
     try simp only [bne_iff_ne, beq_iff_eq, decide_eq_true_eq, decide_eq_false_iff_not, bne_eq_false_iff_eq, beq_eq_false_iff_ne, ne_eq] at hg8
     refine VT_pures 18 (kn' := [(16, undef), (19, undef), (18, undef), (17, undef), (15, undef), (14, .bool false), (13, .bool false), (12, undef), (11, undef), (10, .bool false), (9, .bool false), (8, undef), (7, undef), (6, .bool false), (5, .bool false), (4, undef), (3, undef), (2, undef), (1, .bool false), (0, .bool false)]) (by kernel_rfl) ?_
     refine VT_end ?_
     intro w94 hs24
     replace hNSnd1 := NdP.no hNSnd1 hs24
     replace hS := Step.trans hS hs24
     replace ho1 := ho1.no hs24
     replace ho2 := ho2.no hs24
     replace ho4 := ho4.no hs24
     replace ho6 := ho6.no hs24
     replace hmk1 := hmk1.no hs24
     refine VL_keep [6, 7, 9, 105, 108, 110, 107] [(6, .pointer (some ⟨b1, 0, none⟩)), (7, .pointer (some ⟨b2, 0, none⟩)), (9, .pointer (some ⟨nd1, 0, none⟩)), (105, .bool false), (108, undef), (110, undef), (107, undef)] (by kernel_rfl) ?_
     refine VL_pure 24 [6, 7, 9, 15] [(6, .pointer (some ⟨b1, 0, none⟩)), (7, .pointer (some ⟨b2, 0, none⟩)), (9, .pointer (some ⟨nd1, 0, none⟩)), (15, .bool false)] (by kernel_rfl) rfl ?_
     refine VL_end (by kernel_rfl) ?_
     refine VQ_next ?_
     refine VC_seq ?_
     have hn0 : ¬ (chkN (roomsN rs) LS kp kv kc kk) = 0 := fun h9 => by
      obtain ⟨q1, q2, q3, q4, q5⟩ := (chk_want hrs).1 h9
      first | omega | (have q9 : linkB m kp kv kc = false := (by assumption); rw [q9] at q1; cases q1; done) | (have q9 : (findC LS kp kv kc).isSome = true := (by assumption); rw [q9] at q3; cases q3; done)
     refine VC_eqL [(6, .pointer (some ⟨b1, 0, none⟩)), (7, .pointer (some ⟨b2, 0, none⟩)), (9, .pointer (some ⟨nd1, 0, none⟩)), (15, .bool (decide ((chkN (roomsN rs) LS kp kv kc kk) = 0)))] (by rw [decide_eq_false hn0]) ?_
     have hs25 := drew_step w94
     have hs25z : w94.heap.size = w94.drew.heap.size := rfl
     refine VC_text [[], [0], [], [], [3], [0, 1, 2, 3, 4], [0, 1, 2, 3, 4, 5], [0, 1, 2, 3, 4, 5, 6]] 5 (fun x y => Step (fun k => w94.heap.size ≤ k) x y) [1] [0, 2, 3, 4, 1] (by kernel_rfl) (by kernel_rfl) (by kernel_rfl) (by kernel_rfl) (fun x => Step.refl _ x) (fun h k => Step.trans h k) Step.weak ?_
     have hzl289 := NdP.lt hNSnd1
     have hzs55 := hS.size
     have hzl290 := ho1.lt
     have hzl291 := ho2.lt
     have hzl292 := ho4.lt
     have hzl293 := ho6.lt
     have hzl294 := hmk1.lt
     generalize w94.drew = w95 at hs25 hs25z ⊢
     replace hNSnd1 := NdP.no hNSnd1 hs25
     replace hS := Step.trans hS hs25
     replace ho1 := ho1.no hs25
     replace ho2 := ho2.no hs25
     replace ho4 := ho4.no hs25
     replace ho6 := ho6.no hs25
     replace hmk1 := hmk1.no hs25
     refine VT_pures 3 (kn' := [(3, .pointer (some ⟨b1, 0, none⟩)), (2, .pointer (some ⟨nd1, 0, none⟩)), (0, .pointer (some ⟨nd1, 0, none⟩))]) (by kernel_rfl) ?_
     refine VT_load (d := 118) (t := 3) (a := ⟨b1, 0, none⟩) (v := .int .i64 kp) (by kernel_rfl) (by kernel_rfl) ?_ ?_
     ·intro w96 hr16
      replace hNSnd1 := NdP.step hNSnd1 hr16 (fun k9 hk9 hF9 => by have h8 := hXwnd1 k9 hk9; (try simp only at hF9); omega)
      replace hS := Step.transNew hS hr16 (fun i hi hG => by (try simp only at hG); omega)
      replace ho1 := ho1.step hr16 (by (try simp only); omega)
      replace ho2 := ho2.step hr16 (by (try simp only); omega)
      replace ho4 := ho4.step hr16 (by (try simp only); omega)
      replace ho6 := ho6.step hr16 (by (try simp only); omega)
      replace hmk1 := hmk1.step hr16 (by (try simp only); omega)
      exact (Loads.own1 ho1 (by kernel_rfl) (by rfl))
     refine VT_chain (by kernel_rfl) ?_
     intro w97 hs26
     have hzhs26 := hs26.size
     replace hNSnd1 := NdP.no hNSnd1 hs26
     replace hS := Step.trans hS hs26
     replace ho1 := ho1.no hs26
     replace ho2 := ho2.no hs26
     replace ho4 := ho4.no hs26
     replace ho6 := ho6.no hs26
     replace hmk1 := hmk1.no hs26
     have hzl295 := NdP.lt hNSnd1
     have hzs56 := hS.size
     have hzl296 := ho1.lt
     have hzl297 := ho2.lt
     have hzl298 := ho4.lt
     have hzl299 := ho6.lt
     have hzl300 := hmk1.lt
     refine VTc_call (d := 115) (f := 11) (args := #[.pointer (some ⟨nd1, 0, none⟩)]) (by kernel_rfl) (by kernel_rfl) (by kernel_rfl) Try.call11 (keys_any hNSnd1) ?_ ?_
     ·rintro _ w98 ⟨A9, n9, c9, rfl, hlhK9, hK9, hc33⟩
      exact Step.mono hc33 (by intro i hi; first | exact hi.elim | exact .inl hi | ((try simp only at hi ⊢); omega))
     rintro _ w98 ⟨A9, n9, c9, rfl, hlhK9, hK9, hc33⟩
     have hzhc33 := (hc33).size
     replace hNSnd1 := NdP.no hNSnd1 hc33
     replace hS := Step.trans hS hc33
     replace ho1 := ho1.no hc33
     replace ho2 := ho2.no hc33
     replace ho4 := ho4.no hc33
     replace ho6 := ho6.no hc33
     replace hmk1 := hmk1.no hc33
     have hubhK9 := hK9.ub
     have hszhK9 := Nat.le_refl w98.heap.size
     refine VT_end ?_
     intro w99 hs27
     replace hNSnd1 := NdP.no hNSnd1 hs27
     replace hS := Step.trans hS hs27
     replace ho1 := ho1.no hs27
     replace ho2 := ho2.no hs27
     replace ho4 := ho4.no hs27
     replace ho6 := ho6.no hs27
     replace hmk1 := hmk1.no hs27
     replace hK9 := hK9.no hs27
     replace hszhK9 := Nat.le_trans hszhK9 (hs27).size
     refine VL_keep [6, 7, 9, 15, 116, 118, 115] [(6, .pointer (some ⟨b1, 0, none⟩)), (7, .pointer (some ⟨b2, 0, none⟩)), (9, .pointer (some ⟨nd1, 0, none⟩)), (15, .bool (decide ((chkN (roomsN rs) LS kp kv kc kk) = 0))), (116, .pointer (some ⟨nd1, 0, none⟩)), (118, .int .i64 kp), (115, .slice A9 n9 c9)] (by kernel_rfl) ?_
     have hzl301 := NdP.lt hNSnd1
     have hzs57 := hS.size
     have hzl302 := ho1.lt
     have hzl303 := ho2.lt
     have hzl304 := ho4.lt
     have hzl305 := ho6.lt
     have hzl306 := hmk1.lt
     refine VL_call (d := 119) (f := 9) (args := #[.pointer (some ⟨nd1, 0, none⟩), .int .i64 kp]) (by kernel_rfl) (by kernel_rfl) (by kernel_rfl) Try.call9 (nleft hNSnd1 kp) ?_
     rintro _ w100 ⟨rfl, hc34⟩
     replace hNSnd1 := NdP.no hNSnd1 hc34
     replace hS := Step.trans hS hc34
     replace ho1 := ho1.no hc34
     replace ho2 := ho2.no hc34
     replace ho4 := ho4.no hc34
     replace ho6 := ho6.no hc34
     replace hmk1 := hmk1.no hc34
     replace hK9 := hK9.no hc34
     replace hszhK9 := Nat.le_trans hszhK9 (hc34).size
     refine VL_pure 8 [6, 7, 9, 15, 16, 17] [(6, .pointer (some ⟨b1, 0, none⟩)), (7, .pointer (some ⟨b2, 0, none⟩)), (9, .pointer (some ⟨nd1, 0, none⟩)), (15, .bool (decide ((chkN (roomsN rs) LS kp kv kc kk) = 0))), (16, .slice A9 n9 c9), (17, .int .i64 (leftN (roomsN rs) LS kp))] (by kernel_rfl) rfl ?_
     refine VL_end (by kernel_rfl) ?_
     refine VQ_next ?_
     refine VC_seq ?_
     refine VC_region ?_
     refine VL_pure 1 [6, 7, 9, 15, 16, 17, 120] [(6, .pointer (some ⟨b1, 0, none⟩)), (7, .pointer (some ⟨b2, 0, none⟩)), (9, .pointer (some ⟨nd1, 0, none⟩)), (15, .bool (decide ((chkN (roomsN rs) LS kp kv kc kk) = 0))), (16, .slice A9 n9 c9), (17, .int .i64 (leftN (roomsN rs) LS kp)), (120, .pointer (some ⟨nd1, 0, none⟩))] (by kernel_rfl) rfl ?_
     refine VL_load (d := 121) (t := 28) (a := ⟨b1, 0, none⟩) (v := .agg #[.int .i64 kp, .int .i64 kv, .int .i64 kc]) (by kernel_rfl) (by kernel_rfl) (Loads.ownL ho1 (n := 3) (by kernel_rfl) (by kernel_rfl) (by kernel_rfl)) ?_
     refine VL_load (d := 122) (t := 30) (a := ⟨b2, 0, none⟩) (v := .agg #[.int .i64 kk.kind, .int .i64 kk.peak, .int .i64 kk.early, .int .i64 kk.whole, .int .i64 kk.burst, .int .i64 kk.least]) (by kernel_rfl) (by kernel_rfl) (Loads.ownL ho2 (n := 6) (by kernel_rfl) (by kernel_rfl) (by kernel_rfl)) ?_
     have hzl307 := NdP.lt hNSnd1
     have hzs58 := hS.size
     have hzl308 := ho1.lt
     have hzl309 := ho2.lt
     have hzl310 := ho4.lt
     have hzl311 := ho6.lt
     have hzl312 := hmk1.lt
     refine VL_call (d := 123) (f := 16) (args := #[.pointer (some ⟨nd1, 0, none⟩), .agg #[.int .i64 kp, .int .i64 kv, .int .i64 kc], .agg #[.int .i64 kk.kind, .int .i64 kk.peak, .int .i64 kk.early, .int .i64 kk.whole, .int .i64 kk.burst, .int .i64 kk.least]]) (by kernel_rfl) (by kernel_rfl) (by kernel_rfl) Try.call16 (ntake hNSnd1 (by omega) kp kv kc kk) ?_
     rintro _ w101 ⟨rfl, X7, hN7, hXg7, hc35⟩
     have hzhc35 := (hc35).size
     replace hS := Step.transNew hS hc35 (fun i9 hi9 hX9 => by have h8 := NdP.low hNSnd1 hX9; omega)
     replace ho1 := ho1.step hc35 (NdP.nx hNSnd1 ho1 (by decide))
     replace ho2 := ho2.step hc35 (NdP.nx hNSnd1 ho2 (by decide))
     replace ho4 := ho4.step hc35 (NdP.nx hNSnd1 ho4 (by decide))
     replace ho6 := ho6.step hc35 (NdP.nx hNSnd1 ho6 (by decide))
     replace hmk1 := Dfr.step hmk1 hc35 (NdP.dfr hNSnd1 hmk1)
     replace hK9 := RwS_nd hNSnd1 hK9 (by decide) hc35
     replace hszhK9 := Nat.le_trans hszhK9 (Step.size hc35)
     have hXwnd1 := fun k9 hk9 => NdP.ltX hN7 (k := k9) hk9
     have hszhN7 := Nat.le_refl w101.heap.size
     refine VL_pure 5 [6, 7, 9, 15, 16, 17, 18] [(6, .pointer (some ⟨b1, 0, none⟩)), (7, .pointer (some ⟨b2, 0, none⟩)), (9, .pointer (some ⟨nd1, 0, none⟩)), (15, .bool (decide ((chkN (roomsN rs) LS kp kv kc kk) = 0))), (16, .slice A9 n9 c9), (17, .int .i64 (leftN (roomsN rs) LS kp)), (18, .int .i64 (chkN (roomsN rs) LS kp kv kc kk))] (by kernel_rfl) rfl ?_
     refine VL_end (by kernel_rfl) ?_
     refine VQ_next ?_
     refine VC_seq ?_
     refine VC_seq ?_
     obtain ⟨L2, hL2E⟩ : ∃ x, x = takeN (roomsN rs) LS kp kv kc kk := ⟨_, rfl⟩
     rw [← hL2E] at hN7
     refine VC_region ?_
     refine VL_pure 4 [6, 7, 9, 16, 17, 18, 127] [(6, .pointer (some ⟨b1, 0, none⟩)), (7, .pointer (some ⟨b2, 0, none⟩)), (9, .pointer (some ⟨nd1, 0, none⟩)), (16, .slice A9 n9 c9), (17, .int .i64 (leftN (roomsN rs) LS kp)), (18, .int .i64 (chkN (roomsN rs) LS kp kv kc kk)), (127, .bool (!(((chkN (roomsN rs) LS kp kv kc kk) == 0) == (decide ((chkN (roomsN rs) LS kp kv kc kk) = 0)))))] (by kernel_rfl) rfl ?_
     refine VL_end (by kernel_rfl) ?_
     refine VQ_next ?_
     refine VC_is (b := !(((chkN (roomsN rs) LS kp kv kc kk) == 0) == (decide ((chkN (roomsN rs) LS kp kv kc kk) = 0)))) false (by kernel_rfl) ((show ∀ b : Bool, (!(b == b)) = false from by decide) (decide ((chkN (roomsN rs) LS kp kv kc kk) = 0))) ?_
     refine VC_ite_false ?_
     refine VC_skip ?_
     refine VQ_next ?_
     refine VC_seq ?_
     refine VC_region ?_
     refine VL_pure 1 [6, 7, 9, 16, 17, 18, 128] [(6, .pointer (some ⟨b1, 0, none⟩)), (7, .pointer (some ⟨b2, 0, none⟩)), (9, .pointer (some ⟨nd1, 0, none⟩)), (16, .slice A9 n9 c9), (17, .int .i64 (leftN (roomsN rs) LS kp)), (18, .int .i64 (chkN (roomsN rs) LS kp kv kc kk)), (128, .pointer (some ⟨nd1, 0, none⟩))] (by kernel_rfl) rfl ?_
     have hzs59 := hS.size
     have hzl313 := ho1.lt
     have hzl314 := ho2.lt
     have hzl315 := ho4.lt
     have hzl316 := ho6.lt
     have hzl317 := hmk1.lt
     have hzl318 := NdP.lt hN7
     refine VL_call (d := 129) (f := 11) (args := #[.pointer (some ⟨nd1, 0, none⟩)]) (by kernel_rfl) (by kernel_rfl) (by kernel_rfl) Try.call11 (keys_any hN7) ?_
     rintro _ w102 ⟨A10, n10, c10, rfl, hlhK10, hK10, hc36⟩
     replace hS := Step.trans hS hc36
     replace ho1 := ho1.no hc36
     replace ho2 := ho2.no hc36
     replace ho4 := ho4.no hc36
     replace ho6 := ho6.no hc36
     replace hmk1 := hmk1.no hc36
     replace hK9 := hK9.no hc36
     replace hszhK9 := Nat.le_trans hszhK9 (hc36).size
     replace hN7 := NdP.no hN7 hc36
     replace hszhN7 := Nat.le_trans hszhN7 (hc36).size
     have hubhK10 := hK10.ub
     have hszhK10 := Nat.le_refl w102.heap.size
     refine VL_pure 3 [6, 7, 9, 16, 17, 18, 19] [(6, .pointer (some ⟨b1, 0, none⟩)), (7, .pointer (some ⟨b2, 0, none⟩)), (9, .pointer (some ⟨nd1, 0, none⟩)), (16, .slice A9 n9 c9), (17, .int .i64 (leftN (roomsN rs) LS kp)), (18, .int .i64 (chkN (roomsN rs) LS kp kv kc kk)), (19, .slice A10 n10 c10)] (by kernel_rfl) rfl ?_
     refine VL_end (by kernel_rfl) ?_
     refine VQ_next ?_
     refine VC_seq ?_
     refine VC_seq ?_
     refine VC_region ?_
     refine VL_pure 2 [6, 7, 9, 16, 17, 19, 131] [(6, .pointer (some ⟨b1, 0, none⟩)), (7, .pointer (some ⟨b2, 0, none⟩)), (9, .pointer (some ⟨nd1, 0, none⟩)), (16, .slice A9 n9 c9), (17, .int .i64 (leftN (roomsN rs) LS kp)), (19, .slice A10 n10 c10), (131, .bool ((chkN (roomsN rs) LS kp kv kc kk) != 0))] (by kernel_rfl) rfl ?_
     refine VL_end (by kernel_rfl) ?_
     refine VQ_next ?_
     refine VC_is (b := (chkN (roomsN rs) LS kp kv kc kk) != 0) true (by kernel_rfl) (by rw [bne_iff_ne]; exact hn0) ?_
     refine VC_ite_true ?_
     refine VC_seq ?_
     have hn9 : ¬ (chkN (roomsN rs) LS kp kv kc kk) = 0 := by assumption
     have hk9 := kept hn9
     rw [← hL2E] at hk9
     have hlen9 : L2.length = LS.length := by rw [hk9]
     refine VC_region ?_
     refine VL_pure 6 [6, 9, 17, 137] [(6, .pointer (some ⟨b1, 0, none⟩)), (9, .pointer (some ⟨nd1, 0, none⟩)), (17, .int .i64 (leftN (roomsN rs) LS kp)), (137, .bool (((n10 : Nat) : Int) == ((n9 : Nat) : Int)))] (by kernel_rfl) rfl ?_
     refine VL_known (((n10 : Nat) : Int) == ((n9 : Nat) : Int)) (fun bV => [(6, .pointer (some ⟨b1, 0, none⟩)), (9, .pointer (some ⟨nd1, 0, none⟩)), (17, .int .i64 (leftN (roomsN rs) LS kp)), (137, .bool bV)]) true rfl (by rw [beq_iff_eq]; first | omega | (rw [wrap_i64 _ (by omega) (by omega)]; omega)) ?_
     refine VL_pure 8 [17, 137, 138, 139] [(17, .int .i64 (leftN (roomsN rs) LS kp)), (137, .bool true), (138, .pointer (some ⟨nd1, 0, none⟩)), (139, .pointer (some ⟨b1, 0, none⟩))] (by kernel_rfl) rfl ?_
     refine VL_load (d := 140) (t := 3) (a := ⟨b1, 0, none⟩) (v := .int .i64 kp) (by kernel_rfl) (by kernel_rfl) (Loads.own1 ho1 (by kernel_rfl) (by rfl)) ?_
     have hzs60 := hS.size
     have hzl319 := ho1.lt
     have hzl320 := ho2.lt
     have hzl321 := ho4.lt
     have hzl322 := ho6.lt
     have hzl323 := hmk1.lt
     have hzl324 := NdP.lt hN7
     refine VL_call (d := 141) (f := 9) (args := #[.pointer (some ⟨nd1, 0, none⟩), .int .i64 kp]) (by kernel_rfl) (by kernel_rfl) (by kernel_rfl) Try.call9 (nleft hN7 kp) ?_
     rintro _ w103 ⟨rfl, hc37⟩
     replace hS := Step.trans hS hc37
     replace ho1 := ho1.no hc37
     replace ho2 := ho2.no hc37
     replace ho4 := ho4.no hc37
     replace ho6 := ho6.no hc37
     replace hmk1 := hmk1.no hc37
     replace hK9 := hK9.no hc37
     replace hszhK9 := Nat.le_trans hszhK9 (hc37).size
     replace hN7 := NdP.no hN7 hc37
     replace hszhN7 := Nat.le_trans hszhN7 (hc37).size
     replace hK10 := hK10.no hc37
     replace hszhK10 := Nat.le_trans hszhK10 (hc37).size
     refine VL_pure 14 [8] [(8, .bool ((leftN (roomsN rs) L2 kp) == (leftN (roomsN rs) LS kp)))] (by kernel_rfl) rfl ?_
     refine VL_end (by kernel_rfl) ?_
     refine VQ_next ?_
     refine VC_ret ?_
     refine VQ_then_ret ?_
     have hzs61 := hS.size
     have hzl325 := ho1.lt
     have hzl326 := ho2.lt
     have hzl327 := ho4.lt
     have hzl328 := ho6.lt
     have hzl329 := hmk1.lt
     have hzk27 := hszhK9
     have hzl330 := NdP.lt hN7
     have hzk28 := hszhN7
     have hzk29 := hszhK10
     refine VQ_retM1 (.bool ((leftN (roomsN rs) L2 kp) == (leftN (roomsN rs) LS kp))) [w12.heap.size] (.inr rfl) rfl rfl ⟨hmk1, (by simp), trivial⟩ ?_
     intro w104 hq7
     replace hq7 : Step (Just w12.heap.size) w103 w104 := Step.mono hq7 (fun i hi => by simpa using hi)
     replace hS := Step.transNew hS hq7 (fun _ _ _ => by omega)
     replace ho1 := ho1.step hq7 (show ¬ b1 = w12.heap.size by omega)
     replace ho2 := ho2.step hq7 (show ¬ b2 = w12.heap.size by omega)
     replace ho4 := ho4.step hq7 (show ¬ b3 = w12.heap.size by omega)
     replace ho6 := ho6.step hq7 (show ¬ b4 = w12.heap.size by omega)
     replace hszhK9 := Nat.le_trans hszhK9 (hq7).size
     replace hszhN7 := Nat.le_trans hszhN7 (hq7).size
     replace hszhK10 := Nat.le_trans hszhK10 (hq7).size
     exact ⟨congrArg Value.bool (by first | rfl | (rw [beq_iff_eq, hk9]) | (rw [beq_iff_eq]; exact ht5) | simp [*]), hS⟩

end Go.Proofs.Ythchmlidobgkoaa
end
