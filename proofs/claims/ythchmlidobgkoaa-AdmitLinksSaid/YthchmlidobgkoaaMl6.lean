import Derived.Test.YthchmlidobgkoaaProg
import Derived.Test.YthchmlidobgkoaaMl5
section
/- Layer 20: a node is turned. -/
set_option linter.unusedVariables false
set_option linter.unusedSimpArgs false
namespace Go.Proofs.Ythchmlidobgkoaa
open Go.Vc Go.RowKit

set_option maxRecDepth 100000 in
set_option maxHeartbeats 4000000 in
theorem nput_any (nd cm : Nat) (x0 x1 x3 : Value) (M : List (Int × (Con × Nat))) (id : Int) (k : Con) (hr : rightC k = 0) (w : World) (hnd : Own w nd #[x0, x1, .map (some cm), x3] 54) (hcm : MapL w cm ei uc M) :
  CV Try.prog 34 #[.pointer (some ⟨nd, 0, none⟩), .int .i64 id, .agg #[.int .i64 k.kind, .int .i64 k.peak, .int .i64 k.early, .int .i64 k.whole, .int .i64 k.burst, .int .i64 k.least]] w (fun x w1 => ∃ pp Y, x = .tuple #[] ∧ (∀ q, Y q → w.heap.size ≤ q) ∧ Pl w1 pp Y (alwaysC k) (rulesC k) ∧ MapL w1 cm ei uc (putM M id (k, pp)) ∧ Step (Just cm) w w1) := by
 have hS : Step (Just cm) w w := Step.refl _ _
 have hml := hcm.lt
 have hne : nd ≠ cm := fun e => by have h1 := tyO_own hnd; have h2 := tyO_map hcm; rw [e] at h1; omega
 refine CV_enter Try.f34 _ 21 [(0, .pointer (some ⟨nd, 0, none⟩)), (1, .int .i64 id), (2, .agg #[.int .i64 k.kind, .int .i64 k.peak, .int .i64 k.early, .int .i64 k.whole, .int .i64 k.burst, .int .i64 k.least])] Try.func34 rfl rfl (by kernel_rfl) rfl ?_
 refine VC_seq ?_
 refine VC_region ?_
 have hzs1 := hS.size
 have hzl1 := hnd.lt
 have hzl2 := MapL.lt hcm
 refine VL_box (d := 5) (t := 30) (c := #[.int .i64 k.kind, .int .i64 k.peak, .int .i64 k.early, .int .i64 k.whole, .int .i64 k.burst, .int .i64 k.least]) (by kernel_rfl) (by kernel_rfl) ?_
 intro b1 w1 hn1
 replace hS := Step.trans hS (Step.weak (hn1.step No))
 replace hnd := hnd.no (hn1.step No)
 replace hcm := MapL.no hcm (hn1.step No)
 have ho1 := hn1.own
 have hzhn1 := hn1.size
 have hqhn1 := hn1.eqb
 refine VL_end (by kernel_rfl) ?_
 refine VQ_next ?_
 refine VC_seq ?_
 refine VC_region ?_
 refine VL_load (d := 9) (t := 30) (a := ⟨b1, 0, none⟩) (v := .agg #[.int .i64 k.kind, .int .i64 k.peak, .int .i64 k.early, .int .i64 k.whole, .int .i64 k.burst, .int .i64 k.least]) (by kernel_rfl) (by kernel_rfl) (Loads.ownL ho1 (n := 6) (by kernel_rfl) (by kernel_rfl) (by kernel_rfl)) ?_
 have hzs2 := hS.size
 have hzl3 := hnd.lt
 have hzl4 := MapL.lt hcm
 have hzl5 := ho1.lt
 refine VL_call (d := 10) (f := 48) (args := #[.agg #[.int .i64 k.kind, .int .i64 k.peak, .int .i64 k.early, .int .i64 k.whole, .int .i64 k.burst, .int .i64 k.least]]) (by kernel_rfl) (by kernel_rfl) (by kernel_rfl) Try.call48 (pnew_any k hr _) ?_
 rintro _ w2 ⟨pp9, Y9, rfl, hY9, hPl, hc1⟩
 replace hS := Step.trans hS (Step.weak hc1)
 replace hnd := hnd.no hc1
 replace hcm := MapL.no hcm hc1
 replace ho1 := ho1.no hc1
 replace hY9 : ∀ q, Y9 q → w.heap.size ≤ q := fun q hq => by have h9 := hY9 q hq; omega
 refine VL_pure 7 [0, 1, 5, 6] [(0, .pointer (some ⟨nd, 0, none⟩)), (1, .int .i64 id), (5, .pointer (some ⟨b1, 0, none⟩)), (6, .pointer (some ⟨pp9, 0, none⟩))] (by kernel_rfl) rfl ?_
 refine VL_end (by kernel_rfl) ?_
 refine VQ_next ?_
 have hs1 := drew_step w2
 have hs1z : w2.heap.size = w2.drew.heap.size := rfl
 refine VC_text [[], [0], [0, 1], [0, 1, 2], [], [], [], [5, 6], [0, 1, 2, 3, 4, 5, 6, 7]] 8 (fun x y => Step (fun k => w2.heap.size ≤ k) x y) [] [0, 1, 2, 3, 4, 5, 6, 7] (by kernel_rfl) (by kernel_rfl) (by kernel_rfl) (by kernel_rfl) (fun x => Step.refl _ x) (fun h k => Step.trans h k) Step.weak ?_
 have hzs3 := hS.size
 have hzl6 := hnd.lt
 have hzl7 := MapL.lt hcm
 have hzl8 := ho1.lt
 generalize w2.drew = w3 at hs1 hs1z ⊢
 replace hS := Step.trans hS (Step.weak hs1)
 replace hnd := hnd.no hs1
 replace hcm := MapL.no hcm hs1
 replace ho1 := ho1.no hs1
 replace hPl := Pl.no hPl hs1
 refine VT_pures 3 (kn' := [(2, .pointer (some ⟨nd, 2, none⟩)), (1, .pointer (some ⟨nd, 0, none⟩)), (0, .pointer (some ⟨nd, 0, none⟩))]) (by kernel_rfl) ?_
 refine VT_load (d := 16) (t := 51) (a := ⟨nd, 2, none⟩) (v := .map (some cm)) (by kernel_rfl) (by kernel_rfl) ?_ ?_
 ·intro w4 hr1
  replace hS := Step.transNew hS hr1 (fun i hi hG => by (try simp only at hG); (first | show _ ∨ _ | show _ = _); omega)
  replace hnd := hnd.step hr1 (by (try simp only); omega)
  replace hcm := MapL.step hcm hr1 (by (try simp only); omega)
  replace ho1 := ho1.step hr1 (by (try simp only); omega)
  exact (Loads.own1 hnd (by kernel_rfl) (by rfl))
 refine VT_pures 1 (kn' := [(4, .int .i64 id), (3, .map (some cm)), (2, .pointer (some ⟨nd, 2, none⟩)), (1, .pointer (some ⟨nd, 0, none⟩)), (0, .pointer (some ⟨nd, 0, none⟩))]) (by kernel_rfl) ?_
 refine VT_load (d := 18) (t := 30) (a := ⟨b1, 0, none⟩) (v := .agg #[.int .i64 k.kind, .int .i64 k.peak, .int .i64 k.early, .int .i64 k.whole, .int .i64 k.burst, .int .i64 k.least]) (by kernel_rfl) (by kernel_rfl) ?_ ?_
 ·intro w5 hr2
  replace hS := Step.transNew hS hr2 (fun i hi hG => by (try simp only at hG); (first | show _ ∨ _ | show _ = _); omega)
  replace hnd := hnd.step hr2 (by (try simp only); omega)
  replace hcm := MapL.step hcm hr2 (by (try simp only); omega)
  replace ho1 := ho1.step hr2 (by (try simp only); omega)
  exact (Loads.ownL ho1 (n := 6) (by kernel_rfl) (by kernel_rfl) (by kernel_rfl))
 refine VT_pures 2 (kn' := [(7, .agg #[.int .i64 k.kind, .int .i64 k.peak, .int .i64 k.early, .int .i64 k.whole, .int .i64 k.burst, .int .i64 k.least, .pointer (some ⟨pp9, 0, none⟩)]), (6, .pointer (some ⟨pp9, 0, none⟩)), (5, .agg #[.int .i64 k.kind, .int .i64 k.peak, .int .i64 k.early, .int .i64 k.whole, .int .i64 k.burst, .int .i64 k.least]), (4, .int .i64 id), (3, .map (some cm)), (2, .pointer (some ⟨nd, 2, none⟩)), (1, .pointer (some ⟨nd, 0, none⟩)), (0, .pointer (some ⟨nd, 0, none⟩))]) (by kernel_rfl) ?_
 refine VT_end ?_
 intro w6 hs2
 replace hS := Step.trans hS (Step.weak hs2)
 replace hnd := hnd.no hs2
 replace hcm := MapL.no hcm hs2
 replace ho1 := ho1.no hs2
 replace hPl := Pl.no hPl hs2
 refine VL_keep [16, 17, 20] [(16, .map (some cm)), (17, .int .i64 id), (20, .agg #[.int .i64 k.kind, .int .i64 k.peak, .int .i64 k.early, .int .i64 k.whole, .int .i64 k.burst, .int .i64 k.least, .pointer (some ⟨pp9, 0, none⟩)])] (by kernel_rfl) ?_
 refine VL_upd (ek := ei) (u := uc) (m := cm) (kt := 3) (k := id) (v := (k, pp9)) (by kernel_rfl) (by kernel_rfl) keyTi hcm ?_
 intro w7 hw1
 replace hS := Step.trans hS (Step.mono hw1.step (by intro i hi; first | exact hi | exact ⟨_, by assumption, hi⟩ | (have hi9 : i = cm := hi; (first | show _ ∨ _ | show _ = _); omega)))
 replace hnd := hnd.step hw1.step (show ¬ nd = cm by omega)
 replace ho1 := ho1.step hw1.step (show ¬ b1 = cm by omega)
 replace hPl := Pl.step hPl hw1.step (fun q9 hq9 hF9 => by have h9 := hY9 q9 hq9; have hF8 : q9 = cm := hF9; omega)
 have hM1 := hw1.map
 have hzhw1 := hw1.same
 refine VL_end (by kernel_rfl) ?_
 refine VQ_ret0 (.inl rfl) rfl ?_
 exact ⟨pp9, Y9, rfl, hY9, hPl, hM1, hS⟩

set_option maxRecDepth 100000 in
set_option maxHeartbeats 4000000 in
theorem take_yes (nd lo : Nat) (X : Nat → Prop) (rooms : List Int) (g : NdG) (p v c : Int) (k : Con) (hnx : g.next < 1152921504606846976) (hc : chkN rooms g.L p v c k = 0) (w : World) (hlo : lo ≤ w.heap.size) (h : NdX w nd X lo rooms g)  :
  CV Try.prog 16 #[.pointer (some ⟨nd, 0, none⟩), .agg #[.int .i64 p, .int .i64 v, .int .i64 c], .agg #[.int .i64 k.kind, .int .i64 k.peak, .int .i64 k.early, .int .i64 k.whole, .int .i64 k.burst, .int .i64 k.least]] w (fun x w1 => x = .int .i64 0 ∧ ∃ g9 X9, NdX w1 nd X9 lo rooms g9 ∧ g9.L = takeN rooms g.L p v c k ∧ g9.next ≤ g.next + 1 ∧ (∀ q, X9 q → X q ∨ w.heap.size ≤ q) ∧ Step X w w1) := by
 obtain ⟨hw, hfn, hlt, hfit0⟩ := chkN_zero hc
 obtain ⟨⟨hp1, hp2⟩, hw2, hw3, hr⟩ := wrongN_zero hw
 obtain ⟨i, r, hp, hil, hir⟩ := port_nat ⟨hp1, hp2⟩
 have hu0 := usdL_nonneg g.L (i : Int)
 obtain ⟨hla, hrw, hxb⟩ := h.links (by omega)
 have hnd := h.own
 rw [hla] at hnd
 have htab := h.tab
 have hled : Ld w (g.lg i) (g.lm i) r (usdL g.L (i : Int)) (g.N i) := h.led i r hir
 have hu1 := h.li.fit i r hir
 have hrM := (h.li.rooms r (List.mem_of_getElem? hir)).2
 have hcm := h.cmap
 have hS : Step (fiveF nd g i) w w := Step.refl _ _
 have hSn : Step No w w := Step.refl _ _
 obtain ⟨n1, n2, n3, n4, n5, n6, n7, n8, n9, n10⟩ := h.five hil
 have hnl := hnd.lt
 have htl := htab.lt
 have hll := hled.lt
 have hml := hcm.lt
 have hbl := hrw.lt
 have hb5 : g.lb ≠ nd ∧ g.lb ≠ g.tb ∧ g.lb ≠ g.cm ∧ g.lb ≠ g.lg i ∧ g.lb ≠ g.lm i := by have t1 := h.t_nd; have t2 := h.t_tb; have t3 := h.t_cm; have t4 := h.t_lg hil; have t5 := h.t_lm hil; have t6 := h.t_lb (by omega); refine ⟨?_, ?_, ?_, ?_, ?_⟩ <;> (intro e; rw [e] at t6; omega)
 have hfit : needC k ≤ r - usdL g.L (i : Int) := by rw [← left_at hp hir]; exact hfit0
 have hnone : getM (g.N i) ((g.next : Nat) : Int) = none := by cases e9 : getM (g.N i) ((g.next : Nat) : Int) with | none => rfl | some n9 => exact absurd (h.nlt i hil _ _ e9) (by omega)
 refine CV_enter Try.f16 _ 46 [(0, .pointer (some ⟨nd, 0, none⟩)), (1, .agg #[.int .i64 p, .int .i64 v, .int .i64 c]), (2, .agg #[.int .i64 k.kind, .int .i64 k.peak, .int .i64 k.early, .int .i64 k.whole, .int .i64 k.burst, .int .i64 k.least])] Try.func16 rfl rfl (by kernel_rfl) rfl ?_
 refine VC_seq ?_
 refine VC_region ?_
 have hzs1 := hSn.size
 have hzl1 := hnd.lt
 have hzl2 := RowE.lt hrw
 have hzl3 := Tb.lt htab
 have hzl4 := Ld.lt hled
 have hzl5 := MapL.lt hcm
 refine VL_box (d := 4) (t := 28) (c := #[.int .i64 p, .int .i64 v, .int .i64 c]) (by kernel_rfl) (by kernel_rfl) ?_
 intro b1 w1 hn1
 replace hSn := Step.trans hSn (hn1.step No)
 replace hS := stepG_no hS (hn1.step No)
 replace hnd := hnd.no (hn1.step No)
 replace hrw := RowE.no hrw (hn1.step No)
 replace htab := Tb.no htab (hn1.step No)
 replace hled := Ld.no hled (hn1.step No)
 replace hcm := MapL.no hcm (hn1.step No)
 have ho1 := hn1.own
 have hzhn1 := hn1.size
 have hqhn1 := hn1.eqb
 have hzs2 := hSn.size
 have hzl6 := hnd.lt
 have hzl7 := RowE.lt hrw
 have hzl8 := Tb.lt htab
 have hzl9 := Ld.lt hled
 have hzl10 := MapL.lt hcm
 have hzl11 := ho1.lt
 refine VL_box (d := 5) (t := 30) (c := #[.int .i64 k.kind, .int .i64 k.peak, .int .i64 k.early, .int .i64 k.whole, .int .i64 k.burst, .int .i64 k.least]) (by kernel_rfl) (by kernel_rfl) ?_
 intro b2 w2 hn2
 replace hSn := Step.trans hSn (hn2.step No)
 replace hS := stepG_no hS (hn2.step No)
 replace hnd := hnd.no (hn2.step No)
 replace hrw := RowE.no hrw (hn2.step No)
 replace htab := Tb.no htab (hn2.step No)
 replace hled := Ld.no hled (hn2.step No)
 replace hcm := MapL.no hcm (hn2.step No)
 replace ho1 := ho1.no (hn2.step No)
 have ho2 := hn2.own
 have hzhn2 := hn2.size
 have hqhn2 := hn2.eqb
 refine VL_pure 3 [0, 4, 5] [(0, .pointer (some ⟨nd, 0, none⟩)), (4, .pointer (some ⟨b1, 0, none⟩)), (5, .pointer (some ⟨b2, 0, none⟩))] (by kernel_rfl) rfl ?_
 refine VL_end (by kernel_rfl) ?_
 refine VQ_next ?_
 refine VC_seq ?_
 refine VC_seq ?_
 refine VC_region ?_
 refine VL_pure 1 [0, 4, 5, 9] [(0, .pointer (some ⟨nd, 0, none⟩)), (4, .pointer (some ⟨b1, 0, none⟩)), (5, .pointer (some ⟨b2, 0, none⟩)), (9, .pointer (some ⟨nd, 0, none⟩))] (by kernel_rfl) rfl ?_
 refine VL_load (d := 10) (t := 28) (a := ⟨b1, 0, none⟩) (v := .agg #[.int .i64 p, .int .i64 v, .int .i64 c]) (by kernel_rfl) (by kernel_rfl) (Loads.ownL ho1 (n := 3) (by kernel_rfl) (by kernel_rfl) (by kernel_rfl)) ?_
 refine VL_load (d := 11) (t := 30) (a := ⟨b2, 0, none⟩) (v := .agg #[.int .i64 k.kind, .int .i64 k.peak, .int .i64 k.early, .int .i64 k.whole, .int .i64 k.burst, .int .i64 k.least]) (by kernel_rfl) (by kernel_rfl) (Loads.ownL ho2 (n := 6) (by kernel_rfl) (by kernel_rfl) (by kernel_rfl)) ?_
 have hzs3 := hSn.size
 have hzl12 := hnd.lt
 have hzl13 := RowE.lt hrw
 have hzl14 := Tb.lt htab
 have hzl15 := Ld.lt hled
 have hzl16 := MapL.lt hcm
 have hzl17 := ho1.lt
 have hzl18 := ho2.lt
 refine VL_call (d := 12) (f := 17) (args := #[.pointer (some ⟨nd, 0, none⟩), .agg #[.int .i64 p, .int .i64 v, .int .i64 c], .agg #[.int .i64 k.kind, .int .i64 k.peak, .int .i64 k.early, .int .i64 k.whole, .int .i64 k.burst, .int .i64 k.least]]) (by kernel_rfl) (by kernel_rfl) (by kernel_rfl) Try.call17 ((check_any nd lo X rooms g p v c k _ (h.no hSn)).mono (fun x w1 h9 => ⟨h9.1.trans (by rw [hc]), h9.2⟩ : ∀ x w1, _ → x = .int .i64 0 ∧ Step No _ w1)) ?_
 rintro _ w3 ⟨rfl, hc1⟩
 replace hSn := Step.trans hSn hc1
 replace hS := stepG_no hS hc1
 replace hnd := hnd.no hc1
 replace hrw := RowE.no hrw hc1
 replace htab := Tb.no htab hc1
 replace hled := Ld.no hled hc1
 replace hcm := MapL.no hcm hc1
 replace ho1 := ho1.no hc1
 replace ho2 := ho2.no hc1
 refine VL_pure 5 [0, 4, 5, 7] [(0, .pointer (some ⟨nd, 0, none⟩)), (4, .pointer (some ⟨b1, 0, none⟩)), (5, .pointer (some ⟨b2, 0, none⟩)), (7, .int .i64 0)] (by kernel_rfl) rfl ?_
 refine VL_end (by kernel_rfl) ?_
 refine VQ_next ?_
 refine VC_seq ?_
 refine VC_region ?_
 refine VL_pure 2 [0, 4, 5, 7, 14] [(0, .pointer (some ⟨nd, 0, none⟩)), (4, .pointer (some ⟨b1, 0, none⟩)), (5, .pointer (some ⟨b2, 0, none⟩)), (7, .int .i64 0), (14, .bool false)] (by kernel_rfl) rfl ?_
 refine VL_end (by kernel_rfl) ?_
 refine VQ_next ?_
 refine VC_false (by kernel_rfl) ?_
 refine VC_skip ?_
 refine VQ_next ?_
 refine VC_seq ?_
 refine VC_region ?_
 refine VL_pure 3 [0, 4, 5, 18] [(0, .pointer (some ⟨nd, 0, none⟩)), (4, .pointer (some ⟨b1, 0, none⟩)), (5, .pointer (some ⟨b2, 0, none⟩)), (18, .pointer (some ⟨nd, 3, none⟩))] (by kernel_rfl) rfl ?_
 refine VL_load (d := 19) (t := 3) (a := ⟨nd, 3, none⟩) (v := .int .i64 ((g.next : Nat) : Int)) (by kernel_rfl) (by kernel_rfl) (Loads.own1 hnd (by kernel_rfl) (by rfl)) ?_
 refine VL_pure 5 [0, 4, 5, 8] [(0, .pointer (some ⟨nd, 0, none⟩)), (4, .pointer (some ⟨b1, 0, none⟩)), (5, .pointer (some ⟨b2, 0, none⟩)), (8, .int .i64 ((g.next : Nat) : Int))] (by kernel_rfl) rfl ?_
 refine VL_end (by kernel_rfl) ?_
 refine VQ_next ?_
 refine VC_seq ?_
 refine VC_region ?_
 refine VL_pure 3 [0, 4, 5, 8, 20, 22] [(0, .pointer (some ⟨nd, 0, none⟩)), (4, .pointer (some ⟨b1, 0, none⟩)), (5, .pointer (some ⟨b2, 0, none⟩)), (8, .int .i64 ((g.next : Nat) : Int)), (20, .pointer (some ⟨nd, 0, none⟩)), (22, .pointer (some ⟨nd, 3, none⟩))] (by kernel_rfl) rfl ?_
 refine VL_load (d := 23) (t := 3) (a := ⟨nd, 3, none⟩) (v := .int .i64 ((g.next : Nat) : Int)) (by kernel_rfl) (by kernel_rfl) (Loads.own1 hnd (by kernel_rfl) (by rfl)) ?_
 refine VL_pure 5 [0, 4, 5, 8, 20, 24] [(0, .pointer (some ⟨nd, 0, none⟩)), (4, .pointer (some ⟨b1, 0, none⟩)), (5, .pointer (some ⟨b2, 0, none⟩)), (8, .int .i64 ((g.next : Nat) : Int)), (20, .pointer (some ⟨nd, 0, none⟩)), (24, .int .i64 (IntKind.wrap .i64 (((g.next : Nat) : Int) + 1)))] (by kernel_rfl) rfl ?_
 have he1 : IntKind.wrap .i64 (((g.next : Nat) : Int) + 1) = ((g.next + 1 : Nat) : Int) := (by rw [wrap_i64 _ (by omega) (by omega)]; omega)
 refine VL_eq [(0, .pointer (some ⟨nd, 0, none⟩)), (4, .pointer (some ⟨b1, 0, none⟩)), (5, .pointer (some ⟨b2, 0, none⟩)), (8, .int .i64 ((g.next : Nat) : Int)), (20, .pointer (some ⟨nd, 0, none⟩)), (24, .int .i64 ((g.next + 1 : Nat) : Int))] (by rw [he1]) ?_
 refine VL_pure 7 [0, 4, 5, 8, 24, 26] [(0, .pointer (some ⟨nd, 0, none⟩)), (4, .pointer (some ⟨b1, 0, none⟩)), (5, .pointer (some ⟨b2, 0, none⟩)), (8, .int .i64 ((g.next : Nat) : Int)), (24, .int .i64 ((g.next + 1 : Nat) : Int)), (26, .pointer (some ⟨nd, 3, none⟩))] (by kernel_rfl) rfl ?_
 refine VL_store (b := nd) (o := 3) (vs := [.int .i64 ((g.next + 1 : Nat) : Int)]) (by kernel_rfl) (by kernel_rfl) hnd (Nat.le_of_ble_eq_true (by kernel_rfl)) ?_
 intro w4 hw1
 replace hS := Step.trans hS (Step.mono hw1.step (fun i9 h9 => .inl h9))
 replace hrw := RowE.step hrw hw1.step (show ¬ g.lb = nd by omega)
 replace htab := Tb.step htab hw1.step (show ¬ g.tb = nd by omega)
 replace hled := Ld.step hled hw1.step (show ¬ g.lg i = nd by omega) (show ¬ g.lm i = nd by omega)
 replace hcm := MapL.step hcm hw1.step (show ¬ g.cm = nd by omega)
 replace ho1 := ho1.step hw1.step (show ¬ b1 = nd by omega)
 replace ho2 := ho2.step hw1.step (show ¬ b2 = nd by omega)
 have ho3 : Own w4 nd #[.slice (some ⟨g.lb, 0, none⟩) rooms.length g.lc, .pointer (some ⟨g.tb, 0, none⟩), .map (some g.cm), .int .i64 ((g.next + 1 : Nat) : Int)] 54 := Own.cast hw1.own (by kernel_rfl)
 have hzhw1 := hw1.same
 refine VL_end (by kernel_rfl) ?_
 refine VQ_next ?_
 refine VC_seq ?_
 have hs1 := drew_step w4
 have hs1z : w4.heap.size = w4.drew.heap.size := rfl
 refine VC_text [[], [0], [0, 1], [0, 1, 2], [], [], [0, 1, 2, 3, 4, 5]] 6 (fun x y => Step (fun k => w4.heap.size ≤ k) x y) [] [0, 1, 2, 3, 4, 5] (by kernel_rfl) (by kernel_rfl) (by kernel_rfl) (by kernel_rfl) (fun x => Step.refl _ x) (fun h k => Step.trans h k) Step.weak ?_
 have hzl19 := RowE.lt hrw
 have hzl20 := Tb.lt htab
 have hzl21 := Ld.lt hled
 have hzl22 := MapL.lt hcm
 have hzl23 := ho1.lt
 have hzl24 := ho2.lt
 have hzl25 := ho3.lt
 generalize w4.drew = w5 at hs1 hs1z ⊢
 replace hS := stepG_no hS hs1
 replace hrw := RowE.no hrw hs1
 replace htab := Tb.no htab hs1
 replace hled := Ld.no hled hs1
 replace hcm := MapL.no hcm hs1
 replace ho1 := ho1.no hs1
 replace ho2 := ho2.no hs1
 replace ho3 := ho3.no hs1
 refine VT_pures 3 (kn' := [(2, .pointer (some ⟨nd, 1, none⟩)), (1, .pointer (some ⟨nd, 0, none⟩)), (0, .pointer (some ⟨nd, 0, none⟩))]) (by kernel_rfl) ?_
 refine VT_load (d := 30) (t := 49) (a := ⟨nd, 1, none⟩) (v := .pointer (some ⟨g.tb, 0, none⟩)) (by kernel_rfl) (by kernel_rfl) ?_ ?_
 ·intro w6 hr1
  replace hrw := RowE.step hrw hr1 (by (try simp only); omega)
  replace htab := Tb.step htab hr1 (by (try simp only); omega)
  replace hled := Ld.step hled hr1 (by (try simp only); omega) (by (try simp only); omega)
  replace hcm := MapL.step hcm hr1 (by (try simp only); omega)
  replace ho1 := ho1.step hr1 (by (try simp only); omega)
  replace ho2 := ho2.step hr1 (by (try simp only); omega)
  replace ho3 := ho3.step hr1 (by (try simp only); omega)
  exact (Loads.own1 ho3 (by kernel_rfl) (by rfl))
 refine VT_load (d := 31) (t := 28) (a := ⟨b1, 0, none⟩) (v := .agg #[.int .i64 p, .int .i64 v, .int .i64 c]) (by kernel_rfl) (by kernel_rfl) ?_ ?_
 ·intro w7 hr2
  replace hrw := RowE.step hrw hr2 (by (try simp only); omega)
  replace htab := Tb.step htab hr2 (by (try simp only); omega)
  replace hled := Ld.step hled hr2 (by (try simp only); omega) (by (try simp only); omega)
  replace hcm := MapL.step hcm hr2 (by (try simp only); omega)
  replace ho1 := ho1.step hr2 (by (try simp only); omega)
  replace ho2 := ho2.step hr2 (by (try simp only); omega)
  replace ho3 := ho3.step hr2 (by (try simp only); omega)
  exact (Loads.ownL ho1 (n := 3) (by kernel_rfl) (by kernel_rfl) (by kernel_rfl))
 refine VT_pures 1 (kn' := [(5, .int .i64 ((g.next : Nat) : Int)), (4, .agg #[.int .i64 p, .int .i64 v, .int .i64 c]), (3, .pointer (some ⟨g.tb, 0, none⟩)), (2, .pointer (some ⟨nd, 1, none⟩)), (1, .pointer (some ⟨nd, 0, none⟩)), (0, .pointer (some ⟨nd, 0, none⟩))]) (by kernel_rfl) ?_
 refine VT_end ?_
 intro w8 hs2
 replace hS := stepG_no hS hs2
 replace hrw := RowE.no hrw hs2
 replace htab := Tb.no htab hs2
 replace hled := Ld.no hled hs2
 replace hcm := MapL.no hcm hs2
 replace ho1 := ho1.no hs2
 replace ho2 := ho2.no hs2
 replace ho3 := ho3.no hs2
 refine VL_keep [0, 4, 5, 8, 30, 31, 32] [(0, .pointer (some ⟨nd, 0, none⟩)), (4, .pointer (some ⟨b1, 0, none⟩)), (5, .pointer (some ⟨b2, 0, none⟩)), (8, .int .i64 ((g.next : Nat) : Int)), (30, .pointer (some ⟨g.tb, 0, none⟩)), (31, .agg #[.int .i64 p, .int .i64 v, .int .i64 c]), (32, .int .i64 ((g.next : Nat) : Int))] (by kernel_rfl) ?_
 have hzl26 := RowE.lt hrw
 have hzl27 := Tb.lt htab
 have hzl28 := Ld.lt hled
 have hzl29 := MapL.lt hcm
 have hzl30 := ho1.lt
 have hzl31 := ho2.lt
 have hzl32 := ho3.lt
 refine VL_call (d := 33) (f := 32) (args := #[.pointer (some ⟨g.tb, 0, none⟩), .agg #[.int .i64 p, .int .i64 v, .int .i64 c], .int .i64 ((g.next : Nat) : Int)]) (by kernel_rfl) (by kernel_rfl) (by kernel_rfl) Try.call32 (tput p v c ((g.next : Nat) : Int) htab) ?_
 rintro _ w9 ⟨rfl, hT1, hc2⟩
 replace hS := Step.trans hS (Step.mono hc2 (fun i9 h9 => .inr (.inl h9)))
 replace hrw := RowE.step hrw hc2 (show ¬ g.lb = g.tb by omega)
 replace hled := Ld.step hled hc2 (show ¬ g.lg i = g.tb by omega) (show ¬ g.lm i = g.tb by omega)
 replace hcm := MapL.step hcm hc2 (show ¬ g.cm = g.tb by omega)
 replace ho1 := ho1.step hc2 (show ¬ b1 = g.tb by omega)
 replace ho2 := ho2.step hc2 (show ¬ b2 = g.tb by omega)
 replace ho3 := ho3.step hc2 (show ¬ nd = g.tb by omega)
 refine VL_end (by kernel_rfl) ?_
 refine VQ_next ?_
 refine VC_seq ?_
 have hs3 := drew_step w9
 have hs3z : w9.heap.size = w9.drew.heap.size := rfl
 refine VC_text [[], [], [1], [0, 1, 2], [], [], [0, 1, 2, 3, 5], [0, 1, 2, 3, 4, 5, 6]] 7 (fun x y => Step (fun k => w9.heap.size ≤ k) x y) [3, 6] [0, 1, 2, 4, 5, 3, 6] (by kernel_rfl) (by kernel_rfl) (by kernel_rfl) (by kernel_rfl) (fun x => Step.refl _ x) (fun h k => Step.trans h k) Step.weak ?_
 have hzl33 := RowE.lt hrw
 have hzl34 := Ld.lt hled
 have hzl35 := MapL.lt hcm
 have hzl36 := ho1.lt
 have hzl37 := ho2.lt
 have hzl38 := ho3.lt
 have hzl39 := Tb.lt hT1
 generalize w9.drew = w10 at hs3 hs3z ⊢
 replace hS := stepG_no hS hs3
 replace hrw := RowE.no hrw hs3
 replace hled := Ld.no hled hs3
 replace hcm := MapL.no hcm hs3
 replace ho1 := ho1.no hs3
 replace ho2 := ho2.no hs3
 replace ho3 := ho3.no hs3
 replace hT1 := Tb.no hT1 hs3
 refine VT_pures 2 (kn' := [(1, .pointer (some ⟨b1, 0, none⟩)), (0, .pointer (some ⟨nd, 0, none⟩))]) (by kernel_rfl) ?_
 refine VT_load (d := 36) (t := 3) (a := ⟨b1, 0, none⟩) (v := .int .i64 p) (by kernel_rfl) (by kernel_rfl) ?_ ?_
 ·intro w11 hr3
  replace hrw := RowE.step hrw hr3 (by (try simp only); omega)
  replace hled := Ld.step hled hr3 (by (try simp only); omega) (by (try simp only); omega)
  replace hcm := MapL.step hcm hr3 (by (try simp only); omega)
  replace ho1 := ho1.step hr3 (by (try simp only); omega)
  replace ho2 := ho2.step hr3 (by (try simp only); omega)
  replace ho3 := ho3.step hr3 (by (try simp only); omega)
  replace hT1 := Tb.step hT1 hr3 (by (try simp only); omega)
  exact (Loads.own1 ho1 (by kernel_rfl) (by rfl))
 refine VT_pures 1 (kn' := [(4, .int .i64 ((g.next : Nat) : Int)), (2, .int .i64 p), (1, .pointer (some ⟨b1, 0, none⟩)), (0, .pointer (some ⟨nd, 0, none⟩))]) (by kernel_rfl) ?_
 refine VT_load (d := 39) (t := 30) (a := ⟨b2, 0, none⟩) (v := .agg #[.int .i64 k.kind, .int .i64 k.peak, .int .i64 k.early, .int .i64 k.whole, .int .i64 k.burst, .int .i64 k.least]) (by kernel_rfl) (by kernel_rfl) ?_ ?_
 ·intro w12 hr4
  replace hrw := RowE.step hrw hr4 (by (try simp only); omega)
  replace hled := Ld.step hled hr4 (by (try simp only); omega) (by (try simp only); omega)
  replace hcm := MapL.step hcm hr4 (by (try simp only); omega)
  replace ho1 := ho1.step hr4 (by (try simp only); omega)
  replace ho2 := ho2.step hr4 (by (try simp only); omega)
  replace ho3 := ho3.step hr4 (by (try simp only); omega)
  replace hT1 := Tb.step hT1 hr4 (by (try simp only); omega)
  exact (Loads.ownL ho2 (n := 6) (by kernel_rfl) (by kernel_rfl) (by kernel_rfl))
 refine VT_chain (by kernel_rfl) ?_
 intro w13 hs4
 have hzhs4 := hs4.size
 replace hS := stepG_no hS hs4
 replace hrw := RowE.no hrw hs4
 replace hled := Ld.no hled hs4
 replace hcm := MapL.no hcm hs4
 replace ho1 := ho1.no hs4
 replace ho2 := ho2.no hs4
 replace ho3 := ho3.no hs4
 replace hT1 := Tb.no hT1 hs4
 have hzl40 := RowE.lt hrw
 have hzl41 := Ld.lt hled
 have hzl42 := MapL.lt hcm
 have hzl43 := ho1.lt
 have hzl44 := ho2.lt
 have hzl45 := ho3.lt
 have hzl46 := Tb.lt hT1
 refine VTc_call (d := 37) (f := 23) (args := #[.pointer (some ⟨nd, 0, none⟩), .int .i64 p]) (by kernel_rfl) (by kernel_rfl) (by kernel_rfl) Try.call23 (link_raw nd rooms g _ _ _ p i hp hil _ ho3 hrw) ?_ ?_
 ·rintro _ w14 ⟨rfl, hc3⟩
  exact Step.mono hc3 (by intro i hi; first | exact hi.elim | exact .inl hi | ((try simp only at hi ⊢); omega))
 rintro _ w14 ⟨rfl, hc3⟩
 have hzhc3 := (hc3).size
 replace hS := stepG_no hS hc3
 replace hrw := RowE.no hrw hc3
 replace hled := Ld.no hled hc3
 replace hcm := MapL.no hcm hc3
 replace ho1 := ho1.no hc3
 replace ho2 := ho2.no hc3
 replace ho3 := ho3.no hc3
 replace hT1 := Tb.no hT1 hc3
 refine VT_chain (by kernel_rfl) ?_
 intro w15 hs5
 have hzhs5 := hs5.size
 replace hS := stepG_no hS hs5
 replace hrw := RowE.no hrw hs5
 replace hled := Ld.no hled hs5
 replace hcm := MapL.no hcm hs5
 replace ho1 := ho1.no hs5
 replace ho2 := ho2.no hs5
 replace ho3 := ho3.no hs5
 replace hT1 := Tb.no hT1 hs5
 have hzl47 := RowE.lt hrw
 have hzl48 := Ld.lt hled
 have hzl49 := MapL.lt hcm
 have hzl50 := ho1.lt
 have hzl51 := ho2.lt
 have hzl52 := ho3.lt
 have hzl53 := Tb.lt hT1
 refine VTc_call (d := 40) (f := 14) (args := #[.agg #[.int .i64 k.kind, .int .i64 k.peak, .int .i64 k.early, .int .i64 k.whole, .int .i64 k.burst, .int .i64 k.least]]) (by kernel_rfl) (by kernel_rfl) (by kernel_rfl) Try.call14 (need_any k _) ?_ ?_
 ·rintro _ w16 ⟨rfl, hc4⟩
  exact Step.mono hc4 (by intro i hi; first | exact hi.elim | exact .inl hi | ((try simp only at hi ⊢); omega))
 rintro _ w16 ⟨rfl, hc4⟩
 have hzhc4 := (hc4).size
 replace hS := stepG_no hS hc4
 replace hrw := RowE.no hrw hc4
 replace hled := Ld.no hled hc4
 replace hcm := MapL.no hcm hc4
 replace ho1 := ho1.no hc4
 replace ho2 := ho2.no hc4
 replace ho3 := ho3.no hc4
 replace hT1 := Tb.no hT1 hc4
 refine VT_end ?_
 intro w17 hs6
 replace hS := stepG_no hS hs6
 replace hrw := RowE.no hrw hs6
 replace hled := Ld.no hled hs6
 replace hcm := MapL.no hcm hs6
 replace ho1 := ho1.no hs6
 replace ho2 := ho2.no hs6
 replace ho3 := ho3.no hs6
 replace hT1 := Tb.no hT1 hs6
 refine VL_keep [0, 5, 8, 38, 37, 40] [(0, .pointer (some ⟨nd, 0, none⟩)), (5, .pointer (some ⟨b2, 0, none⟩)), (8, .int .i64 ((g.next : Nat) : Int)), (38, .int .i64 ((g.next : Nat) : Int)), (37, .pointer (some ⟨(g.lg i), 0, none⟩)), (40, .int .i64 (needC k))] (by kernel_rfl) ?_
 have hzl54 := RowE.lt hrw
 have hzl55 := Ld.lt hled
 have hzl56 := MapL.lt hcm
 have hzl57 := ho1.lt
 have hzl58 := ho2.lt
 have hzl59 := ho3.lt
 have hzl60 := Tb.lt hT1
 refine VL_call (d := 41) (f := 33) (args := #[.pointer (some ⟨(g.lg i), 0, none⟩), .int .i64 ((g.next : Nat) : Int), .int .i64 (needC k)]) (by kernel_rfl) (by kernel_rfl) (by kernel_rfl) Try.call33 (lbook_any (g.lg i) (g.lm i) r (usdL g.L (i : Int)) (g.N i) ((g.next : Nat) : Int) (needC k) _ hled hu0 hu1 hrM (by first | exact hnone | assumption) (needC_le k).1 hfit) ?_
 rintro _ w18 ⟨rfl, hL1, hc5⟩
 have hzhc5 := (hc5).size
 replace hS := Step.trans hS (Step.mono hc5 (fun i9 h9 => by rcases h9 with h9 | h9; exact .inr (.inr (.inr (.inl h9))); exact .inr (.inr (.inr (.inr h9)))))
 replace hrw := RowE.step hrw hc5 (by (try simp only); omega)
 replace hcm := MapL.step hcm hc5 (by (try simp only); omega)
 replace ho1 := ho1.step hc5 (by (try simp only); omega)
 replace ho2 := ho2.step hc5 (by (try simp only); omega)
 replace ho3 := ho3.step hc5 (by (try simp only); omega)
 replace hT1 := Tb.step hT1 hc5 (by (try simp only); omega)
 refine VL_end (by kernel_rfl) ?_
 refine VQ_next ?_
 refine VC_seq ?_
 refine VC_region ?_
 refine VL_pure 2 [5, 42, 43] [(5, .pointer (some ⟨b2, 0, none⟩)), (42, .pointer (some ⟨nd, 0, none⟩)), (43, .int .i64 ((g.next : Nat) : Int))] (by kernel_rfl) rfl ?_
 refine VL_load (d := 44) (t := 30) (a := ⟨b2, 0, none⟩) (v := .agg #[.int .i64 k.kind, .int .i64 k.peak, .int .i64 k.early, .int .i64 k.whole, .int .i64 k.burst, .int .i64 k.least]) (by kernel_rfl) (by kernel_rfl) (Loads.ownL ho2 (n := 6) (by kernel_rfl) (by kernel_rfl) (by kernel_rfl)) ?_
 have hzl61 := RowE.lt hrw
 have hzl62 := MapL.lt hcm
 have hzl63 := ho1.lt
 have hzl64 := ho2.lt
 have hzl65 := ho3.lt
 have hzl66 := Tb.lt hT1
 have hzl67 := Ld.lt hL1
 refine VL_call (d := 45) (f := 34) (args := #[.pointer (some ⟨nd, 0, none⟩), .int .i64 ((g.next : Nat) : Int), .agg #[.int .i64 k.kind, .int .i64 k.peak, .int .i64 k.early, .int .i64 k.whole, .int .i64 k.burst, .int .i64 k.least]]) (by kernel_rfl) (by kernel_rfl) (by kernel_rfl) Try.call34 (nput_any nd g.cm _ _ _ g.M ((g.next : Nat) : Int) k hr _ ho3 hcm) ?_
 rintro _ w19 ⟨pp9, Y9, rfl, hY9, hPl, hM1, hc6⟩
 replace hS := Step.trans hS (Step.mono hc6 (fun i9 h9 => .inr (.inr (.inl h9))))
 replace hrw := RowE.step hrw hc6 (show ¬ g.lb = g.cm by omega)
 replace ho1 := ho1.step hc6 (show ¬ b1 = g.cm by omega)
 replace ho2 := ho2.step hc6 (show ¬ b2 = g.cm by omega)
 replace ho3 := ho3.step hc6 (show ¬ nd = g.cm by omega)
 replace hT1 := Tb.step hT1 hc6 (show ¬ g.tb = g.cm by omega)
 replace hL1 := Ld.step hL1 hc6 (show ¬ g.lg i = g.cm by omega) (show ¬ g.lm i = g.cm by omega)
 replace hY9 : ∀ q, Y9 q → w.heap.size ≤ q := fun q hq => by have h9 := hY9 q hq; omega
 refine VL_end (by kernel_rfl) ?_
 refine VQ_next ?_
 refine VC_seq ?_
 refine VC_region ?_
 refine VL_pure 1 [6] [(6, .int .i64 0)] (by kernel_rfl) rfl ?_
 refine VL_end (by kernel_rfl) ?_
 refine VQ_next ?_
 refine VC_ret ?_
 refine VQ_ret1 (.int .i64 0) (.inr rfl) rfl rfl ?_
 have hX9 := h.took hir hp hc hS (Own.cast ho3 (by rw [hla])) hT1 hL1 hM1 hPl hY9 hlo
 exact ⟨rfl, _, _, hX9, by unfold takeN; rw [if_pos hc]; exact insI_x _ _, Nat.le_refl _, fun q hq => hq.elim .inl (fun h9 => .inr (hY9 q h9)), Step.mono hS (fiveF_X h hil)⟩

theorem take_any (nd lo : Nat) (X : Nat → Prop) (rooms : List Int) (g : NdG) (p v c : Int) (k : Con) (hnx : g.next < 1152921504606846976) (w : World) (hlo : lo ≤ w.heap.size) (h : NdX w nd X lo rooms g) (hno : ¬ chkN rooms g.L p v c k = 0 → CV Try.prog 16 #[.pointer (some ⟨nd, 0, none⟩), .agg #[.int .i64 p, .int .i64 v, .int .i64 c], .agg #[.int .i64 k.kind, .int .i64 k.peak, .int .i64 k.early, .int .i64 k.whole, .int .i64 k.burst, .int .i64 k.least]] w fun x w1 => x = .int .i64 (chkN rooms g.L p v c k) ∧ Step No w w1) : CV Try.prog 16 #[.pointer (some ⟨nd, 0, none⟩), .agg #[.int .i64 p, .int .i64 v, .int .i64 c], .agg #[.int .i64 k.kind, .int .i64 k.peak, .int .i64 k.early, .int .i64 k.whole, .int .i64 k.burst, .int .i64 k.least]] w (fun x w1 => x = .int .i64 (chkN rooms g.L p v c k) ∧ ∃ g9 X9, NdX w1 nd X9 lo rooms g9 ∧ g9.L = takeN rooms g.L p v c k ∧ g9.next ≤ g.next + 1 ∧ (∀ q, X9 q → X q ∨ w.heap.size ≤ q) ∧ Step X w w1) := by
  by_cases hc : chkN rooms g.L p v c k = 0
  · have := take_yes nd lo X rooms g p v c k hnx hc w hlo h
    rw [hc]; exact this
  · refine (hno hc).mono ?_
    rintro x w1 ⟨rfl, hs⟩
    exact ⟨rfl, g, X, h.no hs, by unfold takeN; rw [if_neg hc], by omega, fun q hq => .inl hq, hs.weak⟩
set_option maxRecDepth 100000 in
set_option maxHeartbeats 4000000 in
theorem take_no (nd lo : Nat) (X : Nat → Prop) (rooms : List Int) (g : NdG) (p v c : Int) (k : Con) (hc : ¬ chkN rooms g.L p v c k = 0) (w : World) (h : NdX w nd X lo rooms g)  :
  CV Try.prog 16 #[.pointer (some ⟨nd, 0, none⟩), .agg #[.int .i64 p, .int .i64 v, .int .i64 c], .agg #[.int .i64 k.kind, .int .i64 k.peak, .int .i64 k.early, .int .i64 k.whole, .int .i64 k.burst, .int .i64 k.least]] w (fun x w1 => x = .int .i64 (chkN rooms g.L p v c k) ∧ Step No w w1) := by
 have hS : Step No w w := Step.refl _ _
 have hSn : Step No w w := Step.refl _ _
 have hnd := h.own
 have htab := h.tab
 refine CV_enter Try.f16 _ 46 [(0, .pointer (some ⟨nd, 0, none⟩)), (1, .agg #[.int .i64 p, .int .i64 v, .int .i64 c]), (2, .agg #[.int .i64 k.kind, .int .i64 k.peak, .int .i64 k.early, .int .i64 k.whole, .int .i64 k.burst, .int .i64 k.least])] Try.func16 rfl rfl (by kernel_rfl) rfl ?_
 refine VC_seq ?_
 refine VC_region ?_
 have hzs1 := hS.size
 have hzs2 := hSn.size
 have hzl1 := hnd.lt
 have hzl2 := Tb.lt htab
 refine VL_box (d := 4) (t := 28) (c := #[.int .i64 p, .int .i64 v, .int .i64 c]) (by kernel_rfl) (by kernel_rfl) ?_
 intro b1 w1 hn1
 replace hS := Step.trans hS (hn1.step No)
 replace hSn := Step.trans hSn (hn1.step No)
 replace hnd := hnd.no (hn1.step No)
 replace htab := Tb.no htab (hn1.step No)
 have ho1 := hn1.own
 have hzhn1 := hn1.size
 have hqhn1 := hn1.eqb
 have hzs3 := hS.size
 have hzs4 := hSn.size
 have hzl3 := hnd.lt
 have hzl4 := Tb.lt htab
 have hzl5 := ho1.lt
 refine VL_box (d := 5) (t := 30) (c := #[.int .i64 k.kind, .int .i64 k.peak, .int .i64 k.early, .int .i64 k.whole, .int .i64 k.burst, .int .i64 k.least]) (by kernel_rfl) (by kernel_rfl) ?_
 intro b2 w2 hn2
 replace hS := Step.trans hS (hn2.step No)
 replace hSn := Step.trans hSn (hn2.step No)
 replace hnd := hnd.no (hn2.step No)
 replace htab := Tb.no htab (hn2.step No)
 replace ho1 := ho1.no (hn2.step No)
 have ho2 := hn2.own
 have hzhn2 := hn2.size
 have hqhn2 := hn2.eqb
 refine VL_pure 3 [0, 4, 5] [(0, .pointer (some ⟨nd, 0, none⟩)), (4, .pointer (some ⟨b1, 0, none⟩)), (5, .pointer (some ⟨b2, 0, none⟩))] (by kernel_rfl) rfl ?_
 refine VL_end (by kernel_rfl) ?_
 refine VQ_next ?_
 refine VC_seq ?_
 refine VC_seq ?_
 refine VC_region ?_
 refine VL_pure 1 [0, 4, 5, 9] [(0, .pointer (some ⟨nd, 0, none⟩)), (4, .pointer (some ⟨b1, 0, none⟩)), (5, .pointer (some ⟨b2, 0, none⟩)), (9, .pointer (some ⟨nd, 0, none⟩))] (by kernel_rfl) rfl ?_
 refine VL_load (d := 10) (t := 28) (a := ⟨b1, 0, none⟩) (v := .agg #[.int .i64 p, .int .i64 v, .int .i64 c]) (by kernel_rfl) (by kernel_rfl) (Loads.ownL ho1 (n := 3) (by kernel_rfl) (by kernel_rfl) (by kernel_rfl)) ?_
 refine VL_load (d := 11) (t := 30) (a := ⟨b2, 0, none⟩) (v := .agg #[.int .i64 k.kind, .int .i64 k.peak, .int .i64 k.early, .int .i64 k.whole, .int .i64 k.burst, .int .i64 k.least]) (by kernel_rfl) (by kernel_rfl) (Loads.ownL ho2 (n := 6) (by kernel_rfl) (by kernel_rfl) (by kernel_rfl)) ?_
 have hzs5 := hS.size
 have hzs6 := hSn.size
 have hzl6 := hnd.lt
 have hzl7 := Tb.lt htab
 have hzl8 := ho1.lt
 have hzl9 := ho2.lt
 refine VL_call (d := 12) (f := 17) (args := #[.pointer (some ⟨nd, 0, none⟩), .agg #[.int .i64 p, .int .i64 v, .int .i64 c], .agg #[.int .i64 k.kind, .int .i64 k.peak, .int .i64 k.early, .int .i64 k.whole, .int .i64 k.burst, .int .i64 k.least]]) (by kernel_rfl) (by kernel_rfl) (by kernel_rfl) Try.call17 (check_any nd lo X rooms g p v c k _ (h.no hSn)) ?_
 rintro _ w3 ⟨rfl, hc1⟩
 replace hS := Step.trans hS hc1
 replace hSn := Step.trans hSn hc1
 replace hnd := hnd.no hc1
 replace htab := Tb.no htab hc1
 replace ho1 := ho1.no hc1
 replace ho2 := ho2.no hc1
 refine VL_pure 5 [0, 4, 5, 7] [(0, .pointer (some ⟨nd, 0, none⟩)), (4, .pointer (some ⟨b1, 0, none⟩)), (5, .pointer (some ⟨b2, 0, none⟩)), (7, .int .i64 (chkN rooms g.L p v c k))] (by kernel_rfl) rfl ?_
 refine VL_end (by kernel_rfl) ?_
 refine VQ_next ?_
 refine VC_seq ?_
 refine VC_region ?_
 refine VL_pure 2 [0, 4, 5, 7, 14] [(0, .pointer (some ⟨nd, 0, none⟩)), (4, .pointer (some ⟨b1, 0, none⟩)), (5, .pointer (some ⟨b2, 0, none⟩)), (7, .int .i64 (chkN rooms g.L p v c k)), (14, .bool ((chkN rooms g.L p v c k) != 0))] (by kernel_rfl) rfl ?_
 refine VL_end (by kernel_rfl) ?_
 refine VQ_next ?_
 refine VC_is (b := (chkN rooms g.L p v c k) != 0) true (by kernel_rfl) (by first | exact bne_iff_ne.2 hc | exact beq_eq_false_iff_ne.2 hc) ?_
 refine VC_ite_true ?_
 refine VC_seq ?_
 refine VC_region ?_
 refine VL_pure 2 [6] [(6, .int .i64 (chkN rooms g.L p v c k))] (by kernel_rfl) rfl ?_
 refine VL_end (by kernel_rfl) ?_
 refine VQ_next ?_
 refine VC_ret ?_
 refine VQ_then_ret ?_
 refine VQ_ret1 (.int .i64 (chkN rooms g.L p v c k)) (.inr rfl) rfl rfl ?_
 exact ⟨rfl, hS⟩

set_option maxRecDepth 100000 in
set_option maxHeartbeats 4000000 in
theorem change_no (nd lo : Nat) (X : Nat → Prop) (rooms : List Int) (g : NdG) (p v c : Int) (k : Con) (hc : ¬ chgK rooms g.L p v c k = 0) (w : World) (h : NdX w nd X lo rooms g)  :
  CV Try.prog 20 #[.pointer (some ⟨nd, 0, none⟩), .agg #[.int .i64 p, .int .i64 v, .int .i64 c], .agg #[.int .i64 k.kind, .int .i64 k.peak, .int .i64 k.early, .int .i64 k.whole, .int .i64 k.burst, .int .i64 k.least]] w (fun x w1 => x = .int .i64 (chgK rooms g.L p v c k) ∧ Step No w w1) := by
 have hS : Step No w w := Step.refl _ _
 have hSn : Step No w w := Step.refl _ _
 have hnd := h.own
 have htab := h.tab
 refine CV_enter Try.f20 _ 43 [(0, .pointer (some ⟨nd, 0, none⟩)), (1, .agg #[.int .i64 p, .int .i64 v, .int .i64 c]), (2, .agg #[.int .i64 k.kind, .int .i64 k.peak, .int .i64 k.early, .int .i64 k.whole, .int .i64 k.burst, .int .i64 k.least])] Try.func20 rfl rfl (by kernel_rfl) rfl ?_
 refine VC_seq ?_
 refine VC_region ?_
 have hzs1 := hS.size
 have hzs2 := hSn.size
 have hzl1 := hnd.lt
 have hzl2 := Tb.lt htab
 refine VL_box (d := 4) (t := 28) (c := #[.int .i64 p, .int .i64 v, .int .i64 c]) (by kernel_rfl) (by kernel_rfl) ?_
 intro b1 w1 hn1
 replace hS := Step.trans hS (hn1.step No)
 replace hSn := Step.trans hSn (hn1.step No)
 replace hnd := hnd.no (hn1.step No)
 replace htab := Tb.no htab (hn1.step No)
 have ho1 := hn1.own
 have hzhn1 := hn1.size
 have hqhn1 := hn1.eqb
 have hzs3 := hS.size
 have hzs4 := hSn.size
 have hzl3 := hnd.lt
 have hzl4 := Tb.lt htab
 have hzl5 := ho1.lt
 refine VL_box (d := 5) (t := 30) (c := #[.int .i64 k.kind, .int .i64 k.peak, .int .i64 k.early, .int .i64 k.whole, .int .i64 k.burst, .int .i64 k.least]) (by kernel_rfl) (by kernel_rfl) ?_
 intro b2 w2 hn2
 replace hS := Step.trans hS (hn2.step No)
 replace hSn := Step.trans hSn (hn2.step No)
 replace hnd := hnd.no (hn2.step No)
 replace htab := Tb.no htab (hn2.step No)
 replace ho1 := ho1.no (hn2.step No)
 have ho2 := hn2.own
 have hzhn2 := hn2.size
 have hqhn2 := hn2.eqb
 refine VL_pure 3 [0, 4, 5] [(0, .pointer (some ⟨nd, 0, none⟩)), (4, .pointer (some ⟨b1, 0, none⟩)), (5, .pointer (some ⟨b2, 0, none⟩))] (by kernel_rfl) rfl ?_
 refine VL_end (by kernel_rfl) ?_
 refine VQ_next ?_
 refine VC_seq ?_
 refine VC_seq ?_
 refine VC_region ?_
 refine VL_pure 1 [0, 4, 5, 10] [(0, .pointer (some ⟨nd, 0, none⟩)), (4, .pointer (some ⟨b1, 0, none⟩)), (5, .pointer (some ⟨b2, 0, none⟩)), (10, .pointer (some ⟨nd, 0, none⟩))] (by kernel_rfl) rfl ?_
 refine VL_load (d := 11) (t := 28) (a := ⟨b1, 0, none⟩) (v := .agg #[.int .i64 p, .int .i64 v, .int .i64 c]) (by kernel_rfl) (by kernel_rfl) (Loads.ownL ho1 (n := 3) (by kernel_rfl) (by kernel_rfl) (by kernel_rfl)) ?_
 refine VL_load (d := 12) (t := 30) (a := ⟨b2, 0, none⟩) (v := .agg #[.int .i64 k.kind, .int .i64 k.peak, .int .i64 k.early, .int .i64 k.whole, .int .i64 k.burst, .int .i64 k.least]) (by kernel_rfl) (by kernel_rfl) (Loads.ownL ho2 (n := 6) (by kernel_rfl) (by kernel_rfl) (by kernel_rfl)) ?_
 have hzs5 := hS.size
 have hzs6 := hSn.size
 have hzl6 := hnd.lt
 have hzl7 := Tb.lt htab
 have hzl8 := ho1.lt
 have hzl9 := ho2.lt
 refine VL_call (d := 13) (f := 35) (args := #[.pointer (some ⟨nd, 0, none⟩), .agg #[.int .i64 p, .int .i64 v, .int .i64 c], .agg #[.int .i64 k.kind, .int .i64 k.peak, .int .i64 k.early, .int .i64 k.whole, .int .i64 k.burst, .int .i64 k.least]]) (by kernel_rfl) (by kernel_rfl) (by kernel_rfl) Try.call35 (wrong_any nd lo X rooms g p v c k _ (h.no hSn)) ?_
 rintro _ w3 ⟨rfl, hc1⟩
 replace hS := Step.trans hS hc1
 replace hSn := Step.trans hSn hc1
 replace hnd := hnd.no hc1
 replace htab := Tb.no htab hc1
 replace ho1 := ho1.no hc1
 replace ho2 := ho2.no hc1
 refine VL_pure 5 [0, 4, 5, 7] [(0, .pointer (some ⟨nd, 0, none⟩)), (4, .pointer (some ⟨b1, 0, none⟩)), (5, .pointer (some ⟨b2, 0, none⟩)), (7, .int .i64 (wrongN rooms p v c k))] (by kernel_rfl) rfl ?_
 refine VL_end (by kernel_rfl) ?_
 refine VQ_next ?_
 refine VC_seq ?_
 refine VC_region ?_
 refine VL_pure 2 [0, 4, 5, 7, 15] [(0, .pointer (some ⟨nd, 0, none⟩)), (4, .pointer (some ⟨b1, 0, none⟩)), (5, .pointer (some ⟨b2, 0, none⟩)), (7, .int .i64 (wrongN rooms p v c k)), (15, .bool ((wrongN rooms p v c k) != 0))] (by kernel_rfl) rfl ?_
 refine VL_end (by kernel_rfl) ?_
 refine VQ_next ?_
 refine VC_ne (wrongN rooms p v c k) 0 (by kernel_rfl) (fun h1 => ?_) (fun h1 => ?_)
 ·refine VC_seq ?_
  refine VC_region ?_
  refine VL_pure 2 [6] [(6, .int .i64 (wrongN rooms p v c k))] (by kernel_rfl) rfl ?_
  refine VL_end (by kernel_rfl) ?_
  refine VQ_next ?_
  refine VC_ret ?_
  refine VQ_then_ret ?_
  refine VQ_ret1 (.int .i64 (wrongN rooms p v c k)) (.inr rfl) rfl rfl ?_
  exact ⟨congrArg (Value.int .i64) (by exact chg_w (by assumption)), hS⟩
 ·refine VC_skip ?_
  refine VQ_next ?_
  refine VC_seq ?_
  refine VC_det [[], [0], [0, 1], [0, 1, 2], [], [0, 1, 2, 3, 4], [0, 1, 2, 3, 4, 5], [0, 1, 2, 3, 4, 5, 6], [0, 1, 2, 3, 4, 5, 6], [0, 1, 2, 3, 4, 5, 6, 7], [0, 1, 2, 3, 4, 5, 6, 7, 8, 9]] 10 [.pointer (some ⟨nd, 0, none⟩), .pointer (some ⟨nd, 0, none⟩), .pointer (some ⟨nd, 1, none⟩), .pointer (some ⟨g.tb, 0, none⟩), .agg #[.int .i64 p, .int .i64 v, .int .i64 c], .tuple #[.int .i64 ((lookE (g.ci.map Ci.ent) p v c).getD 0), .bool ((lookE (g.ci.map Ci.ent) p v c).isSome)], .tuple #[.int .i64 ((lookE (g.ci.map Ci.ent) p v c).getD 0), .bool ((lookE (g.ci.map Ci.ent) p v c).isSome)], .int .i64 ((lookE (g.ci.map Ci.ent) p v c).getD 0), .bool ((lookE (g.ci.map Ci.ent) p v c).isSome), .int .i64 ((lookE (g.ci.map Ci.ent) p v c).getD 0)] [0, 1, 2, 6, 7, 8, 9] [3, 4, 5] (by kernel_rfl) (by kernel_rfl) (by kernel_rfl) (by kernel_rfl) ?_ ?_
  ·intro w4 hs1
   replace hS := Step.trans hS hs1
   replace hSn := Step.trans hSn hs1
   replace hnd := hnd.no hs1
   replace htab := Tb.no htab hs1
   replace ho1 := ho1.no hs1
   replace ho2 := ho2.no hs1
   exact ⟨Det1_load (d := 21) (t := 49) (a := ⟨nd, 1, none⟩) (by kernel_rfl) (by kernel_rfl) (Loads.own1 hnd (by kernel_rfl) (by rfl)), Det1_load (d := 22) (t := 28) (a := ⟨b1, 0, none⟩) (by kernel_rfl) (by kernel_rfl) (Loads.ownL ho1 (n := 3) (by kernel_rfl) (by kernel_rfl) (by kernel_rfl)), Det1_call (d := 23) (f := 36) (args := #[.pointer (some ⟨g.tb, 0, none⟩), .agg #[.int .i64 p, .int .i64 v, .int .i64 c]]) (by kernel_rfl) (by kernel_rfl) (by kernel_rfl) Try.call36 (by exact tget p v c htab), trivial⟩
  intro w4 hs1
  replace hS := Step.trans hS hs1
  replace hSn := Step.trans hSn hs1
  replace hnd := hnd.no hs1
  replace htab := Tb.no htab hs1
  replace ho1 := ho1.no hs1
  replace ho2 := ho2.no hs1
  refine VL_keep [0, 4, 5, 25, 8] [(0, .pointer (some ⟨nd, 0, none⟩)), (4, .pointer (some ⟨b1, 0, none⟩)), (5, .pointer (some ⟨b2, 0, none⟩)), (25, .bool ((lookE (g.ci.map Ci.ent) p v c).isSome)), (8, .int .i64 ((lookE (g.ci.map Ci.ent) p v c).getD 0))] (by kernel_rfl) ?_
  refine VL_pure 11 [0, 4, 5, 8, 9] [(0, .pointer (some ⟨nd, 0, none⟩)), (4, .pointer (some ⟨b1, 0, none⟩)), (5, .pointer (some ⟨b2, 0, none⟩)), (8, .int .i64 ((lookE (g.ci.map Ci.ent) p v c).getD 0)), (9, .bool ((lookE (g.ci.map Ci.ent) p v c).isSome))] (by kernel_rfl) rfl ?_
  refine VL_end (by kernel_rfl) ?_
  refine VQ_next ?_
  refine VC_seq ?_
  refine VC_block ?_
  refine VC_seq ?_
  refine VC_region ?_
  refine VL_pure 3 [0, 4, 5, 8, 26] [(0, .pointer (some ⟨nd, 0, none⟩)), (4, .pointer (some ⟨b1, 0, none⟩)), (5, .pointer (some ⟨b2, 0, none⟩)), (8, .int .i64 ((lookE (g.ci.map Ci.ent) p v c).getD 0)), (26, .bool (!((lookE (g.ci.map Ci.ent) p v c).isSome)))] (by kernel_rfl) rfl ?_
  refine VL_end (by kernel_rfl) ?_
  refine VQ_next ?_
  refine VC_cond (!((lookE (g.ci.map Ci.ent) p v c).isSome)) (by kernel_rfl) (fun h2 => ?_) (fun h2 => ?_)
  ·try simp only [Bool.and_eq_true, Bool.or_eq_true, decide_eq_true_eq, Bool.not_eq_true', decide_eq_false_iff_not, Bool.and_eq_false_iff, Bool.or_eq_false_iff, beq_iff_eq, bne_iff_ne, beq_eq_false_iff_ne, bne_eq_false_iff_eq, Bool.not_eq_eq_eq_not, Bool.not_true, Bool.not_false] at h2
   refine VC_seq ?_
   refine VC_region ?_
   refine VL_pure 1 [6] [(6, .int .i64 81)] (by kernel_rfl) rfl ?_
   refine VL_end (by kernel_rfl) ?_
   refine VQ_next ?_
   refine VC_ret ?_
   refine VQ_block_ret ?_
   refine VQ_then_ret ?_
   refine VQ_ret1 (.int .i64 81) (.inr rfl) rfl rfl ?_
   exact ⟨congrArg (Value.int .i64) (by exact chg_81 (by assumption) (by assumption)), hS⟩
  ·try simp only [Bool.and_eq_true, Bool.or_eq_true, decide_eq_true_eq, Bool.not_eq_true', decide_eq_false_iff_not, Bool.and_eq_false_iff, Bool.or_eq_false_iff, beq_iff_eq, bne_iff_ne, beq_eq_false_iff_ne, bne_eq_false_iff_eq, Bool.not_eq_eq_eq_not, Bool.not_true, Bool.not_false] at h2
   refine VC_seq ?_
   obtain ⟨y, i, r, hfI, hym, hlk, hp, hil, hir, hled0, hnn, hmm, hpl0, hfc, hu0, hu1, hrM, hnu⟩ := h.there (by assumption)
   have hw0 : wrongN rooms p v c k = 0 := by assumption
   have hbig : needC k > r - usdL g.L (i : Int) + needC y.x.k := Decidable.byContradiction (fun h9 => hc (by unfold chgK; rw [if_pos hw0, hfc]; simp only; rw [if_neg (by rw [left_at hp hir]; exact h9)]))
   have hled := hled0.no hSn
   have hs2 := drew_step w4
   have hs2z : w4.heap.size = w4.drew.heap.size := rfl
   refine VC_text [[], [], [1], [0, 1, 2], [], [], [0, 1, 2, 3, 5], [0, 1, 2, 3, 4, 5, 6], [0, 1, 2, 3, 4, 5, 6, 7], [0, 1, 2, 3, 4, 5, 6, 7, 8]] 7 (fun x y => Step (fun k => w4.heap.size ≤ k) x y) [3, 6] [0, 1, 2, 4, 5, 3, 6] (by kernel_rfl) (by kernel_rfl) (by kernel_rfl) (by kernel_rfl) (fun x => Step.refl _ x) (fun h k => Step.trans h k) Step.weak ?_
   have hzs7 := hS.size
   have hzs8 := hSn.size
   have hzl10 := hnd.lt
   have hzl11 := Tb.lt htab
   have hzl12 := ho1.lt
   have hzl13 := ho2.lt
   have hzl14 := Ld.lt hled
   generalize w4.drew = w5 at hs2 hs2z ⊢
   replace hS := Step.trans hS hs2
   replace hSn := Step.trans hSn hs2
   replace hnd := hnd.no hs2
   replace htab := Tb.no htab hs2
   replace ho1 := ho1.no hs2
   replace ho2 := ho2.no hs2
   replace hled := Ld.no hled hs2
   refine VT_pures 2 (kn' := [(1, .pointer (some ⟨b1, 0, none⟩)), (0, .pointer (some ⟨nd, 0, none⟩))]) (by kernel_rfl) ?_
   refine VT_load (d := 32) (t := 3) (a := ⟨b1, 0, none⟩) (v := .int .i64 p) (by kernel_rfl) (by kernel_rfl) ?_ ?_
   ·intro w6 hr1
    replace hS := Step.transNew hS hr1 (fun i hi hG => by (try simp only at hG); omega)
    replace hSn := Step.transNew hSn hr1 (fun i hi hG => by (try simp only at hG); omega)
    replace hnd := hnd.step hr1 (by (try simp only); omega)
    replace htab := Tb.step htab hr1 (by (try simp only); omega)
    replace ho1 := ho1.step hr1 (by (try simp only); omega)
    replace ho2 := ho2.step hr1 (by (try simp only); omega)
    replace hled := Ld.step hled hr1 (by (try simp only); omega) (by (try simp only); omega)
    exact (Loads.own1 ho1 (by kernel_rfl) (by rfl))
   refine VT_pures 1 (kn' := [(4, .int .i64 ((lookE (g.ci.map Ci.ent) p v c).getD 0)), (2, .int .i64 p), (1, .pointer (some ⟨b1, 0, none⟩)), (0, .pointer (some ⟨nd, 0, none⟩))]) (by kernel_rfl) ?_
   refine VT_load (d := 35) (t := 30) (a := ⟨b2, 0, none⟩) (v := .agg #[.int .i64 k.kind, .int .i64 k.peak, .int .i64 k.early, .int .i64 k.whole, .int .i64 k.burst, .int .i64 k.least]) (by kernel_rfl) (by kernel_rfl) ?_ ?_
   ·intro w7 hr2
    replace hS := Step.transNew hS hr2 (fun i hi hG => by (try simp only at hG); omega)
    replace hSn := Step.transNew hSn hr2 (fun i hi hG => by (try simp only at hG); omega)
    replace hnd := hnd.step hr2 (by (try simp only); omega)
    replace htab := Tb.step htab hr2 (by (try simp only); omega)
    replace ho1 := ho1.step hr2 (by (try simp only); omega)
    replace ho2 := ho2.step hr2 (by (try simp only); omega)
    replace hled := Ld.step hled hr2 (by (try simp only); omega) (by (try simp only); omega)
    exact (Loads.ownL ho2 (n := 6) (by kernel_rfl) (by kernel_rfl) (by kernel_rfl))
   refine VT_chain (by kernel_rfl) ?_
   intro w8 hs3
   have hzhs3 := hs3.size
   replace hS := Step.trans hS hs3
   replace hSn := Step.trans hSn hs3
   replace hnd := hnd.no hs3
   replace htab := Tb.no htab hs3
   replace ho1 := ho1.no hs3
   replace ho2 := ho2.no hs3
   replace hled := Ld.no hled hs3
   have hzs9 := hS.size
   have hzs10 := hSn.size
   have hzl15 := hnd.lt
   have hzl16 := Tb.lt htab
   have hzl17 := ho1.lt
   have hzl18 := ho2.lt
   have hzl19 := Ld.lt hled
   refine VTc_call (d := 33) (f := 23) (args := #[.pointer (some ⟨nd, 0, none⟩), .int .i64 p]) (by kernel_rfl) (by kernel_rfl) (by kernel_rfl) Try.call23 (link_in nd lo X rooms g p i hp hil _ (h.no hSn)) ?_ ?_
   ·rintro _ w9 ⟨rfl, hc2⟩
    exact Step.mono hc2 (by intro i hi; first | exact hi.elim | exact .inl hi | ((try simp only at hi ⊢); omega))
   rintro _ w9 ⟨rfl, hc2⟩
   have hzhc2 := (hc2).size
   replace hS := Step.trans hS hc2
   replace hSn := Step.trans hSn hc2
   replace hnd := hnd.no hc2
   replace htab := Tb.no htab hc2
   replace ho1 := ho1.no hc2
   replace ho2 := ho2.no hc2
   replace hled := Ld.no hled hc2
   refine VT_chain (by kernel_rfl) ?_
   intro w10 hs4
   have hzhs4 := hs4.size
   replace hS := Step.trans hS hs4
   replace hSn := Step.trans hSn hs4
   replace hnd := hnd.no hs4
   replace htab := Tb.no htab hs4
   replace ho1 := ho1.no hs4
   replace ho2 := ho2.no hs4
   replace hled := Ld.no hled hs4
   have hzs11 := hS.size
   have hzs12 := hSn.size
   have hzl20 := hnd.lt
   have hzl21 := Tb.lt htab
   have hzl22 := ho1.lt
   have hzl23 := ho2.lt
   have hzl24 := Ld.lt hled
   refine VTc_call (d := 36) (f := 14) (args := #[.agg #[.int .i64 k.kind, .int .i64 k.peak, .int .i64 k.early, .int .i64 k.whole, .int .i64 k.burst, .int .i64 k.least]]) (by kernel_rfl) (by kernel_rfl) (by kernel_rfl) Try.call14 (need_any k _) ?_ ?_
   ·rintro _ w11 ⟨rfl, hc3⟩
    exact Step.mono hc3 (by intro i hi; first | exact hi.elim | exact .inl hi | ((try simp only at hi ⊢); omega))
   rintro _ w11 ⟨rfl, hc3⟩
   have hzhc3 := (hc3).size
   replace hS := Step.trans hS hc3
   replace hSn := Step.trans hSn hc3
   replace hnd := hnd.no hc3
   replace htab := Tb.no htab hc3
   replace ho1 := ho1.no hc3
   replace ho2 := ho2.no hc3
   replace hled := Ld.no hled hc3
   refine VT_end ?_
   intro w12 hs5
   replace hS := Step.trans hS hs5
   replace hSn := Step.trans hSn hs5
   replace hnd := hnd.no hs5
   replace htab := Tb.no htab hs5
   replace ho1 := ho1.no hs5
   replace ho2 := ho2.no hs5
   replace hled := Ld.no hled hs5
   refine VL_keep [0, 5, 8, 34, 33, 36] [(0, .pointer (some ⟨nd, 0, none⟩)), (5, .pointer (some ⟨b2, 0, none⟩)), (8, .int .i64 ((lookE (g.ci.map Ci.ent) p v c).getD 0)), (34, .int .i64 ((lookE (g.ci.map Ci.ent) p v c).getD 0)), (33, .pointer (some ⟨(g.lg i), 0, none⟩)), (36, .int .i64 (needC k))] (by kernel_rfl) ?_
   have hzs13 := hS.size
   have hzs14 := hSn.size
   have hzl25 := hnd.lt
   have hzl26 := Tb.lt htab
   have hzl27 := ho1.lt
   have hzl28 := ho2.lt
   have hzl29 := Ld.lt hled
   refine VL_call (d := 37) (f := 38) (args := #[.pointer (some ⟨(g.lg i), 0, none⟩), .int .i64 ((lookE (g.ci.map Ci.ent) p v c).getD 0), .int .i64 (needC k)]) (by kernel_rfl) (by kernel_rfl) (by kernel_rfl) Try.call38 (lchange_no (g.lg i) (g.lm i) r (usdL g.L (i : Int)) (g.N i) ((lookE (g.ci.map Ci.ent) p v c).getD 0) (needC k) (needC y.x.k) _ hled hu0 hu1 hrM (by rw [hlk]; exact hnn) (needC_le k).1 (needC_le k).2 (needC_le y.x.k).1 hnu hbig) ?_
   rintro _ w13 ⟨rfl, hc4⟩
   replace hS := Step.trans hS hc4
   replace hSn := Step.trans hSn hc4
   replace hnd := hnd.no hc4
   replace htab := Tb.no htab hc4
   replace ho1 := ho1.no hc4
   replace ho2 := ho2.no hc4
   replace hled := Ld.no hled hc4
   refine VL_pure 10 [0, 5, 8, 29] [(0, .pointer (some ⟨nd, 0, none⟩)), (5, .pointer (some ⟨b2, 0, none⟩)), (8, .int .i64 ((lookE (g.ci.map Ci.ent) p v c).getD 0)), (29, .bool true)] (by kernel_rfl) rfl ?_
   refine VL_end (by kernel_rfl) ?_
   refine VQ_next ?_
   refine VC_true (by kernel_rfl) ?_
   refine VC_seq ?_
   refine VC_region ?_
   refine VL_pure 1 [6] [(6, .int .i64 37)] (by kernel_rfl) rfl ?_
   refine VL_end (by kernel_rfl) ?_
   refine VQ_next ?_
   refine VC_ret ?_
   refine VQ_block_ret ?_
   refine VQ_then_ret ?_
   refine VQ_ret1 (.int .i64 37) (.inr rfl) rfl rfl ?_
   exact ⟨congrArg (Value.int .i64) (by unfold chgK; rw [if_pos hw0, hfc]; simp only; rw [if_pos (by rw [left_at hp hir]; exact hbig)]), hS⟩

set_option maxRecDepth 100000 in
set_option maxHeartbeats 4000000 in
theorem change_yes (nd lo : Nat) (X : Nat → Prop) (rooms : List Int) (g : NdG) (p v c : Int) (k : Con) (hc : chgK rooms g.L p v c k = 0) (w : World) (hlo : lo ≤ w.heap.size) (h : NdX w nd X lo rooms g)  :
  CV Try.prog 20 #[.pointer (some ⟨nd, 0, none⟩), .agg #[.int .i64 p, .int .i64 v, .int .i64 c], .agg #[.int .i64 k.kind, .int .i64 k.peak, .int .i64 k.early, .int .i64 k.whole, .int .i64 k.burst, .int .i64 k.least]] w (fun x w1 => x = .int .i64 0 ∧ ∃ g9 X9, NdX w1 nd X9 lo rooms g9 ∧ g9.L = chgN rooms g.L p v c k ∧ g9.next ≤ g.next + 1 ∧ (∀ q, X9 q → X q ∨ w.heap.size ≤ q) ∧ Step X w w1) := by
 obtain ⟨hw, x9, hf9, hfit9⟩ := chgK_zero hc
 obtain ⟨⟨hp1, hp2⟩, hw2, hw3, hr⟩ := wrongN_zero hw
 obtain ⟨y, i, r, hfI, hym, hlk, hp, hil, hir, hled0, hnn, hmm, hpl0, hfc, hu0, hu1, hrM, hnu⟩ := h.there (by rw [lookE_isSome, hf9]; rfl)
 obtain ⟨hla, hrw, hxb⟩ := h.links (by omega)
 have hnd := h.own
 rw [hla] at hnd
 have htab := h.tab
 have hled : Ld w (g.lg i) (g.lm i) r (usdL g.L (i : Int)) (g.N i) := h.led i r hir
 have hcm := h.cmap
 have hS : Step (fiveF nd g i) w w := Step.refl _ _
 have hSn : Step No w w := Step.refl _ _
 obtain ⟨n1, n2, n3, n4, n5, n6, n7, n8, n9, n10⟩ := h.five hil
 have hnl := hnd.lt
 have htl := htab.lt
 have hll := hled.lt
 have hml := hcm.lt
 have hbl := hrw.lt
 have hb5 : g.lb ≠ nd ∧ g.lb ≠ g.tb ∧ g.lb ≠ g.cm ∧ g.lb ≠ g.lg i ∧ g.lb ≠ g.lm i := by have t1 := h.t_nd; have t2 := h.t_tb; have t3 := h.t_cm; have t4 := h.t_lg hil; have t5 := h.t_lm hil; have t6 := h.t_lb (by omega); refine ⟨?_, ?_, ?_, ?_, ?_⟩ <;> (intro e; rw [e] at t6; omega)
 have hfit : needC k ≤ r - usdL g.L (i : Int) + needC y.x.k := by have h8 := hfit9; rw [left_at hp hir] at h8; rw [hf9] at hfc; simp only [Option.some.injEq] at hfc; rw [hfc] at h8; exact h8
 refine CV_enter Try.f20 _ 43 [(0, .pointer (some ⟨nd, 0, none⟩)), (1, .agg #[.int .i64 p, .int .i64 v, .int .i64 c]), (2, .agg #[.int .i64 k.kind, .int .i64 k.peak, .int .i64 k.early, .int .i64 k.whole, .int .i64 k.burst, .int .i64 k.least])] Try.func20 rfl rfl (by kernel_rfl) rfl ?_
 refine VC_seq ?_
 refine VC_region ?_
 have hzs1 := hSn.size
 have hzl1 := hnd.lt
 have hzl2 := RowE.lt hrw
 have hzl3 := Tb.lt htab
 have hzl4 := Ld.lt hled
 have hzl5 := MapL.lt hcm
 refine VL_box (d := 4) (t := 28) (c := #[.int .i64 p, .int .i64 v, .int .i64 c]) (by kernel_rfl) (by kernel_rfl) ?_
 intro b1 w1 hn1
 replace hSn := Step.trans hSn (hn1.step No)
 replace hS := stepG_no hS (hn1.step No)
 replace hnd := hnd.no (hn1.step No)
 replace hrw := RowE.no hrw (hn1.step No)
 replace htab := Tb.no htab (hn1.step No)
 replace hled := Ld.no hled (hn1.step No)
 replace hcm := MapL.no hcm (hn1.step No)
 have ho1 := hn1.own
 have hzhn1 := hn1.size
 have hqhn1 := hn1.eqb
 have hzs2 := hSn.size
 have hzl6 := hnd.lt
 have hzl7 := RowE.lt hrw
 have hzl8 := Tb.lt htab
 have hzl9 := Ld.lt hled
 have hzl10 := MapL.lt hcm
 have hzl11 := ho1.lt
 refine VL_box (d := 5) (t := 30) (c := #[.int .i64 k.kind, .int .i64 k.peak, .int .i64 k.early, .int .i64 k.whole, .int .i64 k.burst, .int .i64 k.least]) (by kernel_rfl) (by kernel_rfl) ?_
 intro b2 w2 hn2
 replace hSn := Step.trans hSn (hn2.step No)
 replace hS := stepG_no hS (hn2.step No)
 replace hnd := hnd.no (hn2.step No)
 replace hrw := RowE.no hrw (hn2.step No)
 replace htab := Tb.no htab (hn2.step No)
 replace hled := Ld.no hled (hn2.step No)
 replace hcm := MapL.no hcm (hn2.step No)
 replace ho1 := ho1.no (hn2.step No)
 have ho2 := hn2.own
 have hzhn2 := hn2.size
 have hqhn2 := hn2.eqb
 refine VL_pure 3 [0, 4, 5] [(0, .pointer (some ⟨nd, 0, none⟩)), (4, .pointer (some ⟨b1, 0, none⟩)), (5, .pointer (some ⟨b2, 0, none⟩))] (by kernel_rfl) rfl ?_
 refine VL_end (by kernel_rfl) ?_
 refine VQ_next ?_
 refine VC_seq ?_
 refine VC_seq ?_
 refine VC_region ?_
 refine VL_pure 1 [0, 4, 5, 10] [(0, .pointer (some ⟨nd, 0, none⟩)), (4, .pointer (some ⟨b1, 0, none⟩)), (5, .pointer (some ⟨b2, 0, none⟩)), (10, .pointer (some ⟨nd, 0, none⟩))] (by kernel_rfl) rfl ?_
 refine VL_load (d := 11) (t := 28) (a := ⟨b1, 0, none⟩) (v := .agg #[.int .i64 p, .int .i64 v, .int .i64 c]) (by kernel_rfl) (by kernel_rfl) (Loads.ownL ho1 (n := 3) (by kernel_rfl) (by kernel_rfl) (by kernel_rfl)) ?_
 refine VL_load (d := 12) (t := 30) (a := ⟨b2, 0, none⟩) (v := .agg #[.int .i64 k.kind, .int .i64 k.peak, .int .i64 k.early, .int .i64 k.whole, .int .i64 k.burst, .int .i64 k.least]) (by kernel_rfl) (by kernel_rfl) (Loads.ownL ho2 (n := 6) (by kernel_rfl) (by kernel_rfl) (by kernel_rfl)) ?_
 have hzs3 := hSn.size
 have hzl12 := hnd.lt
 have hzl13 := RowE.lt hrw
 have hzl14 := Tb.lt htab
 have hzl15 := Ld.lt hled
 have hzl16 := MapL.lt hcm
 have hzl17 := ho1.lt
 have hzl18 := ho2.lt
 refine VL_call (d := 13) (f := 35) (args := #[.pointer (some ⟨nd, 0, none⟩), .agg #[.int .i64 p, .int .i64 v, .int .i64 c], .agg #[.int .i64 k.kind, .int .i64 k.peak, .int .i64 k.early, .int .i64 k.whole, .int .i64 k.burst, .int .i64 k.least]]) (by kernel_rfl) (by kernel_rfl) (by kernel_rfl) Try.call35 ((wrong_any nd lo X rooms g p v c k _ (h.no hSn)).mono (fun x w1 h9 => ⟨h9.1.trans (by rw [hw]), h9.2⟩ : ∀ x w1, _ → x = .int .i64 0 ∧ Step No _ w1)) ?_
 rintro _ w3 ⟨rfl, hc1⟩
 replace hSn := Step.trans hSn hc1
 replace hS := stepG_no hS hc1
 replace hnd := hnd.no hc1
 replace hrw := RowE.no hrw hc1
 replace htab := Tb.no htab hc1
 replace hled := Ld.no hled hc1
 replace hcm := MapL.no hcm hc1
 replace ho1 := ho1.no hc1
 replace ho2 := ho2.no hc1
 refine VL_pure 5 [0, 4, 5, 7] [(0, .pointer (some ⟨nd, 0, none⟩)), (4, .pointer (some ⟨b1, 0, none⟩)), (5, .pointer (some ⟨b2, 0, none⟩)), (7, .int .i64 0)] (by kernel_rfl) rfl ?_
 refine VL_end (by kernel_rfl) ?_
 refine VQ_next ?_
 refine VC_seq ?_
 refine VC_region ?_
 refine VL_pure 2 [0, 4, 5, 7, 15] [(0, .pointer (some ⟨nd, 0, none⟩)), (4, .pointer (some ⟨b1, 0, none⟩)), (5, .pointer (some ⟨b2, 0, none⟩)), (7, .int .i64 0), (15, .bool false)] (by kernel_rfl) rfl ?_
 refine VL_end (by kernel_rfl) ?_
 refine VQ_next ?_
 refine VC_false (by kernel_rfl) ?_
 refine VC_skip ?_
 refine VQ_next ?_
 refine VC_seq ?_
 refine VC_det [[], [0], [0, 1], [0, 1, 2], [], [0, 1, 2, 3, 4], [0, 1, 2, 3, 4, 5], [0, 1, 2, 3, 4, 5, 6], [0, 1, 2, 3, 4, 5, 6], [0, 1, 2, 3, 4, 5, 6, 7], [0, 1, 2, 3, 4, 5, 6, 7, 8, 9]] 10 [.pointer (some ⟨nd, 0, none⟩), .pointer (some ⟨nd, 0, none⟩), .pointer (some ⟨nd, 1, none⟩), .pointer (some ⟨g.tb, 0, none⟩), .agg #[.int .i64 p, .int .i64 v, .int .i64 c], .tuple #[.int .i64 y.id, .bool true], .tuple #[.int .i64 y.id, .bool true], .int .i64 y.id, .bool true, .int .i64 y.id] [0, 1, 2, 6, 7, 8, 9] [3, 4, 5] (by kernel_rfl) (by kernel_rfl) (by kernel_rfl) (by kernel_rfl) ?_ ?_
 ·intro w4 hs1
  replace hSn := Step.trans hSn hs1
  replace hS := stepG_no hS hs1
  replace hnd := hnd.no hs1
  replace hrw := RowE.no hrw hs1
  replace htab := Tb.no htab hs1
  replace hled := Ld.no hled hs1
  replace hcm := MapL.no hcm hs1
  replace ho1 := ho1.no hs1
  replace ho2 := ho2.no hs1
  exact ⟨Det1_load (d := 21) (t := 49) (a := ⟨nd, 1, none⟩) (by kernel_rfl) (by kernel_rfl) (Loads.own1 hnd (by kernel_rfl) (by rfl)), Det1_load (d := 22) (t := 28) (a := ⟨b1, 0, none⟩) (by kernel_rfl) (by kernel_rfl) (Loads.ownL ho1 (n := 3) (by kernel_rfl) (by kernel_rfl) (by kernel_rfl)), Det1_call (d := 23) (f := 36) (args := #[.pointer (some ⟨g.tb, 0, none⟩), .agg #[.int .i64 p, .int .i64 v, .int .i64 c]]) (by kernel_rfl) (by kernel_rfl) (by kernel_rfl) Try.call36 (by exact (tget p v c htab).mono (fun x w1 h9 => ⟨h9.1.trans (by rw [hlk]; rfl), h9.2⟩ : ∀ (x : Value) (w1 : World), _ → x = Value.tuple #[.int .i64 y.id, .bool true] ∧ Step No _ w1)), trivial⟩
 intro w4 hs1
 replace hSn := Step.trans hSn hs1
 replace hS := stepG_no hS hs1
 replace hnd := hnd.no hs1
 replace hrw := RowE.no hrw hs1
 replace htab := Tb.no htab hs1
 replace hled := Ld.no hled hs1
 replace hcm := MapL.no hcm hs1
 replace ho1 := ho1.no hs1
 replace ho2 := ho2.no hs1
 refine VL_keep [0, 4, 5, 25, 8] [(0, .pointer (some ⟨nd, 0, none⟩)), (4, .pointer (some ⟨b1, 0, none⟩)), (5, .pointer (some ⟨b2, 0, none⟩)), (25, .bool true), (8, .int .i64 y.id)] (by kernel_rfl) ?_
 refine VL_pure 11 [0, 4, 5, 8, 9] [(0, .pointer (some ⟨nd, 0, none⟩)), (4, .pointer (some ⟨b1, 0, none⟩)), (5, .pointer (some ⟨b2, 0, none⟩)), (8, .int .i64 y.id), (9, .bool true)] (by kernel_rfl) rfl ?_
 refine VL_end (by kernel_rfl) ?_
 refine VQ_next ?_
 refine VC_seq ?_
 refine VC_block ?_
 refine VC_seq ?_
 refine VC_region ?_
 refine VL_pure 3 [0, 4, 5, 8, 26] [(0, .pointer (some ⟨nd, 0, none⟩)), (4, .pointer (some ⟨b1, 0, none⟩)), (5, .pointer (some ⟨b2, 0, none⟩)), (8, .int .i64 y.id), (26, .bool false)] (by kernel_rfl) rfl ?_
 refine VL_end (by kernel_rfl) ?_
 refine VQ_next ?_
 refine VC_false (by kernel_rfl) ?_
 refine VC_seq ?_
 have hs2 := drew_step w4
 have hs2z : w4.heap.size = w4.drew.heap.size := rfl
 refine VC_text [[], [], [1], [0, 1, 2], [], [], [0, 1, 2, 3, 5], [0, 1, 2, 3, 4, 5, 6], [0, 1, 2, 3, 4, 5, 6, 7], [0, 1, 2, 3, 4, 5, 6, 7, 8]] 7 (fun x y => Step (fun k => w4.heap.size ≤ k) x y) [3, 6] [0, 1, 2, 4, 5, 3, 6] (by kernel_rfl) (by kernel_rfl) (by kernel_rfl) (by kernel_rfl) (fun x => Step.refl _ x) (fun h k => Step.trans h k) Step.weak ?_
 have hzl19 := hnd.lt
 have hzl20 := RowE.lt hrw
 have hzl21 := Tb.lt htab
 have hzl22 := Ld.lt hled
 have hzl23 := MapL.lt hcm
 have hzl24 := ho1.lt
 have hzl25 := ho2.lt
 generalize w4.drew = w5 at hs2 hs2z ⊢
 replace hS := stepG_no hS hs2
 replace hnd := hnd.no hs2
 replace hrw := RowE.no hrw hs2
 replace htab := Tb.no htab hs2
 replace hled := Ld.no hled hs2
 replace hcm := MapL.no hcm hs2
 replace ho1 := ho1.no hs2
 replace ho2 := ho2.no hs2
 refine VT_pures 2 (kn' := [(1, .pointer (some ⟨b1, 0, none⟩)), (0, .pointer (some ⟨nd, 0, none⟩))]) (by kernel_rfl) ?_
 refine VT_load (d := 32) (t := 3) (a := ⟨b1, 0, none⟩) (v := .int .i64 p) (by kernel_rfl) (by kernel_rfl) ?_ ?_
 ·intro w6 hr1
  replace hnd := hnd.step hr1 (by (try simp only); omega)
  replace hrw := RowE.step hrw hr1 (by (try simp only); omega)
  replace htab := Tb.step htab hr1 (by (try simp only); omega)
  replace hled := Ld.step hled hr1 (by (try simp only); omega) (by (try simp only); omega)
  replace hcm := MapL.step hcm hr1 (by (try simp only); omega)
  replace ho1 := ho1.step hr1 (by (try simp only); omega)
  replace ho2 := ho2.step hr1 (by (try simp only); omega)
  exact (Loads.own1 ho1 (by kernel_rfl) (by rfl))
 refine VT_pures 1 (kn' := [(4, .int .i64 y.id), (2, .int .i64 p), (1, .pointer (some ⟨b1, 0, none⟩)), (0, .pointer (some ⟨nd, 0, none⟩))]) (by kernel_rfl) ?_
 refine VT_load (d := 35) (t := 30) (a := ⟨b2, 0, none⟩) (v := .agg #[.int .i64 k.kind, .int .i64 k.peak, .int .i64 k.early, .int .i64 k.whole, .int .i64 k.burst, .int .i64 k.least]) (by kernel_rfl) (by kernel_rfl) ?_ ?_
 ·intro w7 hr2
  replace hnd := hnd.step hr2 (by (try simp only); omega)
  replace hrw := RowE.step hrw hr2 (by (try simp only); omega)
  replace htab := Tb.step htab hr2 (by (try simp only); omega)
  replace hled := Ld.step hled hr2 (by (try simp only); omega) (by (try simp only); omega)
  replace hcm := MapL.step hcm hr2 (by (try simp only); omega)
  replace ho1 := ho1.step hr2 (by (try simp only); omega)
  replace ho2 := ho2.step hr2 (by (try simp only); omega)
  exact (Loads.ownL ho2 (n := 6) (by kernel_rfl) (by kernel_rfl) (by kernel_rfl))
 refine VT_chain (by kernel_rfl) ?_
 intro w8 hs3
 have hzhs3 := hs3.size
 replace hS := stepG_no hS hs3
 replace hnd := hnd.no hs3
 replace hrw := RowE.no hrw hs3
 replace htab := Tb.no htab hs3
 replace hled := Ld.no hled hs3
 replace hcm := MapL.no hcm hs3
 replace ho1 := ho1.no hs3
 replace ho2 := ho2.no hs3
 have hzl26 := hnd.lt
 have hzl27 := RowE.lt hrw
 have hzl28 := Tb.lt htab
 have hzl29 := Ld.lt hled
 have hzl30 := MapL.lt hcm
 have hzl31 := ho1.lt
 have hzl32 := ho2.lt
 refine VTc_call (d := 33) (f := 23) (args := #[.pointer (some ⟨nd, 0, none⟩), .int .i64 p]) (by kernel_rfl) (by kernel_rfl) (by kernel_rfl) Try.call23 (link_raw nd rooms g _ _ _ p i hp hil _ hnd hrw) ?_ ?_
 ·rintro _ w9 ⟨rfl, hc2⟩
  exact Step.mono hc2 (by intro i hi; first | exact hi.elim | exact .inl hi | ((try simp only at hi ⊢); omega))
 rintro _ w9 ⟨rfl, hc2⟩
 have hzhc2 := (hc2).size
 replace hS := stepG_no hS hc2
 replace hnd := hnd.no hc2
 replace hrw := RowE.no hrw hc2
 replace htab := Tb.no htab hc2
 replace hled := Ld.no hled hc2
 replace hcm := MapL.no hcm hc2
 replace ho1 := ho1.no hc2
 replace ho2 := ho2.no hc2
 refine VT_chain (by kernel_rfl) ?_
 intro w10 hs4
 have hzhs4 := hs4.size
 replace hS := stepG_no hS hs4
 replace hnd := hnd.no hs4
 replace hrw := RowE.no hrw hs4
 replace htab := Tb.no htab hs4
 replace hled := Ld.no hled hs4
 replace hcm := MapL.no hcm hs4
 replace ho1 := ho1.no hs4
 replace ho2 := ho2.no hs4
 have hzl33 := hnd.lt
 have hzl34 := RowE.lt hrw
 have hzl35 := Tb.lt htab
 have hzl36 := Ld.lt hled
 have hzl37 := MapL.lt hcm
 have hzl38 := ho1.lt
 have hzl39 := ho2.lt
 refine VTc_call (d := 36) (f := 14) (args := #[.agg #[.int .i64 k.kind, .int .i64 k.peak, .int .i64 k.early, .int .i64 k.whole, .int .i64 k.burst, .int .i64 k.least]]) (by kernel_rfl) (by kernel_rfl) (by kernel_rfl) Try.call14 (need_any k _) ?_ ?_
 ·rintro _ w11 ⟨rfl, hc3⟩
  exact Step.mono hc3 (by intro i hi; first | exact hi.elim | exact .inl hi | ((try simp only at hi ⊢); omega))
 rintro _ w11 ⟨rfl, hc3⟩
 have hzhc3 := (hc3).size
 replace hS := stepG_no hS hc3
 replace hnd := hnd.no hc3
 replace hrw := RowE.no hrw hc3
 replace htab := Tb.no htab hc3
 replace hled := Ld.no hled hc3
 replace hcm := MapL.no hcm hc3
 replace ho1 := ho1.no hc3
 replace ho2 := ho2.no hc3
 refine VT_end ?_
 intro w12 hs5
 replace hS := stepG_no hS hs5
 replace hnd := hnd.no hs5
 replace hrw := RowE.no hrw hs5
 replace htab := Tb.no htab hs5
 replace hled := Ld.no hled hs5
 replace hcm := MapL.no hcm hs5
 replace ho1 := ho1.no hs5
 replace ho2 := ho2.no hs5
 refine VL_keep [0, 5, 8, 34, 33, 36] [(0, .pointer (some ⟨nd, 0, none⟩)), (5, .pointer (some ⟨b2, 0, none⟩)), (8, .int .i64 y.id), (34, .int .i64 y.id), (33, .pointer (some ⟨(g.lg i), 0, none⟩)), (36, .int .i64 (needC k))] (by kernel_rfl) ?_
 have hzl40 := hnd.lt
 have hzl41 := RowE.lt hrw
 have hzl42 := Tb.lt htab
 have hzl43 := Ld.lt hled
 have hzl44 := MapL.lt hcm
 have hzl45 := ho1.lt
 have hzl46 := ho2.lt
 refine VL_call (d := 37) (f := 38) (args := #[.pointer (some ⟨(g.lg i), 0, none⟩), .int .i64 y.id, .int .i64 (needC k)]) (by kernel_rfl) (by kernel_rfl) (by kernel_rfl) Try.call38 (lchange_yes y.id (needC k) (needC y.x.k) hled hu0 hu1 hrM hnn (needC_le k).1 (needC_le k).2 (needC_le y.x.k).1 hnu hfit) ?_
 rintro _ w13 ⟨rfl, hL1, hc4⟩
 have hzhc4 := (hc4).size
 replace hS := Step.trans hS (Step.mono hc4 (fun i9 h9 => by rcases h9 with h9 | h9; exact .inr (.inr (.inr (.inl h9))); exact .inr (.inr (.inr (.inr h9)))))
 replace hnd := hnd.step hc4 (by (try simp only); omega)
 replace hrw := RowE.step hrw hc4 (by (try simp only); omega)
 replace htab := Tb.step htab hc4 (by (try simp only); omega)
 replace hcm := MapL.step hcm hc4 (by (try simp only); omega)
 replace ho1 := ho1.step hc4 (by (try simp only); omega)
 replace ho2 := ho2.step hc4 (by (try simp only); omega)
 refine VL_pure 10 [0, 5, 8, 29] [(0, .pointer (some ⟨nd, 0, none⟩)), (5, .pointer (some ⟨b2, 0, none⟩)), (8, .int .i64 y.id), (29, .bool false)] (by kernel_rfl) rfl ?_
 refine VL_end (by kernel_rfl) ?_
 refine VQ_next ?_
 refine VC_false (by kernel_rfl) ?_
 refine VC_skip ?_
 refine VQ_block_normal ?_
 refine VQ_next ?_
 refine VC_seq ?_
 refine VC_region ?_
 refine VL_pure 2 [5, 39, 40] [(5, .pointer (some ⟨b2, 0, none⟩)), (39, .pointer (some ⟨nd, 0, none⟩)), (40, .int .i64 y.id)] (by kernel_rfl) rfl ?_
 refine VL_load (d := 41) (t := 30) (a := ⟨b2, 0, none⟩) (v := .agg #[.int .i64 k.kind, .int .i64 k.peak, .int .i64 k.early, .int .i64 k.whole, .int .i64 k.burst, .int .i64 k.least]) (by kernel_rfl) (by kernel_rfl) (Loads.ownL ho2 (n := 6) (by kernel_rfl) (by kernel_rfl) (by kernel_rfl)) ?_
 have hzl47 := hnd.lt
 have hzl48 := RowE.lt hrw
 have hzl49 := Tb.lt htab
 have hzl50 := MapL.lt hcm
 have hzl51 := ho1.lt
 have hzl52 := ho2.lt
 have hzl53 := Ld.lt hL1
 refine VL_call (d := 42) (f := 34) (args := #[.pointer (some ⟨nd, 0, none⟩), .int .i64 y.id, .agg #[.int .i64 k.kind, .int .i64 k.peak, .int .i64 k.early, .int .i64 k.whole, .int .i64 k.burst, .int .i64 k.least]]) (by kernel_rfl) (by kernel_rfl) (by kernel_rfl) Try.call34 (nput_any nd g.cm _ _ _ g.M y.id k hr _ hnd hcm) ?_
 rintro _ w14 ⟨pp9, Y9, rfl, hY9, hPl, hM1, hc5⟩
 replace hS := Step.trans hS (Step.mono hc5 (fun i9 h9 => .inr (.inr (.inl h9))))
 replace hnd := hnd.step hc5 (show ¬ nd = g.cm by omega)
 replace hrw := RowE.step hrw hc5 (show ¬ g.lb = g.cm by omega)
 replace htab := Tb.step htab hc5 (show ¬ g.tb = g.cm by omega)
 replace ho1 := ho1.step hc5 (show ¬ b1 = g.cm by omega)
 replace ho2 := ho2.step hc5 (show ¬ b2 = g.cm by omega)
 replace hL1 := Ld.step hL1 hc5 (show ¬ g.lg i = g.cm by omega) (show ¬ g.lm i = g.cm by omega)
 replace hY9 : ∀ q, Y9 q → w.heap.size ≤ q := fun q hq => by have h9 := hY9 q hq; omega
 refine VL_end (by kernel_rfl) ?_
 refine VQ_next ?_
 refine VC_seq ?_
 refine VC_region ?_
 refine VL_pure 1 [6] [(6, .int .i64 0)] (by kernel_rfl) rfl ?_
 refine VL_end (by kernel_rfl) ?_
 refine VQ_next ?_
 refine VC_ret ?_
 refine VQ_ret1 (.int .i64 0) (.inr rfl) rfl rfl ?_
 have hX9 := h.changed hir hp hc hfI hS (Own.cast hnd (by rw [hla])) htab hL1 hM1 hPl hY9 hlo
 exact ⟨rfl, _, _, hX9, by unfold chgN; rw [if_pos hc]; exact setI_x _ _ _ _ _ _ (fun y => rfl), Nat.le_succ _, fun q hq => hq.elim .inl (fun h9 => .inr (hY9 q h9)), Step.mono hS (fiveF_X h hil)⟩

set_option maxRecDepth 100000 in
set_option maxHeartbeats 4000000 in
theorem drop_yes (nd lo : Nat) (X : Nat → Prop) (rooms : List Int) (g : NdG) (p v c : Int) (w : World) (h : NdX w nd X lo rooms g) (hth : (lookE (g.ci.map Ci.ent) p v c).isSome = true) :
  CV Try.prog 21 #[.pointer (some ⟨nd, 0, none⟩), .agg #[.int .i64 p, .int .i64 v, .int .i64 c]] w (fun x w1 => x = .bool true ∧ ∃ g9 X9, NdX w1 nd X9 lo rooms g9 ∧ g9.L = delC g.L p v c ∧ g9.next ≤ g.next + 1 ∧ (∀ q, X9 q → X q ∨ w.heap.size ≤ q) ∧ Step X w w1) := by
 obtain ⟨y, i, r, hfI, hym, hlk, hp, hil, hir, hled0, hnn, hmm, hpl0, hfc, hu0, hu1, hrM, hnu⟩ := h.there hth
 obtain ⟨hla, hrw, hxb⟩ := h.links (by omega)
 have hnd := h.own
 rw [hla] at hnd
 have htab := h.tab
 have hled : Ld w (g.lg i) (g.lm i) r (usdL g.L (i : Int)) (g.N i) := h.led i r hir
 have hcm := h.cmap
 have hS : Step (fiveF nd g i) w w := Step.refl _ _
 have hSn : Step No w w := Step.refl _ _
 obtain ⟨n1, n2, n3, n4, n5, n6, n7, n8, n9, n10⟩ := h.five hil
 have hnl := hnd.lt
 have htl := htab.lt
 have hll := hled.lt
 have hml := hcm.lt
 have hbl := hrw.lt
 have hb5 : g.lb ≠ nd ∧ g.lb ≠ g.tb ∧ g.lb ≠ g.cm ∧ g.lb ≠ g.lg i ∧ g.lb ≠ g.lm i := by have t1 := h.t_nd; have t2 := h.t_tb; have t3 := h.t_cm; have t4 := h.t_lg hil; have t5 := h.t_lm hil; have t6 := h.t_lb (by omega); refine ⟨?_, ?_, ?_, ?_, ?_⟩ <;> (intro e; rw [e] at t6; omega)
 refine CV_enter Try.f21 _ 32 [(0, .pointer (some ⟨nd, 0, none⟩)), (1, .agg #[.int .i64 p, .int .i64 v, .int .i64 c])] Try.func21 rfl rfl (by kernel_rfl) rfl ?_
 refine VC_seq ?_
 refine VC_region ?_
 have hzs1 := hSn.size
 have hzl1 := hnd.lt
 have hzl2 := RowE.lt hrw
 have hzl3 := Tb.lt htab
 have hzl4 := Ld.lt hled
 have hzl5 := MapL.lt hcm
 refine VL_box (d := 3) (t := 28) (c := #[.int .i64 p, .int .i64 v, .int .i64 c]) (by kernel_rfl) (by kernel_rfl) ?_
 intro b1 w1 hn1
 replace hSn := Step.trans hSn (hn1.step No)
 replace hS := stepG_no hS (hn1.step No)
 replace hnd := hnd.no (hn1.step No)
 replace hrw := RowE.no hrw (hn1.step No)
 replace htab := Tb.no htab (hn1.step No)
 replace hled := Ld.no hled (hn1.step No)
 replace hcm := MapL.no hcm (hn1.step No)
 have ho1 := hn1.own
 have hzhn1 := hn1.size
 have hqhn1 := hn1.eqb
 refine VL_pure 2 [0, 3] [(0, .pointer (some ⟨nd, 0, none⟩)), (3, .pointer (some ⟨b1, 0, none⟩))] (by kernel_rfl) rfl ?_
 refine VL_end (by kernel_rfl) ?_
 refine VQ_next ?_
 refine VC_seq ?_
 refine VC_region ?_
 refine VL_pure 1 [0, 3, 8] [(0, .pointer (some ⟨nd, 0, none⟩)), (3, .pointer (some ⟨b1, 0, none⟩)), (8, .pointer (some ⟨nd, 0, none⟩))] (by kernel_rfl) rfl ?_
 refine VL_load (d := 9) (t := 28) (a := ⟨b1, 0, none⟩) (v := .agg #[.int .i64 p, .int .i64 v, .int .i64 c]) (by kernel_rfl) (by kernel_rfl) (Loads.ownL ho1 (n := 3) (by kernel_rfl) (by kernel_rfl) (by kernel_rfl)) ?_
 have hzs2 := hSn.size
 have hzl6 := hnd.lt
 have hzl7 := RowE.lt hrw
 have hzl8 := Tb.lt htab
 have hzl9 := Ld.lt hled
 have hzl10 := MapL.lt hcm
 have hzl11 := ho1.lt
 refine VL_call (d := 10) (f := 27) (args := #[.pointer (some ⟨nd, 0, none⟩), .agg #[.int .i64 p, .int .i64 v, .int .i64 c]]) (by kernel_rfl) (by kernel_rfl) (by kernel_rfl) Try.call27 ((nfind_any nd lo X rooms g p v c _ (h.no hSn)).mono (fun x w1 h9 => ⟨h9.1.trans (by rw [hlk]; rfl), h9.2⟩ : ∀ (x : Value) (w1 : World), _ → x = Value.tuple #[.int .i64 y.id, .bool true] ∧ Step No _ w1)) ?_
 rintro _ w2 ⟨rfl, hc1⟩
 replace hSn := Step.trans hSn hc1
 replace hS := stepG_no hS hc1
 replace hnd := hnd.no hc1
 replace hrw := RowE.no hrw hc1
 replace htab := Tb.no htab hc1
 replace hled := Ld.no hled hc1
 replace hcm := MapL.no hcm hc1
 replace ho1 := ho1.no hc1
 refine VL_pure 8 [0, 3, 5, 6] [(0, .pointer (some ⟨nd, 0, none⟩)), (3, .pointer (some ⟨b1, 0, none⟩)), (5, .int .i64 y.id), (6, .bool true)] (by kernel_rfl) rfl ?_
 refine VL_end (by kernel_rfl) ?_
 refine VQ_next ?_
 refine VC_seq ?_
 refine VC_seq ?_
 refine VC_region ?_
 refine VL_pure 1 [0, 3, 5, 6, 13] [(0, .pointer (some ⟨nd, 0, none⟩)), (3, .pointer (some ⟨b1, 0, none⟩)), (5, .int .i64 y.id), (6, .bool true), (13, .bool true)] (by kernel_rfl) rfl ?_
 refine VL_end (by kernel_rfl) ?_
 refine VQ_next ?_
 refine VC_true (by kernel_rfl) ?_
 refine VC_seq ?_
 have hs1 := drew_step w2
 have hs1z : w2.heap.size = w2.drew.heap.size := rfl
 refine VC_text [[], [0], [0, 1], [0, 1, 2], [], [0, 1, 2, 3, 4]] 5 (fun x y => Step (fun k => w2.heap.size ≤ k) x y) [] [0, 1, 2, 3, 4] (by kernel_rfl) (by kernel_rfl) (by kernel_rfl) (by kernel_rfl) (fun x => Step.refl _ x) (fun h k => Step.trans h k) Step.weak ?_
 have hzl12 := hnd.lt
 have hzl13 := RowE.lt hrw
 have hzl14 := Tb.lt htab
 have hzl15 := Ld.lt hled
 have hzl16 := MapL.lt hcm
 have hzl17 := ho1.lt
 generalize w2.drew = w3 at hs1 hs1z ⊢
 replace hS := stepG_no hS hs1
 replace hnd := hnd.no hs1
 replace hrw := RowE.no hrw hs1
 replace htab := Tb.no htab hs1
 replace hled := Ld.no hled hs1
 replace hcm := MapL.no hcm hs1
 replace ho1 := ho1.no hs1
 refine VT_pures 3 (kn' := [(2, .pointer (some ⟨nd, 1, none⟩)), (1, .pointer (some ⟨nd, 0, none⟩)), (0, .pointer (some ⟨nd, 0, none⟩))]) (by kernel_rfl) ?_
 refine VT_load (d := 17) (t := 49) (a := ⟨nd, 1, none⟩) (v := .pointer (some ⟨g.tb, 0, none⟩)) (by kernel_rfl) (by kernel_rfl) ?_ ?_
 ·intro w4 hr1
  replace hnd := hnd.step hr1 (by (try simp only); omega)
  replace hrw := RowE.step hrw hr1 (by (try simp only); omega)
  replace htab := Tb.step htab hr1 (by (try simp only); omega)
  replace hled := Ld.step hled hr1 (by (try simp only); omega) (by (try simp only); omega)
  replace hcm := MapL.step hcm hr1 (by (try simp only); omega)
  replace ho1 := ho1.step hr1 (by (try simp only); omega)
  exact (Loads.own1 hnd (by kernel_rfl) (by rfl))
 refine VT_load (d := 18) (t := 28) (a := ⟨b1, 0, none⟩) (v := .agg #[.int .i64 p, .int .i64 v, .int .i64 c]) (by kernel_rfl) (by kernel_rfl) ?_ ?_
 ·intro w5 hr2
  replace hnd := hnd.step hr2 (by (try simp only); omega)
  replace hrw := RowE.step hrw hr2 (by (try simp only); omega)
  replace htab := Tb.step htab hr2 (by (try simp only); omega)
  replace hled := Ld.step hled hr2 (by (try simp only); omega) (by (try simp only); omega)
  replace hcm := MapL.step hcm hr2 (by (try simp only); omega)
  replace ho1 := ho1.step hr2 (by (try simp only); omega)
  exact (Loads.ownL ho1 (n := 3) (by kernel_rfl) (by kernel_rfl) (by kernel_rfl))
 refine VT_end ?_
 intro w6 hs2
 replace hS := stepG_no hS hs2
 replace hnd := hnd.no hs2
 replace hrw := RowE.no hrw hs2
 replace htab := Tb.no htab hs2
 replace hled := Ld.no hled hs2
 replace hcm := MapL.no hcm hs2
 replace ho1 := ho1.no hs2
 refine VL_keep [0, 3, 5, 6, 17, 18] [(0, .pointer (some ⟨nd, 0, none⟩)), (3, .pointer (some ⟨b1, 0, none⟩)), (5, .int .i64 y.id), (6, .bool true), (17, .pointer (some ⟨g.tb, 0, none⟩)), (18, .agg #[.int .i64 p, .int .i64 v, .int .i64 c])] (by kernel_rfl) ?_
 have hzl18 := hnd.lt
 have hzl19 := RowE.lt hrw
 have hzl20 := Tb.lt htab
 have hzl21 := Ld.lt hled
 have hzl22 := MapL.lt hcm
 have hzl23 := ho1.lt
 refine VL_call (d := 19) (f := 39) (args := #[.pointer (some ⟨g.tb, 0, none⟩), .agg #[.int .i64 p, .int .i64 v, .int .i64 c]]) (by kernel_rfl) (by kernel_rfl) (by kernel_rfl) Try.call39 (tdrop p v c htab) ?_
 rintro _ w7 ⟨rfl, hT1, hc2⟩
 replace hS := Step.trans hS (Step.mono hc2 (fun i9 h9 => .inr (.inl h9)))
 replace hnd := hnd.step hc2 (show ¬ nd = g.tb by omega)
 replace hrw := RowE.step hrw hc2 (show ¬ g.lb = g.tb by omega)
 replace hled := Ld.step hled hc2 (show ¬ g.lg i = g.tb by omega) (show ¬ g.lm i = g.tb by omega)
 replace hcm := MapL.step hcm hc2 (show ¬ g.cm = g.tb by omega)
 replace ho1 := ho1.step hc2 (show ¬ b1 = g.tb by omega)
 refine VL_end (by kernel_rfl) ?_
 refine VQ_next ?_
 refine VC_seq ?_
 refine VC_region ?_
 refine VL_pure 2 [0, 5, 6, 20, 21] [(0, .pointer (some ⟨nd, 0, none⟩)), (5, .int .i64 y.id), (6, .bool true), (20, .pointer (some ⟨nd, 0, none⟩)), (21, .pointer (some ⟨b1, 0, none⟩))] (by kernel_rfl) rfl ?_
 refine VL_load (d := 22) (t := 3) (a := ⟨b1, 0, none⟩) (v := .int .i64 p) (by kernel_rfl) (by kernel_rfl) (Loads.own1 ho1 (by kernel_rfl) (by rfl)) ?_
 have hzl24 := hnd.lt
 have hzl25 := RowE.lt hrw
 have hzl26 := Ld.lt hled
 have hzl27 := MapL.lt hcm
 have hzl28 := ho1.lt
 have hzl29 := Tb.lt hT1
 refine VL_call (d := 23) (f := 23) (args := #[.pointer (some ⟨nd, 0, none⟩), .int .i64 p]) (by kernel_rfl) (by kernel_rfl) (by kernel_rfl) Try.call23 (link_raw nd rooms g _ _ _ p i hp hil _ hnd hrw) ?_
 rintro _ w8 ⟨rfl, hc3⟩
 replace hS := stepG_no hS hc3
 replace hnd := hnd.no hc3
 replace hrw := RowE.no hrw hc3
 replace hled := Ld.no hled hc3
 replace hcm := MapL.no hcm hc3
 replace ho1 := ho1.no hc3
 replace hT1 := Tb.no hT1 hc3
 refine VL_pure 5 [0, 5, 6, 23, 24] [(0, .pointer (some ⟨nd, 0, none⟩)), (5, .int .i64 y.id), (6, .bool true), (23, .pointer (some ⟨(g.lg i), 0, none⟩)), (24, .int .i64 y.id)] (by kernel_rfl) rfl ?_
 have hzl30 := hnd.lt
 have hzl31 := RowE.lt hrw
 have hzl32 := Ld.lt hled
 have hzl33 := MapL.lt hcm
 have hzl34 := ho1.lt
 have hzl35 := Tb.lt hT1
 refine VL_call (d := 25) (f := 40) (args := #[.pointer (some ⟨(g.lg i), 0, none⟩), .int .i64 y.id]) (by kernel_rfl) (by kernel_rfl) (by kernel_rfl) Try.call40 (lfree_any (g.lg i) (g.lm i) r (usdL g.L (i : Int)) (g.N i) y.id (needC y.x.k) _ hled hu0 hu1 hrM hnn (needC_le y.x.k).1 hnu) ?_
 rintro _ w9 ⟨rfl, hL1, hc4⟩
 have hzhc4 := (hc4).size
 replace hS := Step.trans hS (Step.mono hc4 (fun i9 h9 => by rcases h9 with h9 | h9; exact .inr (.inr (.inr (.inl h9))); exact .inr (.inr (.inr (.inr h9)))))
 replace hnd := hnd.step hc4 (by (try simp only); omega)
 replace hrw := RowE.step hrw hc4 (by (try simp only); omega)
 replace hcm := MapL.step hcm hc4 (by (try simp only); omega)
 replace ho1 := ho1.step hc4 (by (try simp only); omega)
 replace hT1 := Tb.step hT1 hc4 (by (try simp only); omega)
 refine VL_end (by kernel_rfl) ?_
 refine VQ_next ?_
 refine VC_region ?_
 refine VL_pure 3 [5, 6, 28] [(5, .int .i64 y.id), (6, .bool true), (28, .pointer (some ⟨nd, 2, none⟩))] (by kernel_rfl) rfl ?_
 refine VL_load (d := 29) (t := 51) (a := ⟨nd, 2, none⟩) (v := .map (some g.cm)) (by kernel_rfl) (by kernel_rfl) (Loads.own1 hnd (by kernel_rfl) (by rfl)) ?_
 refine VL_pure 5 [6, 29, 30] [(6, .bool true), (29, .map (some g.cm)), (30, .int .i64 y.id)] (by kernel_rfl) rfl ?_
 refine VL_del (ek := ei) (u := uc) (m := g.cm) (kt := 3) (k := y.id) (by kernel_rfl) (by kernel_rfl) keyTi hcm ?_
 intro w10 hw1
 replace hS := Step.trans hS (Step.mono hw1.step (fun i9 h9 => .inr (.inr (.inl h9))))
 replace hnd := hnd.step hw1.step (show ¬ nd = g.cm by omega)
 replace hrw := RowE.step hrw hw1.step (show ¬ g.lb = g.cm by omega)
 replace ho1 := ho1.step hw1.step (show ¬ b1 = g.cm by omega)
 replace hT1 := Tb.step hT1 hw1.step (show ¬ g.tb = g.cm by omega)
 replace hL1 := Ld.step hL1 hw1.step (show ¬ g.lg i = g.cm by omega) (show ¬ g.lm i = g.cm by omega)
 have hM1 := hw1.map
 have hzhw1 := hw1.same
 refine VL_end (by kernel_rfl) ?_
 refine VQ_next ?_
 refine VC_seq ?_
 refine VC_region ?_
 refine VL_pure 2 [4] [(4, .bool true)] (by kernel_rfl) rfl ?_
 refine VL_end (by kernel_rfl) ?_
 refine VQ_next ?_
 refine VC_ret ?_
 refine VQ_ret1 (.bool true) (.inr rfl) rfl rfl ?_
 have hX9 := h.dropped hir hp hfI hS (Own.cast hnd (by rw [hla])) hT1 hL1 hM1
 exact ⟨rfl, _, _, hX9, delI_x _ _ _ _, Nat.le_succ _, fun q hq => .inl hq, Step.mono hS (fiveF_X h hil)⟩

set_option maxRecDepth 100000 in
set_option maxHeartbeats 4000000 in
theorem ndrop_no (nd lo : Nat) (X : Nat → Prop) (rooms : List Int) (g : NdG) (p v c : Int) (w : World) (h : NdX w nd X lo rooms g) (hth : (lookE (g.ci.map Ci.ent) p v c).isSome = false) :
  CV Try.prog 21 #[.pointer (some ⟨nd, 0, none⟩), .agg #[.int .i64 p, .int .i64 v, .int .i64 c]] w (fun x w1 => x = .bool false ∧ Step No w w1) := by
 have hS : Step No w w := Step.refl _ _
 have hSn : Step No w w := Step.refl _ _
 have hnd := h.own
 have htab := h.tab
 refine CV_enter Try.f21 _ 32 [(0, .pointer (some ⟨nd, 0, none⟩)), (1, .agg #[.int .i64 p, .int .i64 v, .int .i64 c])] Try.func21 rfl rfl (by kernel_rfl) rfl ?_
 refine VC_seq ?_
 refine VC_region ?_
 have hzs1 := hS.size
 have hzs2 := hSn.size
 have hzl1 := hnd.lt
 have hzl2 := Tb.lt htab
 refine VL_box (d := 3) (t := 28) (c := #[.int .i64 p, .int .i64 v, .int .i64 c]) (by kernel_rfl) (by kernel_rfl) ?_
 intro b1 w1 hn1
 replace hS := Step.trans hS (hn1.step No)
 replace hSn := Step.trans hSn (hn1.step No)
 replace hnd := hnd.no (hn1.step No)
 replace htab := Tb.no htab (hn1.step No)
 have ho1 := hn1.own
 have hzhn1 := hn1.size
 have hqhn1 := hn1.eqb
 refine VL_pure 2 [0, 3] [(0, .pointer (some ⟨nd, 0, none⟩)), (3, .pointer (some ⟨b1, 0, none⟩))] (by kernel_rfl) rfl ?_
 refine VL_end (by kernel_rfl) ?_
 refine VQ_next ?_
 refine VC_seq ?_
 refine VC_region ?_
 refine VL_pure 1 [0, 3, 8] [(0, .pointer (some ⟨nd, 0, none⟩)), (3, .pointer (some ⟨b1, 0, none⟩)), (8, .pointer (some ⟨nd, 0, none⟩))] (by kernel_rfl) rfl ?_
 refine VL_load (d := 9) (t := 28) (a := ⟨b1, 0, none⟩) (v := .agg #[.int .i64 p, .int .i64 v, .int .i64 c]) (by kernel_rfl) (by kernel_rfl) (Loads.ownL ho1 (n := 3) (by kernel_rfl) (by kernel_rfl) (by kernel_rfl)) ?_
 have hzs3 := hS.size
 have hzs4 := hSn.size
 have hzl3 := hnd.lt
 have hzl4 := Tb.lt htab
 have hzl5 := ho1.lt
 refine VL_call (d := 10) (f := 27) (args := #[.pointer (some ⟨nd, 0, none⟩), .agg #[.int .i64 p, .int .i64 v, .int .i64 c]]) (by kernel_rfl) (by kernel_rfl) (by kernel_rfl) Try.call27 (nfind_any nd lo X rooms g p v c _ (h.no hSn)) ?_
 rintro _ w2 ⟨rfl, hc1⟩
 replace hS := Step.trans hS hc1
 replace hSn := Step.trans hSn hc1
 replace hnd := hnd.no hc1
 replace htab := Tb.no htab hc1
 replace ho1 := ho1.no hc1
 refine VL_pure 8 [0, 3, 5, 6] [(0, .pointer (some ⟨nd, 0, none⟩)), (3, .pointer (some ⟨b1, 0, none⟩)), (5, .int .i64 ((lookE (g.ci.map Ci.ent) p v c).getD 0)), (6, .bool ((lookE (g.ci.map Ci.ent) p v c).isSome))] (by kernel_rfl) rfl ?_
 refine VL_end (by kernel_rfl) ?_
 refine VQ_next ?_
 refine VC_seq ?_
 refine VC_seq ?_
 refine VC_region ?_
 refine VL_pure 1 [0, 3, 5, 6, 13] [(0, .pointer (some ⟨nd, 0, none⟩)), (3, .pointer (some ⟨b1, 0, none⟩)), (5, .int .i64 ((lookE (g.ci.map Ci.ent) p v c).getD 0)), (6, .bool ((lookE (g.ci.map Ci.ent) p v c).isSome)), (13, .bool ((lookE (g.ci.map Ci.ent) p v c).isSome))] (by kernel_rfl) rfl ?_
 refine VL_end (by kernel_rfl) ?_
 refine VQ_next ?_
 refine VC_is (b := (lookE (g.ci.map Ci.ent) p v c).isSome) false (by kernel_rfl) hth ?_
 refine VC_ite_false ?_
 refine VC_skip ?_
 refine VQ_next ?_
 refine VC_seq ?_
 refine VC_region ?_
 refine VL_pure 2 [4] [(4, .bool ((lookE (g.ci.map Ci.ent) p v c).isSome))] (by kernel_rfl) rfl ?_
 refine VL_end (by kernel_rfl) ?_
 refine VQ_next ?_
 refine VC_ret ?_
 refine VQ_ret1 (.bool ((lookE (g.ci.map Ci.ent) p v c).isSome)) (.inr rfl) rfl rfl ?_
 exact ⟨congrArg Value.bool (by first | rfl | exact hth), hS⟩

theorem stepY9 {Y : Nat → Prop} {w w1 w2 : World} (h : Step Y w w1) (k : Step No w1 w2) : Step Y w w2 := Step.trans h k.weak
set_option maxRecDepth 100000 in
set_option maxHeartbeats 4000000 in
theorem verdict_yes (nd lo : Nat) (X : Nat → Prop) (rooms : List Int) (g : NdG) (p v c t clp : Int) (w : World) (h : NdX w nd X lo rooms g) (hth : (lookE (g.ci.map Ci.ent) p v c).isSome = true) :
  CV Try.prog 22 #[.pointer (some ⟨nd, 0, none⟩), .agg #[.int .i64 p, .int .i64 v, .int .i64 c], .int .i64 t, .int .i64 clp] w (fun x w1 => x = .tuple #[.int .i64 (verV g.L p v c t clp), .bool true] ∧ ∃ g9 X9, NdX w1 nd X9 lo rooms g9 ∧ g9.L = verN g.L p v c t clp ∧ g9.next ≤ g.next + 1 ∧ (∀ q, X9 q → X q ∨ w.heap.size ≤ q) ∧ Step X w w1) := by
 obtain ⟨y, i, r, hfI, hym, hlk, hp, hil, hir, hled0, hnn, hmm, hpl0, hfc, hu0, hu1, hrM, hnu⟩ := h.there hth
 have hS : Step y.Y w w := Step.refl _ _
 have hSn : Step No w w := Step.refl _ _
 have hnd := h.own
 have htab := h.tab
 have hcm := h.cmap
 have hvv : verV g.L p v c t clp = polV (alwaysC y.x.k) t clp y.x.rs := by unfold verV; rw [hfc]
 refine CV_enter Try.f22 _ 30 [(0, .pointer (some ⟨nd, 0, none⟩)), (1, .agg #[.int .i64 p, .int .i64 v, .int .i64 c]), (2, .int .i64 t), (3, .int .i64 clp)] Try.func22 rfl rfl (by kernel_rfl) rfl ?_
 refine VC_seq ?_
 refine VC_region ?_
 have hzs1 := hSn.size
 have hzl1 := hnd.lt
 have hzl2 := Tb.lt htab
 have hzl3 := MapL.lt hcm
 refine VL_box (d := 5) (t := 28) (c := #[.int .i64 p, .int .i64 v, .int .i64 c]) (by kernel_rfl) (by kernel_rfl) ?_
 intro b1 w1 hn1
 replace hS := stepY9 hS (hn1.step No)
 replace hSn := Step.trans hSn (hn1.step No)
 replace hnd := hnd.no (hn1.step No)
 replace htab := Tb.no htab (hn1.step No)
 replace hcm := MapL.no hcm (hn1.step No)
 have ho1 := hn1.own
 have hzhn1 := hn1.size
 have hqhn1 := hn1.eqb
 refine VL_pure 3 [0, 2, 3, 5] [(0, .pointer (some ⟨nd, 0, none⟩)), (2, .int .i64 t), (3, .int .i64 clp), (5, .pointer (some ⟨b1, 0, none⟩))] (by kernel_rfl) rfl ?_
 refine VL_end (by kernel_rfl) ?_
 refine VQ_next ?_
 refine VC_seq ?_
 refine VC_region ?_
 refine VL_pure 1 [0, 2, 3, 5, 13] [(0, .pointer (some ⟨nd, 0, none⟩)), (2, .int .i64 t), (3, .int .i64 clp), (5, .pointer (some ⟨b1, 0, none⟩)), (13, .pointer (some ⟨nd, 0, none⟩))] (by kernel_rfl) rfl ?_
 refine VL_load (d := 14) (t := 28) (a := ⟨b1, 0, none⟩) (v := .agg #[.int .i64 p, .int .i64 v, .int .i64 c]) (by kernel_rfl) (by kernel_rfl) (Loads.ownL ho1 (n := 3) (by kernel_rfl) (by kernel_rfl) (by kernel_rfl)) ?_
 have hzs2 := hSn.size
 have hzl4 := hnd.lt
 have hzl5 := Tb.lt htab
 have hzl6 := MapL.lt hcm
 have hzl7 := ho1.lt
 refine VL_call (d := 15) (f := 27) (args := #[.pointer (some ⟨nd, 0, none⟩), .agg #[.int .i64 p, .int .i64 v, .int .i64 c]]) (by kernel_rfl) (by kernel_rfl) (by kernel_rfl) Try.call27 ((nfind_any nd lo X rooms g p v c _ (h.no hSn)).mono (fun x w1 h9 => ⟨h9.1.trans (by rw [hlk]; rfl), h9.2⟩ : ∀ (x : Value) (w1 : World), _ → x = Value.tuple #[.int .i64 y.id, .bool true] ∧ Step No _ w1)) ?_
 rintro _ w2 ⟨rfl, hc1⟩
 replace hS := stepY9 hS hc1
 replace hSn := Step.trans hSn hc1
 replace hnd := hnd.no hc1
 replace htab := Tb.no htab hc1
 replace hcm := MapL.no hcm hc1
 replace ho1 := ho1.no hc1
 refine VL_pure 8 [0, 2, 3, 10, 11] [(0, .pointer (some ⟨nd, 0, none⟩)), (2, .int .i64 t), (3, .int .i64 clp), (10, .int .i64 y.id), (11, .bool true)] (by kernel_rfl) rfl ?_
 refine VL_end (by kernel_rfl) ?_
 refine VQ_next ?_
 refine VC_seq ?_
 refine VC_seq ?_
 refine VC_region ?_
 refine VL_pure 2 [0, 2, 3, 10, 19] [(0, .pointer (some ⟨nd, 0, none⟩)), (2, .int .i64 t), (3, .int .i64 clp), (10, .int .i64 y.id), (19, .bool false)] (by kernel_rfl) rfl ?_
 refine VL_end (by kernel_rfl) ?_
 refine VQ_next ?_
 refine VC_false (by kernel_rfl) ?_
 refine VC_skip ?_
 refine VQ_next ?_
 refine VC_seq ?_
 refine VC_region ?_
 refine VL_pure 3 [2, 3, 10, 22] [(2, .int .i64 t), (3, .int .i64 clp), (10, .int .i64 y.id), (22, .pointer (some ⟨nd, 2, none⟩))] (by kernel_rfl) rfl ?_
 refine VL_load (d := 23) (t := 51) (a := ⟨nd, 2, none⟩) (v := .map (some g.cm)) (by kernel_rfl) (by kernel_rfl) (Loads.own1 hnd (by kernel_rfl) (by rfl)) ?_
 refine VL_pure 5 [2, 3, 23, 24] [(2, .int .i64 t), (3, .int .i64 clp), (23, .map (some g.cm)), (24, .int .i64 y.id)] (by kernel_rfl) rfl ?_
 refine VL_lookup (ek := ei) (u := uc) (d := 25) (m := g.cm) (kt := 3) (z := .agg #[.int .i64 0, .int .i64 0, .int .i64 0, .int .i64 0, .int .i64 0, .int .i64 0, .pointer none]) (k := y.id) (ok := false) (by kernel_rfl) (by kernel_rfl) keyTi hcm (.agg #[.int .i64 y.x.k.kind, .int .i64 y.x.k.peak, .int .i64 y.x.k.early, .int .i64 y.x.k.whole, .int .i64 y.x.k.burst, .int .i64 y.x.k.least, .pointer (some ⟨y.pp, 0, none⟩)]) (by rw [hmm]; rfl) ?_
 refine VL_keep [2, 3, 23, 24, 25] [(2, .int .i64 t), (3, .int .i64 clp), (23, .map (some g.cm)), (24, .int .i64 y.id), (25, .agg #[.int .i64 y.x.k.kind, .int .i64 y.x.k.peak, .int .i64 y.x.k.early, .int .i64 y.x.k.whole, .int .i64 y.x.k.burst, .int .i64 y.x.k.least, .pointer (some ⟨y.pp, 0, none⟩)])] (by kernel_rfl) ?_
 refine VL_pure 9 [26, 27, 28] [(26, .pointer (some ⟨y.pp, 0, none⟩)), (27, .int .i64 t), (28, .int .i64 clp)] (by kernel_rfl) rfl ?_
 have hzs3 := hSn.size
 have hzl8 := hnd.lt
 have hzl9 := Tb.lt htab
 have hzl10 := MapL.lt hcm
 have hzl11 := ho1.lt
 refine VL_call (d := 29) (f := 41) (args := #[.pointer (some ⟨y.pp, 0, none⟩), .int .i64 t, .int .i64 clp]) (by kernel_rfl) (by kernel_rfl) (by kernel_rfl) Try.call41 (ptake_any t clp (hpl0.no hSn)) ?_
 rintro _ w3 ⟨rfl, hpl1, hc2⟩
 have hzhc2 := (hc2).size
 replace hS := Step.trans hS hc2
 refine VL_pure 12 [8, 9] [(8, .int .i64 (polV (alwaysC y.x.k) t clp y.x.rs)), (9, .bool true)] (by kernel_rfl) rfl ?_
 refine VL_end (by kernel_rfl) ?_
 refine VQ_next ?_
 refine VC_ret ?_
 refine VQ_ret2 (.int .i64 (polV (alwaysC y.x.k) t clp y.x.rs)) (.bool true) (.inr rfl) rfl rfl rfl ?_
 exact ⟨by rw [hvv], _, _, h.judged hfI hS hpl1, setI_x _ _ _ _ _ _ (fun y => rfl), Nat.le_succ _, fun q hq => .inl hq, Step.mono hS (h.polX y hym)⟩

set_option maxRecDepth 100000 in
set_option maxHeartbeats 4000000 in
theorem verdict_no (nd lo : Nat) (X : Nat → Prop) (rooms : List Int) (g : NdG) (p v c t clp : Int) (w : World) (h : NdX w nd X lo rooms g) (hth : (lookE (g.ci.map Ci.ent) p v c).isSome = false) :
  CV Try.prog 22 #[.pointer (some ⟨nd, 0, none⟩), .agg #[.int .i64 p, .int .i64 v, .int .i64 c], .int .i64 t, .int .i64 clp] w (fun x w1 => x = .tuple #[.int .i64 0, .bool false] ∧ Step No w w1) := by
 have hS : Step No w w := Step.refl _ _
 have hSn : Step No w w := Step.refl _ _
 have hnd := h.own
 have htab := h.tab
 refine CV_enter Try.f22 _ 30 [(0, .pointer (some ⟨nd, 0, none⟩)), (1, .agg #[.int .i64 p, .int .i64 v, .int .i64 c]), (2, .int .i64 t), (3, .int .i64 clp)] Try.func22 rfl rfl (by kernel_rfl) rfl ?_
 refine VC_seq ?_
 refine VC_region ?_
 have hzs1 := hS.size
 have hzs2 := hSn.size
 have hzl1 := hnd.lt
 have hzl2 := Tb.lt htab
 refine VL_box (d := 5) (t := 28) (c := #[.int .i64 p, .int .i64 v, .int .i64 c]) (by kernel_rfl) (by kernel_rfl) ?_
 intro b1 w1 hn1
 replace hS := Step.trans hS (hn1.step No)
 replace hSn := Step.trans hSn (hn1.step No)
 replace hnd := hnd.no (hn1.step No)
 replace htab := Tb.no htab (hn1.step No)
 have ho1 := hn1.own
 have hzhn1 := hn1.size
 have hqhn1 := hn1.eqb
 refine VL_pure 3 [0, 2, 3, 5] [(0, .pointer (some ⟨nd, 0, none⟩)), (2, .int .i64 t), (3, .int .i64 clp), (5, .pointer (some ⟨b1, 0, none⟩))] (by kernel_rfl) rfl ?_
 refine VL_end (by kernel_rfl) ?_
 refine VQ_next ?_
 refine VC_seq ?_
 refine VC_region ?_
 refine VL_pure 1 [0, 2, 3, 5, 13] [(0, .pointer (some ⟨nd, 0, none⟩)), (2, .int .i64 t), (3, .int .i64 clp), (5, .pointer (some ⟨b1, 0, none⟩)), (13, .pointer (some ⟨nd, 0, none⟩))] (by kernel_rfl) rfl ?_
 refine VL_load (d := 14) (t := 28) (a := ⟨b1, 0, none⟩) (v := .agg #[.int .i64 p, .int .i64 v, .int .i64 c]) (by kernel_rfl) (by kernel_rfl) (Loads.ownL ho1 (n := 3) (by kernel_rfl) (by kernel_rfl) (by kernel_rfl)) ?_
 have hzs3 := hS.size
 have hzs4 := hSn.size
 have hzl3 := hnd.lt
 have hzl4 := Tb.lt htab
 have hzl5 := ho1.lt
 refine VL_call (d := 15) (f := 27) (args := #[.pointer (some ⟨nd, 0, none⟩), .agg #[.int .i64 p, .int .i64 v, .int .i64 c]]) (by kernel_rfl) (by kernel_rfl) (by kernel_rfl) Try.call27 (nfind_any nd lo X rooms g p v c _ (h.no hSn)) ?_
 rintro _ w2 ⟨rfl, hc1⟩
 replace hS := Step.trans hS hc1
 replace hSn := Step.trans hSn hc1
 replace hnd := hnd.no hc1
 replace htab := Tb.no htab hc1
 replace ho1 := ho1.no hc1
 refine VL_pure 8 [0, 2, 3, 10, 11] [(0, .pointer (some ⟨nd, 0, none⟩)), (2, .int .i64 t), (3, .int .i64 clp), (10, .int .i64 ((lookE (g.ci.map Ci.ent) p v c).getD 0)), (11, .bool ((lookE (g.ci.map Ci.ent) p v c).isSome))] (by kernel_rfl) rfl ?_
 refine VL_end (by kernel_rfl) ?_
 refine VQ_next ?_
 refine VC_seq ?_
 refine VC_seq ?_
 refine VC_region ?_
 refine VL_pure 2 [0, 2, 3, 10, 19] [(0, .pointer (some ⟨nd, 0, none⟩)), (2, .int .i64 t), (3, .int .i64 clp), (10, .int .i64 ((lookE (g.ci.map Ci.ent) p v c).getD 0)), (19, .bool (!((lookE (g.ci.map Ci.ent) p v c).isSome)))] (by kernel_rfl) rfl ?_
 refine VL_end (by kernel_rfl) ?_
 refine VQ_next ?_
 refine VC_is (b := !((lookE (g.ci.map Ci.ent) p v c).isSome)) true (by kernel_rfl) (by rw [hth]; rfl) ?_
 refine VC_ite_true ?_
 refine VC_seq ?_
 refine VC_region ?_
 refine VL_pure 2 [8, 9] [(8, .int .i64 0), (9, .bool false)] (by kernel_rfl) rfl ?_
 refine VL_end (by kernel_rfl) ?_
 refine VQ_next ?_
 refine VC_ret ?_
 refine VQ_then_ret ?_
 refine VQ_ret2 (.int .i64 0) (.bool false) (.inr rfl) rfl rfl rfl ?_
 exact ⟨rfl, hS⟩

end Go.Proofs.Ythchmlidobgkoaa
end

section
/- Layer 20: a new node. -/
set_option linter.unusedVariables false
set_option linter.unusedSimpArgs false
namespace Go.Proofs.Ythchmlidobgkoaa
open Go.Vc Go.RowKit
def rmC (r : Int) : Int := imax 0 (imin r 1152921504606846976)
theorem rmC_le (r : Int) : 0 ≤ rmC r ∧ rmC r ≤ 1152921504606846976 := by unfold rmC imax imin; split <;> split <;> omega
def roomsN (rs : List Int) : List Int := (rs.take (min rs.length 8)).map rmC
theorem roomsN_len (rs : List Int) : (roomsN rs).length = min rs.length 8 := by unfold roomsN; rw [List.length_map, List.length_take]; omega
theorem roomsN_ok (rs : List Int) : (roomsN rs).length ≤ 8 ∧ ∀ r ∈ roomsN rs, 0 ≤ r ∧ r ≤ 1152921504606846976 := by
  refine ⟨by rw [roomsN_len]; omega, fun r hr => ?_⟩
  obtain ⟨x, _, rfl⟩ := List.mem_map.1 hr
  exact rmC_le x
theorem roomsN_at {rs : List Int} {n j : Nat} (hn : rs.length = n) (hj : j < min n 8) : (roomsN rs)[j]? = some (imax 0 (imin ((rs.take (min n 8)).getD j 0) 1152921504606846976)) := by
  subst hn
  unfold roomsN
  rw [List.getElem?_map]
  have hl : j < (rs.take (min rs.length 8)).length := by rw [List.length_take]; omega
  rw [List.getElem?_eq_getElem hl]
  simp only [Option.map_some, List.getD, List.getElem?_eq_getElem hl, Option.getD_some]
  rfl
structure Leds (w : World) (lo : Nat) (rs : List Int) (ls ms : List Nat) : Prop where
  len : ls.length = ms.length
  led : ∀ (i lg lm : Nat) (r : Int), ls[i]? = some lg → ms[i]? = some lm → rs[i]? = some r → Ld w lg lm r 0 []
  le : ls.length ≤ rs.length
  n1 : ls.Nodup
  n2 : ms.Nodup
  l1 : ∀ x ∈ ls, lo ≤ x
  l2 : ∀ x ∈ ms, lo ≤ x
section
variable {w w1 : World} {F : Nat → Prop} {lo : Nat} {rs : List Int} {ls ms : List Nat}
theorem Leds.two (h : Leds w lo rs ls ms) {x : Nat} (hx : x ∈ ls ∨ x ∈ ms) : ∃ lg lm r, Ld w lg lm r 0 [] ∧ (x = lg ∨ x = lm) := by
  have hlen := h.len
  have hle := h.le
  rcases hx with hx | hx
  · obtain ⟨i, hi⟩ := List.mem_iff_getElem?.1 hx
    have hl := (List.getElem?_eq_some_iff.1 hi).1
    exact ⟨x, _, _, h.led i x _ _ hi (List.getElem?_eq_getElem (by omega)) (List.getElem?_eq_getElem (by omega)), .inl rfl⟩
  · obtain ⟨i, hi⟩ := List.mem_iff_getElem?.1 hx
    have hl := (List.getElem?_eq_some_iff.1 hi).1
    exact ⟨_, x, _, h.led i _ x _ (List.getElem?_eq_getElem (by omega)) hi (List.getElem?_eq_getElem (by omega)), .inr rfl⟩
theorem Leds.lt (h : Leds w lo rs ls ms) {x : Nat} (hx : x ∈ ls ∨ x ∈ ms) : x < w.heap.size := by
  obtain ⟨lg, lm, r, h1, e | e⟩ := h.two hx
  · rw [e]; exact h1.lt.1
  · rw [e]; exact h1.lt.2
theorem Leds.ty (h : Leds w lo rs ls ms) {x : Nat} (hx : x ∈ ls ∨ x ∈ ms) : tyO w x = 80 + 2 ∨ tyO w x = 0 := by
  obtain ⟨lg, lm, r, h1, e | e⟩ := h.two hx
  · rw [e]; exact .inl (tyO_own h1.own)
  · rw [e]; exact .inr (tyO_map h1.map)
theorem Leds.step (h : Leds w lo rs ls ms) (hs : Step F w w1) (hF : ∀ x, x ∈ ls ∨ x ∈ ms → ¬ F x) : Leds w1 lo rs ls ms :=
  ⟨h.len, fun i lg lm r a b c => (h.led i lg lm r a b c).step hs (hF _ (.inl (List.mem_of_getElem? a))) (hF _ (.inr (List.mem_of_getElem? b))), h.le, h.n1, h.n2, h.l1, h.l2⟩
theorem Leds.no (h : Leds w lo rs ls ms) (hs : Step No w w1) : Leds w1 lo rs ls ms := h.step hs fun _ _ => id
theorem Leds.below (h : Leds w lo rs ls ms) (hs : Step F w w1) (hF : ∀ k, F k → k < lo) : Leds w1 lo rs ls ms := h.step hs fun x hx hf => by
  have := hF x hf
  rcases hx with hx | hx
  · have := h.l1 x hx; omega
  · have := h.l2 x hx; omega
theorem Leds.row {base n c : Nat} {A : Option Addr} {xs : List Value} (h : Leds w lo rs ls ms) (hr : RwS w 1 base 55 A n c xs) (hs : Step (ownB A) w w1) : Leds w1 lo rs ls ms := h.step hs fun x hx hf => by
  have h1 := tyO_tyB (hr.tyB hf)
  rcases h.ty hx with h2 | h2 <;> omega
theorem Leds.push (h : Leds w lo rs ls ms) {lg lm j : Nat} {r : Int} (hj : ls.length = j) (hr : rs[j]? = some r) (hs : Step No w w1) (hn : Ld w1 lg lm r 0 []) (h1 : w.heap.size ≤ lg) (h2 : w.heap.size ≤ lm) (hlo : lo ≤ w.heap.size) : Leds w1 lo rs (ls ++ [lg]) (ms ++ [lm]) := by
  have hl := (List.getElem?_eq_some_iff.1 hr).1
  have hlen := h.len
  refine ⟨by simp [hlen], fun i a b c ha hb hc => ?_, by simp; omega, ?_, ?_, ?_, ?_⟩
  · by_cases e : i < ls.length
    · rw [List.getElem?_append_left e] at ha
      rw [List.getElem?_append_left (by omega)] at hb
      exact (h.led i a b c ha hb hc).no hs
    · have hi : i = j := by
        have := (List.getElem?_eq_some_iff.1 ha).1
        simp at this; omega
      subst hi
      rw [List.getElem?_append_right (by omega), show i - ls.length = 0 by omega] at ha
      rw [List.getElem?_append_right (by omega), show i - ms.length = 0 by omega] at hb
      simp only [List.getElem?_cons_zero, Option.some.injEq] at ha hb
      rw [hr] at hc
      simp only [Option.some.injEq] at hc
      rw [← ha, ← hb, ← hc]; exact hn
  · rw [List.nodup_append]
    refine ⟨h.n1, by simp, fun x hx y hy e => ?_⟩
    simp at hy
    have := h.lt (.inl hx); omega
  · rw [List.nodup_append]
    refine ⟨h.n2, by simp, fun x hx y hy e => ?_⟩
    simp at hy
    have := h.lt (.inr hx); omega
  · intro x hx
    rcases List.mem_append.1 hx with hx | hx
    · exact h.l1 x hx
    · simp at hx; omega
  · intro x hx
    rcases List.mem_append.1 hx with hx | hx
    · exact h.l2 x hx
    · simp at hx; omega
theorem Leds.nil (w : World) (lo : Nat) (rs : List Int) : Leds w lo rs [] [] := ⟨rfl, fun i lg lm r h => by simp at h, Nat.zero_le _, List.nodup_nil, List.nodup_nil, by simp, by simp⟩
theorem range_getD (ls : List Nat) {n : Nat} (hn : ls.length = n) : (List.range n).map (fun i => ls.getD i 0) = ls := by
  subst hn
  apply List.ext_getElem?
  intro i
  rw [List.getElem?_map]
  by_cases h : i < ls.length
  · rw [List.getElem?_range h, List.getElem?_eq_getElem h]; simp [List.getD, h]
  · rw [List.getElem?_eq_none (by simpa using h), List.getElem?_eq_none (by omega)]; rfl
theorem getD_at {ls : List Nat} {i : Nat} (h : i < ls.length) : ls[i]? = some (ls.getD i 0) := by simp [List.getD, h]
theorem nodup_inj {ls : List Nat} (h : ls.Nodup) {i j : Nat} (hi : i < ls.length) (hj : j < ls.length) (he : ls.getD i 0 = ls.getD j 0) : i = j := by
  have a := getD_at hi
  have b := getD_at hj
  rw [he] at a
  exact (List.getElem?_inj hi h).1 (a.trans b.symm)
theorem NdX.fresh {nd tb cm base c : Nat} {A : Option Addr} (hok : rs.length ≤ 8 ∧ ∀ r ∈ rs, 0 ≤ r ∧ r ≤ 1152921504606846976) (hl : ls.length = rs.length) (ho : Own w1 nd #[.slice A rs.length c, .pointer (some ⟨tb, 0, none⟩), .map (some cm), .int .i64 0] 54)
    (hrow : RwS w1 1 base 55 A rs.length c (flat lgc ls)) (htb : Tb w1 tb 64 []) (hcm : MapL w1 cm ei uc ([] : List (Int × (Con × Nat)))) (hled : Leds w1 lo rs ls ms) (h1 : w.heap.size ≤ nd) (h2 : w.heap.size ≤ tb) (h3 : w.heap.size ≤ cm) (h4 : cm < lo) (h5 : w.heap.size ≤ base) (h6 : w.heap.size ≤ lo) :
    ∃ X g, NdX w1 nd X w.heap.size rs g ∧ g.L = [] ∧ g.next = 0 ∧ ∀ q, X q → w.heap.size ≤ q := by
  have hlm : ms.length = rs.length := by rw [← hled.len]; exact hl
  have hX : ∀ q, (q = nd ∨ q = tb ∨ q = cm ∨ ownB A q ∨ q ∈ ls ∨ q ∈ ms) → w.heap.size ≤ q := by
    rintro q (rfl | rfl | rfl | hq | hq | hq)
    · exact h1
    · exact h2
    · exact h3
    · have := (hrow.lt q hq).1; omega
    · have := hled.l1 q hq; omega
    · have := hled.l2 q hq; omega
  have hlb : 0 < rs.length → ∃ lb, A = some ⟨lb, 0, none⟩ ∧ RowE w1 lb 55 (flat lgc ls) := fun h0 => by
    obtain ⟨rb, e, _, hr⟩ := RowE.of_rw hrow h0
    exact ⟨rb, e, hr⟩
  obtain ⟨lb, hlb'⟩ : ∃ lb, 0 < rs.length → A = some ⟨lb, 0, none⟩ ∧ RowE w1 lb 55 (flat lgc ls) := by
    by_cases h0 : 0 < rs.length
    · obtain ⟨lb, h⟩ := hlb h0; exact ⟨lb, fun _ => h⟩
    · exact ⟨0, fun h => absurd h h0⟩
  refine ⟨fun q => q = nd ∨ q = tb ∨ q = cm ∨ ownB A q ∨ q ∈ ls ∨ q ∈ ms, ⟨[], A, lb, c, fun i => ls.getD i 0, fun i => ms.getD i 0, fun _ => [], tb, cm, [], 0⟩, ?_, rfl, rfl, hX⟩
  have hmem : ∀ i, i < rs.length → ls.getD i 0 ∈ ls ∧ ms.getD i 0 ∈ ms := fun i hi => ⟨List.mem_of_getElem? (getD_at (by omega)), List.mem_of_getElem? (getD_at (by omega))⟩
  refine { own := ho, links := fun h0 => ?_, led := fun i r hi => ?_, ledX := fun i hi => ⟨.inr (.inr (.inr (.inr (.inl (hmem i hi).1)))), .inr (.inr (.inr (.inr (.inr (hmem i hi).2))))⟩, lgi := fun i j hi hj he => nodup_inj hled.n1 (by omega) (by omega) he, lmi := fun i j hi hj he => nodup_inj hled.n2 (by omega) (by omega) he, lmc := fun i hi he => ?_, tab := htb, cmap := hcm, pol := fun y hy => (List.not_mem_nil hy).elim, polX := fun y hy => (List.not_mem_nil hy).elim, apart := fun y hy => (List.not_mem_nil hy).elim, ids := fun y hy => (List.not_mem_nil hy).elim, idlt := fun y hy => (List.not_mem_nil hy).elim, need := fun i hi y hy => (List.not_mem_nil hy).elim, nlt := fun i hi id n hn => (Option.some_ne_none n hn.symm).elim, li := LI.nil hok.1 hok.2, inX := ⟨.inl rfl, .inr (.inl rfl), .inr (.inr (.inl rfl))⟩, ty := fun q hq => ?_, lo := hX }
  · obtain ⟨a, b⟩ := hlb' h0
    simp only
    rw [range_getD ls hl]
    exact ⟨a, b, .inr (.inr (.inr (.inl ⟨_, a, rfl⟩)))⟩
  · have hil := (List.getElem?_eq_some_iff.1 hi).1
    exact hled.led i _ _ r (getD_at (by omega)) (getD_at (by omega)) hi
  · have := hled.l2 _ (hmem i hi).2
    simp only at he
    omega
  · rcases hq with rfl | rfl | rfl | hq | hq | hq
    · exact ⟨ho.lt, by have := tyO_own ho; omega⟩
    · exact ⟨htb.lt, by have := tyO_tb htb; omega⟩
    · exact ⟨hcm.lt, by have := tyO_map hcm; omega⟩
    · exact ⟨(hrow.lt q hq).2, by have := tyO_tyB (hrow.tyB hq); omega⟩
    · exact ⟨hled.lt (.inl hq), by have := hled.ty (.inl hq); omega⟩
    · exact ⟨hled.lt (.inr hq), by have := hled.ty (.inr hq); omega⟩
end
end Go.Proofs.Ythchmlidobgkoaa
end

section
/- Layer 20: a new node. -/
set_option linter.unusedVariables false
set_option linter.unusedSimpArgs false
namespace Go.Proofs.Ythchmlidobgkoaa
open Go.Vc Go.RowKit

set_option maxRecDepth 100000 in
set_option maxHeartbeats 4000000 in
theorem nnew_x (A : Option Addr) (n c Bd : Nat) (rs : List Int) (w : World) (hn : rs.length = n) (hA : Sl w Bd A (iL .i64 rs)) (hB : Bd ≤ w.heap.size) (hnc : n ≤ c) :
  CV Try.prog 7 #[.slice A n c] w (fun x w1 => ∃ nd X g, x = .pointer (some ⟨nd, 0, none⟩) ∧ NdX w1 nd X w.heap.size (roomsN rs) g ∧ g.L = [] ∧ g.next = 0 ∧ (∀ q, X q → w.heap.size ≤ q) ∧ Step No w w1) := by
 have hS : Step No w w := Step.refl _ _
 refine CV_enter Try.f7 _ 33 [(0, .slice A n c)] Try.func7 rfl rfl (by kernel_rfl) rfl ?_
 refine VC_seq ?_
 refine VC_region ?_
 refine VL_pure 1 [0] [(0, .slice A n c)] (by kernel_rfl) rfl ?_
 refine VL_end (by kernel_rfl) ?_
 refine VQ_next ?_
 refine VC_seq ?_
 refine VC_region ?_
 have hzs1 := hS.size
 refine VL_call (d := 6) (f := 18) (args := #[.int .i64 64]) (by kernel_rfl) (by kernel_rfl) (by kernel_rfl) Try.call18 (tnew 64 _) ?_
 rintro _ w1 ⟨tb1, rfl, hftb1, hT1, hc1⟩
 replace hS := Step.trans hS hc1
 replace hA := hA.no hc1
 rw [show imax 0 (imin 64 64) = 64 from by decide] at hT1
 have hztb1 := hT1.lt
 refine VL_mkMap (d := 7) (by kernel_rfl) (by kernel_rfl) ?_
 intro mp1 w2 hn1
 replace hS := Step.trans hS (hn1.step No)
 replace hA := hA.no (hn1.step No)
 replace hT1 := Tb.no hT1 (hn1.step No)
 have hM1 := New.map hn1 ei uc
 have hzhn1 := hn1.size
 have hqhn1 := hn1.eqb
 refine VL_pure 3 [0, 8] [(0, .slice A n c), (8, .agg #[.slice none 0 0, .pointer (some ⟨tb1, 0, none⟩), .map (some mp1), .int .i64 0])] (by kernel_rfl) rfl ?_
 have hzs2 := hS.size
 have hzl1 := Tb.lt hT1
 have hzl2 := MapL.lt hM1
 refine VL_box (d := 9) (t := 54) (c := #[.slice none 0 0, .pointer (some ⟨tb1, 0, none⟩), .map (some mp1), .int .i64 0]) (by kernel_rfl) (by kernel_rfl) ?_
 intro b1 w3 hn2
 replace hS := Step.trans hS (hn2.step No)
 replace hA := hA.no (hn2.step No)
 replace hT1 := Tb.no hT1 (hn2.step No)
 replace hM1 := MapL.no hM1 (hn2.step No)
 have ho1 := hn2.own
 have hzhn2 := hn2.size
 have hqhn2 := hn2.eqb
 refine VL_pure 5 [0, 3] [(0, .slice A n c), (3, .pointer (some ⟨b1, 0, none⟩))] (by kernel_rfl) rfl ?_
 refine VL_end (by kernel_rfl) ?_
 refine VQ_next ?_
 refine VC_seq ?_
 refine VC_seq ?_
 obtain ⟨lo9, hlo9E⟩ : ∃ x, x = w3.heap.size := ⟨_, rfl⟩
 have hlo9 : lo9 ≤ w3.heap.size := Nat.le_of_eq hlo9E
 have hzs3 := hS.size
 have hzl3 := Tb.lt hT1
 have hzl4 := MapL.lt hM1
 have hzl5 := ho1.lt
 have hmp9 := MapL.lt hM1
 have hleds := Leds.nil w3 lo9 (roomsN rs)
 have hnb9 : b1 < lo9 ∧ tb1 < lo9 ∧ mp1 < lo9 := by rw [hlo9E]; exact ⟨ho1.lt, hT1.lt, hmp9⟩
 have hnw9 : w.heap.size ≤ b1 ∧ w.heap.size ≤ tb1 ∧ w.heap.size ≤ mp1 ∧ w.heap.size ≤ lo9 := by omega
 refine VC_region ?_
 refine VL_pure 4 [3, 10, 13] [(3, .pointer (some ⟨b1, 0, none⟩)), (10, .slice A n c), (13, .int .i64 (imin ((n : Nat) : Int) 8))] (by kernel_rfl) rfl ?_
 refine VL_eq [(3, .pointer (some ⟨b1, 0, none⟩)), (10, .slice A n c), (13, .int .i64 ((min n 8 : Nat) : Int))] (by rw [show imin ((n : Nat) : Int) 8 = ((min n 8 : Nat) : Int) by unfold imin; split <;> omega]) ?_
 refine VL_sliceV (d := 14) (A := A) (sz := 1) (len := n) (cap := c) (lo := none) (hi := (some ((min n 8 : Nat) : Int))) (mx := none) (by kernel_rfl) (by kernel_rfl) (fun h => by first | exact absurd rfl h | exact (fun h => by cases h)) hA 0 (min n 8) c rfl rfl rfl (by omega) (by omega) (by omega) (min n 8) (by omega) c (by omega) _ (iL_takeV rs (min n 8)) ?_
 intro A1 hsl1
 refine VL_pure 7 [3, 14, 15, 16] [(3, .pointer (some ⟨b1, 0, none⟩)), (14, .slice A1 (min n 8) c), (15, .int .i64 ((min n 8 : Nat) : Int)), (16, .int .i64 0)] (by kernel_rfl) rfl ?_
 refine VL_end (by kernel_rfl) ?_
 refine VQ_next ?_
 refine VC_block ?_
 refine VC_loop (σ := Nat × (List Nat) × (List Nat) × (Option Addr) × Nat) (fun σs => [(3, .pointer (some ⟨b1, 0, none⟩)), (14, .slice A1 (min n 8) c), (15, .int .i64 ((min n 8 : Nat) : Int)), (16, .int .i64 ((σs.1 : Nat) : Int))]) (fun σs wr => σs.1 ≤ min n 8 ∧ σs.2.1.length = σs.1 ∧ Own wr b1 #[.slice σs.2.2.2.1 σs.1 σs.2.2.2.2, .pointer (some ⟨tb1, 0, none⟩), .map (some mp1), .int .i64 0] 54 ∧ Leds wr lo9 (roomsN rs) σs.2.1 σs.2.2.1 ∧ RwS wr 1 lo9 55 σs.2.2.2.1 σs.1 σs.2.2.2.2 (flat lgc σs.2.1) ∧ (Step No w wr) ∧ (Sl wr Bd A (iL .i64 rs)) ∧ (Tb wr tb1 64 ([] : List Ent)) ∧ (MapL wr mp1 ei uc ([] : List (Int × Con × Nat))) ∧ (lo9 ≤ wr.heap.size) ∧ (Sl wr Bd A1 (iL .i64 (rs.take (min n 8))))) (fun σs wr => min n 8 - σs.1) ⟨0, [], [], none, 0⟩ ⟨rfl, rfl, rfl, rfl, trivial⟩ ?_ ?_
 ·exact ⟨Nat.zero_le _, rfl, ho1, hleds, RwS.nil _ _ _ _, hS, hA, hT1, hM1, hlo9, hsl1⟩
 rintro ⟨j, ls, ms, AL, cL⟩ wr ⟨hj0, hlj, hnd9, hleds, hRow, hS, hA, hT1, hM1, hlo9, hsl1⟩
 try dsimp only at hj0 hlj hnd9 hleds hRow hS hA hT1 hM1 hlo9 hsl1 ⊢
 refine VC_seq ?_
 refine VC_region ?_
 refine VL_pure 1 [3, 14, 15, 16, 17] [(3, .pointer (some ⟨b1, 0, none⟩)), (14, .slice A1 (min n 8) c), (15, .int .i64 ((min n 8 : Nat) : Int)), (16, .int .i64 ((j : Nat) : Int)), (17, .bool (decide (((j : Nat) : Int) < ((min n 8 : Nat) : Int))))] (by kernel_rfl) rfl ?_
 refine VL_end (by kernel_rfl) ?_
 refine VQ_next ?_
 refine VC_seq ?_
 refine VC_dec (((j : Nat) : Int) < ((min n 8 : Nat) : Int)) (by kernel_rfl) (fun h1 => ?_) (fun h1 => ?_)
 ·refine VC_skip ?_
  refine VQ_next ?_
  refine VC_seq ?_
  refine VC_block ?_
  refine VC_seq ?_
  refine VC_region ?_
  obtain ⟨sb1, so1, rfl, hlbsb1⟩ := hsl1.open (by simp only [iL_length, List.length_take]; omega)
  refine VL_index (d := 18) (b := sb1) (o := so1) (len := (min n 8)) (sz := 1) (m := ((j : Nat) : Int)) (by kernel_rfl) (by kernel_rfl) j (by rfl) (by omega) (so1 + j) (by omega) ?_
  refine VL_load (d := 19) (t := 3) (a := ⟨sb1, so1 + j, none⟩) (v := .int .i64 ((rs.take (min n 8)).getD j 0)) (by kernel_rfl) (by kernel_rfl) (Sl.ldI hsl1 (by kernel_rfl) j (by (try simp only [List.length_set, List.length_append, List.length_map, List.length_replicate, List.length_cons, List.length_nil, List.length_take, List.length_drop, List.length_range]) <;> omega)) ?_
  refine VL_pure 3 [3, 14, 15, 16, 5] [(3, .pointer (some ⟨b1, 0, none⟩)), (14, .slice (some ⟨sb1, so1, none⟩) (min n 8) c), (15, .int .i64 ((min n 8 : Nat) : Int)), (16, .int .i64 ((j : Nat) : Int)), (5, .int .i64 ((rs.take (min n 8)).getD j 0))] (by kernel_rfl) rfl ?_
  refine VL_end (by kernel_rfl) ?_
  refine VQ_next ?_
  have hs1 := drew_step wr
  have hs1z : wr.heap.size = wr.drew.heap.size := rfl
  refine VC_text [[], [], [1], [1, 2], [1, 2, 3], [], [5], [5, 6], [1, 2, 3, 4, 5, 6, 7], [0, 1, 2, 3, 4, 5, 6, 7, 8], [0, 1, 2, 3, 4, 5, 6, 7, 8, 9], [0, 1, 2, 3, 4, 5, 6, 7, 8, 9, 10]] 9 (fun x y => Step (fun k => lo9 ≤ k ∨ wr.heap.size ≤ k) x y) [6, 7, 8] [0, 1, 2, 3, 4, 5, 6, 7, 8] (by kernel_rfl) (by kernel_rfl) (by kernel_rfl) (by kernel_rfl) (fun x => Step.refl _ x) (fun h k => Step.trans h k) Step.weak ?_
  have hzl6 := hnd9.lt
  have hzs4 := hS.size
  have hzl7 := Tb.lt hT1
  have hzl8 := MapL.lt hM1
  have hzo1 := hlo9
  generalize wr.drew = w4 at hs1 hs1z ⊢
  replace hnd9 := hnd9.no hs1
  replace hleds := Leds.no hleds hs1
  replace hRow := hRow.no hs1
  replace hS := Step.trans hS hs1
  replace hA := hA.no hs1
  replace hT1 := Tb.no hT1 hs1
  replace hM1 := MapL.no hM1 hs1
  replace hlo9 := Nat.le_trans hlo9 (hs1).size
  replace hsl1 := hsl1.no hs1
  refine VT_pures 4 (kn' := [(3, .pointer (some ⟨b1, 0, none⟩)), (2, .pointer (some ⟨b1, 0, none⟩)), (1, .pointer (some ⟨b1, 0, none⟩)), (0, .pointer (some ⟨b1, 0, none⟩))]) (by kernel_rfl) ?_
  refine VT_load (d := 24) (t := 52) (a := ⟨b1, 0, none⟩) (v := .slice AL j cL) (by kernel_rfl) (by kernel_rfl) ?_ ?_
  ·intro w5 hr1
   replace hnd9 := hnd9.step hr1 (by (try simp only); omega)
   replace hS := Step.transNew hS hr1 (fun i hi hG => by (try simp only at hG); omega)
   replace hA := hA.step hr1 (fun k hk hG => by (try simp only at hG); omega)
   replace hT1 := Tb.step hT1 hr1 (by (try simp only); omega)
   replace hM1 := MapL.step hM1 hr1 (by (try simp only); omega)
   replace hlo9 := Nat.le_trans hlo9 (hr1).size
   replace hsl1 := hsl1.keepB hr1 (by (try simp only); omega)
   exact (Loads.own1 hnd9 (by kernel_rfl) (by rfl))
  refine VT_pures 1 (kn' := [(5, .int .i64 ((rs.take (min n 8)).getD j 0)), (4, .slice AL j cL), (3, .pointer (some ⟨b1, 0, none⟩)), (2, .pointer (some ⟨b1, 0, none⟩)), (1, .pointer (some ⟨b1, 0, none⟩)), (0, .pointer (some ⟨b1, 0, none⟩))]) (by kernel_rfl) ?_
  refine VT_chain (by kernel_rfl) ?_
  intro w6 hs2
  have hzhs2 := hs2.size
  replace hnd9 := hnd9.no hs2
  replace hleds := Leds.no hleds hs2
  replace hRow := hRow.no hs2
  replace hS := Step.trans hS hs2
  replace hA := hA.no hs2
  replace hT1 := Tb.no hT1 hs2
  replace hM1 := MapL.no hM1 hs2
  replace hlo9 := Nat.le_trans hlo9 (hs2).size
  replace hsl1 := hsl1.no hs2
  have hzl9 := hnd9.lt
  have hzs5 := hS.size
  have hzl10 := Tb.lt hT1
  have hzl11 := MapL.lt hM1
  refine VTc_call (d := 26) (f := 19) (args := #[.int .i64 ((rs.take (min n 8)).getD j 0)]) (by kernel_rfl) (by kernel_rfl) (by kernel_rfl) Try.call19 (lnew_any ((rs.take (min n 8)).getD j 0) _) ?_ ?_
  ·rintro _ w7 ⟨lg9, lm9, rfl, hlg9, hlm9, hL9, hc2⟩
   exact Step.mono hc2 (by intro i hi; first | exact hi.elim | exact .inl hi | ((try simp only at hi ⊢); omega))
  rintro _ w7 ⟨lg9, lm9, rfl, hlg9, hlm9, hL9, hc2⟩
  have hzhc2 := (hc2).size
  replace hnd9 := hnd9.no hc2
  replace hRow := hRow.no hc2
  replace hS := Step.trans hS hc2
  replace hA := hA.no hc2
  replace hT1 := Tb.no hT1 hc2
  replace hM1 := MapL.no hM1 hc2
  replace hlo9 := Nat.le_trans hlo9 (hc2).size
  replace hsl1 := hsl1.no hc2
  have hleds2 := Leds.push hleds hlj (show (roomsN rs)[j]? = some (imax 0 (imin ((rs.take (min n 8)).getD j 0) 1152921504606846976)) by exact roomsN_at hn (by omega)) hc2 hL9 hlg9 hlm9 (by omega)
  have hll9 := hL9.lt
  refine VT_chain (by kernel_rfl) ?_
  intro w8 hs3
  have hzhs3 := hs3.size
  replace hnd9 := hnd9.no hs3
  replace hRow := hRow.no hs3
  replace hS := Step.trans hS hs3
  replace hA := hA.no hs3
  replace hT1 := Tb.no hT1 hs3
  replace hM1 := MapL.no hM1 hs3
  replace hlo9 := Nat.le_trans hlo9 (hs3).size
  replace hsl1 := hsl1.no hs3
  replace hleds2 := Leds.no hleds2 hs3
  have hzl12 := hnd9.lt
  have hzs6 := hS.size
  have hzl13 := Tb.lt hT1
  have hzl14 := MapL.lt hM1
  have hzk1 := hlo9
  have hzl15 := hnd9.lt
  have hzs7 := hS.size
  have hzl16 := Tb.lt hT1
  have hzl17 := MapL.lt hM1
  have hzk2 := hlo9
  refine VTc_bs (d := 27) (e := 55) (c := #[.pointer (some ⟨lg9, 0, none⟩)]) (len := 1) (by kernel_rfl) (by kernel_rfl) (fun b w1 hn => hn.step _) ?_
  intro b2 w9 hn3
  replace hnd9 := hnd9.no (hn3.step No)
  replace hRow := hRow.no (hn3.step No)
  replace hS := Step.trans hS (hn3.step No)
  replace hA := hA.no (hn3.step No)
  replace hT1 := Tb.no hT1 (hn3.step No)
  replace hM1 := MapL.no hM1 (hn3.step No)
  replace hlo9 := Nat.le_trans hlo9 (hn3.step No).size
  replace hsl1 := hsl1.no (hn3.step No)
  replace hleds2 := Leds.no hleds2 (hn3.step No)
  have ho2 := hn3.own
  have hzhn3 := hn3.size
  have hqhn3 := hn3.eqb
  refine VT_chain (by kernel_rfl) ?_
  intro w10 hs4
  have hzhs4 := hs4.size
  replace hnd9 := hnd9.no hs4
  replace hRow := hRow.no hs4
  replace hS := Step.trans hS hs4
  replace hA := hA.no hs4
  replace hT1 := Tb.no hT1 hs4
  replace hM1 := MapL.no hM1 hs4
  replace hlo9 := Nat.le_trans hlo9 (hs4).size
  replace hsl1 := hsl1.no hs4
  replace hleds2 := Leds.no hleds2 hs4
  replace ho2 := ho2.no hs4
  have hzl18 := hnd9.lt
  have hzs8 := hS.size
  have hzl19 := Tb.lt hT1
  have hzl20 := MapL.lt hM1
  have hzk3 := hlo9
  have hzl21 := ho2.lt
  refine VTc_appendZ (d := 28) (e := 55) (A := AL) (mm := j) (c := cL) (A2 := (some ⟨b2, 0, none⟩)) (m2 := 1) (c2 := 1) (sz := 1) (bytes := 8) (by kernel_rfl) (by kernel_rfl) (by kernel_rfl) lo9 w10.heap.size (flat lgc ls) (flat lgc [lg9]) hRow (by rw [flat_one, lgc_len]) (Sl.mono (Sl.cast (Own.sl ho2 ho2.lt) (by first | rfl | simp [flat])) (by first | exact Nat.le_refl _ | omega)) (flat_one' lgc_one _) (j + 1) (by omega) (by simp only [maxLen]; omega) (by omega) (by omega) ?_ ?_
  ·intro w1 hs1; exact Step.mono hs1 (fun i hi => by have hi1 := (RwS.lt hRow i hi).1; (try simp only); omega)
  intro A2 c1 w11 hr2 hg1
  replace hr2 : RwS w11 1 lo9 55 A2 (j + 1) c1 (flat lgc (ls ++ ([lg9]))) := RwS.cast hr2 rfl (by simp only [flat_append, flat_one, List.append_assoc, List.nil_append, List.append_nil, show flat lgc [] = [] from rfl])
  have hgO := hg1
  replace hg1 := Step.mono (G := fun k => lo9 ≤ k) hg1 (fun i hi => (RwS.lt hRow i hi).1)
  have hzhg1 := hg1.size
  replace hnd9 := hnd9.step hg1 (by (try simp only); omega)
  replace hS := Step.transNew hS hg1 (fun i hi hG => by (try simp only at hG); omega)
  replace hA := hA.step hg1 (fun k hk hG => by (try simp only at hG); omega)
  replace hT1 := Tb.step hT1 hg1 (by (try simp only); omega)
  replace hM1 := MapL.step hM1 hg1 (by (try simp only); omega)
  replace hlo9 := Nat.le_trans hlo9 (hg1).size
  replace hsl1 := hsl1.keepB hg1 (by (try simp only); omega)
  replace hleds2 := Leds.row hleds2 hRow hgO
  have hlhr2 : (ls ++ ([lg9])).length = j + 1 := by have hq9 := RwS.len hr2; rw [flat_len lgc_len] at hq9; omega
  refine VT_end ?_
  intro w12 hs5
  replace hnd9 := hnd9.no hs5
  replace hS := Step.trans hS hs5
  replace hA := hA.no hs5
  replace hT1 := Tb.no hT1 hs5
  replace hM1 := MapL.no hM1 hs5
  replace hlo9 := Nat.le_trans hlo9 (hs5).size
  replace hsl1 := hsl1.no hs5
  replace hleds2 := Leds.no hleds2 hs5
  replace hr2 := hr2.no hs5
  refine VL_keep [3, 14, 15, 16, 20, 28] [(3, .pointer (some ⟨b1, 0, none⟩)), (14, .slice (some ⟨sb1, so1, none⟩) (min n 8) c), (15, .int .i64 ((min n 8 : Nat) : Int)), (16, .int .i64 ((j : Nat) : Int)), (20, .pointer (some ⟨b1, 0, none⟩)), (28, .slice A2 (j + 1) c1)] (by kernel_rfl) ?_
  refine VL_pure 11 [3, 14, 15, 16, 28, 30] [(3, .pointer (some ⟨b1, 0, none⟩)), (14, .slice (some ⟨sb1, so1, none⟩) (min n 8) c), (15, .int .i64 ((min n 8 : Nat) : Int)), (16, .int .i64 ((j : Nat) : Int)), (28, .slice A2 (j + 1) c1), (30, .pointer (some ⟨b1, 0, none⟩))] (by kernel_rfl) rfl ?_
  refine VL_store (b := b1) (o := 0) (vs := [.slice A2 (j + 1) c1]) (by kernel_rfl) (by kernel_rfl) hnd9 (Nat.le_of_ble_eq_true (by kernel_rfl)) ?_
  intro w13 hw1
  replace hS := Step.transNew hS hw1.step (fun _ _ _ => by omega)
  replace hA := hA.step hw1.step (fun k hk (hF : k = b1) => by omega)
  replace hT1 := Tb.step hT1 hw1.step (show ¬ tb1 = b1 by omega)
  replace hM1 := MapL.step hM1 hw1.step (show ¬ mp1 = b1 by omega)
  replace hlo9 := Nat.le_trans hlo9 (hw1.step).size
  replace hsl1 := hsl1.keepB hw1.step (show ¬ sb1 = b1 by omega)
  replace hleds2 := Leds.below hleds2 hw1.step (fun k9 hk9 => by have h8 : k9 = b1 := hk9; omega)
  replace hr2 := hr2.step hw1.step (fun k hk (hF : k = b1) => by omega)
  have ho3 : Own w13 b1 #[.slice A2 (j + 1) c1, .pointer (some ⟨tb1, 0, none⟩), .map (some mp1), .int .i64 0] 54 := Own.cast hw1.own (by kernel_rfl)
  have hzhw1 := hw1.same
  refine VL_end (by kernel_rfl) ?_
  refine VQ_block_normal ?_
  refine VQ_next ?_
  refine VC_region ?_
  refine VL_pure 1 [3, 14, 15, 31] [(3, .pointer (some ⟨b1, 0, none⟩)), (14, .slice (some ⟨sb1, so1, none⟩) (min n 8) c), (15, .int .i64 ((min n 8 : Nat) : Int)), (31, .int .i64 (IntKind.wrap .i64 (((j : Nat) : Int) + 1)))] (by kernel_rfl) rfl ?_
  have he1 : IntKind.wrap .i64 (((j : Nat) : Int) + 1) = ((j + 1 : Nat) : Int) := (by rw [wrap_i64 _ (by omega) (by omega)]; omega)
  refine VL_eq [(3, .pointer (some ⟨b1, 0, none⟩)), (14, .slice (some ⟨sb1, so1, none⟩) (min n 8) c), (15, .int .i64 ((min n 8 : Nat) : Int)), (31, .int .i64 ((j + 1 : Nat) : Int))] (by rw [he1]) ?_
  refine VL_pure 2 [3, 14, 15, 16] [(3, .pointer (some ⟨b1, 0, none⟩)), (14, .slice (some ⟨sb1, so1, none⟩) (min n 8) c), (15, .int .i64 ((min n 8 : Nat) : Int)), (16, .int .i64 ((j + 1 : Nat) : Int))] (by kernel_rfl) rfl ?_
  refine VL_end (by kernel_rfl) ?_
  refine VQ_again ⟨j + 1, ls ++ [lg9], ms ++ [lm9], A2, c1⟩ ⟨rfl, rfl, rfl, rfl, trivial⟩ ?_ ?_
  ·exact ⟨(by (try dsimp only); omega), (by (try dsimp only); simp only [List.length_append, List.length_singleton]; omega), ho3, hleds2, hr2, hS, hA, hT1, hM1, hlo9, hsl1⟩
  ·(try dsimp only); omega
 ·refine VC_exit ?_
  refine VQ_then_exit ?_
  refine VQ_then_exit ?_
  refine VQ_block_hit ?_
  refine VQ_next ?_
  refine VC_seq ?_
  refine VC_region ?_
  refine VL_pure 2 [2] [(2, .pointer (some ⟨b1, 0, none⟩))] (by kernel_rfl) rfl ?_
  refine VL_end (by kernel_rfl) ?_
  refine VQ_next ?_
  refine VC_ret ?_
  refine VQ_ret1 (.pointer (some ⟨b1, 0, none⟩)) (.inr rfl) rfl rfl ?_
  have hjl : (roomsN rs).length = j := by rw [roomsN_len, hn]; omega
  obtain ⟨X9, g9, hX9, hg9, hn9, hq9⟩ := NdX.fresh (w := w) (roomsN_ok rs) (hlj.trans hjl.symm) (by rw [hjl]; exact hnd9) (by rw [hjl]; exact hRow) hT1 hM1 hleds hnw9.1 hnw9.2.1 hnw9.2.2.1 hnb9.2.2 hnw9.2.2.2 hnw9.2.2.2
  exact ⟨_, X9, g9, rfl, hX9, hg9, hn9, hq9, hS⟩

end Go.Proofs.Ythchmlidobgkoaa
end

section
/- The calculus: ranges over functions that themselves range: what is handed on lies beside an iterator's own blocks. -/
set_option linter.unusedVariables false
set_option linter.unusedSimpArgs false
namespace Go.Vc
open Go.RowKit
section
variable {r : Option Nat} {n : Nat} {ds : List Deferred} {P : Program} {ops : Array Oper} {Q : Exit → Act → World → Prop} {l : List (Nat × Value)} {w : World} {i : Nat}
/-- A call of yield, in a round or not. -/
theorem V1_yieldR {d L : Nat} {args : Array Value} {S : Value → World → Prop} (h : yieldOp ops l i = some (d, L, args)) (hd : Nat.blt d n = true)
    (hcall : YV P L args w S) {K : List (Nat × Value) → World → Prop} (next : ∀ v w', S v w' → K ((d, v) :: l) w') :
    V1 r n ds P ops Q i l w K := by
  unfold yieldOp at h
  cases ho : ops[i]? with
  | none => rw [ho] at h; cases h
  | some o =>
    rw [ho] at h
    simp only at h
    cases hg : guardOk ops l o with
    | none => rw [hg] at h; simp at h
    | some b =>
      cases b with
      | false => rw [hg] at h; simp at h
      | true =>
        cases hl : listed l o with
        | false => rw [hg, hl] at h; simp at h
        | true =>
          cases hdst : o.dst with
          | none => rw [hg, hl, hdst] at h; simp at h
          | some d' =>
            rw [hg, hl, hdst] at h
            cases hop : o.op <;> simp only [hop, reduceCtorEq] at h
            case call cl =>
              obtain ⟨callee, cargs, ts⟩ := cl
              cases callee <;> (try (simp at h; done))
              case value x =>
                cases hx : evL l x <;> simp only [hx, reduceCtorEq] at h
                case func fn first captured =>
                  cases fn <;> simp only [reduceCtorEq, Option.some.injEq, Prod.mk.injEq] at h
                  case yield L' =>
                    obtain ⟨rfl, rfl, hargs⟩ := h
                    obtain ⟨fn', tmps, assign, body, hy, hR⟩ := hcall
                    refine V1_run ho hg hl fun a ha => ?_
                    have hrun : (execOp (evL l) o).run P w = .ok (.round L' fn' tmps assign body) w := by
                      simp only [execOp, hop, resolve, hx, Deferred.ofValue, Sem.run_bind, Sem.run_pure, Result.andThen_ok, invoke]
                      rw [hargs]; exact hy
                    rw [hrun]
                    refine ⟨(fun hd => by cases hd), ?_⟩
                    refine RoundIn.mono (show RoundIn (Fx r) 0 P L' fn' tmps assign body w _ from hR) ?_
                    rintro e w' ⟨v, rfl, hS⟩
                    exact ⟨_, by rw [hdst]; exact ha.put _ (blt_spec hd) _, next v w' hS⟩
theorem VL_yieldR {d L : Nat} {args : Array Value} {S : Value → World → Prop} (h : yieldOp ops l i = some (d, L, args)) (hd : Nat.blt d n = true) (hi : Nat.blt i ops.size = true)
    (hcall : YV P L args w S) (next : ∀ v w', S v w' → VL r n ds P ops Q (i + 1) ((d, v) :: l) w') :
    VL r n ds P ops Q i l w := VL_of_V1 hi (V1_yieldR h hd hcall next)
end
/-- An iterator's contract, told for a body that never stops: J does not hang on the iterator's own blocks. -/
def IterC2 (P : Program) (gf : Nat) (lb : Array Value) (xs : List (Array Value)) (Rd : Nat → World → Prop) : Prop :=
  ∀ (L : Nat) (W0 : World) (J : Nat → Nat → World → Prop),
    (∀ M k W W', J M k W → Step (fun i => W0.heap.size ≤ i ∧ i < M) W W' → J M k W') → (∀ M k W, J M k W → Rd k W) → Rd 0 W0 →
    (∀ M W, W0.heap.size ≤ M → M ≤ W.heap.size → Step No W0 W → J M 0 W) →
    (∀ M k W args, W0.heap.size ≤ M → M ≤ W.heap.size → xs[k]? = some args → J M k W → YV P L args W fun v W' => Step (fun i => i < W0.heap.size ∨ M ≤ i) W W' ∧ v = .bool true ∧ J M (k + 1) W') →
    CV P gf (#[.func (.yield L) #[] #[]] ++ lb) W0 fun _ W' => ∃ M, W0.heap.size ≤ M ∧ J M xs.length W'
section
variable {r : Option Nat} {n : Nat} {ds : List Deferred} {P : Program} {Q : Exit → Act → World → Prop} {l : List (Nat × Value)} {w : World}
theorem VC_range2 {g : Operand} {ps : Array Tmp} {assign body : Code} {gf : Nat} {lb : Array Value} {xs : List (Array Value)} {Rd : Nat → World → Prop} (hg : opV l g = some (.func (.func gf) #[] lb))
    (eg : ∀ (args : Array Value) (w : World), (callFunc gf args).run P w = .ok (.enter gf args) w) (hc : IterC2 P gf lb xs Rd) (hps : ∀ a ∈ xs, a.size = ps.size) (hpn : ps.toList.all (fun p => Nat.blt p n) = true)
    (Fb : Nat → Nat → Prop) (hFb : ∀ M i, Fb M i → i < w.heap.size ∨ M ≤ i) (J : Nat → Nat → World → Prop)
    (hJ : ∀ M k W W', J M k W → Step (Just (w.heap.size + 1)) W W' → J M k W')
    (hJm : ∀ M k W W', J M k W → Step (fun i => w.heap.size + 2 ≤ i ∧ i < M) W W' → J M k W')
    (hrd : ∀ M k W, J M k W → Rd k W) (hrd0 : ∀ W, Step No w W → Rd 0 W)
    (h0 : ∀ M W, w.heap.size + 2 ≤ M → M ≤ W.heap.size → Step No w W → Dfr W w.heap.size → J M 0 W)
    (hround : ∀ M k W args, w.heap.size + 2 ≤ M → M ≤ W.heap.size → xs[k]? = some args → J M k W → w.heap.size + 1 < W.heap.size →
      VC (some (w.heap.size + 1)) n [] P (AsgQ P (w.heap.size + 1) body (RoundQ (Fb M) (J M (k + 1)) (fun _ _ => False)) W) assign ((ps.toList.zip args.toList).reverse ++ l) W)
    (hdone : ∀ M W, w.heap.size + 2 ≤ M → w.heap.size + 2 ≤ W.heap.size → J M xs.length W → Dfr W w.heap.size → VQ n (markOf w.heap.size :: ds) Q .normal l W) :
    VC none n ds P Q (.rangeFunc g ps assign body) l w := by
  intro a ha
  have hev := opV_spec ha hg
  refine wpIn_rangeFunc ?_
  intro fn hfn
  obtain ⟨rec, hrec⟩ : ∃ rec : LoopState → Option Code → Loop, rec = fun st pe => { state := st, pending := pe, fn, tmps := a.tmps, params := ps, assign, body, defers := w.heap.size } := ⟨_, rfl⟩
  obtain ⟨W1, hW1⟩ : ∃ W1, (w.alloc (.deferred (some []))).alloc (.loop (rec .ready none)) = W1 := ⟨_, rfl⟩
  have hz1 : W1.heap.size = w.heap.size + 2 := by rw [← hW1]; simp
  have hL1 : W1.heap[w.heap.size + 1]? = some (.loop (rec .ready none)) := by
    rw [← hW1]; have := World.alloc_heap_new (w.alloc (.deferred (some []))) (.loop (rec .ready none)); rwa [World.size_alloc] at this
  have hK1 : Dfr W1 w.heap.size := by
    unfold Dfr; rw [← hW1]; exact (Below.heap_alloc _ _ _ (by simp)).trans (World.alloc_heap_new w _)
  have hs1 : Step No w W1 := by
    rw [← hW1]
    exact ⟨rfl, rfl, rfl, by simp; omega, fun k hk _ => (Below.heap_alloc _ _ _ (by simp; omega)).trans (Below.heap_alloc _ _ _ hk)⟩
  refine ⟨w.heap.size + 1, [markOf w.heap.size], W1, { target := .fn (.func gf) lb, args := #[.func (.yield (w.heap.size + 1)) #[] #[]] }, W1, gf,
    #[.func (.yield (w.heap.size + 1)) #[] #[]] ++ lb, W1, ?_, ?_, ?_, ?_, (fun hd => by cases hd), ?_⟩
  · rw [← hW1, hrec]; exact run_enterLoop_outer _ _ _ _ _
  · simp only [resolve, hev]
    simp [go_sem]
  · intro f' _; exact trivial
  · simp [invoke, go_sem, eg]
  · have hstepL : ∀ {W : World} (o : Obj), Step (Just (w.heap.size + 1)) W (W.putObj (w.heap.size + 1) o) := fun o => putObj_step o
    refine callsIn_Fx ?_
    refine Calls.mono (hc (w.heap.size + 1) W1
      (fun M k W => J M k W ∧ W.heap[w.heap.size + 1]? = some (.loop (rec .ready none)) ∧ Dfr W w.heap.size ∧ M ≤ W.heap.size)
      ?_ ?_ ?_ ?_ ?_) ?_
    · rintro M k W W' ⟨hj, hl, hk, hm⟩ hs
      rw [hz1] at hs
      exact ⟨hJm M k W W' hj hs, (hs.block _ (Array.getElem?_eq_some_iff.1 hl).1 (fun h => by omega)).trans hl, hk.step hs (fun h => by omega), Nat.le_trans hm hs.size⟩
    · rintro M k W ⟨hj, _⟩; exact hrd M k W hj
    · exact hrd0 W1 hs1
    · intro M W hM hM2 hs
      rw [hz1] at hM
      exact ⟨h0 M W hM hM2 (hs1.trans hs) (hK1.no hs), (hs.no (by omega)).trans hL1, hK1.no hs, hM2⟩
    · rintro M k W args hM hM2 hx ⟨hj, hl, hk, hm⟩
      rw [hz1] at hM
      have hmem : args ∈ xs := List.mem_of_getElem? hx
      have hy := run_yield (P := P) (args := args) hl (by rw [hrec]; exact hps args hmem)
      rw [hrec] at hy
      have hlt : w.heap.size + 1 < W.heap.size := (Array.getElem?_eq_some_iff.1 hl).1
      refine ⟨fn, _, assign, body, hy, roundIn_of_wpIn hfn ?_⟩
      have hz := zip_foldl (n := n) (ps := ps.toList) (vs := args.toList) (t := a.tmps) (l := l) ha.size ha.get (fun p hp => blt_spec (List.all_eq_true.1 hpn p hp))
      have hfold : ((ps.zip args).foldl (fun tmps (x : Tmp × Value) => tmps.setIfInBounds x.1 x.2) a.tmps) = ((ps.toList.zip args.toList).foldl (fun t (x : Nat × Value) => t.setIfInBounds x.1 x.2) a.tmps) := by
        rw [← Array.foldl_toList, Array.toList_zip]
      refine wpIn_mono (hround M k W args hM hM2 hx hj hlt { tmps := _, defers := [] } ⟨by rw [hfold]; exact hz.1, rfl, fun t v ht => by rw [hfold]; exact hz.2 t v ht⟩) ?_
      rintro e a2 w2 hq
      cases e <;> (try exact hq.elim)
      obtain ⟨hs2, hq⟩ := hq
      have hl2 : w2.heap[w.heap.size + 1]? = some (.loop (rec .ready none)) := (hs2.no hlt).trans hl
      have hlt2 : w.heap.size + 1 < w2.heap.size := (Array.getElem?_eq_some_iff.1 hl2).1
      have hk2 := hk.no hs2
      obtain ⟨W3, hW3⟩ : ∃ W3, w2.putObj (w.heap.size + 1) (.loop { rec .ready none with state := .busy }) = W3 := ⟨_, rfl⟩
      have hs3 : Step (Just (w.heap.size + 1)) w2 W3 := hW3 ▸ putObj_step _
      have hz3 : W3.heap.size = w2.heap.size := by rw [← hW3]; exact putObj_size _
      have hl3 : W3.heap[w.heap.size + 1]? = some (.loop { rec .ready none with state := .busy }) := by rw [← hW3]; exact World.putObj_heap_same hlt2
      have hk3 : Dfr W3 w.heap.size := hk2.step hs3 (by simp)
      refine ⟨W3, by rw [← hW3]; exact run_beginRound hl2 (by rw [hrec]), ?_⟩
      refine wpIn_mono (hq W3 hs3 hz3) ?_
      have hgrow : W.heap.size ≤ W3.heap.size := by have := hs2.size; omega
      have fin : ∀ (jump : Option Code) (W4 : World), Step (Fb M) W3 W4 →
          (Instr.endRound (w.heap.size + 1) jump).run P W4 = .ok (.bool jump.isNone) (W4.putObj (w.heap.size + 1) (.loop (rec (if jump.isNone then .ready else .done) jump))) ∧
          (W4.putObj (w.heap.size + 1) (.loop (rec (if jump.isNone then .ready else .done) jump))).heap[w.heap.size + 1]? = some (.loop (rec (if jump.isNone then .ready else .done) jump)) ∧
          Dfr (W4.putObj (w.heap.size + 1) (.loop (rec (if jump.isNone then .ready else .done) jump))) w.heap.size ∧
          Step (fun i => i < W1.heap.size ∨ M ≤ i) W (W4.putObj (w.heap.size + 1) (.loop (rec (if jump.isNone then .ready else .done) jump))) ∧
          M ≤ (W4.putObj (w.heap.size + 1) (.loop (rec (if jump.isNone then .ready else .done) jump))).heap.size := fun jump W4 hs4 => by
        have hnL : ¬ Fb M (w.heap.size + 1) := fun h => by have := hFb _ _ h; omega
        have hnD : ¬ Fb M w.heap.size := fun h => by have := hFb _ _ h; omega
        have hl4 : W4.heap[w.heap.size + 1]? = some (.loop { rec .ready none with state := .busy }) := (hs4.block _ (by omega) hnL).trans hl3
        have hk4 : Dfr W4 w.heap.size := hk3.step hs4 hnD
        have hr := run_endRound (P := P) jump hl4
        have hlt4 := (Array.getElem?_eq_some_iff.1 hl4).1
        rw [hrec] at hr ⊢
        refine ⟨hr, World.putObj_heap_same hlt4, hk4.step (putObj_step _) (by simp), ?_, by rw [putObj_size]; have := hs4.size; omega⟩
        refine Step.trans (hs2.weak) (Step.trans (hs3.mono fun i hi => .inl (by rw [hz1]; have : i = w.heap.size + 1 := hi; omega)) (Step.trans (hs4.mono fun i hi => ?_) ((putObj_step _).mono fun i hi => .inl (by rw [hz1]; have : i = w.heap.size + 1 := hi; omega))))
        rcases hFb M i hi with h | h
        · exact .inl (by omega)
        · exact .inr h
      rintro e a3 W4 hp
      cases e with
      | normal =>
        obtain ⟨hs4, hj4⟩ := hp
        obtain ⟨hr, hl5, hk5, hs5, hm5⟩ := fin none W4 hs4
        exact ⟨_, _, hr, _, rfl, hs5, rfl, hJ _ _ _ _ hj4 (putObj_step _), hl5, hk5, hm5⟩
      | ret => exact hp.2.elim
      | exit id => exact hp.2.elim
      | goto t => exact hp.elim
      | panic ch => exact hp.elim
      | outgrown => exact hp.elim
    · rintro e W2 ⟨v, rfl, M, hM, hj, hl, hk, hm⟩
      rw [hz1] at hM
      have hlt := (Array.getElem?_eq_some_iff.1 hl).1
      refine ⟨none, _, by have := run_endLoop (P := P) hl (by rw [hrec]; simp); rw [hrec] at this; exact this, ?_⟩
      exact hdone M _ hM (by rw [putObj_size]; omega) (hJ _ _ _ _ hj (putObj_step _)) (hk.step (putObj_step _) (by simp)) _ ⟨ha.size, by simp [ha.defers], ha.get⟩

theorem VQ_retM0 {fn : Func} {S : Value → World → Prop} (Ds : List Nat) {e : Exit} (he : e = .normal ∨ e = .ret) (hr : fn.results = #[]) (hm : Marks Ds w) (hS : ∀ w', Step (fun i => i ∈ Ds) w w' → S (.tuple #[]) w') :
    VQ n (Ds.map markOf) (bodyPostM (Fx none) 0 P fn (PostV S)) e l w := by
  intro a ha
  have : LeavesInM (Fx none) 0 P fn a.tmps (PostV S) a.defers .returning w := by
    rw [ha.defers]
    exact leavesM Ds w hm fun w' hs => ⟨_, results_none hr _ _ _, _, rfl, hS w' hs⟩
  rcases he with rfl | rfl <;> exact this
end
end Go.Vc
end

section
/- Layer 20: all keys of a node. -/
set_option linter.unusedVariables false
set_option linter.unusedSimpArgs false
namespace Go.Proofs.Ythchmlidobgkoaa
open Go.Vc Go.RowKit

def keyV (L : List Cx) : List (Array Value) := L.map fun x => #[.agg #[.int .i64 x.p, .int .i64 x.v, .int .i64 x.c]]
theorem keyV_len (L : List Cx) : (keyV L).length = L.length := by unfold keyV; rw [List.length_map]
theorem keyV_sz (L : List Cx) : ∀ a ∈ keyV L, a.size = 1 := by
  intro a ha
  obtain ⟨x, _, rfl⟩ := List.mem_map.1 ha
  rfl
theorem keyV_inv {L : List Cx} {k : Nat} {args : Array Value} (h : (keyV L)[k]? = some args) : ∃ x, L[k]? = some x ∧ args = #[.agg #[.int .i64 x.p, .int .i64 x.v, .int .i64 x.c]] := by
  unfold keyV at h
  rw [List.getElem?_map] at h
  obtain ⟨x, hx, rfl⟩ := Option.map_eq_some_iff.1 h
  exact ⟨x, hx, rfl⟩
theorem keyV_at {g : NdG} {k : Nat} {y : Ent} (h : (g.ci.map Ci.ent)[k]? = some y) : (keyV g.L)[k]? = some #[.agg #[.int .i64 y.p, .int .i64 y.v, .int .i64 y.c]] := by
  rw [List.getElem?_map] at h
  obtain ⟨z, hz, rfl⟩ := Option.map_eq_some_iff.1 h
  unfold keyV NdG.L
  rw [List.getElem?_map, List.getElem?_map, hz]
  rfl
set_option maxRecDepth 100000 in
set_option maxHeartbeats 4000000 in
theorem nall_any (nd : Nat) (w : World) :
  CV Try.prog 10 #[.pointer (some ⟨nd, 0, none⟩)] w (fun x w1 => ∃ B, x = .func (.func 25) #[] #[.pointer (some ⟨B, 0, none⟩)] ∧ w.heap.size ≤ B ∧ Own w1 B #[.pointer (some ⟨nd, 0, none⟩)] 25 ∧ Step No w w1) := by
 have hS : Step No w w := Step.refl _ _
 refine CV_enter Try.f10 _ 4 [(0, .pointer (some ⟨nd, 0, none⟩))] Try.func10 rfl rfl (by kernel_rfl) rfl ?_
 refine VC_seq ?_
 refine VC_region ?_
 have hzs1 := hS.size
 refine VL_box (d := 1) (t := 25) (c := #[.pointer (some ⟨nd, 0, none⟩)]) (by kernel_rfl) (by kernel_rfl) ?_
 intro b1 w1 hn1
 replace hS := Step.trans hS (hn1.step No)
 have ho1 := hn1.own
 have hzhn1 := hn1.size
 have hqhn1 := hn1.eqb
 refine VL_pure 2 [1] [(1, .pointer (some ⟨b1, 0, none⟩))] (by kernel_rfl) rfl ?_
 refine VL_end (by kernel_rfl) ?_
 refine VQ_next ?_
 refine VC_seq ?_
 refine VC_region ?_
 refine VL_pure 2 [2] [(2, .func (.func 25) #[] #[.pointer (some ⟨b1, 0, none⟩)])] (by kernel_rfl) rfl ?_
 refine VL_end (by kernel_rfl) ?_
 refine VQ_next ?_
 refine VC_ret ?_
 refine VQ_ret1 (.func (.func 25) #[] #[.pointer (some ⟨b1, 0, none⟩)]) (.inr rfl) rfl rfl ?_
 exact ⟨b1, rfl, by omega, ho1, hS⟩

theorem stepJ_no {F : Nat → Prop} {w w1 w2 : World} (h : Step F w w1) (k : Step No w1 w2) : Step F w w2 := Step.trans h k.weak
set_option maxRecDepth 100000 in
set_option maxHeartbeats 4000000 in
theorem nall1_any (Lo B : Nat) (nd lo : Nat) (X : Nat → Prop) (rooms : List Int) (g : NdG) (Jo : Nat → Nat → World → Prop) (w : World) (h : NdX w nd X lo rooms g) (hB : Own w B #[.pointer (some ⟨nd, 0, none⟩)] 25) (hJm : ∀ M k W W', Jo M k W → Step (fun i => w.heap.size ≤ i ∧ i < M) W W' → Jo M k W') (h0 : ∀ M W, w.heap.size ≤ M → M ≤ W.heap.size → Step No w W → Jo M 0 W) (hy : ∀ M k W args, w.heap.size ≤ M → M ≤ W.heap.size → (keyV g.L)[k]? = some args → Jo M k W → YV Try.prog Lo args W fun v W' => Step (fun i => i < w.heap.size ∨ M ≤ i) W W' ∧ v = .bool true ∧ Jo M (k + 1) W') :
  CV Try.prog 25 #[.func (.yield Lo) #[] #[], .pointer (some ⟨B, 0, none⟩)] w (fun _ w1 => ∃ M, w.heap.size ≤ M ∧ Jo M (keyV g.L).length w1) := by
 have hSn : Step No w w := Step.refl _ _
 have hnd := h.own
 have htab := h.tab
 refine CV_enterM Try.f25 _ 17 [(0, .func (.yield Lo) #[] #[]), (1, .pointer (some ⟨B, 0, none⟩))] Try.func25 rfl rfl (by kernel_rfl) rfl ?_
 refine VC_seq ?_
 refine VC_region ?_
 have hzs1 := hSn.size
 have hzl1 := hnd.lt
 have hzl2 := Tb.lt htab
 have hzl3 := hB.lt
 refine VL_box (d := 2) (t := 57) (c := #[.func (.yield Lo) #[] #[]]) (by kernel_rfl) (by kernel_rfl) ?_
 intro b1 w1 hn1
 replace hSn := Step.trans hSn (hn1.step No)
 replace hnd := hnd.no (hn1.step No)
 replace htab := Tb.no htab (hn1.step No)
 replace hB := hB.no (hn1.step No)
 have ho1 := hn1.own
 have hzhn1 := hn1.size
 have hqhn1 := hn1.eqb
 refine VL_end (by kernel_rfl) ?_
 refine VQ_next ?_
 refine VC_seq ?_
 refine VC_seq ?_
 refine VC_region ?_
 refine VL_load (d := 4) (t := 25) (a := ⟨B, 0, none⟩) (v := .pointer (some ⟨nd, 0, none⟩)) (by kernel_rfl) (by kernel_rfl) (Loads.own1 hB (by kernel_rfl) (by rfl)) ?_
 refine VL_pure 2 [1, 2, 5] [(1, .pointer (some ⟨B, 0, none⟩)), (2, .pointer (some ⟨b1, 0, none⟩)), (5, .bool false)] (by kernel_rfl) rfl ?_
 refine VL_end (by kernel_rfl) ?_
 refine VQ_next ?_
 refine VC_false (by kernel_rfl) ?_
 refine VC_skip ?_
 refine VQ_next ?_
 refine VC_seq ?_
 refine VC_region ?_
 refine VL_load (d := 6) (t := 25) (a := ⟨B, 0, none⟩) (v := .pointer (some ⟨nd, 0, none⟩)) (by kernel_rfl) (by kernel_rfl) (Loads.own1 hB (by kernel_rfl) (by rfl)) ?_
 refine VL_pure 3 [2, 8] [(2, .pointer (some ⟨b1, 0, none⟩)), (8, .pointer (some ⟨nd, 1, none⟩))] (by kernel_rfl) rfl ?_
 refine VL_load (d := 9) (t := 49) (a := ⟨nd, 1, none⟩) (v := .pointer (some ⟨g.tb, 0, none⟩)) (by kernel_rfl) (by kernel_rfl) (Loads.own1 hnd (by kernel_rfl) (by rfl)) ?_
 have hzs2 := hSn.size
 have hzl4 := hnd.lt
 have hzl5 := Tb.lt htab
 have hzl6 := hB.lt
 have hzl7 := ho1.lt
 refine VL_call (d := 10) (f := 26) (args := #[.pointer (some ⟨g.tb, 0, none⟩)]) (by kernel_rfl) (by kernel_rfl) (by kernel_rfl) Try.call26 (all_any g.tb _) ?_
 rintro _ w2 ⟨bb1, rfl, hfbb1, hbb1, hc1⟩
 replace hSn := Step.trans hSn hc1
 replace hnd := hnd.no hc1
 replace htab := Tb.no htab hc1
 replace hB := hB.no hc1
 replace ho1 := ho1.no hc1
 have hzbb1 := hbb1.lt
 refine VL_end (by kernel_rfl) ?_
 refine VQ_next ?_
 refine VC_block ?_
 have hzs3 := hSn.size
 have hzl8 := hnd.lt
 have hzl9 := Tb.lt htab
 have hzl10 := hB.lt
 have hzl11 := ho1.lt
 have hzl12 := hbb1.lt
 have hyw : w.heap.size ≤ b1 := by omega
 have hzs4 := hSn.size
 have hzl13 := hnd.lt
 have hzl14 := Tb.lt htab
 have hzl15 := hB.lt
 have hzl16 := ho1.lt
 have hzl17 := hbb1.lt
 refine VC_range (gf := 42) (lb := #[.pointer (some ⟨bb1, 0, none⟩)]) (xs := (entV (g.ci.map Ci.ent))) (by kernel_rfl) Try.call42 (titer bb1 g.tb 64 (g.ci.map Ci.ent)) (fun a ha => by obtain ⟨x, _, rfl⟩ := List.mem_map.1 ha; rfl) (by kernel_rfl) (fun M i => i < w.heap.size ∨ M ≤ i) (fun M i hi => hi.elim (fun h9 => .inl (by omega)) .inr) (fun M k W => w2.heap.size + 2 ≤ M ∧ Jo M k W ∧ Own W b1 #[.func (.yield Lo) #[] #[]] 57 ∧ (k = 0 → Own W bb1 #[.pointer (some ⟨g.tb, 0, none⟩)] 49 ∧ Tb W g.tb 64 (g.ci.map Ci.ent))) (fun e W => False) (by rintro M k W W' ⟨hM9, hJq, ho1, hk9⟩ hs; exact ⟨hM9, hJm _ _ _ _ hJq (Step.mono hs (fun i hi => by have hi9 : i = w2.heap.size + 1 := hi; omega)), ho1.step hs (show ¬ b1 = w2.heap.size + 1 by omega), fun e9 => ⟨(hk9 e9).1.step hs (show ¬ bb1 = w2.heap.size + 1 by omega), Tb.step (hk9 e9).2 hs (show ¬ g.tb = w2.heap.size + 1 by omega)⟩⟩) (by rintro e W W' h; exact h.elim) (by rintro M k W W' ⟨hM9, hJq, ho1, hk9⟩ hs; exact ⟨hM9, hJm _ _ _ _ hJq hs.weak, ho1.no hs, fun e9 => ⟨(hk9 e9).1.no hs, Tb.no (hk9 e9).2 hs⟩⟩) (by rintro e W W' h; exact h.elim) (by rintro M k W ⟨hM9, hJq, ho1, hk9⟩; exact fun e9 => hk9 e9) (fun W hs _ => ⟨hbb1.no hs, Tb.no htab hs⟩) (fun M W hMm hM2 hs hD => ⟨hMm, h0 M W (by omega) hM2 (Step.trans hSn hs), ho1.no hs, fun _ => ⟨hbb1.no hs, Tb.no htab hs⟩⟩) ?_ ?_ ?_
 ·intro M k w3 args hM hM2 hx hJ0 hsz
  obtain ⟨hM9, hJq, ho1, hk9⟩ := hJ0
  obtain ⟨y, hy9, rfl⟩ := entV_inv hx
  have hSJ : Step (fun i => w.heap.size ≤ i ∧ i < M) w3 w3 := Step.refl _ _
  have hAs : Step No w3 w3 := Step.refl _ _
  have hML : M ≤ w3.heap.size := hM2
  refine VC_keep [2, 11] [(2, .pointer (some ⟨b1, 0, none⟩)), (11, .agg #[.int .i64 y.p, .int .i64 y.v, .int .i64 y.c])] (by kernel_rfl) ?_
  refine VC_region ?_
  have hzl18 := ho1.lt
  have hzk1 := hML
  have hzs5 := hAs.size
  refine VL_box (d := 3) (t := 28) (c := #[.int .i64 0, .int .i64 0, .int .i64 0]) (by kernel_rfl) (by kernel_rfl) ?_
  intro b2 w4 hn2
  replace ho1 := ho1.no (hn2.step No)
  replace hML := Nat.le_trans hML (hn2.step No).size
  replace hAs := Step.trans hAs (hn2.step No)
  replace hSJ := stepJ_no hSJ (hn2.step No)
  have ho2 := hn2.own
  have hzhn2 := hn2.size
  have hqhn2 := hn2.eqb
  refine VL_store (b := b2) (o := 0) (vs := [.int .i64 y.p, .int .i64 y.v, .int .i64 y.c]) (by kernel_rfl) (by kernel_rfl) ho2 (Nat.le_of_ble_eq_true (by kernel_rfl)) ?_
  intro w5 hw1
  replace ho1 := ho1.step hw1.step (show ¬ b1 = b2 by omega)
  replace hML := Nat.le_trans hML (hw1.step).size
  replace hAs := Step.transNew hAs hw1.step (fun _ _ _ => by omega)
  replace hSJ := Step.transNew hSJ hw1.step (fun i hi9 hF9 => by have hF8 : i = b2 := hF9; omega)
  have ho3 : Own w5 b2 #[.int .i64 y.p, .int .i64 y.v, .int .i64 y.c] 28 := Own.cast hw1.own (by kernel_rfl)
  have hzhw1 := hw1.same
  refine VL_end (by kernel_rfl) ?_
  refine VQ_begin hAs ?_
  intro w6 hb1 hzhb1
  have hzl19 := ho1.lt
  have hzk2 := hML
  have hzl20 := ho3.lt
  replace ho1 := ho1.step hb1 (show ¬ b1 = (w2.heap.size + 1) by omega)
  replace hML := Nat.le_trans hML (hb1).size
  replace hSJ := Step.trans hSJ (Step.mono hb1 (fun i hi => by have hi9 : i = (w2.heap.size + 1) := hi; omega))
  replace ho3 := ho3.step hb1 (show ¬ b2 = (w2.heap.size + 1) by omega)
  have hR1 : Step ((fun M i => i < w.heap.size ∨ M ≤ i) M) w6 w6 := Step.refl _ _
  refine VC_block ?_
  refine VC_seq ?_
  refine VC_region ?_
  refine VL_load (d := 13) (t := 57) (a := ⟨b1, 0, none⟩) (v := .func (.yield Lo) #[] #[]) (by kernel_rfl) (by kernel_rfl) (Loads.own1 ho1 (by kernel_rfl) (by rfl)) ?_
  refine VL_load (d := 14) (t := 28) (a := ⟨b2, 0, none⟩) (v := .agg #[.int .i64 y.p, .int .i64 y.v, .int .i64 y.c]) (by kernel_rfl) (by kernel_rfl) (Loads.ownL ho3 (n := 3) (by kernel_rfl) (by kernel_rfl) (by kernel_rfl)) ?_
  have hJ4 := hJm _ _ _ _ hJq hSJ
  have hzl21 := ho1.lt
  have hzk3 := hML
  have hzl22 := ho3.lt
  have hzs6 := hR1.size
  refine VL_yieldR (d := 15) (L := Lo) (args := #[.agg #[.int .i64 y.p, .int .i64 y.v, .int .i64 y.c]]) (by kernel_rfl) (by kernel_rfl) (by kernel_rfl) (hy M k _ _ (by omega) hML (keyV_at hy9) hJ4) ?_
  rintro _ w7 ⟨hshy1, rfl, hy1⟩
  replace ho1 := ho1.step hshy1 (by (try simp only); omega)
  replace hR1 := Step.trans hR1 hshy1
  have hJq2 := hy1
  refine VL_pure 4 [16] [(16, .bool false)] (by kernel_rfl) rfl ?_
  refine VL_end (by kernel_rfl) ?_
  refine VQ_next ?_
  refine VC_false (by kernel_rfl) ?_
  refine VC_skip ?_
  refine VQ_block_normal ?_
  exact VQ_round_end hR1 ⟨hM9, hJq2, ho1, fun e9 => absurd e9 (by omega)⟩
 ·intro M w8 hM hzM hJ0 hD
  obtain ⟨hM9, hJq, ho1, hk9⟩ := hJ0
  have hmk1 := hD
  refine VQ_block_normal ?_
  have hzl23 := hmk1.lt
  refine VQ_retM0 [w2.heap.size] (.inl rfl) rfl ⟨hmk1, (by simp), trivial⟩ ?_
  intro w9 hq1
  replace hq1 : Step (Just w2.heap.size) w8 w9 := Step.mono hq1 (fun i hi => by simpa using hi)
  replace hJq := hJm _ _ _ _ hJq (Step.mono hq1 (fun i hi => by have hi9 : i = w2.heap.size := hi; omega))
  have h9 : (entV (g.ci.map Ci.ent)).length = (keyV g.L).length := by rw [entV_len, keyV_len, List.length_map]; unfold NdG.L; rw [List.length_map]
  rw [h9] at hJq
  exact ⟨M, by omega, hJq⟩
 ·intro e W _ hF _; exact hF.elim

end Go.Proofs.Ythchmlidobgkoaa
end

section
/- Layer 20: a node by its list; things to be done, as arguments. -/
set_option linter.unusedVariables false
set_option linter.unusedSimpArgs false
namespace Go.Proofs.Ythchmlidobgkoaa
open Go.Vc Go.RowKit

theorem sl_of_flat {α : Type} (d0 : α) (enc : α → List Value) {sz : Nat} (hsz : ∀ x, (enc x).length = sz) (h0 : 0 < sz) {ls : List Leaf} (mk : ∀ cs, CellsW cs ls → ∃ a, cs = enc a) {w : World} {A : Option Addr} {n : Nat} (h : FlatSl w A n sz ls) : ∃ xs : List α, xs.length = n ∧ Sl w w.heap.size A (flat enc xs) := by
  by_cases hn : 0 < n
  · obtain ⟨b, o, rfl, hb, hc⟩ := h hn
    have hex : ∀ i, ∃ q : α, i < n → ∀ j, j < sz → w.cell? ⟨b, o + i * sz + j, none⟩ = (enc q)[j]? := by
      intro i
      by_cases hi : i < n
      · obtain ⟨cs, hw, hr⟩ := hc i hi
        obtain ⟨a, rfl⟩ := mk cs hw
        exact ⟨a, fun _ => hr⟩
      · exact ⟨d0, fun h => absurd h hi⟩
    obtain ⟨q, hq⟩ := Classical.axiomOfChoice hex
    refine ⟨(List.range n).map q, by simp, fun _ => ⟨b, o, rfl, hb, fun j u hu => ?_⟩⟩
    have hj : j = j / sz * sz + j % sz := by rw [Nat.mul_comm]; exact (Nat.div_add_mod j sz).symm
    have hm : j % sz < sz := Nat.mod_lt _ h0
    rw [hj, flat_get hsz _ _ _ hm] at hu
    obtain ⟨x, hx, hxu⟩ := Option.bind_eq_some_iff.1 hu
    have hlt : j / sz < n := by
      have := (List.getElem?_eq_some_iff.1 hx).1
      simpa using this
    rw [List.getElem?_map, List.getElem?_range hlt] at hx
    simp only [Option.map_some, Option.some.injEq] at hx
    subst hx
    rw [← hxu, ← hq _ hlt _ hm]
    congr 2
    omega
  · exact ⟨[], by simp; omega, fun h => by simp [flat] at h⟩
theorem ints_of_flat {w : World} {A : Option Addr} {n : Nat} (h : FlatSl w A n 1 [.int .i64]) : ∃ rs : List Int, rs.length = n ∧ Sl w w.heap.size A (iL .i64 rs) := by
  obtain ⟨xs, h1, h2⟩ := sl_of_flat (0 : Int) (fun x => [Value.int .i64 x]) (fun _ => rfl) (by decide) (fun cs hw => by
    have hlen := hw.length
    obtain ⟨c0, rfl⟩ : ∃ c0, cs = [c0] := by
      rcases cs with _ | ⟨c0, _ | ⟨c1, r⟩⟩ <;> first | exact ⟨_, rfl⟩ | (simp at hlen)
    obtain ⟨⟨a0, h0, _⟩, _⟩ := hw
    subst h0
    exact ⟨a0, rfl⟩) h
  refine ⟨xs, h1, ?_⟩
  have : flat (fun x => [Value.int .i64 x]) xs = iL .i64 xs := by
    clear h1 h2
    induction xs with
    | nil => rfl
    | cons x xs ih => rw [flat_cons, ih]; rfl
  rwa [this] at h2

structure OpA where
  d : Int
  p : Int
  v : Int
  c : Int
  k : Con
  t : Int
  clp : Int
def opc (o : OpA) : List Value := [.int .i64 o.d, .int .i64 o.p, .int .i64 o.v, .int .i64 o.c, .int .i64 o.k.kind, .int .i64 o.k.peak, .int .i64 o.k.early, .int .i64 o.k.whole, .int .i64 o.k.burst, .int .i64 o.k.least, .int .i64 o.t, .int .i64 o.clp]
theorem opc_len (o : OpA) : (opc o).length = 12 := rfl
theorem ops_of_flat {w : World} {A : Option Addr} {n : Nat} (h : FlatSl w A n 12 [.int .i64, .int .i64, .int .i64, .int .i64, .int .i64, .int .i64, .int .i64, .int .i64, .int .i64, .int .i64, .int .i64, .int .i64]) : ∃ xs : List OpA, xs.length = n ∧ Sl w w.heap.size A (flat opc xs) := by
  refine sl_of_flat (⟨0, 0, 0, 0, conZ, 0, 0⟩ : OpA) opc opc_len (by decide) (fun cs hw => ?_) h
  have hlen := hw.length
  obtain ⟨c0, c1, c2, c3, c4, c5, c6, c7, c8, c9, c10, c11, rfl⟩ : ∃ c0 c1 c2 c3 c4 c5 c6 c7 c8 c9 c10 c11, cs = [c0, c1, c2, c3, c4, c5, c6, c7, c8, c9, c10, c11] := by
    rcases cs with _ | ⟨c0, _ | ⟨c1, _ | ⟨c2, _ | ⟨c3, _ | ⟨c4, _ | ⟨c5, _ | ⟨c6, _ | ⟨c7, _ | ⟨c8, _ | ⟨c9, _ | ⟨c10, _ | ⟨c11, _ | ⟨c12, r⟩⟩⟩⟩⟩⟩⟩⟩⟩⟩⟩⟩⟩ <;> first | exact ⟨_, _, _, _, _, _, _, _, _, _, _, _, rfl⟩ | (simp at hlen)
  obtain ⟨⟨a0, h0, u0⟩, ⟨a1, h1, u1⟩, ⟨a2, h2, u2⟩, ⟨a3, h3, u3⟩, ⟨a4, h4, u4⟩, ⟨a5, h5, u5⟩, ⟨a6, h6, u6⟩, ⟨a7, h7, u7⟩, ⟨a8, h8, u8⟩, ⟨a9, h9, u9⟩, ⟨a10, h10, u10⟩, ⟨a11, h11, u11⟩, u12⟩ := hw
  clear u0 u1 u2 u3 u4 u5 u6 u7 u8 u9 u10 u11 u12
  subst h0; subst h1; subst h2; subst h3; subst h4; subst h5; subst h6; subst h7; subst h8; subst h9; subst h10; subst h11
  exact ⟨⟨a0, a1, a2, a3, ⟨a4, a5, a6, a7, a8, a9⟩, a10, a11⟩, rfl⟩
/-- What is done to a node's list, and answered. -/
def doL (rooms : List Int) (L : List Cx) (o : OpA) : List Cx :=
  if o.d = 1 then takeN rooms L o.p o.v o.c o.k else if o.d = 2 then chgN rooms L o.p o.v o.c o.k else if o.d = 3 then delC L o.p o.v o.c else if o.d = 4 then verN L o.p o.v o.c o.t o.clp else L
def doV (rooms : List Int) (L : List Cx) (o : OpA) : Int := if o.d = 1 then chkN rooms L o.p o.v o.c o.k else if o.d = 2 then chgK rooms L o.p o.v o.c o.k else 0

section
variable {w w1 : World} {F : Nat → Prop} {nd lo : Nat} {X : Nat → Prop} {rooms : List Int} {L : List Cx} {n : Nat}
theorem NdP.step (h : NdP w nd X lo rooms L n) (hs : Step F w w1) (hF : ∀ k, X k → ¬ F k) : NdP w1 nd X lo rooms L n := by obtain ⟨g, h1, h2, h3⟩ := h; exact ⟨g, h1.step hs hF, h2, h3⟩
theorem NdP.no (h : NdP w nd X lo rooms L n) (hs : Step No w w1) : NdP w1 nd X lo rooms L n := h.step hs fun _ _ => id
theorem NdP.lt (h : NdP w nd X lo rooms L n) : nd < w.heap.size := by obtain ⟨g, h1, h2, h3⟩ := h; exact h1.lt h1.inX.1
theorem NdP.ltX (h : NdP w nd X lo rooms L n) {k : Nat} (hk : X k) : k < w.heap.size := by obtain ⟨g, h1, h2, h3⟩ := h; exact h1.lt hk
theorem NdP.low (h : NdP w nd X lo rooms L n) {k : Nat} (hk : X k) : lo ≤ k := by obtain ⟨g, h1, h2, h3⟩ := h; exact h1.lo k hk
theorem NdP.lo_le (h : NdP w nd X lo rooms L n) : lo ≤ w.heap.size := by obtain ⟨g, h1, h2, h3⟩ := h; have := h1.lo nd h1.inX.1; have := h1.lt h1.inX.1; omega
theorem NdP.nt (h : NdP w nd X lo rooms L n) {k : Nat} (hk : X k) : NT w k := by obtain ⟨g, h1, h2, h3⟩ := h; exact h1.ty k hk
theorem NdP.li (h : NdP w nd X lo rooms L n) : LI rooms L := by obtain ⟨g, h1, h2, h3⟩ := h; rw [← h2]; exact h1.li
theorem NdP.len (h : NdP w nd X lo rooms L n) : L.length ≤ 64 := h.li.len
theorem NdP.more (h : NdP w nd X lo rooms L n) {m : Nat} (hm : n ≤ m) : NdP w nd X lo rooms L m := by obtain ⟨g, h1, h2, h3⟩ := h; exact ⟨g, h1, h2, by omega⟩
/-- A block of another type is none of a node's. -/
theorem NdP.nx (h : NdP w nd X lo rooms L n) {b T : Nat} {cs : Array Value} (ho : Own w b cs T) (hT : T ≠ 54 ∧ T ≠ 55 ∧ T ≠ 80 ∧ T ≠ 77 ∧ T ≠ 103 ∧ T ≠ 98 ∧ T ≠ 127) : ¬ X b := fun hb => NT.not ho hT (h.nt hb)
theorem NdP.blk (h : NdP w nd X lo rooms L n) {b T : Nat} {cs : Array Value} (ho : Own w b cs T) (hT : T ≠ 54 ∧ T ≠ 55 ∧ T ≠ 80 ∧ T ≠ 77 ∧ T ≠ 103 ∧ T ≠ 98 ∧ T ≠ 127) (hs : Step (Just b) w w1) : NdP w1 nd X lo rooms L n := h.step hs fun k hk e => h.nx ho hT (by rw [show k = b from e] at hk; exact hk)
theorem NdP.row {sz base m c T : Nat} {A : Option Addr} {xs : List Value} (h : NdP w nd X lo rooms L n) (hr : RwS w sz base T A m c xs) (hT : T ≠ 54 ∧ T ≠ 55 ∧ T ≠ 80 ∧ T ≠ 77 ∧ T ≠ 103 ∧ T ≠ 98 ∧ T ≠ 127) (hs : Step (ownB A) w w1) : NdP w1 nd X lo rooms L n := h.step hs fun k hk e => by
  have h1 := tyO_tyB (hr.tyB e)
  obtain ⟨_, h2⟩ := h.nt hk
  omega
theorem NdP.mark {b : Nat} (h : NdP w nd X lo rooms L n) (hs : Step (Just b) w w1) (hb : ¬ X b) : NdP w1 nd X lo rooms L n := h.step hs fun k hk e => hb (by rw [show k = b from e] at hk; exact hk)
theorem NdP.dfr {b : Nat} (h : NdP w nd X lo rooms L n) (hd : Dfr w b) : ¬ X b := fun hb => by
  obtain ⟨_, h2⟩ := h.nt hb
  have h1 : tyO w b = 1 := by unfold tyO; unfold Dfr at hd; rw [hd]
  omega
abbrev KV (p v c : Int) : Value := .agg #[.int .i64 p, .int .i64 v, .int .i64 c]
abbrev CVv (k : Con) : Value := .agg #[.int .i64 k.kind, .int .i64 k.peak, .int .i64 k.early, .int .i64 k.whole, .int .i64 k.burst, .int .i64 k.least]
/-- What an operation leaves. -/
def Next (w : World) (nd : Nat) (X : Nat → Prop) (lo : Nat) (rooms : List Int) (L : List Cx) (n : Nat) (w1 : World) : Prop := ∃ X9, NdP w1 nd X9 lo rooms L n ∧ (∀ q, X9 q → X q ∨ w.heap.size ≤ q) ∧ Step X w w1
theorem Next.of_no (h : NdP w nd X lo rooms L n) (hs : Step No w w1) : Next w nd X lo rooms L (n + 1) w1 := ⟨X, (h.no hs).more (by omega), fun q hq => .inl hq, hs.weak⟩
theorem ntake (h : NdP w nd X lo rooms L n) (hn : n < 1152921504606846976) (p v c : Int) (k : Con) : CV Try.prog 16 #[.pointer (some ⟨nd, 0, none⟩), KV p v c, CVv k] w fun x w1 => x = .int .i64 (chkN rooms L p v c k) ∧ Next w nd X lo rooms (takeN rooms L p v c k) (n + 1) w1 := by
  have hlo := h.lo_le
  obtain ⟨g, h1, rfl, h3⟩ := h
  refine (take_any nd lo X rooms g p v c k (by omega) w hlo h1 (fun hc => take_no nd lo X rooms g p v c k hc w h1)).mono ?_
  rintro x w1 ⟨rfl, g9, X9, a, b, c', d, e⟩
  exact ⟨rfl, X9, ⟨g9, a, b, by omega⟩, d, e⟩
theorem nchange (h : NdP w nd X lo rooms L n) (p v c : Int) (k : Con) : CV Try.prog 20 #[.pointer (some ⟨nd, 0, none⟩), KV p v c, CVv k] w fun x w1 => x = .int .i64 (chgK rooms L p v c k) ∧ Next w nd X lo rooms (chgN rooms L p v c k) (n + 1) w1 := by
  have hlo := h.lo_le
  have hh := h
  obtain ⟨g, h1, rfl, h3⟩ := h
  by_cases hc : chgK rooms g.L p v c k = 0
  · refine (change_yes nd lo X rooms g p v c k hc w hlo h1).mono ?_
    rintro x w1 ⟨rfl, g9, X9, a, b, c', d, e⟩
    exact ⟨by rw [hc], X9, ⟨g9, a, b, by omega⟩, d, e⟩
  · refine (change_no nd lo X rooms g p v c k hc w h1).mono ?_
    rintro x w1 ⟨rfl, hs⟩
    exact ⟨rfl, by have := Next.of_no hh hs; unfold chgN; rw [if_neg hc]; exact this⟩
theorem ndrop (h : NdP w nd X lo rooms L n) (p v c : Int) : CV Try.prog 21 #[.pointer (some ⟨nd, 0, none⟩), KV p v c] w fun x w1 => x = .bool (findC L p v c).isSome ∧ Next w nd X lo rooms (delC L p v c) (n + 1) w1 := by
  have hh := h
  obtain ⟨g, h1, rfl, h3⟩ := h
  cases hc : (findC g.L p v c).isSome with
  | true =>
    refine (drop_yes nd lo X rooms g p v c w h1 (by rw [lookE_isSome]; exact hc)).mono ?_
    rintro x w1 ⟨rfl, g9, X9, a, b, c', d, e⟩
    exact ⟨rfl, X9, ⟨g9, a, b, by omega⟩, d, e⟩
  | false =>
    have hn : findC g.L p v c = none := by cases e : findC g.L p v c; rfl; rw [e] at hc; cases hc
    refine (ndrop_no nd lo X rooms g p v c w h1 (by rw [lookE_isSome]; exact hc)).mono ?_
    rintro x w1 ⟨rfl, hs⟩
    exact ⟨rfl, by rw [delC_none hn]; exact Next.of_no hh hs⟩
theorem nverdict (h : NdP w nd X lo rooms L n) (p v c t clp : Int) : CV Try.prog 22 #[.pointer (some ⟨nd, 0, none⟩), KV p v c, .int .i64 t, .int .i64 clp] w fun x w1 => x = .tuple #[.int .i64 (verV L p v c t clp), .bool (findC L p v c).isSome] ∧ Next w nd X lo rooms (verN L p v c t clp) (n + 1) w1 := by
  have hh := h
  obtain ⟨g, h1, rfl, h3⟩ := h
  cases hc : (findC g.L p v c).isSome with
  | true =>
    refine (verdict_yes nd lo X rooms g p v c t clp w h1 (by rw [lookE_isSome]; exact hc)).mono ?_
    rintro x w1 ⟨rfl, g9, X9, a, b, c', d, e⟩
    exact ⟨rfl, X9, ⟨g9, a, b, by omega⟩, d, e⟩
  | false =>
    have hn : findC g.L p v c = none := by cases e : findC g.L p v c; rfl; rw [e] at hc; cases hc
    refine (verdict_no nd lo X rooms g p v c t clp w h1 (by rw [lookE_isSome]; exact hc)).mono ?_
    rintro x w1 ⟨rfl, hs⟩
    refine ⟨by unfold verV; rw [hn], ?_⟩
    unfold verN
    rw [setC_none hn]
    exact Next.of_no hh hs
theorem nleft (h : NdP w nd X lo rooms L n) (p : Int) : CV Try.prog 9 #[.pointer (some ⟨nd, 0, none⟩), .int .i64 p] w fun x w1 => x = .int .i64 (leftN rooms L p) ∧ Step No w w1 := by
  obtain ⟨g, h1, rfl, h3⟩ := h
  exact nLeft_any nd lo X rooms g p w h1
theorem nused (h : NdP w nd X lo rooms L n) (p : Int) : CV Try.prog 15 #[.pointer (some ⟨nd, 0, none⟩), .int .i64 p] w fun x w1 => x = .int .i64 (usedN rooms L p) ∧ Step No w w1 := by
  obtain ⟨g, h1, rfl, h3⟩ := h
  exact nUsed_any nd lo X rooms g p w h1
theorem nnew {A : Option Addr} {m c Bd : Nat} {rs : List Int} (hn : rs.length = m) (hA : Sl w Bd A (iL .i64 rs)) (hB : Bd ≤ w.heap.size) (hnc : m ≤ c) : CV Try.prog 7 #[.slice A m c] w fun x w1 => ∃ nd X, x = .pointer (some ⟨nd, 0, none⟩) ∧ NdP w1 nd X w.heap.size (roomsN rs) [] 0 ∧ (∀ q, X q → w.heap.size ≤ q) ∧ Step No w w1 := by
  refine (nnew_x A m c Bd rs w hn hA hB hnc).mono ?_
  rintro x w1 ⟨nd, X, g, rfl, a, b, c', d, e⟩
  exact ⟨nd, X, rfl, ⟨g, a, b, by omega⟩, d, e⟩
theorem niter (B nd lo : Nat) (X : Nat → Prop) (rooms : List Int) (L : List Cx) (n : Nat) : IterC2 Try.prog 25 #[.pointer (some ⟨B, 0, none⟩)] (keyV L) (fun k W => k = 0 → Own W B #[.pointer (some ⟨nd, 0, none⟩)] 25 ∧ NdP W nd X lo rooms L n) := by
  intro Lo W0 J hJm hrd hrd0 h0 hy
  obtain ⟨hB, g, h, rfl, h3⟩ := hrd0 rfl
  exact nall1_any Lo B nd lo X rooms g J W0 h hB hJm h0 hy
end
end Go.Proofs.Ythchmlidobgkoaa
end

section
/- The calculus: a load in a drawn region's chain; what lies beyond a world's end plays no part. -/
set_option linter.unusedVariables false
set_option linter.unusedSimpArgs false
namespace Go.Vc
open Go.RowKit
theorem Step.cut {X : Nat → Prop} {s : Nat} {w w' : World} (h : Step (fun k => X k ∨ s ≤ k) w w') (hs : w.heap.size ≤ s) : Step X w w' :=
  ⟨h.os, h.tape, h.output, h.size, fun k hk hX => h.block k hk (fun e => e.elim hX (fun h1 => by omega))⟩
section
variable {r : Option Nat} {n : Nat} {ds : List Deferred} {P : Program} {ops : Array Oper} {Q : Exit → Act → World → Prop} {tbl : List (List Nat)} {m : Nat} {l : List (Nat × Value)} {R : World → World → Prop} {ch : List Nat} {w : World}
end
end Go.Vc
end

section
/- Layer 20: do, keys, awake. -/
set_option linter.unusedVariables false
set_option linter.unusedSimpArgs false
namespace Go.Proofs.Ythchmlidobgkoaa
open Go.Vc Go.RowKit

def keyc (x : Cx) : List Value := [.int .i64 x.p, .int .i64 x.v, .int .i64 x.c]
theorem keyc_len (x : Cx) : (keyc x).length = 3 := rfl
theorem keyc_one (x : Cx) : ∀ u ∈ keyc x, oneC u = true := by
  intro u hu
  simp only [keyc, List.mem_cons, List.mem_nil_iff, or_false] at hu
  rcases hu with rfl | rfl | rfl <;> rfl
theorem takeC_next {α : Type} {L : List α} {k : Nat} {y : α} (h : L[k]? = some y) : L.take (k + 1) = L.take k ++ [y] := by
  rw [List.take_add_one, h]; rfl
set_option maxRecDepth 100000 in
set_option maxHeartbeats 4000000 in
theorem do_any {nd lo : Nat} {X : Nat → Prop} {rooms : List Int} {L : List Cx} {n : Nat} {w : World} (h : NdP w nd X lo rooms L n) (hn : n < 1152921504606846975) (o : OpA)  :
  CV Try.prog 8 #[.pointer (some ⟨nd, 0, none⟩), .agg #[.int .i64 o.d, .int .i64 o.p, .int .i64 o.v, .int .i64 o.c, .int .i64 o.k.kind, .int .i64 o.k.peak, .int .i64 o.k.early, .int .i64 o.k.whole, .int .i64 o.k.burst, .int .i64 o.k.least, .int .i64 o.t, .int .i64 o.clp]] w (fun x w1 => x = .int .i64 (doV rooms L o) ∧ Next w nd X lo rooms (doL rooms L o) (n + 1) w1) := by
 have hS : Step X w w := Step.refl _ _
 have hlo := h.lo_le
 have hXwnd := fun k9 hk9 => NdP.ltX h (k := k9) hk9
 refine CV_enter Try.f8 _ 39 [(0, .pointer (some ⟨nd, 0, none⟩)), (1, .agg #[.int .i64 o.d, .int .i64 o.p, .int .i64 o.v, .int .i64 o.c, .int .i64 o.k.kind, .int .i64 o.k.peak, .int .i64 o.k.early, .int .i64 o.k.whole, .int .i64 o.k.burst, .int .i64 o.k.least, .int .i64 o.t, .int .i64 o.clp])] Try.func8 rfl rfl (by kernel_rfl) rfl ?_
 refine VC_seq ?_
 refine VC_region ?_
 have hzl1 := NdP.lt h
 refine VL_box (d := 3) (t := 32) (c := #[.int .i64 o.d, .int .i64 o.p, .int .i64 o.v, .int .i64 o.c, .int .i64 o.k.kind, .int .i64 o.k.peak, .int .i64 o.k.early, .int .i64 o.k.whole, .int .i64 o.k.burst, .int .i64 o.k.least, .int .i64 o.t, .int .i64 o.clp]) (by kernel_rfl) (by kernel_rfl) ?_
 intro b1 w1 hn1
 replace hS := (fun h9 s9 => Step.trans h9 (Step.weak s9)) hS (hn1.step No)
 replace h := NdP.no h (hn1.step No)
 have ho1 := hn1.own
 have hzhn1 := hn1.size
 have hqhn1 := hn1.eqb
 refine VL_pure 2 [0, 3] [(0, .pointer (some ⟨nd, 0, none⟩)), (3, .pointer (some ⟨b1, 0, none⟩))] (by kernel_rfl) rfl ?_
 refine VL_end (by kernel_rfl) ?_
 refine VQ_next ?_
 refine VC_seq ?_
 refine VC_seq ?_
 refine VC_region ?_
 refine VL_pure 1 [0, 3, 5] [(0, .pointer (some ⟨nd, 0, none⟩)), (3, .pointer (some ⟨b1, 0, none⟩)), (5, .pointer (some ⟨b1, 0, none⟩))] (by kernel_rfl) rfl ?_
 refine VL_load (d := 6) (t := 3) (a := ⟨b1, 0, none⟩) (v := .int .i64 o.d) (by kernel_rfl) (by kernel_rfl) (Loads.own1 ho1 (by kernel_rfl) (by rfl)) ?_
 refine VL_end (by kernel_rfl) ?_
 refine VQ_next ?_
 refine VC_block ?_
 refine VC_seq ?_
 refine VC_region ?_
 refine VL_pure 2 [0, 3, 6, 7] [(0, .pointer (some ⟨nd, 0, none⟩)), (3, .pointer (some ⟨b1, 0, none⟩)), (6, .int .i64 o.d), (7, .bool (o.d == 1))] (by kernel_rfl) rfl ?_
 refine VL_end (by kernel_rfl) ?_
 refine VQ_next ?_
 refine VC_eq o.d 1 (by kernel_rfl) (fun h1 => ?_) (fun h1 => ?_)
 ·refine VC_seq ?_
  refine VC_region ?_
  refine VL_pure 2 [3, 9, 10] [(3, .pointer (some ⟨b1, 0, none⟩)), (9, .pointer (some ⟨nd, 0, none⟩)), (10, .pointer (some ⟨b1, 1, none⟩))] (by kernel_rfl) rfl ?_
  refine VL_load (d := 11) (t := 28) (a := ⟨b1, 1, none⟩) (v := .agg #[.int .i64 o.p, .int .i64 o.v, .int .i64 o.c]) (by kernel_rfl) (by kernel_rfl) (Loads.ownL ho1 (n := 3) (by kernel_rfl) (by kernel_rfl) (by kernel_rfl)) ?_
  refine VL_pure 4 [9, 11, 12] [(9, .pointer (some ⟨nd, 0, none⟩)), (11, .agg #[.int .i64 o.p, .int .i64 o.v, .int .i64 o.c]), (12, .pointer (some ⟨b1, 4, none⟩))] (by kernel_rfl) rfl ?_
  refine VL_load (d := 13) (t := 30) (a := ⟨b1, 4, none⟩) (v := .agg #[.int .i64 o.k.kind, .int .i64 o.k.peak, .int .i64 o.k.early, .int .i64 o.k.whole, .int .i64 o.k.burst, .int .i64 o.k.least]) (by kernel_rfl) (by kernel_rfl) (Loads.ownL ho1 (n := 6) (by kernel_rfl) (by kernel_rfl) (by kernel_rfl)) ?_
  have hzl2 := NdP.lt h
  have hzl3 := ho1.lt
  refine VL_call (d := 14) (f := 16) (args := #[.pointer (some ⟨nd, 0, none⟩), .agg #[.int .i64 o.p, .int .i64 o.v, .int .i64 o.c], .agg #[.int .i64 o.k.kind, .int .i64 o.k.peak, .int .i64 o.k.early, .int .i64 o.k.whole, .int .i64 o.k.burst, .int .i64 o.k.least]]) (by kernel_rfl) (by kernel_rfl) (by kernel_rfl) Try.call16 (ntake h (by omega) o.p o.v o.c o.k) ?_
  rintro _ w2 ⟨rfl, X1, hN1, hXg1, hc1⟩
  have hzhc1 := (hc1).size
  replace hS := Step.trans hS hc1
  replace ho1 := ho1.step hc1 (NdP.nx h ho1 (by decide))
  have hXwnd := fun k9 hk9 => NdP.ltX hN1 (k := k9) hk9
  have hszhN1 := Nat.le_refl w2.heap.size
  refine VL_pure 7 [4] [(4, .int .i64 (chkN rooms L o.p o.v o.c o.k))] (by kernel_rfl) rfl ?_
  refine VL_end (by kernel_rfl) ?_
  refine VQ_next ?_
  refine VC_ret ?_
  refine VQ_block_ret ?_
  refine VQ_then_ret ?_
  refine VQ_ret1 (.int .i64 (chkN rooms L o.p o.v o.c o.k)) (.inr rfl) rfl rfl ?_
  exact ⟨congrArg (Value.int .i64) (by unfold doV; simp [*]), X1, (by rw [show doL rooms L o = takeN rooms L o.p o.v o.c o.k by unfold doL; simp [*]]; exact NdP.more hN1 (by omega)), fun q9 hq9 => (hXg1 q9 hq9).imp id (fun h9 => by omega), hS⟩
 ·refine VC_seq ?_
  refine VC_region ?_
  refine VL_pure 2 [0, 3, 6, 15] [(0, .pointer (some ⟨nd, 0, none⟩)), (3, .pointer (some ⟨b1, 0, none⟩)), (6, .int .i64 o.d), (15, .bool (o.d == 2))] (by kernel_rfl) rfl ?_
  refine VL_end (by kernel_rfl) ?_
  refine VQ_next ?_
  refine VC_eq o.d 2 (by kernel_rfl) (fun h2 => ?_) (fun h2 => ?_)
  ·refine VC_seq ?_
   refine VC_region ?_
   refine VL_pure 2 [3, 17, 18] [(3, .pointer (some ⟨b1, 0, none⟩)), (17, .pointer (some ⟨nd, 0, none⟩)), (18, .pointer (some ⟨b1, 1, none⟩))] (by kernel_rfl) rfl ?_
   refine VL_load (d := 19) (t := 28) (a := ⟨b1, 1, none⟩) (v := .agg #[.int .i64 o.p, .int .i64 o.v, .int .i64 o.c]) (by kernel_rfl) (by kernel_rfl) (Loads.ownL ho1 (n := 3) (by kernel_rfl) (by kernel_rfl) (by kernel_rfl)) ?_
   refine VL_pure 4 [17, 19, 20] [(17, .pointer (some ⟨nd, 0, none⟩)), (19, .agg #[.int .i64 o.p, .int .i64 o.v, .int .i64 o.c]), (20, .pointer (some ⟨b1, 4, none⟩))] (by kernel_rfl) rfl ?_
   refine VL_load (d := 21) (t := 30) (a := ⟨b1, 4, none⟩) (v := .agg #[.int .i64 o.k.kind, .int .i64 o.k.peak, .int .i64 o.k.early, .int .i64 o.k.whole, .int .i64 o.k.burst, .int .i64 o.k.least]) (by kernel_rfl) (by kernel_rfl) (Loads.ownL ho1 (n := 6) (by kernel_rfl) (by kernel_rfl) (by kernel_rfl)) ?_
   have hzl4 := NdP.lt h
   have hzl5 := ho1.lt
   refine VL_call (d := 22) (f := 20) (args := #[.pointer (some ⟨nd, 0, none⟩), .agg #[.int .i64 o.p, .int .i64 o.v, .int .i64 o.c], .agg #[.int .i64 o.k.kind, .int .i64 o.k.peak, .int .i64 o.k.early, .int .i64 o.k.whole, .int .i64 o.k.burst, .int .i64 o.k.least]]) (by kernel_rfl) (by kernel_rfl) (by kernel_rfl) Try.call20 (nchange h o.p o.v o.c o.k) ?_
   rintro _ w3 ⟨rfl, X2, hN2, hXg2, hc2⟩
   have hzhc2 := (hc2).size
   replace hS := Step.trans hS hc2
   replace ho1 := ho1.step hc2 (NdP.nx h ho1 (by decide))
   have hXwnd := fun k9 hk9 => NdP.ltX hN2 (k := k9) hk9
   have hszhN2 := Nat.le_refl w3.heap.size
   refine VL_pure 7 [4] [(4, .int .i64 (chgK rooms L o.p o.v o.c o.k))] (by kernel_rfl) rfl ?_
   refine VL_end (by kernel_rfl) ?_
   refine VQ_next ?_
   refine VC_ret ?_
   refine VQ_block_ret ?_
   refine VQ_then_ret ?_
   refine VQ_ret1 (.int .i64 (chgK rooms L o.p o.v o.c o.k)) (.inr rfl) rfl rfl ?_
   exact ⟨congrArg (Value.int .i64) (by unfold doV; simp [*]), X2, (by rw [show doL rooms L o = chgN rooms L o.p o.v o.c o.k by unfold doL; simp [*]]; exact NdP.more hN2 (by omega)), fun q9 hq9 => (hXg2 q9 hq9).imp id (fun h9 => by omega), hS⟩
  ·refine VC_seq ?_
   refine VC_region ?_
   refine VL_pure 2 [0, 3, 6, 23] [(0, .pointer (some ⟨nd, 0, none⟩)), (3, .pointer (some ⟨b1, 0, none⟩)), (6, .int .i64 o.d), (23, .bool (o.d == 3))] (by kernel_rfl) rfl ?_
   refine VL_end (by kernel_rfl) ?_
   refine VQ_next ?_
   refine VC_eq o.d 3 (by kernel_rfl) (fun h3 => ?_) (fun h3 => ?_)
   ·refine VC_region ?_
    refine VL_pure 2 [25, 26] [(25, .pointer (some ⟨nd, 0, none⟩)), (26, .pointer (some ⟨b1, 1, none⟩))] (by kernel_rfl) rfl ?_
    refine VL_load (d := 27) (t := 28) (a := ⟨b1, 1, none⟩) (v := .agg #[.int .i64 o.p, .int .i64 o.v, .int .i64 o.c]) (by kernel_rfl) (by kernel_rfl) (Loads.ownL ho1 (n := 3) (by kernel_rfl) (by kernel_rfl) (by kernel_rfl)) ?_
    have hzl6 := NdP.lt h
    have hzl7 := ho1.lt
    refine VL_call (d := 28) (f := 21) (args := #[.pointer (some ⟨nd, 0, none⟩), .agg #[.int .i64 o.p, .int .i64 o.v, .int .i64 o.c]]) (by kernel_rfl) (by kernel_rfl) (by kernel_rfl) Try.call21 (ndrop h o.p o.v o.c) ?_
    rintro _ w4 ⟨rfl, X3, hN3, hXg3, hc3⟩
    have hzhc3 := (hc3).size
    replace hS := Step.trans hS hc3
    replace ho1 := ho1.step hc3 (NdP.nx h ho1 (by decide))
    have hXwnd := fun k9 hk9 => NdP.ltX hN3 (k := k9) hk9
    have hszhN3 := Nat.le_refl w4.heap.size
    refine VL_end (by kernel_rfl) ?_
    refine VQ_block_normal ?_
    refine VQ_next ?_
    refine VC_seq ?_
    refine VC_region ?_
    refine VL_pure 1 [4] [(4, .int .i64 0)] (by kernel_rfl) rfl ?_
    refine VL_end (by kernel_rfl) ?_
    refine VQ_next ?_
    refine VC_ret ?_
    refine VQ_ret1 (.int .i64 0) (.inr rfl) rfl rfl ?_
    exact ⟨congrArg (Value.int .i64) (by unfold doV; simp [*]), X3, (by rw [show doL rooms L o = delC L o.p o.v o.c by unfold doL; simp [*]]; exact NdP.more hN3 (by omega)), fun q9 hq9 => (hXg3 q9 hq9).imp id (fun h9 => by omega), hS⟩
   ·refine VC_seq ?_
    refine VC_region ?_
    refine VL_pure 2 [0, 3, 29] [(0, .pointer (some ⟨nd, 0, none⟩)), (3, .pointer (some ⟨b1, 0, none⟩)), (29, .bool (o.d == 4))] (by kernel_rfl) rfl ?_
    refine VL_end (by kernel_rfl) ?_
    refine VQ_next ?_
    refine VC_eq o.d 4 (by kernel_rfl) (fun h4 => ?_) (fun h4 => ?_)
    ·refine VC_region ?_
     refine VL_pure 2 [3, 31, 32] [(3, .pointer (some ⟨b1, 0, none⟩)), (31, .pointer (some ⟨nd, 0, none⟩)), (32, .pointer (some ⟨b1, 1, none⟩))] (by kernel_rfl) rfl ?_
     refine VL_load (d := 33) (t := 28) (a := ⟨b1, 1, none⟩) (v := .agg #[.int .i64 o.p, .int .i64 o.v, .int .i64 o.c]) (by kernel_rfl) (by kernel_rfl) (Loads.ownL ho1 (n := 3) (by kernel_rfl) (by kernel_rfl) (by kernel_rfl)) ?_
     refine VL_pure 4 [3, 31, 33, 34] [(3, .pointer (some ⟨b1, 0, none⟩)), (31, .pointer (some ⟨nd, 0, none⟩)), (33, .agg #[.int .i64 o.p, .int .i64 o.v, .int .i64 o.c]), (34, .pointer (some ⟨b1, 10, none⟩))] (by kernel_rfl) rfl ?_
     refine VL_load (d := 35) (t := 3) (a := ⟨b1, 10, none⟩) (v := .int .i64 o.t) (by kernel_rfl) (by kernel_rfl) (Loads.own1 ho1 (by kernel_rfl) (by rfl)) ?_
     refine VL_pure 6 [31, 33, 35, 36] [(31, .pointer (some ⟨nd, 0, none⟩)), (33, .agg #[.int .i64 o.p, .int .i64 o.v, .int .i64 o.c]), (35, .int .i64 o.t), (36, .pointer (some ⟨b1, 11, none⟩))] (by kernel_rfl) rfl ?_
     refine VL_load (d := 37) (t := 3) (a := ⟨b1, 11, none⟩) (v := .int .i64 o.clp) (by kernel_rfl) (by kernel_rfl) (Loads.own1 ho1 (by kernel_rfl) (by rfl)) ?_
     have hzl8 := NdP.lt h
     have hzl9 := ho1.lt
     refine VL_call (d := 38) (f := 22) (args := #[.pointer (some ⟨nd, 0, none⟩), .agg #[.int .i64 o.p, .int .i64 o.v, .int .i64 o.c], .int .i64 o.t, .int .i64 o.clp]) (by kernel_rfl) (by kernel_rfl) (by kernel_rfl) Try.call22 (nverdict h o.p o.v o.c o.t o.clp) ?_
     rintro _ w5 ⟨rfl, X4, hN4, hXg4, hc4⟩
     have hzhc4 := (hc4).size
     replace hS := Step.trans hS hc4
     replace ho1 := ho1.step hc4 (NdP.nx h ho1 (by decide))
     have hXwnd := fun k9 hk9 => NdP.ltX hN4 (k := k9) hk9
     have hszhN4 := Nat.le_refl w5.heap.size
     refine VL_end (by kernel_rfl) ?_
     refine VQ_block_normal ?_
     refine VQ_next ?_
     refine VC_seq ?_
     refine VC_region ?_
     refine VL_pure 1 [4] [(4, .int .i64 0)] (by kernel_rfl) rfl ?_
     refine VL_end (by kernel_rfl) ?_
     refine VQ_next ?_
     refine VC_ret ?_
     refine VQ_ret1 (.int .i64 0) (.inr rfl) rfl rfl ?_
     exact ⟨congrArg (Value.int .i64) (by unfold doV; simp [*]), X4, (by rw [show doL rooms L o = verN L o.p o.v o.c o.t o.clp by unfold doL; simp [*]]; exact NdP.more hN4 (by omega)), fun q9 hq9 => (hXg4 q9 hq9).imp id (fun h9 => by omega), hS⟩
    ·refine VC_skip ?_
     refine VQ_block_normal ?_
     refine VQ_next ?_
     refine VC_seq ?_
     refine VC_region ?_
     refine VL_pure 1 [4] [(4, .int .i64 0)] (by kernel_rfl) rfl ?_
     refine VL_end (by kernel_rfl) ?_
     refine VQ_next ?_
     refine VC_ret ?_
     refine VQ_ret1 (.int .i64 0) (.inr rfl) rfl rfl ?_
     exact ⟨congrArg (Value.int .i64) (by unfold doV; simp [*]), X, (by rw [show doL rooms L o = L by unfold doL; simp [*]]; exact NdP.more h (by omega)), fun q9 hq9 => .inl hq9, hS⟩

set_option maxRecDepth 100000 in
set_option maxHeartbeats 4000000 in
theorem keys_any {nd lo : Nat} {X : Nat → Prop} {rooms : List Int} {L : List Cx} {n : Nat} {w : World} (h : NdP w nd X lo rooms L n)  :
  CV Try.prog 11 #[.pointer (some ⟨nd, 0, none⟩)] w (fun x w1 => ∃ A m c, x = .slice A m c ∧ L.length = m ∧ RwS w1 3 w.heap.size 28 A m c (flat keyc L) ∧ Step No w w1) := by
 have hS : Step No w w := Step.refl _ _
 have hlo := h.lo_le
 have hXwnd := fun k9 hk9 => NdP.ltX h (k := k9) hk9
 have hlen := h.len
 refine CV_enterM Try.f11 _ 13 [(0, .pointer (some ⟨nd, 0, none⟩))] Try.func11 rfl rfl (by kernel_rfl) rfl ?_
 refine VC_seq ?_
 refine VC_region ?_
 refine VL_pure 1 [0, 2] [(0, .pointer (some ⟨nd, 0, none⟩)), (2, .slice none 0 0)] (by kernel_rfl) rfl ?_
 refine VL_end (by kernel_rfl) ?_
 refine VQ_next ?_
 refine VC_seq ?_
 refine VC_region ?_
 have hzs1 := hS.size
 have hzl1 := NdP.lt h
 refine VL_box (d := 3) (t := 35) (c := #[.slice none 0 0]) (by kernel_rfl) (by kernel_rfl) ?_
 intro b1 w1 hn1
 replace hS := Step.trans hS (hn1.step No)
 replace h := NdP.no h (hn1.step No)
 have ho1 := hn1.own
 have hzhn1 := hn1.size
 have hqhn1 := hn1.eqb
 refine VL_end (by kernel_rfl) ?_
 refine VQ_next ?_
 refine VC_seq ?_
 refine VC_seq ?_
 refine VC_region ?_
 refine VL_pure 1 [2, 3, 5] [(2, .slice none 0 0), (3, .pointer (some ⟨b1, 0, none⟩)), (5, .pointer (some ⟨nd, 0, none⟩))] (by kernel_rfl) rfl ?_
 have hzs2 := hS.size
 have hzl2 := NdP.lt h
 have hzl3 := ho1.lt
 refine VL_call (d := 6) (f := 10) (args := #[.pointer (some ⟨nd, 0, none⟩)]) (by kernel_rfl) (by kernel_rfl) (by kernel_rfl) Try.call10 (nall_any nd _) ?_
 rintro _ w2 ⟨bb1, rfl, hfbb1, hbb1, hc1⟩
 replace hS := Step.trans hS hc1
 replace h := NdP.no h hc1
 replace ho1 := ho1.no hc1
 have hzbb1 := hbb1.lt
 refine VL_end (by kernel_rfl) ?_
 refine VQ_next ?_
 refine VC_block ?_
 have hzs3 := hS.size
 have hzl4 := NdP.lt h
 have hzl5 := ho1.lt
 have hzl6 := hbb1.lt
 have hzs4 := hS.size
 have hzl7 := NdP.lt h
 have hzl8 := ho1.lt
 have hzl9 := hbb1.lt
 refine VC_range2 (gf := 25) (lb := #[.pointer (some ⟨bb1, 0, none⟩)]) (xs := (keyV L)) (by kernel_rfl) Try.call25 (niter bb1 nd lo X rooms L n) (keyV_sz L) (by kernel_rfl) (fun M i => i = b1 ∨ M ≤ i) (fun M i hi => by (try simp only at hi); omega) (fun M k W => w2.heap.size + 2 ≤ M ∧ Step No w W ∧ NdP W nd X lo rooms L n ∧ Own W bb1 #[.pointer (some ⟨nd, 0, none⟩)] 25 ∧ ∃ A m c, Own W b1 #[.slice A m c] 35 ∧ RwS W 3 M 28 A m c (flat keyc (L.take k))) (by rintro M k W W' ⟨hMm, hS, h, hbb1, A, m, c, ho1, hr⟩ hs; exact ⟨hMm, Step.transNew hS hs (fun i hi hG => by have h7 : i = (w2.heap.size + 1) := hG; omega), NdP.step h hs (fun k9 hk9 hF9 => by have h8 := hXwnd k9 hk9; have h7 : k9 = (w2.heap.size + 1) := hF9; omega), hbb1.step hs (fun hG => by have h7 : bb1 = (w2.heap.size + 1) := hG; omega), A, m, c, ho1.step hs (fun hG => by have h7 : b1 = (w2.heap.size + 1) := hG; omega), hr.step hs (fun k hk hG => by have h7 : k = (w2.heap.size + 1) := hG; omega)⟩) (by rintro M k W W' ⟨hMm, hS, h, hbb1, A, m, c, ho1, hr⟩ hs; exact ⟨hMm, Step.transNew hS hs (fun i hi hG => by have h7 := hG.1; have h6 := hG.2; omega), NdP.step h hs (fun k9 hk9 hF9 => by have h8 := hXwnd k9 hk9; have h7 := hF9.1; have h6 := hF9.2; omega), hbb1.step hs (fun hG => by have h7 := hG.1; have h6 := hG.2; omega), A, m, c, ho1.step hs (fun hG => by have h7 := hG.1; have h6 := hG.2; omega), hr.step hs (fun k hk hG => by have h7 := hG.1; have h6 := hG.2; omega)⟩) (by rintro M k W ⟨hMm, hS, h, hbb1, A, m, c, ho1, hr⟩; exact fun _ => ⟨hbb1, h⟩) (fun W hs _ => ⟨hbb1.no hs, h.no hs⟩) (fun M W hMm hM2 hs _ => ⟨hMm, Step.trans hS hs, h.no hs, hbb1.no hs, none, 0, 0, ho1.no hs, RwS.nil _ _ _ _⟩) ?_ ?_
 ·intro M k w3 args hM hM2 hx hJ0 hsz
  obtain ⟨hMm, hS, h, hbb1, A, m, c, ho1, hr⟩ := hJ0
  obtain ⟨y, hy, rfl⟩ := keyV_inv hx
  have hAs : Step No w3 w3 := Step.refl _ _
  have hML : M ≤ w3.heap.size := hM2
  have hky := (List.getElem?_eq_some_iff.1 hy).1
  have hlr : (L.take k).length = m := by have hq9 := RwS.len hr; rw [flat_len keyc_len] at hq9; omega
  have hub9 := hr.ub
  have hlq : m ≤ L.length := by rw [← hlr, List.length_take]; omega
  refine VC_keep [3, 7] [(3, .pointer (some ⟨b1, 0, none⟩)), (7, .agg #[.int .i64 y.p, .int .i64 y.v, .int .i64 y.c])] (by kernel_rfl) ?_
  refine VC_region ?_
  have hzs5 := hS.size
  have hzl10 := NdP.lt h
  have hzl11 := hbb1.lt
  have hzl12 := ho1.lt
  have hzk1 := hML
  have hzs6 := hAs.size
  refine VL_box (d := 4) (t := 28) (c := #[.int .i64 0, .int .i64 0, .int .i64 0]) (by kernel_rfl) (by kernel_rfl) ?_
  intro b2 w4 hn2
  replace hS := Step.trans hS (hn2.step No)
  replace h := NdP.no h (hn2.step No)
  replace hbb1 := hbb1.no (hn2.step No)
  replace ho1 := ho1.no (hn2.step No)
  replace hr := hr.no (hn2.step No)
  replace hML := Nat.le_trans hML (hn2.step No).size
  replace hAs := Step.trans hAs (hn2.step No)
  have ho2 := hn2.own
  have hzhn2 := hn2.size
  have hqhn2 := hn2.eqb
  refine VL_store (b := b2) (o := 0) (vs := [.int .i64 y.p, .int .i64 y.v, .int .i64 y.c]) (by kernel_rfl) (by kernel_rfl) ho2 (Nat.le_of_ble_eq_true (by kernel_rfl)) ?_
  intro w5 hw1
  replace hS := Step.transNew hS hw1.step (fun _ _ _ => by omega)
  replace h := NdP.blk h ho2 (by decide) hw1.step
  replace hbb1 := hbb1.step hw1.step (show ¬ bb1 = b2 by omega)
  replace ho1 := ho1.step hw1.step (show ¬ b1 = b2 by omega)
  replace hr := hr.stepU hub9 hw1.step (fun k hk1 hk2 (hF : k = b2) => by omega)
  replace hML := Nat.le_trans hML (hw1.step).size
  replace hAs := Step.transNew hAs hw1.step (fun _ _ _ => by omega)
  have ho3 : Own w5 b2 #[.int .i64 y.p, .int .i64 y.v, .int .i64 y.c] 28 := Own.cast hw1.own (by kernel_rfl)
  have hzhw1 := hw1.same
  refine VL_end (by kernel_rfl) ?_
  refine VQ_begin hAs ?_
  intro w6 hb1 hzhb1
  have hzs7 := hS.size
  have hzl13 := NdP.lt h
  have hzl14 := hbb1.lt
  have hzl15 := ho1.lt
  have hzk2 := hML
  have hzl16 := ho3.lt
  replace hS := Step.transNew hS hb1 (fun _ _ _ => by omega)
  replace h := NdP.step h hb1 (fun k9 hk9 hF9 => by have h8 := hXwnd k9 hk9; have h7 : k9 = (w2.heap.size + 1) := hF9; omega)
  replace hbb1 := hbb1.step hb1 (show ¬ bb1 = (w2.heap.size + 1) by omega)
  replace ho1 := ho1.step hb1 (show ¬ b1 = (w2.heap.size + 1) by omega)
  replace hr := hr.stepU hub9 hb1 (fun k hk1 hk2 (hF : k = (w2.heap.size + 1)) => by omega)
  replace hML := Nat.le_trans hML (hb1).size
  replace ho3 := ho3.step hb1 (show ¬ b2 = (w2.heap.size + 1) by omega)
  have hR1 : Step ((fun M i => i = b1 ∨ M ≤ i) M) w6 w6 := Step.refl _ _
  refine VC_block ?_
  refine VC_region ?_
  refine VL_load (d := 8) (t := 35) (a := ⟨b1, 0, none⟩) (v := .slice A m c) (by kernel_rfl) (by kernel_rfl) (Loads.own1 ho1 (by kernel_rfl) (by rfl)) ?_
  refine VL_load (d := 9) (t := 28) (a := ⟨b2, 0, none⟩) (v := .agg #[.int .i64 y.p, .int .i64 y.v, .int .i64 y.c]) (by kernel_rfl) (by kernel_rfl) (Loads.ownL ho3 (n := 3) (by kernel_rfl) (by kernel_rfl) (by kernel_rfl)) ?_
  have hzs8 := hS.size
  have hzl17 := NdP.lt h
  have hzl18 := hbb1.lt
  have hzl19 := ho1.lt
  have hzk3 := hML
  have hzl20 := ho3.lt
  have hzs9 := hR1.size
  refine VL_bs (d := 10) (e := 28) (c := #[.int .i64 y.p, .int .i64 y.v, .int .i64 y.c]) (len := 1) (by kernel_rfl) (by kernel_rfl) ?_
  intro b3 w7 hn3
  replace hS := Step.trans hS (hn3.step No)
  replace h := NdP.no h (hn3.step No)
  replace hbb1 := hbb1.no (hn3.step No)
  replace ho1 := ho1.no (hn3.step No)
  replace hr := hr.no (hn3.step No)
  replace hML := Nat.le_trans hML (hn3.step No).size
  replace ho3 := ho3.no (hn3.step No)
  replace hR1 := Step.trans hR1 (Step.weak (hn3.step No))
  have ho4 := hn3.own
  have hzhn3 := hn3.size
  have hqhn3 := hn3.eqb
  have hzs10 := hS.size
  have hzl21 := NdP.lt h
  have hzl22 := hbb1.lt
  have hzl23 := ho1.lt
  have hzk4 := hML
  have hzl24 := ho3.lt
  have hzs11 := hR1.size
  have hzl25 := ho4.lt
  refine VL_appendZ (d := 11) (e := 28) (A := A) (m := m) (c := c) (A2 := (some ⟨b3, 0, none⟩)) (m2 := 1) (c2 := 1) (sz := 3) (bytes := 24) (by kernel_rfl) (by kernel_rfl) (by kernel_rfl) M w7.heap.size (flat keyc (L.take k)) (flat keyc [y]) hr (by rw [flat_one, keyc_len]) (Sl.mono (Sl.cast (Own.sl ho4 ho4.lt) (by first | rfl | simp [flat])) (by first | exact Nat.le_refl _ | omega)) (flat_one' keyc_one _) (m + 1) (by omega) (by simp only [maxLen]; omega) (by omega) (by omega) ?_
  intro A1 c1 w8 hr1 hg1
  replace hr1 : RwS w8 3 M 28 A1 (m + 1) c1 (flat keyc ((L.take k) ++ ([y]))) := RwS.cast hr1 rfl (by simp only [flat_append, flat_one, List.append_assoc, List.nil_append, List.append_nil, show flat keyc [] = [] from rfl])
  replace hg1 := Step.mono (G := fun k => M ≤ k) hg1 (fun i hi => (RwS.lt hr i hi).1)
  have hzhg1 := hg1.size
  replace hS := Step.transNew hS hg1 (fun i hi hG => by (try simp only at hG); omega)
  replace h := NdP.step h hg1 (fun k9 hk9 hF9 => by have h8 := hXwnd k9 hk9; (try simp only at hF9); omega)
  replace hbb1 := hbb1.step hg1 (by (try simp only); omega)
  replace ho1 := ho1.step hg1 (by (try simp only); omega)
  replace hML := Nat.le_trans hML (hg1).size
  replace hR1 := Step.transNew hR1 hg1 (fun i hi hG => by (try simp only at hG); (first | show _ ∨ _ | show _ = _); omega)
  have hlhr1 : ((L.take k) ++ ([y])).length = m + 1 := by have hq9 := RwS.len hr1; rw [flat_len keyc_len] at hq9; omega
  refine VL_store (b := b1) (o := 0) (vs := [.slice A1 (m + 1) c1]) (by kernel_rfl) (by kernel_rfl) ho1 (Nat.le_of_ble_eq_true (by kernel_rfl)) ?_
  intro w9 hw2
  replace hS := Step.transNew hS hw2.step (fun _ _ _ => by omega)
  replace h := NdP.blk h ho1 (by decide) hw2.step
  replace hbb1 := hbb1.step hw2.step (show ¬ bb1 = b1 by omega)
  replace hML := Nat.le_trans hML (hw2.step).size
  replace hR1 := Step.trans hR1 (Step.mono hw2.step (by intro i hi; first | exact hi | exact ⟨_, by assumption, hi⟩ | (have hi9 : i = b1 := hi; (first | show _ ∨ _ | show _ = _); omega)))
  replace hr1 := hr1.step hw2.step (fun k hk (hF : k = b1) => by omega)
  have ho5 : Own w9 b1 #[.slice A1 (m + 1) c1] 35 := Own.cast hw2.own (by kernel_rfl)
  have hzhw2 := hw2.same
  refine VL_end (by kernel_rfl) ?_
  refine VQ_block_normal ?_
  exact VQ_round_end hR1 ⟨hMm, hS, h, hbb1, A1, _, _, ho5, RwS.cast hr1 rfl (by rw [takeC_next hy])⟩
 ·intro M w10 hM hzM hJ0 hD
  rw [keyV_len] at hJ0
  obtain ⟨hMm, hS, h, hbb1, A, m, c, ho1, hr⟩ := hJ0
  have hlr : (L.take L.length).length = m := by have hq9 := RwS.len hr; rw [flat_len keyc_len] at hq9; omega
  have hub9 := hr.ub
  have hlq : m ≤ L.length := by rw [← hlr, List.length_take]; omega
  have hmk1 := hD
  refine VQ_block_normal ?_
  refine VQ_next ?_
  refine VC_seq ?_
  refine VC_region ?_
  refine VL_load (d := 12) (t := 35) (a := ⟨b1, 0, none⟩) (v := .slice A m c) (by kernel_rfl) (by kernel_rfl) (Loads.own1 ho1 (by kernel_rfl) (by rfl)) ?_
  refine VL_pure 2 [2] [(2, .slice A m c)] (by kernel_rfl) rfl ?_
  refine VL_end (by kernel_rfl) ?_
  refine VQ_next ?_
  refine VC_ret ?_
  have hzs12 := hS.size
  have hzl26 := NdP.lt h
  have hzl27 := hbb1.lt
  have hzl28 := ho1.lt
  have hzl29 := hmk1.lt
  refine VQ_retM1 (.slice A m c) [w2.heap.size] (.inr rfl) rfl rfl ⟨hmk1, (by simp), trivial⟩ ?_
  intro w11 hq1
  replace hq1 : Step (Just w2.heap.size) w10 w11 := Step.mono hq1 (fun i hi => by simpa using hi)
  replace hS := Step.transNew hS hq1 (fun _ _ _ => by omega)
  replace hbb1 := hbb1.step hq1 (show ¬ bb1 = w2.heap.size by omega)
  replace ho1 := ho1.step hq1 (show ¬ b1 = w2.heap.size by omega)
  replace hr := hr.stepU hub9 hq1 (fun k hk1 hk2 (hF : k = w2.heap.size) => by omega)
  exact ⟨A, _, _, rfl, (by rw [List.take_length] at hlr; exact hlr), RwS.low (RwS.cast hr rfl (by rw [List.take_length])) (by omega), hS⟩

set_option maxRecDepth 100000 in
set_option maxHeartbeats 4000000 in
theorem awake_any (w : World) :
  CV Try.prog 6 #[] w (fun x w1 => x = .bool true ∧ Step No w w1) := by
 have hS : Step No w w := Step.refl _ _
 refine CV_enter Try.f6 _ 32 [] Try.func6 rfl rfl (by kernel_rfl) rfl ?_
 refine VC_seq ?_
 refine VC_region ?_
 refine VL_pure 1 [] [] (by kernel_rfl) rfl ?_
 refine VL_end (by kernel_rfl) ?_
 refine VQ_next ?_
 refine VC_seq ?_
 refine VC_region ?_
 have hzs1 := hS.size
 refine VL_bs (d := 3) (e := 3) (c := #[.int .i64 1100]) (len := 1) (by kernel_rfl) (by kernel_rfl) ?_
 intro b1 w1 hn1
 replace hS := Step.trans hS (hn1.step No)
 have ho1 := hn1.own
 have hzhn1 := hn1.size
 have hqhn1 := hn1.eqb
 have hzs2 := hS.size
 have hzl1 := ho1.lt
 refine VL_call (d := 4) (f := 7) (args := #[.slice (some ⟨b1, 0, none⟩) 1 1]) (by kernel_rfl) (by kernel_rfl) (by kernel_rfl) Try.call7 (nnew (rs := [1100]) rfl (ho1.sl (B := b1 + 1) (by omega)) ho1.lt (by omega)) ?_
 rintro _ w2 ⟨nd1, X1, rfl, hN1, hXg1, hc1⟩
 replace hS := Step.trans hS hc1
 replace ho1 := ho1.no hc1
 have hXwnd1 := fun k9 hk9 => NdP.ltX hN1 (k := k9) hk9
 obtain ⟨lo1, hlo1E⟩ : ∃ x, x = w1.heap.size := ⟨_, rfl⟩
 rw [← hlo1E] at hN1
 refine VL_pure 3 [1] [(1, .pointer (some ⟨nd1, 0, none⟩))] (by kernel_rfl) rfl ?_
 refine VL_end (by kernel_rfl) ?_
 refine VQ_next ?_
 refine VC_seq ?_
 refine VC_region ?_
 refine VL_pure 1 [1, 5] [(1, .pointer (some ⟨nd1, 0, none⟩)), (5, .agg #[.int .i64 1, .int .i64 1000, .int .i64 0, .int .i64 0, .int .i64 0, .int .i64 0])] (by kernel_rfl) rfl ?_
 have hzs3 := hS.size
 have hzl2 := ho1.lt
 have hzl3 := NdP.lt hN1
 refine VL_box (d := 2) (t := 30) (c := #[.int .i64 0, .int .i64 0, .int .i64 0, .int .i64 0, .int .i64 0, .int .i64 0]) (by kernel_rfl) (by kernel_rfl) ?_
 intro b2 w3 hn2
 replace hS := Step.trans hS (hn2.step No)
 replace ho1 := ho1.no (hn2.step No)
 replace hN1 := NdP.no hN1 (hn2.step No)
 have ho2 := hn2.own
 have hzhn2 := hn2.size
 have hqhn2 := hn2.eqb
 refine VL_store (b := b2) (o := 0) (vs := [.int .i64 1, .int .i64 1000, .int .i64 0, .int .i64 0, .int .i64 0, .int .i64 0]) (by kernel_rfl) (by kernel_rfl) ho2 (Nat.le_of_ble_eq_true (by kernel_rfl)) ?_
 intro w4 hw1
 replace hS := Step.transNew hS hw1.step (fun _ _ _ => by omega)
 replace ho1 := ho1.step hw1.step (show ¬ b1 = b2 by omega)
 replace hN1 := NdP.blk hN1 ho2 (by decide) hw1.step
 have ho3 : Own w4 b2 #[.int .i64 1, .int .i64 1000, .int .i64 0, .int .i64 0, .int .i64 0, .int .i64 0] 30 := Own.cast hw1.own (by kernel_rfl)
 have hzhw1 := hw1.same
 refine VL_end (by kernel_rfl) ?_
 refine VQ_next ?_
 refine VC_seq ?_
 refine VC_region ?_
 refine VL_pure 5 [1, 2, 8, 9, 10] [(1, .pointer (some ⟨nd1, 0, none⟩)), (2, .pointer (some ⟨b2, 0, none⟩)), (8, .bool true), (9, .pointer (some ⟨nd1, 0, none⟩)), (10, .agg #[.int .i64 0, .int .i64 0, .int .i64 40])] (by kernel_rfl) rfl ?_
 refine VL_load (d := 11) (t := 30) (a := ⟨b2, 0, none⟩) (v := .agg #[.int .i64 1, .int .i64 1000, .int .i64 0, .int .i64 0, .int .i64 0, .int .i64 0]) (by kernel_rfl) (by kernel_rfl) (Loads.ownL ho3 (n := 6) (by kernel_rfl) (by kernel_rfl) (by kernel_rfl)) ?_
 have hzs4 := hS.size
 have hzl4 := ho1.lt
 have hzl5 := NdP.lt hN1
 have hzl6 := ho3.lt
 refine VL_call (d := 12) (f := 16) (args := #[.pointer (some ⟨nd1, 0, none⟩), .agg #[.int .i64 0, .int .i64 0, .int .i64 40], .agg #[.int .i64 1, .int .i64 1000, .int .i64 0, .int .i64 0, .int .i64 0, .int .i64 0]]) (by kernel_rfl) (by kernel_rfl) (by kernel_rfl) Try.call16 (ntake hN1 (by omega) 0 0 40 (⟨1, 1000, 0, 0, 0, 0⟩ : Con)) ?_
 rintro _ w5 ⟨rfl, X2, hN2, hXg2, hc2⟩
 have hzhc2 := (hc2).size
 replace hS := Step.transNew hS hc2 (fun i9 hi9 hX9 => by have h8 := NdP.low hN1 hX9; omega)
 replace ho1 := ho1.step hc2 (NdP.nx hN1 ho1 (by decide))
 replace ho3 := ho3.step hc2 (NdP.nx hN1 ho3 (by decide))
 have hXwnd1 := fun k9 hk9 => NdP.ltX hN2 (k := k9) hk9
 have hszhN2 := Nat.le_refl w5.heap.size
 refine VL_pure 10 [1, 2, 15] [(1, .pointer (some ⟨nd1, 0, none⟩)), (2, .pointer (some ⟨b2, 0, none⟩)), (15, .bool ((chkN (roomsN [1100]) ([] : List Cx) 0 0 40 (⟨1, 1000, 0, 0, 0, 0⟩ : Con)) == 0))] (by kernel_rfl) rfl ?_
 refine VL_known ((chkN (roomsN [1100]) ([] : List Cx) 0 0 40 (⟨1, 1000, 0, 0, 0, 0⟩ : Con)) == 0) (fun bV => [(1, .pointer (some ⟨nd1, 0, none⟩)), (2, .pointer (some ⟨b2, 0, none⟩)), (15, .bool bV)]) true rfl (by kernel_rfl) ?_
 refine VL_pure 12 [1, 2, 15, 16, 17] [(1, .pointer (some ⟨nd1, 0, none⟩)), (2, .pointer (some ⟨b2, 0, none⟩)), (15, .bool true), (16, .pointer (some ⟨nd1, 0, none⟩)), (17, .agg #[.int .i64 0, .int .i64 0, .int .i64 41])] (by kernel_rfl) rfl ?_
 refine VL_load (d := 18) (t := 30) (a := ⟨b2, 0, none⟩) (v := .agg #[.int .i64 1, .int .i64 1000, .int .i64 0, .int .i64 0, .int .i64 0, .int .i64 0]) (by kernel_rfl) (by kernel_rfl) (Loads.ownL ho3 (n := 6) (by kernel_rfl) (by kernel_rfl) (by kernel_rfl)) ?_
 have hzs5 := hS.size
 have hzl7 := ho1.lt
 have hzl8 := ho3.lt
 have hzl9 := NdP.lt hN2
 refine VL_call (d := 19) (f := 16) (args := #[.pointer (some ⟨nd1, 0, none⟩), .agg #[.int .i64 0, .int .i64 0, .int .i64 41], .agg #[.int .i64 1, .int .i64 1000, .int .i64 0, .int .i64 0, .int .i64 0, .int .i64 0]]) (by kernel_rfl) (by kernel_rfl) (by kernel_rfl) Try.call16 (ntake hN2 (by omega) 0 0 41 (⟨1, 1000, 0, 0, 0, 0⟩ : Con)) ?_
 rintro _ w6 ⟨rfl, X3, hN3, hXg3, hc3⟩
 have hzhc3 := (hc3).size
 replace hS := Step.transNew hS hc3 (fun i9 hi9 hX9 => by have h8 := NdP.low hN2 hX9; omega)
 replace ho1 := ho1.step hc3 (NdP.nx hN2 ho1 (by decide))
 replace ho3 := ho3.step hc3 (NdP.nx hN2 ho3 (by decide))
 replace hszhN2 := Nat.le_trans hszhN2 (Step.size hc3)
 have hXwnd1 := fun k9 hk9 => NdP.ltX hN3 (k := k9) hk9
 have hszhN3 := Nat.le_refl w6.heap.size
 refine VL_pure 17 [1, 22] [(1, .pointer (some ⟨nd1, 0, none⟩)), (22, .bool ((chkN (roomsN [1100]) (takeN (roomsN [1100]) ([] : List Cx) 0 0 40 (⟨1, 1000, 0, 0, 0, 0⟩ : Con)) 0 0 41 (⟨1, 1000, 0, 0, 0, 0⟩ : Con)) == 37))] (by kernel_rfl) rfl ?_
 refine VL_known ((chkN (roomsN [1100]) (takeN (roomsN [1100]) ([] : List Cx) 0 0 40 (⟨1, 1000, 0, 0, 0, 0⟩ : Con)) 0 0 41 (⟨1, 1000, 0, 0, 0, 0⟩ : Con)) == 37) (fun bV => [(1, .pointer (some ⟨nd1, 0, none⟩)), (22, .bool bV)]) true rfl (by kernel_rfl) ?_
 refine VL_pure 18 [1, 22, 23] [(1, .pointer (some ⟨nd1, 0, none⟩)), (22, .bool true), (23, .pointer (some ⟨nd1, 0, none⟩))] (by kernel_rfl) rfl ?_
 have hzs6 := hS.size
 have hzl10 := ho1.lt
 have hzl11 := ho3.lt
 have hzl12 := NdP.lt hN3
 refine VL_call (d := 24) (f := 15) (args := #[.pointer (some ⟨nd1, 0, none⟩), .int .i64 0]) (by kernel_rfl) (by kernel_rfl) (by kernel_rfl) Try.call15 (nused hN3 0) ?_
 rintro _ w7 ⟨rfl, hc4⟩
 replace hS := Step.trans hS hc4
 replace ho1 := ho1.no hc4
 replace ho3 := ho3.no hc4
 replace hszhN2 := Nat.le_trans hszhN2 (hc4).size
 replace hN3 := NdP.no hN3 hc4
 replace hszhN3 := Nat.le_trans hszhN3 (hc4).size
 refine VL_pure 22 [1, 27] [(1, .pointer (some ⟨nd1, 0, none⟩)), (27, .bool ((usedN (roomsN [1100]) (takeN (roomsN [1100]) (takeN (roomsN [1100]) ([] : List Cx) 0 0 40 (⟨1, 1000, 0, 0, 0, 0⟩ : Con)) 0 0 41 (⟨1, 1000, 0, 0, 0, 0⟩ : Con)) 0) == 1049))] (by kernel_rfl) rfl ?_
 refine VL_known ((usedN (roomsN [1100]) (takeN (roomsN [1100]) (takeN (roomsN [1100]) ([] : List Cx) 0 0 40 (⟨1, 1000, 0, 0, 0, 0⟩ : Con)) 0 0 41 (⟨1, 1000, 0, 0, 0, 0⟩ : Con)) 0) == 1049) (fun bV => [(1, .pointer (some ⟨nd1, 0, none⟩)), (27, .bool bV)]) true rfl (by kernel_rfl) ?_
 refine VL_pure 23 [27, 28] [(27, .bool true), (28, .pointer (some ⟨nd1, 0, none⟩))] (by kernel_rfl) rfl ?_
 have hzs7 := hS.size
 have hzl13 := ho1.lt
 have hzl14 := ho3.lt
 have hzl15 := NdP.lt hN3
 refine VL_call (d := 29) (f := 9) (args := #[.pointer (some ⟨nd1, 0, none⟩), .int .i64 0]) (by kernel_rfl) (by kernel_rfl) (by kernel_rfl) Try.call9 (nleft hN3 0) ?_
 rintro _ w8 ⟨rfl, hc5⟩
 replace hS := Step.trans hS hc5
 replace ho1 := ho1.no hc5
 replace ho3 := ho3.no hc5
 replace hszhN2 := Nat.le_trans hszhN2 (hc5).size
 replace hN3 := NdP.no hN3 hc5
 replace hszhN3 := Nat.le_trans hszhN3 (hc5).size
 refine VL_pure 27 [0] [(0, .bool ((leftN (roomsN [1100]) (takeN (roomsN [1100]) (takeN (roomsN [1100]) ([] : List Cx) 0 0 40 (⟨1, 1000, 0, 0, 0, 0⟩ : Con)) 0 0 41 (⟨1, 1000, 0, 0, 0, 0⟩ : Con)) 0) == 51))] (by kernel_rfl) rfl ?_
 refine VL_end (by kernel_rfl) ?_
 refine VQ_next ?_
 refine VC_ret ?_
 refine VQ_ret1 (.bool ((leftN (roomsN [1100]) (takeN (roomsN [1100]) (takeN (roomsN [1100]) ([] : List Cx) 0 0 40 (⟨1, 1000, 0, 0, 0, 0⟩ : Con)) 0 0 41 (⟨1, 1000, 0, 0, 0, 0⟩ : Con)) 0) == 51)) (.inr rfl) rfl rfl ?_
 exact ⟨congrArg Value.bool (by kernel_rfl), hS⟩

end Go.Proofs.Ythchmlidobgkoaa
end

section
/- Layer 20: the sums by link; a contract of a key that is there. -/
set_option linter.unusedVariables false
set_option linter.unusedSimpArgs false
namespace Go.Proofs.Ythchmlidobgkoaa
open Go.Vc Go.RowKit
theorem usdL_next {L : List Cx} {k : Nat} {y : Cx} (hy : L[k]? = some y) (i : Int) : usdL (L.take (k + 1)) i = usdL (L.take k) i + (if y.p = i then needC y.k else 0) := by
  rw [takeC_next hy, usdL_append]; simp [usdL]
theorem usdL_take (L : List Cx) (k : Nat) (i : Int) : usdL (L.take k) i ≤ usdL L i := by
  have h := usdL_append (L.take k) (L.drop k) i
  rw [List.take_append_drop] at h
  have := usdL_nonneg (L.drop k) i
  omega
/-- What is known of a key's connection. -/
theorem NdP.at {w : World} {nd lo : Nat} {X : Nat → Prop} {rooms : List Int} {L : List Cx} {n k : Nat} {y : Cx} (h : NdP w nd X lo rooms L n) (hy : L[k]? = some y) : ∃ i : Nat, y.p = (i : Int) ∧ i < rooms.length ∧ i < 8 ∧ rightC y.k = 0 ∧ 0 ≤ usdL (L.take k) (i : Int) ∧ 0 ≤ needC y.k ∧ usdL (L.take k) (i : Int) + needC y.k ≤ 1152921504606846976 := by
  obtain ⟨⟨a1, a2⟩, _, _, a5⟩ := h.li.key y (List.mem_of_getElem? hy)
  obtain ⟨i, r, hp, hi, hr⟩ := port_nat ⟨a1, a2⟩
  have h1 := h.li.fit i r hr
  have h2 := (h.li.rooms r (List.mem_of_getElem? hr)).2
  have h3 := usdL_take L (k + 1) (i : Int)
  rw [usdL_next hy, if_pos hp] at h3
  have h4 := h.li.rm
  exact ⟨i, hp, hi, by omega, a5, usdL_nonneg _ _, (needC_le y.k).1, by omega⟩
theorem NdP.port {w : World} {nd lo : Nat} {X : Nat → Prop} {rs : List Int} {L : List Cx} {n m j : Nat} (h : NdP w nd X lo (roomsN rs) L n) (hm : rs.length = m) (hj : j < min 8 m) : usedN (roomsN rs) L (j : Int) = usdL L (j : Int) ∧ usdL L (j : Int) ≤ imax 0 (imin (rs.getD j 0) 1152921504606846976) ∧ leftN (roomsN rs) L (j : Int) = imax 0 (imin (rs.getD j 0) 1152921504606846976) - usdL L (j : Int) ∧ 0 ≤ usdL L (j : Int) ∧ imax 0 (imin (rs.getD j 0) 1152921504606846976) ≤ 1152921504606846976 := by
  have hr := roomsN_at hm (show j < min m 8 by omega)
  have e : (rs.take (min m 8)).getD j 0 = rs.getD j 0 := by simp [List.getD, List.getElem?_take, show j < min m 8 by omega]
  rw [e] at hr
  have hl := (List.getElem?_eq_some_iff.1 hr).1
  exact ⟨by unfold usedN; rw [if_pos ⟨by omega, by omega⟩], h.li.fit j _ hr, leftN_at hr, usdL_nonneg _ _, (h.li.rooms _ (List.mem_of_getElem? hr)).2⟩
end Go.Proofs.Ythchmlidobgkoaa
end

section
/- Layer 20, plain: what is done on one link plays no part on another one. -/
set_option linter.unusedVariables false
set_option linter.unusedSimpArgs false
namespace Go.Proofs.Ythchmlidobgkoaa
open Go.Vc Go.RowKit
def SrtC (L : List Cx) : Prop := SrtE (L.map Cx.e0)
def bef0 (x y : Cx) : Prop := befE x.e0 y.e0 = true
theorem srtC_iff {L : List Cx} : SrtC L ↔ L.Pairwise bef0 := by unfold SrtC SrtE; rw [List.pairwise_map]; rfl
theorem srtC_ext {L M : List Cx} (hL : L.Pairwise bef0) (hM : M.Pairwise bef0) (h : ∀ x, x ∈ L ↔ x ∈ M) : L = M := by
  induction L generalizing M with
  | nil =>
    cases M with
    | nil => rfl
    | cons y M => exact absurd ((h y).2 (by simp)) (by simp)
  | cons x L ih =>
    cases M with
    | nil => exact absurd ((h x).1 (by simp)) (by simp)
    | cons y M =>
      obtain ⟨hx, hL'⟩ := List.pairwise_cons.1 hL
      obtain ⟨hy, hM'⟩ := List.pairwise_cons.1 hM
      have irr : ∀ z : Cx, ¬ bef0 z z := fun z hz => by unfold bef0 at hz; rw [befE_irrefl] at hz; cases hz
      have hxy : x = y := by
        rcases List.mem_cons.1 ((h x).1 (by simp)) with e | e
        · exact e
        · rcases List.mem_cons.1 ((h y).2 (by simp)) with e' | e'
          · exact e'.symm
          · exact absurd (befE_trans (hy x e) (hx y e')) (by rw [befE_irrefl]; decide)
      subst hxy
      congr 1
      refine ih hL' hM' fun z => ⟨fun hz => ?_, fun hz => ?_⟩
      · rcases List.mem_cons.1 ((h z).1 (by simp [hz])) with rfl | e
        · exact absurd (hx _ hz) (irr _)
        · exact e
      · rcases List.mem_cons.1 ((h z).2 (by simp [hz])) with rfl | e
        · exact absurd (hy _ hz) (irr _)
        · exact e
def filP (L : List Cx) (q : Int) : List Cx := L.filter fun x => decide (x.p = q)
theorem mem_filP {L : List Cx} {q : Int} {x : Cx} : x ∈ filP L q ↔ x ∈ L ∧ x.p = q := by unfold filP; rw [List.mem_filter, decide_eq_true_eq]
theorem filP_len (L : List Cx) (q : Int) : (filP L q).length ≤ L.length := List.length_filter_le _ _
theorem find_filP (L : List Cx) (q v c : Int) : findC (filP L q) q v c = findC L q v c := by
  unfold findC filP
  induction L with
  | nil => rfl
  | cons x L ih =>
    by_cases h : x.p = q
    · rw [List.filter_cons_of_pos (by simpa using h)]
      simp only [List.find?_cons, ih]
    · rw [List.filter_cons_of_neg (by simpa using h), ih, List.find?_cons]
      have : keyX q v c x = false := by unfold keyX; rw [decide_eq_false_iff_not]; exact fun e => h e.1
      rw [this]
theorem usd_filP (L : List Cx) (q : Int) : usdL (filP L q) q = usdL L q := by
  unfold filP
  induction L with
  | nil => rfl
  | cons x L ih =>
    by_cases h : x.p = q
    · rw [List.filter_cons_of_pos (by simpa using h)]; simp only [usdL, ih]
    · rw [List.filter_cons_of_neg (by simpa using h)]; simp only [usdL, ih, if_neg h]; omega
theorem left_filP (rooms : List Int) (L : List Cx) (q : Int) : leftN rooms (filP L q) q = leftN rooms L q := by unfold leftN; rw [usd_filP]
theorem chk_filP {rooms : List Int} {L : List Cx} (hl : L.length < 64) (q v c : Int) (k : Con) : chkN rooms (filP L q) q v c k = chkN rooms L q v c k := by
  have := filP_len L q
  unfold chkN
  rw [find_filP, left_filP, if_neg (show ¬ 64 ≤ (filP L q).length by omega), if_neg (show ¬ 64 ≤ L.length by omega)]
theorem chg_filP (rooms : List Int) (L : List Cx) (q v c : Int) (k : Con) : chgK rooms (filP L q) q v c k = chgK rooms L q v c k := by unfold chgK; rw [find_filP, left_filP]
theorem filP_set {L : List Cx} {q p v c : Int} {f : Cx → Cx} (hf : ∀ x, (f x).p = x.p) : filP (setC L p v c f) q = setC (filP L q) p v c f := by
  unfold filP setC
  rw [List.filter_map]
  congr 1
  refine List.filter_congr fun x _ => ?_
  simp only [Function.comp]
  split
  · rw [hf]
  · rfl
theorem filP_del (L : List Cx) (q p v c : Int) : filP (delC L p v c) q = delC (filP L q) p v c := by
  unfold filP delC
  rw [List.filter_filter, List.filter_filter]
  exact List.filter_congr fun x _ => Bool.and_comm _ _
theorem set_out {L : List Cx} {q p v c : Int} {f : Cx → Cx} (h : p ≠ q) : setC (filP L q) p v c f = filP L q := by
  unfold setC
  rw [List.map_congr_left (g := id) fun x hx => ?_, List.map_id]
  have h1 := (mem_filP.1 hx).2
  rw [if_neg (fun e => h (by rw [← (keyX_iff.1 e).1, h1]))]; rfl
theorem del_out {L : List Cx} {q p v c : Int} (h : p ≠ q) : delC (filP L q) p v c = filP L q := by
  unfold delC
  refine List.filter_eq_self.2 fun x hx => ?_
  have h1 := (mem_filP.1 hx).2
  have : keyX p v c x = false := by unfold keyX; rw [decide_eq_false_iff_not]; exact fun e => h (by rw [← e.1, h1])
  rw [this]; rfl
theorem ins_out (L : List Cx) {q : Int} {x : Cx} (h : x.p ≠ q) : filP (insC L x) q = filP L q := by
  unfold insC filP
  rw [List.filter_append, List.filter_cons_of_neg (by simpa using h), ← List.filter_append, List.take_append_drop]
theorem LI.srt0 {rooms : List Int} {L : List Cx} (h : LI rooms L) : L.Pairwise bef0 := srtC_iff.1 h.srt
theorem take_filP {rooms : List Int} {L : List Cx} {q : Int} (h : LI rooms L) (h2 : LI rooms (filP L q)) (hl : L.length < 64) (v c : Int) (k : Con) : takeN rooms (filP L q) q v c k = filP (takeN rooms L q v c k) q := by
  have a := (h.take q v c k).srt0
  have b := (h2.take q v c k).srt0
  refine srtC_ext b (List.Pairwise.filter _ a) fun x => ?_
  rw [mem_filP (L := takeN rooms L q v c k)]
  unfold takeN
  rw [chk_filP hl]
  split
  · rw [mem_insC, mem_insC, mem_filP]
    constructor
    · rintro (rfl | h9)
      · exact ⟨.inl rfl, rfl⟩
      · exact ⟨.inr h9.1, h9.2⟩
    · rintro ⟨rfl | h9, h8⟩
      · exact .inl rfl
      · exact .inr ⟨h9, h8⟩
  · exact mem_filP
theorem newK_p (k : Con) (x : Cx) : (newK k x).p = x.p := rfl
theorem newR_p (t clp : Int) (x : Cx) : (newR t clp x).p = x.p := rfl
/-- What is done on the link. -/
theorem do_in {rooms : List Int} {L : List Cx} {q : Int} (h : LI rooms L) (h2 : LI rooms (filP L q)) (hl : L.length < 64) (o : OpA) (ho : o.p = q) : doL rooms (filP L q) o = filP (doL rooms L o) q ∧ doV rooms (filP L q) o = doV rooms L o := by
  subst ho
  constructor
  · unfold doL
    split
    · exact take_filP h h2 hl _ _ _
    · split
      · unfold chgN
        rw [chg_filP]
        split
        · rw [filP_set (newK_p _)]
        · rfl
      · split
        · rw [filP_del]
        · split
          · unfold verN; rw [filP_set (newR_p _ _)]
          · rfl
  · unfold doV
    rw [chk_filP hl, chg_filP]
/-- What is done on another one. -/
theorem do_out {rooms : List Int} {L : List Cx} {q : Int} (o : OpA) (ho : o.p ≠ q) : filP (doL rooms L o) q = filP L q := by
  unfold doL
  split
  · unfold takeN
    split
    · exact ins_out L ho
    · rfl
  · split
    · unfold chgN
      split
      · rw [filP_set (newK_p _), set_out ho]
      · rfl
    · split
      · rw [filP_del, del_out ho]
      · split
        · unfold verN; rw [filP_set (newR_p _ _), set_out ho]
        · rfl
theorem do_len (rooms : List Int) (L : List Cx) (o : OpA) : (doL rooms L o).length ≤ L.length + 1 := by
  unfold doL
  split
  · unfold takeN; split
    · rw [len_insC]; omega
    · omega
  · split
    · unfold chgN; split
      · unfold setC; rw [List.length_map]; omega
      · omega
    · split
      · unfold delC; have := List.length_filter_le (fun x => !keyX o.p o.v o.c x) L; omega
      · split
        · unfold verN setC; rw [List.length_map]; omega
        · omega
theorem filP_next {L : List Cx} {k : Nat} {y : Cx} (hy : L[k]? = some y) (q : Int) : filP (L.take (k + 1)) q = if y.p = q then filP (L.take k) q ++ [y] else filP (L.take k) q := by
  unfold filP
  rw [takeC_next hy, List.filter_append]
  by_cases h : y.p = q
  · rw [if_pos h, List.filter_cons_of_pos (by simpa using h)]; rfl
  · rw [if_neg h, List.filter_cons_of_neg (by simpa using h)]; simp
end Go.Proofs.Ythchmlidobgkoaa
end
