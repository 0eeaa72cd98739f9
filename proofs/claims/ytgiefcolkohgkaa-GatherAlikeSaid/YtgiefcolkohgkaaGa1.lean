/- Layer 11: package gather. -/
import Derived.Test.YtgiefcolkohgkaaProg
import Derived.Test.YtgiefcolkohgkaaGa0
import Derived.Test.YtgiefcolkohgkaaFr4
set_option linter.unusedVariables false
set_option linter.unusedSimpArgs false
namespace Go.Proofs.Ytgiefcolkohgkaa
open Go.Vc Go.RowKit

set_option maxRecDepth 100000 in
set_option maxHeartbeats 4000000 in
theorem gnew_any (m : Int) (w : World) :
    CV Try.prog 10 #[.int .i64 m] w (fun x w1 => ∃ p, x = .pointer (some ⟨p, 0, none⟩) ∧ ¬ p < w.heap.size ∧ GaOf w1 58 p (fun _ => True) ⟨imax 1 (imin m 1152921504606846976), 0, 0, [], false⟩ ∧ Step No w w1) := by
  have hS : Step No w w := Step.refl _ _
  refine CV_enter Try.f10 _ 8 [(0, .int .i64 m)] Try.func10 rfl rfl (by kernel_rfl) rfl ?_
  refine VC_seq ?_
  refine VC_region ?_
  refine VL_pure 1 [0] [(0, .int .i64 m)] (by kernel_rfl) rfl ?_
  refine VL_end (by kernel_rfl) ?_
  refine VQ_next ?_
  refine VC_seq ?_
  refine VC_region ?_
  refine VL_pure 4 [6] [(6, .agg #[.int .i64 (imax 1 (imin m 1152921504606846976)), .int .i64 0, .int .i64 0, .slice none 0 0, .bool false])] (by kernel_rfl) rfl ?_
  have hzs1 := hS.size
  refine VL_box (d := 7) (t := 58) (c := #[.int .i64 (imax 1 (imin m 1152921504606846976)), .int .i64 0, .int .i64 0, .slice none 0 0, .bool false]) (by kernel_rfl) (by kernel_rfl) ?_
  intro b1 w1 hn1
  replace hS := Step.trans hS (hn1.step No)
  have ho1 := hn1.own
  have hzhn1 := hn1.size
  have hqhn1 := hn1.eqb
  refine VL_pure 6 [2] [(2, .pointer (some ⟨b1, 0, none⟩))] (by kernel_rfl) rfl ?_
  refine VL_end (by kernel_rfl) ?_
  refine VQ_next ?_
  refine VC_ret ?_
  refine VQ_ret1 (.pointer (some ⟨b1, 0, none⟩)) (.inr rfl) rfl rfl ?_
  exact ⟨_, rfl, by omega, ⟨none, 0, ho1, SlX.nil, Nat.le_refl _⟩, hS⟩

set_option maxRecDepth 100000 in
set_option maxHeartbeats 4000000 in
theorem lose_any (p : Nat) (g : Ga) (X : Nat → Prop) (w : World) (hX : ∀ k, w.heap.size ≤ k → X k) (hG : GaOf w 58 p X g) (hl0 : 0 ≤ g.lost) (hl1 : g.lost ≤ 1000000) :
    CV Try.prog 23 #[.pointer (some ⟨p, 0, none⟩)] w (fun x w1 => GaOf w1 58 p X (loseF g) ∧ Step (Just p) w w1) := by
  have hS : Step (Just p) w w := Step.refl _ _
  obtain ⟨A, c, ho, hv, hAc⟩ := hG
  refine CV_enter Try.f23 _ 17 [(0, .pointer (some ⟨p, 0, none⟩))] Try.func23 rfl rfl (by kernel_rfl) rfl ?_
  refine VC_seq ?_
  refine VC_region ?_
  refine VL_pure 4 [0, 2, 5] [(0, .pointer (some ⟨p, 0, none⟩)), (2, .pointer (some ⟨p, 0, none⟩)), (5, .pointer (some ⟨p, 3, none⟩))] (by kernel_rfl) rfl ?_
  refine VL_load (d := 6) (t := 32) (a := ⟨p, 3, none⟩) (v := .slice A g.bs.length c) (by kernel_rfl) (by kernel_rfl) (Loads.own1 ho (by kernel_rfl) (by rfl)) ?_
  refine VL_sliceV (d := 7) (A := A) (sz := 1) (len := g.bs.length) (cap := c) (lo := none) (hi := some 0) (mx := none) (by kernel_rfl) (by kernel_rfl) (fun h => by first | exact absurd rfl h | exact (fun h => by cases h)) (SlX.sl hv) 0 0 c rfl rfl rfl (by omega) (by omega) (by omega) 0 (by omega) c (by omega) [] (by simp) ?_
  intro A1 _
  have hvA1 : SlX w 5 X A1 (iL .u8 []) := SlX.nil
  refine VL_pure 8 [0, 7, 9] [(0, .pointer (some ⟨p, 0, none⟩)), (7, .slice A1 0 c), (9, .pointer (some ⟨p, 3, none⟩))] (by kernel_rfl) rfl ?_
  refine VL_store (b := p) (o := 3) (vs := [.slice A1 0 c]) (by kernel_rfl) (by kernel_rfl) ho (Nat.le_of_ble_eq_true (by kernel_rfl)) ?_
  intro w1 hw1
  replace hS := Step.trans hS (Step.mono hw1.step (by intro i hi; first | exact hi | (have hi9 : i = p := hi; (first | show _ ∨ _ | show _ = _); omega)))
  replace hv := hv.own ho (by decide) hw1.step
  replace hvA1 := hvA1.own ho (by decide) hw1.step
  have ho1 : Own w1 p #[.int .i64 g.wait, .int .i64 g.began, .int .i64 g.lost, .slice A1 0 c, .bool g.sk] 58 := Own.cast hw1.own (by kernel_rfl)
  have hzhw1 := hw1.same
  refine VL_end (by kernel_rfl) ?_
  refine VQ_next ?_
  refine VC_region ?_
  refine VL_pure 3 [10, 12] [(10, .pointer (some ⟨p, 0, none⟩)), (12, .pointer (some ⟨p, 2, none⟩))] (by kernel_rfl) rfl ?_
  refine VL_load (d := 13) (t := 3) (a := ⟨p, 2, none⟩) (v := .int .i64 g.lost) (by kernel_rfl) (by kernel_rfl) (Loads.own1 ho1 (by kernel_rfl) (by rfl)) ?_
  refine VL_pure 5 [10, 14] [(10, .pointer (some ⟨p, 0, none⟩)), (14, .int .i64 (IntKind.wrap .i64 (g.lost + 1)))] (by kernel_rfl) rfl ?_
  refine VL_eq [(10, .pointer (some ⟨p, 0, none⟩)), (14, .int .i64 (g.lost + 1))] (by rw [wrap_i64 _ (by omega) (by omega)]) ?_
  refine VL_pure 7 [14, 16] [(14, .int .i64 (g.lost + 1)), (16, .pointer (some ⟨p, 2, none⟩))] (by kernel_rfl) rfl ?_
  refine VL_store (b := p) (o := 2) (vs := [.int .i64 (g.lost + 1)]) (by kernel_rfl) (by kernel_rfl) ho1 (Nat.le_of_ble_eq_true (by kernel_rfl)) ?_
  intro w2 hw2
  replace hS := Step.trans hS (Step.mono hw2.step (by intro i hi; first | exact hi | (have hi9 : i = p := hi; (first | show _ ∨ _ | show _ = _); omega)))
  replace hv := hv.own ho1 (by decide) hw2.step
  replace hvA1 := hvA1.own ho1 (by decide) hw2.step
  have ho2 : Own w2 p #[.int .i64 g.wait, .int .i64 g.began, .int .i64 (g.lost + 1), .slice A1 0 c, .bool g.sk] 58 := Own.cast hw2.own (by kernel_rfl)
  have hzhw2 := hw2.same
  refine VL_end (by kernel_rfl) ?_
  refine VQ_ret0 (.inl rfl) rfl ?_
  exact ⟨⟨_, _, ho2, hvA1, by first | assumption | exact Nat.zero_le _⟩, hS⟩

set_option maxRecDepth 100000 in
set_option maxHeartbeats 4000000 in
theorem tick_any (p : Nat) (g : Ga) (X : Nat → Prop) (w : World) (hX : ∀ k, w.heap.size ≤ k → X k) (hG : GaOf w 58 p X g) (k : Nat) (hI : GaI g k) (hk : k ≤ 1000000) (t : Int) (h0 : 0 ≤ t) (h1 : t ≤ 1152921504606846976) :
    CV Try.prog 13 #[.pointer (some ⟨p, 0, none⟩), .int .i64 t] w (fun x w1 => x = .bool (tickB g t) ∧ GaOf w1 58 p X (tickF g t) ∧ Step (Just p) w w1) := by
  have hS : Step (Just p) w w := Step.refl _ _
  obtain ⟨A, c, ho, hv, hAc⟩ := hG
  have hb0 := hI.b0
  have hb1 := hI.b1
  refine CV_enter Try.f13 _ 30 [(0, .pointer (some ⟨p, 0, none⟩)), (1, .int .i64 t)] Try.func13 rfl rfl (by kernel_rfl) rfl ?_
  refine VC_seq ?_
  refine VC_region ?_
  refine VL_pure 1 [0, 1] [(0, .pointer (some ⟨p, 0, none⟩)), (1, .int .i64 t)] (by kernel_rfl) rfl ?_
  refine VL_end (by kernel_rfl) ?_
  refine VQ_next ?_
  refine VC_seq ?_
  refine VC_seq ?_
  have hs1 := drew_step w
  have hs1z : w.heap.size = w.drew.heap.size := rfl
  refine VC_text [[], [0], [0, 1], [0, 1, 2], [0, 1, 2, 3], [0, 1, 2, 3, 4], [0, 1, 2, 3, 4, 5], [0, 1, 2, 3, 4, 5, 6], [0, 1, 2, 3, 4, 5, 6, 7], [0, 1, 2, 3, 4, 5, 6, 7, 8], [0, 1, 2, 3, 4, 5, 6, 7, 8, 9], [0, 1, 2, 3, 4, 5, 6, 7, 8, 9, 10], [0, 1, 2, 3, 4, 5, 6, 7, 8, 9, 10], [0, 1, 2, 3, 4, 5, 6, 7, 8, 9, 10, 12], [0, 1, 2, 3, 4, 5, 6, 7, 8, 9, 10, 12, 13], [0, 1, 2, 3, 4, 5, 6, 7, 8, 9, 10, 12, 13, 14], [0, 1, 2, 3, 4, 5, 6, 7, 8, 9, 10, 11, 12, 13, 14, 15], [0, 1, 2, 3, 4, 5, 6, 7, 8, 9, 10], [0, 1, 2, 3, 4, 5, 6, 7, 8, 9, 10, 17], [0, 1, 2, 3, 4, 5, 6, 7, 8, 9, 10, 17, 18], [0, 1, 2, 3, 4, 5, 6, 7, 8, 9, 10, 17, 18, 19], [0, 1, 2, 3, 4, 5, 6, 7, 8, 9, 10, 11, 12, 13, 14, 15, 16, 17, 18, 19, 20], [0, 1, 2, 3, 4, 5, 6, 7, 8, 9, 10, 11, 12, 13, 14, 15, 16, 17, 18, 19, 20, 21]] 21 (fun x y => Step (fun k => w.heap.size ≤ k) x y) [] [0, 1, 2, 3, 4, 5, 6, 7, 8, 9, 10, 11, 12, 13, 14, 15, 16, 17, 18, 19, 20] (by kernel_rfl) (by kernel_rfl) (by kernel_rfl) (by kernel_rfl) (fun x => Step.refl _ x) (fun h k => Step.trans h k) Step.weak ?_
  have hzs1 := hS.size
  have hzl1 := ho.lt
  generalize w.drew = w1 at hs1 hs1z ⊢
  replace hS := Step.trans hS (Step.weak hs1)
  replace ho := ho.no hs1
  replace hv := hv.no hs1
  refine VT_pures 6 (kn' := [(5, .pointer (some ⟨p, 3, none⟩)), (4, .pointer (some ⟨p, 0, none⟩)), (3, .pointer (some ⟨p, 0, none⟩)), (2, .bool false), (1, .bool false), (0, .pointer (some ⟨p, 0, none⟩))]) (by kernel_rfl) ?_
  refine VT_load (d := 11) (t := 32) (a := ⟨p, 3, none⟩) (v := .slice A g.bs.length c) (by kernel_rfl) (by kernel_rfl) ?_ ?_
  · intro w2 hr1
    replace hS := Step.transNew hS hr1 (fun i hi hG => by (try simp only at hG); (first | show _ ∨ _ | show _ = _); omega)
    replace ho := ho.step hr1 (by (try simp only); omega)
    exact (Loads.own1 ho (by kernel_rfl) (by rfl))
  refine VT_pures 4 (kn' := [(10, .bool (((g.bs.length : Nat) : Int) == 0)), (9, .bool (((g.bs.length : Nat) : Int) == 0)), (8, .bool (((g.bs.length : Nat) : Int) == 0)), (7, .int .i64 ((g.bs.length : Nat) : Int)), (6, .slice A g.bs.length c), (5, .pointer (some ⟨p, 3, none⟩)), (4, .pointer (some ⟨p, 0, none⟩)), (3, .pointer (some ⟨p, 0, none⟩)), (2, .bool false), (1, .bool false), (0, .pointer (some ⟨p, 0, none⟩))]) (by kernel_rfl) ?_
  rcases Bool.eq_false_or_eq_true (((g.bs.length : Nat) : Int) == 0) with hg1 | hg1
  · refine VT_eq [(10, .bool true), (9, .bool true), (8, .bool true), (7, .int .i64 ((g.bs.length : Nat) : Int)), (6, .slice A g.bs.length c), (5, .pointer (some ⟨p, 3, none⟩)), (4, .pointer (some ⟨p, 0, none⟩)), (3, .pointer (some ⟨p, 0, none⟩)), (2, .bool false), (1, .bool false), (0, .pointer (some ⟨p, 0, none⟩))] (by simp only [hg1, Bool.not_true, Bool.not_false]) ?_
    try simp only [bne_iff_ne, beq_iff_eq, decide_eq_true_eq, decide_eq_false_iff_not, bne_eq_false_iff_eq, beq_eq_false_iff_ne, ne_eq] at hg1
    refine VT_pures 10 (kn' := [(20, undef), (19, undef), (18, undef), (17, undef), (16, undef), (15, undef), (14, undef), (13, undef), (12, undef), (11, undef), (10, .bool true), (9, .bool true), (8, .bool true), (7, .int .i64 ((g.bs.length : Nat) : Int)), (6, .slice A g.bs.length c), (5, .pointer (some ⟨p, 3, none⟩)), (4, .pointer (some ⟨p, 0, none⟩)), (3, .pointer (some ⟨p, 0, none⟩)), (2, .bool false), (1, .bool false), (0, .pointer (some ⟨p, 0, none⟩))]) (by kernel_rfl) ?_
    refine VT_end ?_
    intro w3 hs2
    replace hS := Step.trans hS (Step.weak hs2)
    replace ho := ho.no hs2
    replace hv := hv.no hs2
    refine VL_keep [0, 15, 21, 25] [(0, .pointer (some ⟨p, 0, none⟩)), (15, .bool true), (21, undef), (25, undef)] (by kernel_rfl) ?_
    refine VL_pure 23 [0, 27] [(0, .pointer (some ⟨p, 0, none⟩)), (27, .bool true)] (by kernel_rfl) rfl ?_
    refine VL_end (by kernel_rfl) ?_
    refine VQ_next ?_
    refine VC_true (by kernel_rfl) ?_
    refine VC_seq ?_
    refine VC_region ?_
    refine VL_pure 1 [4] [(4, .bool false)] (by kernel_rfl) rfl ?_
    refine VL_end (by kernel_rfl) ?_
    refine VQ_next ?_
    refine VC_ret ?_
    refine VQ_then_ret ?_
    refine VQ_ret1 (.bool false) (.inr rfl) rfl rfl ?_
    try rw [wrap_i64 _ (by omega) (by omega)] at h1
    have e9 : tickB g t = false := by first | exact tick_0 (by omega) | exact tick_1 (by assumption) | exact tick_2 (by omega) (by assumption)
    exact ⟨by rw [e9], GaOf.cast ⟨_, _, ho, hv, by first | assumption | exact Nat.zero_le _⟩ (tick_no e9).symm, hS⟩
  · refine VT_eq [(10, .bool false), (9, .bool false), (8, .bool false), (7, .int .i64 ((g.bs.length : Nat) : Int)), (6, .slice A g.bs.length c), (5, .pointer (some ⟨p, 3, none⟩)), (4, .pointer (some ⟨p, 0, none⟩)), (3, .pointer (some ⟨p, 0, none⟩)), (2, .bool false), (1, .bool false), (0, .pointer (some ⟨p, 0, none⟩))] (by simp only [hg1, Bool.not_true, Bool.not_false]) ?_
    try simp only [bne_iff_ne, beq_iff_eq, decide_eq_true_eq, decide_eq_false_iff_not, bne_eq_false_iff_eq, beq_eq_false_iff_ne, ne_eq] at hg1
    refine VT_pures 4 (kn' := [(14, .pointer (some ⟨p, 1, none⟩)), (13, .pointer (some ⟨p, 0, none⟩)), (12, .pointer (some ⟨p, 0, none⟩)), (11, .int .i64 t), (10, .bool false), (9, .bool false), (8, .bool false), (7, .int .i64 ((g.bs.length : Nat) : Int)), (6, .slice A g.bs.length c), (5, .pointer (some ⟨p, 3, none⟩)), (4, .pointer (some ⟨p, 0, none⟩)), (3, .pointer (some ⟨p, 0, none⟩)), (2, .bool false), (1, .bool false), (0, .pointer (some ⟨p, 0, none⟩))]) (by kernel_rfl) ?_
    refine VT_load (d := 20) (t := 3) (a := ⟨p, 1, none⟩) (v := .int .i64 g.began) (by kernel_rfl) (by kernel_rfl) ?_ ?_
    · intro w4 hr2
      replace hS := Step.transNew hS hr2 (fun i hi hG => by (try simp only at hG); (first | show _ ∨ _ | show _ = _); omega)
      replace ho := ho.step hr2 (by (try simp only); omega)
      exact (Loads.own1 ho (by kernel_rfl) (by rfl))
    refine VT_pures 4 (kn' := [(19, .pointer (some ⟨p, 0, none⟩)), (18, .pointer (some ⟨p, 0, none⟩)), (17, .pointer (some ⟨p, 0, none⟩)), (16, .int .i64 (IntKind.wrap .i64 (t - g.began))), (15, .int .i64 g.began), (14, .pointer (some ⟨p, 1, none⟩)), (13, .pointer (some ⟨p, 0, none⟩)), (12, .pointer (some ⟨p, 0, none⟩)), (11, .int .i64 t), (10, .bool false), (9, .bool false), (8, .bool false), (7, .int .i64 ((g.bs.length : Nat) : Int)), (6, .slice A g.bs.length c), (5, .pointer (some ⟨p, 3, none⟩)), (4, .pointer (some ⟨p, 0, none⟩)), (3, .pointer (some ⟨p, 0, none⟩)), (2, .bool false), (1, .bool false), (0, .pointer (some ⟨p, 0, none⟩))]) (by kernel_rfl) ?_
    refine VT_load (d := 25) (t := 3) (a := ⟨p, 0, none⟩) (v := .int .i64 g.wait) (by kernel_rfl) (by kernel_rfl) ?_ ?_
    · intro w5 hr3
      replace hS := Step.transNew hS hr3 (fun i hi hG => by (try simp only at hG); (first | show _ ∨ _ | show _ = _); omega)
      replace ho := ho.step hr3 (by (try simp only); omega)
      exact (Loads.own1 ho (by kernel_rfl) (by rfl))
    refine VT_end ?_
    intro w6 hs3
    replace hS := Step.trans hS (Step.weak hs3)
    replace ho := ho.no hs3
    replace hv := hv.no hs3
    refine VL_keep [0, 15, 21, 25] [(0, .pointer (some ⟨p, 0, none⟩)), (15, .bool false), (21, .int .i64 (IntKind.wrap .i64 (t - g.began))), (25, .int .i64 g.wait)] (by kernel_rfl) ?_
    refine VL_pure 23 [0, 27] [(0, .pointer (some ⟨p, 0, none⟩)), (27, .bool (decide ((IntKind.wrap .i64 (t - g.began)) < g.wait)))] (by kernel_rfl) rfl ?_
    refine VL_end (by kernel_rfl) ?_
    refine VQ_next ?_
    refine VC_dec ((IntKind.wrap .i64 (t - g.began)) < g.wait) (by kernel_rfl) (fun h1 => ?_) (fun h1 => ?_)
    · refine VC_seq ?_
      refine VC_region ?_
      refine VL_pure 1 [4] [(4, .bool false)] (by kernel_rfl) rfl ?_
      refine VL_end (by kernel_rfl) ?_
      refine VQ_next ?_
      refine VC_ret ?_
      refine VQ_then_ret ?_
      refine VQ_ret1 (.bool false) (.inr rfl) rfl rfl ?_
      try rw [wrap_i64 _ (by omega) (by omega)] at h1
      have e9 : tickB g t = false := by first | exact tick_0 (by omega) | exact tick_1 (by assumption) | exact tick_2 (by omega) (by assumption)
      exact ⟨by rw [e9], GaOf.cast ⟨_, _, ho, hv, by first | assumption | exact Nat.zero_le _⟩ (tick_no e9).symm, hS⟩
    · refine VC_skip ?_
      refine VQ_next ?_
      refine VC_seq ?_
      refine VC_region ?_
      refine VL_pure 1 [28] [(28, .pointer (some ⟨p, 0, none⟩))] (by kernel_rfl) rfl ?_
      have hzs2 := hS.size
      have hzl2 := ho.lt
      refine VL_call (d := 29) (f := 23) (by kernel_rfl) (by kernel_rfl) (by kernel_rfl) Try.call23 (lose_any p g X _ (fun k hk => hX k (by omega)) ⟨_, _, ho, hv, by first | assumption | exact Nat.zero_le _⟩ hI.l0 (by have h9 := hI.l1; omega)) ?_
      rintro _ w7 ⟨⟨A1, c1, ho1, hv1, hAcA1⟩, hc1⟩
      replace hS := Step.trans hS (Step.mono hc1 (by intro i hi; first | exact hi | (have hi9 : i = p := hi; (first | show _ ∨ _ | show _ = _); omega)))
      refine VL_end (by kernel_rfl) ?_
      refine VQ_next ?_
      refine VC_seq ?_
      refine VC_region ?_
      refine VL_pure 1 [4] [(4, .bool true)] (by kernel_rfl) rfl ?_
      refine VL_end (by kernel_rfl) ?_
      refine VQ_next ?_
      refine VC_ret ?_
      refine VQ_ret1 (.bool true) (.inr rfl) rfl rfl ?_
      try rw [wrap_i64 _ (by omega) (by omega)] at h1
      have e9 : tickB g t = true := by first | exact tick_0 (by omega) | exact tick_1 (by assumption) | exact tick_2 (by omega) (by assumption)
      exact ⟨by rw [e9], GaOf.cast ⟨_, _, ho1, hv1, by first | assumption | exact Nat.zero_le _⟩ (tick_yes e9).symm, hS⟩

set_option maxRecDepth 100000 in
set_option maxHeartbeats 4000000 in
theorem gadd_any (p : Nat) (g : Ga) (X : Nat → Prop) (w : World) (hX : ∀ k, w.heap.size ≤ k → X k) (hG : GaOf w 58 p X g) (k : Nat) (hI : GaI g k) (hk : k ≤ 1000000) (t : Int) (ps : List Int) (hp : ps.length = 48) :
    CV Try.prog 24 #[.pointer (some ⟨p, 0, none⟩), .int .i64 t, .agg (iA .u8 ps)] w (fun x w1 => GaOf w1 58 p X (gaddF g t ps) ∧ Step (Just p) w w1) := by
  have hS : Step (Just p) w w := Step.refl _ _
  obtain ⟨A, c, ho, hv, hAc⟩ := hG
  obtain ⟨m, hm, hl⟩ := hI.len
  refine CV_enter Try.f24 _ 37 [(0, .pointer (some ⟨p, 0, none⟩)), (1, .int .i64 t), (2, .agg (iA .u8 ps))] Try.func24 rfl rfl (by kernel_rfl) rfl ?_
  refine VC_seq ?_
  refine VC_region ?_
  have hzs1 := hS.size
  have hzl1 := ho.lt
  have hzs2 := hS.size
  have hzl2 := ho.lt
  refine VL_box (d := 5) (t := 28) (c := iA .u8 ps) (by kernel_rfl) (by kernel_rfl) ?_
  intro b1 w1 hn1
  replace hS := Step.trans hS (Step.weak (hn1.step No))
  replace ho := ho.no (hn1.step No)
  replace hv := hv.no (hn1.step No)
  have ho1 := hn1.own
  have hzhn1 := hn1.size
  have hqhn1 := hn1.eqb
  refine VL_end (by kernel_rfl) ?_
  refine VQ_next ?_
  refine VC_seq ?_
  refine VC_region ?_
  refine VL_pure 3 [0, 1, 5, 10] [(0, .pointer (some ⟨p, 0, none⟩)), (1, .int .i64 t), (5, .pointer (some ⟨b1, 0, none⟩)), (10, .pointer (some ⟨p, 3, none⟩))] (by kernel_rfl) rfl ?_
  refine VL_load (d := 11) (t := 32) (a := ⟨p, 3, none⟩) (v := .slice A g.bs.length c) (by kernel_rfl) (by kernel_rfl) (Loads.own1 ho (by kernel_rfl) (by rfl)) ?_
  refine VL_pure 6 [0, 1, 5, 6] [(0, .pointer (some ⟨p, 0, none⟩)), (1, .int .i64 t), (5, .pointer (some ⟨b1, 0, none⟩)), (6, .int .i64 ((g.bs.length : Nat) : Int))] (by kernel_rfl) rfl ?_
  refine VL_end (by kernel_rfl) ?_
  refine VQ_next ?_
  refine VC_seq ?_
  refine VC_seq ?_
  refine VC_region ?_
  refine VL_pure 2 [0, 1, 5, 6, 14] [(0, .pointer (some ⟨p, 0, none⟩)), (1, .int .i64 t), (5, .pointer (some ⟨b1, 0, none⟩)), (6, .int .i64 ((g.bs.length : Nat) : Int)), (14, .bool (((g.bs.length : Nat) : Int) == 0))] (by kernel_rfl) rfl ?_
  refine VL_end (by kernel_rfl) ?_
  refine VQ_next ?_
  refine VC_eq ((g.bs.length : Nat) : Int) 0 (by kernel_rfl) (fun h1 => ?_) (fun h1 => ?_)
  · refine VC_region ?_
    refine VL_pure 4 [0, 5, 6, 16, 18] [(0, .pointer (some ⟨p, 0, none⟩)), (5, .pointer (some ⟨b1, 0, none⟩)), (6, .int .i64 ((g.bs.length : Nat) : Int)), (16, .int .i64 t), (18, .pointer (some ⟨p, 1, none⟩))] (by kernel_rfl) rfl ?_
    refine VL_store (b := p) (o := 1) (vs := [.int .i64 t]) (by kernel_rfl) (by kernel_rfl) ho (Nat.le_of_ble_eq_true (by kernel_rfl)) ?_
    intro w2 hw1
    replace hS := Step.trans hS (Step.mono hw1.step (by intro i hi; first | exact hi | (have hi9 : i = p := hi; (first | show _ ∨ _ | show _ = _); omega)))
    replace hv := hv.own ho (by decide) hw1.step
    replace ho1 := ho1.step hw1.step (show ¬ b1 = p by omega)
    have ho2 : Own w2 p #[.int .i64 g.wait, .int .i64 t, .int .i64 g.lost, .slice A g.bs.length c, .bool g.sk] 58 := Own.cast hw1.own (by kernel_rfl)
    have hzhw1 := hw1.same
    refine VL_end (by kernel_rfl) ?_
    refine VQ_next ?_
    refine VC_seq ?_
    have hvs := SlX.sl hv
    refine VC_region ?_
    refine VL_pure 2 [0, 5, 6, 20] [(0, .pointer (some ⟨p, 0, none⟩)), (5, .pointer (some ⟨b1, 0, none⟩)), (6, .int .i64 ((g.bs.length : Nat) : Int)), (20, .int .i64 (IntKind.wrap .i64 (((g.bs.length : Nat) : Int) + 48)))] (by kernel_rfl) rfl ?_
    have he1 : IntKind.wrap .i64 (((g.bs.length : Nat) : Int) + 48) = ((g.bs.length + 48 : Nat) : Int) := (by rw [wrap_i64 _ (by omega) (by omega)]; omega)
    refine VL_eq [(0, .pointer (some ⟨p, 0, none⟩)), (5, .pointer (some ⟨b1, 0, none⟩)), (6, .int .i64 ((g.bs.length : Nat) : Int)), (20, .int .i64 ((g.bs.length + 48 : Nat) : Int))] (by rw [he1]) ?_
    have hzs3 := hS.size
    have hzl3 := ho1.lt
    have hzl4 := ho2.lt
    refine VL_make (t := 32) (a := ((g.bs.length + 48 : Nat) : Int)) (b := ((g.bs.length + 48 : Nat) : Int)) (e := 5) (d := 21) (k := .u8) (bytes := 1) (by kernel_rfl) (by kernel_rfl) (by kernel_rfl) (by kernel_rfl) (g.bs.length + 48) rfl rfl (by omega) (by omega) ?_
    intro g1 w3 hn2
    replace hS := Step.trans hS (Step.weak (hn2.step No))
    replace ho1 := ho1.no (hn2.step No)
    replace ho2 := ho2.no (hn2.step No)
    replace hvs := hvs.no (hn2.step No)
    have hzhn2 := hn2.size
    have hqhn2 := hn2.eqb
    have hr1 := Rw.made hn2.own (by simp only [maxLen]; omega)
    have hbase1 : g1 ≤ w3.heap.size := by omega
    have hglg1 : g1 < w3.heap.size := by omega
    refine VL_pure 4 [0, 5, 6, 7] [(0, .pointer (some ⟨p, 0, none⟩)), (5, .pointer (some ⟨b1, 0, none⟩)), (6, .int .i64 ((g.bs.length : Nat) : Int)), (7, .slice (some ⟨g1, 0, none⟩) (g.bs.length + 48) (g.bs.length + 48))] (by kernel_rfl) rfl ?_
    refine VL_end (by kernel_rfl) ?_
    refine VQ_next ?_
    refine VC_seq ?_
    refine VC_region ?_
    refine VL_pure 4 [0, 5, 6, 7, 22, 25] [(0, .pointer (some ⟨p, 0, none⟩)), (5, .pointer (some ⟨b1, 0, none⟩)), (6, .int .i64 ((g.bs.length : Nat) : Int)), (7, .slice (some ⟨g1, 0, none⟩) (g.bs.length + 48) (g.bs.length + 48)), (22, .slice (some ⟨g1, 0, none⟩) (g.bs.length + 48) (g.bs.length + 48)), (25, .pointer (some ⟨p, 3, none⟩))] (by kernel_rfl) rfl ?_
    refine VL_load (d := 26) (t := 32) (a := ⟨p, 3, none⟩) (v := .slice A g.bs.length c) (by kernel_rfl) (by kernel_rfl) (Loads.own1 ho2 (by kernel_rfl) (by rfl)) ?_
    refine VL_copyR (d := 27) (b := g1) (o := 0) (dl := (g.bs.length + 48)) (A2 := A) (sl := g.bs.length) (k := .u8) (bs := (List.replicate (g.bs.length + 48) 0)) (vs := g.bs) (by kernel_rfl) (by kernel_rfl) rfl (by omega) hvs hr1 (by omega) ?_
    intro w4 hr2 hw2 hzhw2
    replace hS := Step.transNew hS hw2 (fun _ _ _ => by omega)
    replace ho1 := ho1.step hw2 (show ¬ b1 = g1 by omega)
    replace ho2 := ho2.step hw2 (show ¬ p = g1 by omega)
    replace hvs := hvs.step hw2 (fun k hk (hF : k = g1) => by omega)
    replace hbase1 := Nat.le_trans hbase1 (hw2).size
    replace hglg1 := Nat.lt_of_lt_of_le hglg1 (hw2).size
    refine VL_end (by kernel_rfl) ?_
    refine VQ_next ?_
    refine VC_seq ?_
    have hs1 := drew_step w4
    have hs1z : w4.heap.size = w4.drew.heap.size := rfl
    refine VC_text [[], [], [0, 1], [], [0, 1, 2, 3]] 4 (fun x y => Step (fun k => w4.heap.size ≤ k) x y) [] [0, 1, 2, 3] (by kernel_rfl) (by kernel_rfl) (by kernel_rfl) (by kernel_rfl) (fun x => Step.refl _ x) (fun h k => Step.trans h k) Step.weak ?_
    have hzs4 := hS.size
    have hzl5 := ho1.lt
    have hzl6 := ho2.lt
    generalize w4.drew = w5 at hs1 hs1z ⊢
    replace hS := Step.trans hS (Step.weak hs1)
    replace ho1 := ho1.no hs1
    replace ho2 := ho2.no hs1
    replace hbase1 := Nat.le_trans hbase1 (hs1).size
    replace hglg1 := Nat.lt_of_lt_of_le hglg1 (hs1).size
    replace hr2 := hr2.no hs1
    refine VT_pures 2 (kn' := [(1, .int .i64 ((g.bs.length : Nat) : Int)), (0, .slice (some ⟨g1, 0, none⟩) (g.bs.length + 48) (g.bs.length + 48))]) (by kernel_rfl) ?_
    have hcap1 := Rw.cap hr2
    have hln1 := Rw.lenI hr2
    obtain ⟨so1, hso1⟩ : ∃ x, (if g.bs.length + 48 = g.bs.length then 0 else 0 + g.bs.length * 1) = x := ⟨_, rfl⟩
    refine VT_slice (d := 30) (b := g1) (o := 0) (sz := 1) (len := (g.bs.length + 48)) (cap := (g.bs.length + 48)) (lo := (some ((g.bs.length : Nat) : Int))) (hi := none) (mx := none) (by kernel_rfl) (by kernel_rfl) (fun h => by first | exact absurd rfl h | exact (fun h => by cases h)) g.bs.length (g.bs.length + 48) (g.bs.length + 48) rfl rfl rfl (by omega) (by omega) (by omega) so1 hso1 ((g.bs.length + 48) - g.bs.length) (by omega) ((g.bs.length + 48) - g.bs.length) (by omega) ?_
    try (have so1q := hso1; rw [if_neg (by omega)] at so1q)
    have hsl1 := Sl.cutI (H := g.bs.length + 48) (Rw.slI hr2) hso1 (by omega)
    refine VT_pures 1 (kn' := [(3, .slice (some ⟨b1, 0, none⟩) 48 48), (2, .slice (some ⟨g1, so1, none⟩) ((g.bs.length + 48) - g.bs.length) ((g.bs.length + 48) - g.bs.length)), (1, .int .i64 ((g.bs.length : Nat) : Int)), (0, .slice (some ⟨g1, 0, none⟩) (g.bs.length + 48) (g.bs.length + 48))]) (by kernel_rfl) ?_
    refine VT_end ?_
    intro w6 hs2
    replace hS := Step.trans hS (Step.weak hs2)
    replace ho1 := ho1.no hs2
    replace ho2 := ho2.no hs2
    replace hbase1 := Nat.le_trans hbase1 (hs2).size
    replace hglg1 := Nat.lt_of_lt_of_le hglg1 (hs2).size
    replace hr2 := hr2.no hs2
    replace hsl1 := hsl1.no hs2
    refine VL_keep [0, 7, 30, 31] [(0, .pointer (some ⟨p, 0, none⟩)), (7, .slice (some ⟨g1, 0, none⟩) (g.bs.length + 48) (g.bs.length + 48)), (30, .slice (some ⟨g1, so1, none⟩) ((g.bs.length + 48) - g.bs.length) ((g.bs.length + 48) - g.bs.length)), (31, .slice (some ⟨b1, 0, none⟩) 48 48)] (by kernel_rfl) ?_
    refine VL_copyR (d := 32) (b := g1) (o := so1) (dl := ((g.bs.length + 48) - g.bs.length)) (A2 := (some ⟨b1, 0, none⟩)) (sl := 48) (k := .u8) (bs := (putL (List.replicate (g.bs.length + 48) 0) 0 g.bs)) (vs := ps) (by kernel_rfl) (by kernel_rfl) (by (try simp only [List.length_set, List.length_append, List.length_map, List.length_replicate, List.length_cons, List.length_nil, List.length_take, List.length_drop, List.length_range]) <;> omega) (by omega) (Own.slI ho1 ho1.lt) hr2 (by omega) ?_
    intro w7 hr3 hw3 hzhw3
    replace hS := Step.transNew hS hw3 (fun _ _ _ => by omega)
    replace ho1 := ho1.step hw3 (show ¬ b1 = g1 by omega)
    replace ho2 := ho2.step hw3 (show ¬ p = g1 by omega)
    replace hbase1 := Nat.le_trans hbase1 (hw3).size
    replace hglg1 := Nat.lt_of_lt_of_le hglg1 (hw3).size
    refine VL_end (by kernel_rfl) ?_
    refine VQ_next ?_
    refine VC_region ?_
    refine VL_pure 4 [34, 36] [(34, .slice (some ⟨g1, 0, none⟩) (g.bs.length + 48) (g.bs.length + 48)), (36, .pointer (some ⟨p, 3, none⟩))] (by kernel_rfl) rfl ?_
    refine VL_store (b := p) (o := 3) (vs := [.slice (some ⟨g1, 0, none⟩) (g.bs.length + 48) (g.bs.length + 48)]) (by kernel_rfl) (by kernel_rfl) ho2 (Nat.le_of_ble_eq_true (by kernel_rfl)) ?_
    intro w8 hw4
    replace hS := Step.trans hS (Step.mono hw4.step (by intro i hi; first | exact hi | (have hi9 : i = p := hi; (first | show _ ∨ _ | show _ = _); omega)))
    replace ho1 := ho1.step hw4.step (show ¬ b1 = p by omega)
    replace hbase1 := Nat.le_trans hbase1 (hw4.step).size
    replace hglg1 := Nat.lt_of_lt_of_le hglg1 (hw4.step).size
    replace hr3 := hr3.keepG hw4.step (show ¬ g1 = p by omega)
    have ho3 : Own w8 p #[.int .i64 g.wait, .int .i64 t, .int .i64 g.lost, .slice (some ⟨g1, 0, none⟩) (g.bs.length + 48) (g.bs.length + 48), .bool g.sk] 58 := Own.cast hw4.own (by kernel_rfl)
    have hzhw4 := hw4.same
    refine VL_end (by kernel_rfl) ?_
    refine VQ_ret0 (.inl rfl) rfl ?_
    have e9 : putL (putL (List.replicate (g.bs.length + 48) 0) 0 g.bs) so1 ps = (gaddF g t ps).bs := putL_two rfl hp (by omega)
    rw [e9] at hr3
    exact ⟨⟨_, _, Own.cast ho3 (by simp only [gaddF, List.length_append, hp]; first | rw [if_pos (by rw [← List.length_eq_zero_iff]; omega)] | rw [if_neg (by rw [← List.length_eq_zero_iff]; omega)]), SlX.of_rw hr3 (fun k hk => hX k (by omega)), by simp only [gaddF, List.length_append, hp]; omega⟩, hS⟩
  · refine VC_skip ?_
    refine VQ_next ?_
    refine VC_seq ?_
    have hvs := SlX.sl hv
    refine VC_region ?_
    refine VL_pure 2 [0, 5, 6, 20] [(0, .pointer (some ⟨p, 0, none⟩)), (5, .pointer (some ⟨b1, 0, none⟩)), (6, .int .i64 ((g.bs.length : Nat) : Int)), (20, .int .i64 (IntKind.wrap .i64 (((g.bs.length : Nat) : Int) + 48)))] (by kernel_rfl) rfl ?_
    have he2 : IntKind.wrap .i64 (((g.bs.length : Nat) : Int) + 48) = ((g.bs.length + 48 : Nat) : Int) := (by rw [wrap_i64 _ (by omega) (by omega)]; omega)
    refine VL_eq [(0, .pointer (some ⟨p, 0, none⟩)), (5, .pointer (some ⟨b1, 0, none⟩)), (6, .int .i64 ((g.bs.length : Nat) : Int)), (20, .int .i64 ((g.bs.length + 48 : Nat) : Int))] (by rw [he2]) ?_
    have hzs5 := hS.size
    have hzl7 := ho.lt
    have hzl8 := ho1.lt
    refine VL_make (t := 32) (a := ((g.bs.length + 48 : Nat) : Int)) (b := ((g.bs.length + 48 : Nat) : Int)) (e := 5) (d := 21) (k := .u8) (bytes := 1) (by kernel_rfl) (by kernel_rfl) (by kernel_rfl) (by kernel_rfl) (g.bs.length + 48) rfl rfl (by omega) (by omega) ?_
    intro g2 w9 hn3
    replace hS := Step.trans hS (Step.weak (hn3.step No))
    replace ho := ho.no (hn3.step No)
    replace ho1 := ho1.no (hn3.step No)
    replace hvs := hvs.no (hn3.step No)
    have hzhn3 := hn3.size
    have hqhn3 := hn3.eqb
    have hr4 := Rw.made hn3.own (by simp only [maxLen]; omega)
    have hbase2 : g2 ≤ w9.heap.size := by omega
    have hglg2 : g2 < w9.heap.size := by omega
    refine VL_pure 4 [0, 5, 6, 7] [(0, .pointer (some ⟨p, 0, none⟩)), (5, .pointer (some ⟨b1, 0, none⟩)), (6, .int .i64 ((g.bs.length : Nat) : Int)), (7, .slice (some ⟨g2, 0, none⟩) (g.bs.length + 48) (g.bs.length + 48))] (by kernel_rfl) rfl ?_
    refine VL_end (by kernel_rfl) ?_
    refine VQ_next ?_
    refine VC_seq ?_
    refine VC_region ?_
    refine VL_pure 4 [0, 5, 6, 7, 22, 25] [(0, .pointer (some ⟨p, 0, none⟩)), (5, .pointer (some ⟨b1, 0, none⟩)), (6, .int .i64 ((g.bs.length : Nat) : Int)), (7, .slice (some ⟨g2, 0, none⟩) (g.bs.length + 48) (g.bs.length + 48)), (22, .slice (some ⟨g2, 0, none⟩) (g.bs.length + 48) (g.bs.length + 48)), (25, .pointer (some ⟨p, 3, none⟩))] (by kernel_rfl) rfl ?_
    refine VL_load (d := 26) (t := 32) (a := ⟨p, 3, none⟩) (v := .slice A g.bs.length c) (by kernel_rfl) (by kernel_rfl) (Loads.own1 ho (by kernel_rfl) (by rfl)) ?_
    refine VL_copyR (d := 27) (b := g2) (o := 0) (dl := (g.bs.length + 48)) (A2 := A) (sl := g.bs.length) (k := .u8) (bs := (List.replicate (g.bs.length + 48) 0)) (vs := g.bs) (by kernel_rfl) (by kernel_rfl) rfl (by omega) hvs hr4 (by omega) ?_
    intro w10 hr5 hw5 hzhw5
    replace hS := Step.transNew hS hw5 (fun _ _ _ => by omega)
    replace ho := ho.step hw5 (show ¬ p = g2 by omega)
    replace ho1 := ho1.step hw5 (show ¬ b1 = g2 by omega)
    replace hvs := hvs.step hw5 (fun k hk (hF : k = g2) => by omega)
    replace hbase2 := Nat.le_trans hbase2 (hw5).size
    replace hglg2 := Nat.lt_of_lt_of_le hglg2 (hw5).size
    refine VL_end (by kernel_rfl) ?_
    refine VQ_next ?_
    refine VC_seq ?_
    have hs3 := drew_step w10
    have hs3z : w10.heap.size = w10.drew.heap.size := rfl
    refine VC_text [[], [], [0, 1], [], [0, 1, 2, 3]] 4 (fun x y => Step (fun k => w10.heap.size ≤ k) x y) [] [0, 1, 2, 3] (by kernel_rfl) (by kernel_rfl) (by kernel_rfl) (by kernel_rfl) (fun x => Step.refl _ x) (fun h k => Step.trans h k) Step.weak ?_
    have hzs6 := hS.size
    have hzl9 := ho.lt
    have hzl10 := ho1.lt
    generalize w10.drew = w11 at hs3 hs3z ⊢
    replace hS := Step.trans hS (Step.weak hs3)
    replace ho := ho.no hs3
    replace ho1 := ho1.no hs3
    replace hbase2 := Nat.le_trans hbase2 (hs3).size
    replace hglg2 := Nat.lt_of_lt_of_le hglg2 (hs3).size
    replace hr5 := hr5.no hs3
    refine VT_pures 2 (kn' := [(1, .int .i64 ((g.bs.length : Nat) : Int)), (0, .slice (some ⟨g2, 0, none⟩) (g.bs.length + 48) (g.bs.length + 48))]) (by kernel_rfl) ?_
    have hcap2 := Rw.cap hr5
    have hln2 := Rw.lenI hr5
    obtain ⟨so2, hso2⟩ : ∃ x, (if g.bs.length + 48 = g.bs.length then 0 else 0 + g.bs.length * 1) = x := ⟨_, rfl⟩
    refine VT_slice (d := 30) (b := g2) (o := 0) (sz := 1) (len := (g.bs.length + 48)) (cap := (g.bs.length + 48)) (lo := (some ((g.bs.length : Nat) : Int))) (hi := none) (mx := none) (by kernel_rfl) (by kernel_rfl) (fun h => by first | exact absurd rfl h | exact (fun h => by cases h)) g.bs.length (g.bs.length + 48) (g.bs.length + 48) rfl rfl rfl (by omega) (by omega) (by omega) so2 hso2 ((g.bs.length + 48) - g.bs.length) (by omega) ((g.bs.length + 48) - g.bs.length) (by omega) ?_
    try (have so2q := hso2; rw [if_neg (by omega)] at so2q)
    have hsl2 := Sl.cutI (H := g.bs.length + 48) (Rw.slI hr5) hso2 (by omega)
    refine VT_pures 1 (kn' := [(3, .slice (some ⟨b1, 0, none⟩) 48 48), (2, .slice (some ⟨g2, so2, none⟩) ((g.bs.length + 48) - g.bs.length) ((g.bs.length + 48) - g.bs.length)), (1, .int .i64 ((g.bs.length : Nat) : Int)), (0, .slice (some ⟨g2, 0, none⟩) (g.bs.length + 48) (g.bs.length + 48))]) (by kernel_rfl) ?_
    refine VT_end ?_
    intro w12 hs4
    replace hS := Step.trans hS (Step.weak hs4)
    replace ho := ho.no hs4
    replace ho1 := ho1.no hs4
    replace hbase2 := Nat.le_trans hbase2 (hs4).size
    replace hglg2 := Nat.lt_of_lt_of_le hglg2 (hs4).size
    replace hr5 := hr5.no hs4
    replace hsl2 := hsl2.no hs4
    refine VL_keep [0, 7, 30, 31] [(0, .pointer (some ⟨p, 0, none⟩)), (7, .slice (some ⟨g2, 0, none⟩) (g.bs.length + 48) (g.bs.length + 48)), (30, .slice (some ⟨g2, so2, none⟩) ((g.bs.length + 48) - g.bs.length) ((g.bs.length + 48) - g.bs.length)), (31, .slice (some ⟨b1, 0, none⟩) 48 48)] (by kernel_rfl) ?_
    refine VL_copyR (d := 32) (b := g2) (o := so2) (dl := ((g.bs.length + 48) - g.bs.length)) (A2 := (some ⟨b1, 0, none⟩)) (sl := 48) (k := .u8) (bs := (putL (List.replicate (g.bs.length + 48) 0) 0 g.bs)) (vs := ps) (by kernel_rfl) (by kernel_rfl) (by (try simp only [List.length_set, List.length_append, List.length_map, List.length_replicate, List.length_cons, List.length_nil, List.length_take, List.length_drop, List.length_range]) <;> omega) (by omega) (Own.slI ho1 ho1.lt) hr5 (by omega) ?_
    intro w13 hr6 hw6 hzhw6
    replace hS := Step.transNew hS hw6 (fun _ _ _ => by omega)
    replace ho := ho.step hw6 (show ¬ p = g2 by omega)
    replace ho1 := ho1.step hw6 (show ¬ b1 = g2 by omega)
    replace hbase2 := Nat.le_trans hbase2 (hw6).size
    replace hglg2 := Nat.lt_of_lt_of_le hglg2 (hw6).size
    refine VL_end (by kernel_rfl) ?_
    refine VQ_next ?_
    refine VC_region ?_
    refine VL_pure 4 [34, 36] [(34, .slice (some ⟨g2, 0, none⟩) (g.bs.length + 48) (g.bs.length + 48)), (36, .pointer (some ⟨p, 3, none⟩))] (by kernel_rfl) rfl ?_
    refine VL_store (b := p) (o := 3) (vs := [.slice (some ⟨g2, 0, none⟩) (g.bs.length + 48) (g.bs.length + 48)]) (by kernel_rfl) (by kernel_rfl) ho (Nat.le_of_ble_eq_true (by kernel_rfl)) ?_
    intro w14 hw7
    replace hS := Step.trans hS (Step.mono hw7.step (by intro i hi; first | exact hi | (have hi9 : i = p := hi; (first | show _ ∨ _ | show _ = _); omega)))
    replace ho1 := ho1.step hw7.step (show ¬ b1 = p by omega)
    replace hbase2 := Nat.le_trans hbase2 (hw7.step).size
    replace hglg2 := Nat.lt_of_lt_of_le hglg2 (hw7.step).size
    replace hr6 := hr6.keepG hw7.step (show ¬ g2 = p by omega)
    have ho4 : Own w14 p #[.int .i64 g.wait, .int .i64 g.began, .int .i64 g.lost, .slice (some ⟨g2, 0, none⟩) (g.bs.length + 48) (g.bs.length + 48), .bool g.sk] 58 := Own.cast hw7.own (by kernel_rfl)
    have hzhw7 := hw7.same
    refine VL_end (by kernel_rfl) ?_
    refine VQ_ret0 (.inl rfl) rfl ?_
    have e9 : putL (putL (List.replicate (g.bs.length + 48) 0) 0 g.bs) so2 ps = (gaddF g t ps).bs := putL_two rfl hp (by omega)
    rw [e9] at hr6
    exact ⟨⟨_, _, Own.cast ho4 (by simp only [gaddF, List.length_append, hp]; first | rw [if_pos (by rw [← List.length_eq_zero_iff]; omega)] | rw [if_neg (by rw [← List.length_eq_zero_iff]; omega)]), SlX.of_rw hr6 (fun k hk => hX k (by omega)), by simp only [gaddF, List.length_append, hp]; omega⟩, hS⟩

set_option maxRecDepth 100000 in
set_option maxHeartbeats 4000000 in
theorem parts_any (p : Nat) (g : Ga) (X : Nat → Prop) (w : World) (hG : GaOf w 58 p X g) (hl : g.bs.length ≤ 100000) :
    CV Try.prog 18 #[.pointer (some ⟨p, 0, none⟩)] w (fun x w1 => x = .int .i64 ((g.bs.length / 48 : Nat) : Int) ∧ Step No w w1) := by
  have hS : Step No w w := Step.refl _ _
  obtain ⟨A, c, ho, hv, hAc⟩ := hG
  refine CV_enter Try.f18 _ 11 [(0, .pointer (some ⟨p, 0, none⟩))] Try.func18 rfl rfl (by kernel_rfl) rfl ?_
  refine VC_seq ?_
  refine VC_region ?_
  refine VL_pure 1 [0] [(0, .pointer (some ⟨p, 0, none⟩))] (by kernel_rfl) rfl ?_
  refine VL_end (by kernel_rfl) ?_
  refine VQ_next ?_
  refine VC_seq ?_
  refine VC_seq ?_
  refine VC_region ?_
  refine VL_pure 2 [0, 4] [(0, .pointer (some ⟨p, 0, none⟩)), (4, .bool false)] (by kernel_rfl) rfl ?_
  refine VL_end (by kernel_rfl) ?_
  refine VQ_next ?_
  refine VC_false (by kernel_rfl) ?_
  refine VC_skip ?_
  refine VQ_next ?_
  refine VC_seq ?_
  refine VC_region ?_
  refine VL_pure 3 [7] [(7, .pointer (some ⟨p, 3, none⟩))] (by kernel_rfl) rfl ?_
  refine VL_load (d := 8) (t := 32) (a := ⟨p, 3, none⟩) (v := .slice A g.bs.length c) (by kernel_rfl) (by kernel_rfl) (Loads.own1 ho (by kernel_rfl) (by rfl)) ?_
  refine VL_pure 6 [10] [(10, .int .i64 (IntKind.wrap .i64 (((g.bs.length : Nat) : Int).tdiv 48)))] (by kernel_rfl) rfl ?_
  have he1 : IntKind.wrap .i64 (((g.bs.length : Nat) : Int).tdiv 48) = ((g.bs.length / 48 : Nat) : Int) := (by rw [show ((g.bs.length : Nat) : Int).tdiv 48 = ((g.bs.length / 48 : Nat) : Int) from tdiv_nat g.bs.length 48, wrap_i64 _ (by omega) (by omega)])
  refine VL_eq [(10, .int .i64 ((g.bs.length / 48 : Nat) : Int))] (by rw [he1]) ?_
  refine VL_pure 7 [2] [(2, .int .i64 ((g.bs.length / 48 : Nat) : Int))] (by kernel_rfl) rfl ?_
  refine VL_end (by kernel_rfl) ?_
  refine VQ_next ?_
  refine VC_ret ?_
  refine VQ_ret1 (.int .i64 ((g.bs.length / 48 : Nat) : Int)) (.inr rfl) rfl rfl ?_
  exact ⟨rfl, hS⟩

set_option maxRecDepth 100000 in
set_option maxHeartbeats 4000000 in
theorem lost_any (p : Nat) (g : Ga) (X : Nat → Prop) (w : World) (hG : GaOf w 58 p X g) :
    CV Try.prog 19 #[.pointer (some ⟨p, 0, none⟩)] w (fun x w1 => x = .int .i64 g.lost ∧ Step No w w1) := by
  have hS : Step No w w := Step.refl _ _
  obtain ⟨A, c, ho, hv, hAc⟩ := hG
  refine CV_enter Try.f19 _ 9 [(0, .pointer (some ⟨p, 0, none⟩))] Try.func19 rfl rfl (by kernel_rfl) rfl ?_
  refine VC_seq ?_
  refine VC_region ?_
  refine VL_pure 1 [0] [(0, .pointer (some ⟨p, 0, none⟩))] (by kernel_rfl) rfl ?_
  refine VL_end (by kernel_rfl) ?_
  refine VQ_next ?_
  refine VC_seq ?_
  refine VC_seq ?_
  refine VC_region ?_
  refine VL_pure 2 [0, 4] [(0, .pointer (some ⟨p, 0, none⟩)), (4, .bool false)] (by kernel_rfl) rfl ?_
  refine VL_end (by kernel_rfl) ?_
  refine VQ_next ?_
  refine VC_false (by kernel_rfl) ?_
  refine VC_skip ?_
  refine VQ_next ?_
  refine VC_seq ?_
  refine VC_region ?_
  refine VL_pure 3 [7] [(7, .pointer (some ⟨p, 2, none⟩))] (by kernel_rfl) rfl ?_
  refine VL_load (d := 8) (t := 3) (a := ⟨p, 2, none⟩) (v := .int .i64 g.lost) (by kernel_rfl) (by kernel_rfl) (Loads.own1 ho (by kernel_rfl) (by rfl)) ?_
  refine VL_pure 5 [2] [(2, .int .i64 g.lost)] (by kernel_rfl) rfl ?_
  refine VL_end (by kernel_rfl) ?_
  refine VQ_next ?_
  refine VC_ret ?_
  refine VQ_ret1 (.int .i64 g.lost) (.inr rfl) rfl rfl ?_
  exact ⟨rfl, hS⟩

theorem many_1000 (w : World) : CV Try.prog 22 #[.int .i64 1000] w (fun x w1 => x = .int .i64 21 ∧ Step No w w1) := by
  refine CV.mono (many_nat 1000 w (by decide)) ?_
  rintro x w1 ⟨rfl, h⟩
  exact ⟨by rw [show manyN 1000 = 21 from rfl]; rfl, h⟩
set_option maxRecDepth 100000 in
set_option maxHeartbeats 4000000 in
theorem take_any (p : Nat) (g : Ga) (X : Nat → Prop) (w : World) (hX : ∀ k, w.heap.size ≤ k → X k) (hG : GaOf w 58 p X g) (k : Nat) (hI : GaI g k) (hk : k ≤ 900000) (t : Int) (h0 : 0 ≤ t) (h1 : t ≤ 1152921504606846976) (ps : List Int) (hp : ps.length = 48) (hb : Bytes ps) (b : Bool) :
    CV Try.prog 15 #[.pointer (some ⟨p, 0, none⟩), .int .i64 t, .agg (iA .u8 ps), .bool b] w (fun x w1 => ∃ A' c', x = .tuple #[.slice A' (takeT g t ps b).length c', .int .u8 (takeM g t ps b), .int .i64 (takeE g t ps b)] ∧ Rw w1 w.heap.size 5 A' (takeT g t ps b).length c' (iL .u8 (takeT g t ps b)) ∧ GaOf w1 58 p X (takeF g t ps b) ∧ Step (Just p) w w1) := by
  have hS : Step (Just p) w w := Step.refl _ _
  obtain ⟨A, c, ho, hv, hAc⟩ := hG
  obtain ⟨hBy, hl3, hl4, hl5⟩ := (hI.tick t).add (t := t) hp hb
  refine CV_enter Try.f15 _ 68 [(0, .pointer (some ⟨p, 0, none⟩)), (1, .int .i64 t), (2, .agg (iA .u8 ps)), (3, .bool b)] Try.func15 rfl rfl (by kernel_rfl) rfl ?_
  refine VC_seq ?_
  refine VC_region ?_
  have hzs1 := hS.size
  have hzl1 := ho.lt
  have hzs2 := hS.size
  have hzl2 := ho.lt
  refine VL_box (d := 6) (t := 28) (c := iA .u8 ps) (by kernel_rfl) (by kernel_rfl) ?_
  intro b1 w1 hn1
  replace hS := Step.trans hS (Step.weak (hn1.step No))
  replace ho := ho.no (hn1.step No)
  replace hv := hv.no (hn1.step No)
  have ho1 := hn1.own
  have hzhn1 := hn1.size
  have hqhn1 := hn1.eqb
  refine VL_pure 4 [0, 1, 3, 6] [(0, .pointer (some ⟨p, 0, none⟩)), (1, .int .i64 t), (3, .bool b), (6, .pointer (some ⟨b1, 0, none⟩))] (by kernel_rfl) rfl ?_
  refine VL_end (by kernel_rfl) ?_
  refine VQ_next ?_
  refine VC_seq ?_
  refine VC_seq ?_
  refine VC_region ?_
  refine VL_pure 2 [0, 1, 3, 6, 15] [(0, .pointer (some ⟨p, 0, none⟩)), (1, .int .i64 t), (3, .bool b), (6, .pointer (some ⟨b1, 0, none⟩)), (15, .bool false)] (by kernel_rfl) rfl ?_
  refine VL_end (by kernel_rfl) ?_
  refine VQ_next ?_
  refine VC_false (by kernel_rfl) ?_
  refine VC_skip ?_
  refine VQ_next ?_
  refine VC_seq ?_
  refine VC_region ?_
  refine VL_pure 2 [0, 1, 3, 6, 16, 17] [(0, .pointer (some ⟨p, 0, none⟩)), (1, .int .i64 t), (3, .bool b), (6, .pointer (some ⟨b1, 0, none⟩)), (16, .pointer (some ⟨p, 0, none⟩)), (17, .int .i64 t)] (by kernel_rfl) rfl ?_
  have hzs3 := hS.size
  have hzl3 := ho.lt
  have hzl4 := ho1.lt
  refine VL_call (d := 18) (f := 13) (by kernel_rfl) (by kernel_rfl) (by kernel_rfl) Try.call13 (tick_any p g X _ (fun k hk => hX k (by omega)) ⟨_, _, ho, hv, by first | assumption | exact Nat.zero_le _⟩ _ hI (by omega) t h0 h1) ?_
  rintro _ w2 ⟨rfl, ⟨A1, c1, ho2, hv1, hAcA1⟩, hc1⟩
  replace hS := Step.trans hS (Step.mono hc1 (by intro i hi; first | exact hi | (have hi9 : i = p := hi; (first | show _ ∨ _ | show _ = _); omega)))
  replace ho1 := ho1.step hc1 (show ¬ b1 = p by omega)
  refine VL_end (by kernel_rfl) ?_
  refine VQ_next ?_
  refine VC_seq ?_
  refine VC_seq ?_
  refine VC_region ?_
  refine VL_pure 3 [0, 1, 3, 6, 21] [(0, .pointer (some ⟨p, 0, none⟩)), (1, .int .i64 t), (3, .bool b), (6, .pointer (some ⟨b1, 0, none⟩)), (21, .pointer (some ⟨p, 4, none⟩))] (by kernel_rfl) rfl ?_
  refine VL_load (d := 22) (t := 4) (a := ⟨p, 4, none⟩) (v := .bool ((tickF g t).sk)) (by kernel_rfl) (by kernel_rfl) (Loads.own1 ho2 (by kernel_rfl) (by rfl)) ?_
  refine VL_end (by kernel_rfl) ?_
  refine VQ_next ?_
  refine VC_cond ((tickF g t).sk) (by kernel_rfl) (fun h1 => ?_) (fun h1 => ?_)
  · try simp only [Bool.and_eq_true, Bool.or_eq_true, decide_eq_true_eq, Bool.not_eq_true', decide_eq_false_iff_not, Bool.and_eq_false_iff, Bool.or_eq_false_iff, beq_iff_eq, bne_iff_ne, beq_eq_false_iff_ne, bne_eq_false_iff_eq, Bool.not_eq_eq_eq_not, Bool.not_true, Bool.not_false] at h1
    refine VC_seq ?_
    refine VC_region ?_
    refine VL_pure 5 [25, 27] [(25, .bool (!b)), (27, .pointer (some ⟨p, 4, none⟩))] (by kernel_rfl) rfl ?_
    refine VL_store (b := p) (o := 4) (vs := [.bool (!b)]) (by kernel_rfl) (by kernel_rfl) ho2 (Nat.le_of_ble_eq_true (by kernel_rfl)) ?_
    intro w3 hw1
    replace hS := Step.trans hS (Step.mono hw1.step (by intro i hi; first | exact hi | (have hi9 : i = p := hi; (first | show _ ∨ _ | show _ = _); omega)))
    replace ho1 := ho1.step hw1.step (show ¬ b1 = p by omega)
    replace hv1 := hv1.own ho2 (by decide) hw1.step
    have ho3 : Own w3 p #[.int .i64 ((tickF g t).wait), .int .i64 ((tickF g t).began), .int .i64 ((tickF g t).lost), .slice A1 ((tickF g t).bs.length) c1, .bool (!b)] 58 := Own.cast hw1.own (by kernel_rfl)
    have hzhw1 := hw1.same
    refine VL_end (by kernel_rfl) ?_
    refine VQ_next ?_
    refine VC_seq ?_
    refine VC_region ?_
    refine VL_pure 3 [8, 9, 10] [(8, .slice none 0 0), (9, .int .u8 0), (10, .int .i64 2)] (by kernel_rfl) rfl ?_
    refine VL_end (by kernel_rfl) ?_
    refine VQ_next ?_
    refine VC_ret ?_
    refine VQ_then_ret ?_
    refine VQ_ret3 (.slice none 0 0) (.int .u8 0) (.int .i64 2) (.inr rfl) rfl rfl rfl rfl ?_
    obtain ⟨e0, e1, e2, e3⟩ : takeF g t ps b = _ ∧ takeT g t ps b = [] ∧ takeM g t ps b = 0 ∧ takeE g t ps b = 2 := by first | exact take_skip (by assumption) | (obtain rfl : b = false := (by assumption); exact take_more (by assumption) (by omega))
    rw [e0, e1, e2, e3]
    exact ⟨none, 0, rfl, Rw.nil _ _ _, ⟨_, _, ho3, hv1, by first | assumption | exact Nat.zero_le _⟩, hS⟩
  · try simp only [Bool.and_eq_true, Bool.or_eq_true, decide_eq_true_eq, Bool.not_eq_true', decide_eq_false_iff_not, Bool.and_eq_false_iff, Bool.or_eq_false_iff, beq_iff_eq, bne_iff_ne, beq_eq_false_iff_ne, bne_eq_false_iff_eq, Bool.not_eq_eq_eq_not, Bool.not_true, Bool.not_false] at h1
    refine VC_skip ?_
    refine VQ_next ?_
    refine VC_seq ?_
    refine VC_region ?_
    refine VL_pure 2 [0, 3, 6, 28, 29] [(0, .pointer (some ⟨p, 0, none⟩)), (3, .bool b), (6, .pointer (some ⟨b1, 0, none⟩)), (28, .pointer (some ⟨p, 0, none⟩)), (29, .int .i64 t)] (by kernel_rfl) rfl ?_
    refine VL_load (d := 30) (t := 28) (a := ⟨b1, 0, none⟩) (v := .agg (iA .u8 ps)) (by kernel_rfl) (by kernel_rfl) (Loads.arr (N := 48) ho1 (by kernel_rfl) (by (try simp only [List.length_set, List.length_append, List.length_map, List.length_replicate, List.length_cons, List.length_nil, List.length_take, List.length_drop, List.length_range]) <;> omega)) ?_
    have hzs4 := hS.size
    have hzl5 := ho1.lt
    have hzl6 := ho2.lt
    refine VL_call (d := 31) (f := 24) (by kernel_rfl) (by kernel_rfl) (by kernel_rfl) Try.call24 (gadd_any p (tickF g t) X _ (fun k hk => hX k (by omega)) ⟨_, _, ho2, hv1, by first | assumption | exact Nat.zero_le _⟩ _ (hI.tick t) (by omega) t ps hp) ?_
    rintro _ w4 ⟨⟨A2, c2, ho4, hv2, hAcA2⟩, hc2⟩
    replace hS := Step.trans hS (Step.mono hc2 (by intro i hi; first | exact hi | (have hi9 : i = p := hi; (first | show _ ∨ _ | show _ = _); omega)))
    replace ho1 := ho1.step hc2 (show ¬ b1 = p by omega)
    refine VL_end (by kernel_rfl) ?_
    refine VQ_next ?_
    refine VC_seq ?_
    refine VC_block ?_
    refine VC_seq ?_
    refine VC_region ?_
    refine VL_pure 2 [0, 37] [(0, .pointer (some ⟨p, 0, none⟩)), (37, .bool b)] (by kernel_rfl) rfl ?_
    refine VL_end (by kernel_rfl) ?_
    refine VQ_next ?_
    refine VC_cond b (by kernel_rfl) (fun h2 => ?_) (fun h2 => ?_)
    · try simp only [Bool.and_eq_true, Bool.or_eq_true, decide_eq_true_eq, Bool.not_eq_true', decide_eq_false_iff_not, Bool.and_eq_false_iff, Bool.or_eq_false_iff, beq_iff_eq, bne_iff_ne, beq_eq_false_iff_ne, bne_eq_false_iff_eq, Bool.not_eq_eq_eq_not, Bool.not_true, Bool.not_false] at h2
      refine VC_skip ?_
      refine VQ_block_normal ?_
      refine VQ_next ?_
      refine VC_seq ?_
      refine VC_region ?_
      refine VL_pure 3 [0, 47] [(0, .pointer (some ⟨p, 0, none⟩)), (47, .pointer (some ⟨p, 3, none⟩))] (by kernel_rfl) rfl ?_
      refine VL_load (d := 48) (t := 32) (a := ⟨p, 3, none⟩) (v := .slice A2 ((gaddF (tickF g t) t ps).bs.length) c2) (by kernel_rfl) (by kernel_rfl) (Loads.own1 ho4 (by kernel_rfl) (by rfl)) ?_
      have hzs5 := hS.size
      have hzl7 := ho1.lt
      have hzl8 := ho4.lt
      refine VL_call (d := 49) (f := 25) (by kernel_rfl) (by kernel_rfl) (by kernel_rfl) Try.call25 (unpack_any A2 ((gaddF (tickF g t) t ps).bs.length) c2 _ ((gaddF (tickF g t) t ps).bs) _ rfl (SlX.sl hv2) hBy (by omega) (by omega) (by omega)) ?_
      rintro _ w5 ⟨A3, c3, rfl, hr1, hc3⟩
      replace hS := Step.trans hS (Step.weak hc3)
      replace ho1 := ho1.no hc3
      replace ho4 := ho4.no hc3
      replace hv2 := hv2.no hc3
      obtain ⟨base1, hbase1E⟩ : ∃ x, x = w4.heap.size := ⟨_, rfl⟩
      rw [← hbase1E] at hr1
      have hbase1 : base1 ≤ w5.heap.size := by rw [hbase1E]; exact hc3.size
      refine VL_pure 12 [0, 11, 12, 13] [(0, .pointer (some ⟨p, 0, none⟩)), (11, .slice A3 ((unT ((gaddF (tickF g t) t ps).bs)).length) c3), (12, .int .u8 (unM ((gaddF (tickF g t) t ps).bs))), (13, .int .i64 (unE ((gaddF (tickF g t) t ps).bs)))] (by kernel_rfl) rfl ?_
      refine VL_end (by kernel_rfl) ?_
      refine VQ_next ?_
      refine VC_seq ?_
      refine VC_region ?_
      refine VL_pure 3 [0, 11, 12, 13, 55] [(0, .pointer (some ⟨p, 0, none⟩)), (11, .slice A3 ((unT ((gaddF (tickF g t) t ps).bs)).length) c3), (12, .int .u8 (unM ((gaddF (tickF g t) t ps).bs))), (13, .int .i64 (unE ((gaddF (tickF g t) t ps).bs))), (55, .pointer (some ⟨p, 3, none⟩))] (by kernel_rfl) rfl ?_
      refine VL_store (b := p) (o := 3) (vs := [.slice none 0 0]) (by kernel_rfl) (by kernel_rfl) ho4 (Nat.le_of_ble_eq_true (by kernel_rfl)) ?_
      intro w6 hw2
      replace hS := Step.trans hS (Step.mono hw2.step (by intro i hi; first | exact hi | (have hi9 : i = p := hi; (first | show _ ∨ _ | show _ = _); omega)))
      replace ho1 := ho1.step hw2.step (show ¬ b1 = p by omega)
      replace hv2 := hv2.own ho4 (by decide) hw2.step
      replace hbase1 := Nat.le_trans hbase1 (hw2.step).size
      replace hr1 := hr1.step hw2.step (fun k hk (hF : k = p) => by omega)
      have ho5 : Own w6 p #[.int .i64 ((gaddF (tickF g t) t ps).wait), .int .i64 ((gaddF (tickF g t) t ps).began), .int .i64 ((gaddF (tickF g t) t ps).lost), .slice none 0 0, .bool ((gaddF (tickF g t) t ps).sk)] 58 := Own.cast hw2.own (by kernel_rfl)
      have hzhw2 := hw2.same
      refine VL_end (by kernel_rfl) ?_
      refine VQ_next ?_
      refine VC_seq ?_
      refine VC_seq ?_
      refine VC_region ?_
      refine VL_pure 2 [0, 11, 12, 13, 57] [(0, .pointer (some ⟨p, 0, none⟩)), (11, .slice A3 ((unT ((gaddF (tickF g t) t ps).bs)).length) c3), (12, .int .u8 (unM ((gaddF (tickF g t) t ps).bs))), (13, .int .i64 (unE ((gaddF (tickF g t) t ps).bs))), (57, .bool ((unE ((gaddF (tickF g t) t ps).bs)) != 0))] (by kernel_rfl) rfl ?_
      refine VL_end (by kernel_rfl) ?_
      refine VQ_next ?_
      refine VC_ne (unE ((gaddF (tickF g t) t ps).bs)) 0 (by kernel_rfl) (fun h3 => ?_) (fun h3 => ?_)
      · refine VC_region ?_
        refine VL_pure 3 [11, 12, 13, 58, 60] [(11, .slice A3 ((unT ((gaddF (tickF g t) t ps).bs)).length) c3), (12, .int .u8 (unM ((gaddF (tickF g t) t ps).bs))), (13, .int .i64 (unE ((gaddF (tickF g t) t ps).bs))), (58, .pointer (some ⟨p, 0, none⟩)), (60, .pointer (some ⟨p, 2, none⟩))] (by kernel_rfl) rfl ?_
        refine VL_load (d := 61) (t := 3) (a := ⟨p, 2, none⟩) (v := .int .i64 ((gaddF (tickF g t) t ps).lost)) (by kernel_rfl) (by kernel_rfl) (Loads.own1 ho5 (by kernel_rfl) (by rfl)) ?_
        refine VL_pure 5 [11, 12, 13, 58, 62] [(11, .slice A3 ((unT ((gaddF (tickF g t) t ps).bs)).length) c3), (12, .int .u8 (unM ((gaddF (tickF g t) t ps).bs))), (13, .int .i64 (unE ((gaddF (tickF g t) t ps).bs))), (58, .pointer (some ⟨p, 0, none⟩)), (62, .int .i64 (IntKind.wrap .i64 (((gaddF (tickF g t) t ps).lost) + 1)))] (by kernel_rfl) rfl ?_
        refine VL_eq [(11, .slice A3 ((unT ((gaddF (tickF g t) t ps).bs)).length) c3), (12, .int .u8 (unM ((gaddF (tickF g t) t ps).bs))), (13, .int .i64 (unE ((gaddF (tickF g t) t ps).bs))), (58, .pointer (some ⟨p, 0, none⟩)), (62, .int .i64 ((gaddF (tickF g t) t ps).lost + 1))] (by rw [wrap_i64 _ (by have h9 := (hI.tick t).l0; omega) (by have h9 := (hI.tick t).l1; omega)]) ?_
        refine VL_pure 7 [11, 12, 13, 62, 64] [(11, .slice A3 ((unT ((gaddF (tickF g t) t ps).bs)).length) c3), (12, .int .u8 (unM ((gaddF (tickF g t) t ps).bs))), (13, .int .i64 (unE ((gaddF (tickF g t) t ps).bs))), (62, .int .i64 ((gaddF (tickF g t) t ps).lost + 1)), (64, .pointer (some ⟨p, 2, none⟩))] (by kernel_rfl) rfl ?_
        refine VL_store (b := p) (o := 2) (vs := [.int .i64 ((gaddF (tickF g t) t ps).lost + 1)]) (by kernel_rfl) (by kernel_rfl) ho5 (Nat.le_of_ble_eq_true (by kernel_rfl)) ?_
        intro w7 hw3
        replace hS := Step.trans hS (Step.mono hw3.step (by intro i hi; first | exact hi | (have hi9 : i = p := hi; (first | show _ ∨ _ | show _ = _); omega)))
        replace ho1 := ho1.step hw3.step (show ¬ b1 = p by omega)
        replace hv2 := hv2.own ho5 (by decide) hw3.step
        replace hbase1 := Nat.le_trans hbase1 (hw3.step).size
        replace hr1 := hr1.step hw3.step (fun k hk (hF : k = p) => by omega)
        have ho6 : Own w7 p #[.int .i64 ((gaddF (tickF g t) t ps).wait), .int .i64 ((gaddF (tickF g t) t ps).began), .int .i64 ((gaddF (tickF g t) t ps).lost + 1), .slice none 0 0, .bool ((gaddF (tickF g t) t ps).sk)] 58 := Own.cast hw3.own (by kernel_rfl)
        have hzhw3 := hw3.same
        refine VL_end (by kernel_rfl) ?_
        refine VQ_next ?_
        refine VC_seq ?_
        refine VC_region ?_
        refine VL_pure 6 [8, 9, 10] [(8, .slice A3 ((unT ((gaddF (tickF g t) t ps).bs)).length) c3), (9, .int .u8 (unM ((gaddF (tickF g t) t ps).bs))), (10, .int .i64 (unE ((gaddF (tickF g t) t ps).bs)))] (by kernel_rfl) rfl ?_
        refine VL_end (by kernel_rfl) ?_
        refine VQ_next ?_
        refine VC_ret ?_
        refine VQ_ret3 (.slice A3 ((unT ((gaddF (tickF g t) t ps).bs)).length) c3) (.int .u8 (unM ((gaddF (tickF g t) t ps).bs))) (.int .i64 (unE ((gaddF (tickF g t) t ps).bs))) (.inr rfl) rfl rfl rfl rfl ?_
        obtain ⟨e0, e1, e2, e3⟩ : takeF g t ps b = _ ∧ takeT g t ps b = _ ∧ takeM g t ps b = _ ∧ takeE g t ps b = _ := by obtain rfl : b = true := (by assumption); exact take_last (by assumption)
        rw [e0, e1, e2, e3]
        refine ⟨_, _, rfl, Rw.low hr1 (by omega), ?_, hS⟩
        first | refine GaOf.cast ?_ (out_0 (by assumption)) | refine GaOf.cast ?_ (out_1 (by assumption))
        exact ⟨none, 0, ho6, SlX.nil, Nat.le_refl _⟩
      · refine VC_skip ?_
        refine VQ_next ?_
        refine VC_seq ?_
        refine VC_region ?_
        refine VL_pure 6 [8, 9, 10] [(8, .slice A3 ((unT ((gaddF (tickF g t) t ps).bs)).length) c3), (9, .int .u8 (unM ((gaddF (tickF g t) t ps).bs))), (10, .int .i64 (unE ((gaddF (tickF g t) t ps).bs)))] (by kernel_rfl) rfl ?_
        refine VL_end (by kernel_rfl) ?_
        refine VQ_next ?_
        refine VC_ret ?_
        refine VQ_ret3 (.slice A3 ((unT ((gaddF (tickF g t) t ps).bs)).length) c3) (.int .u8 (unM ((gaddF (tickF g t) t ps).bs))) (.int .i64 (unE ((gaddF (tickF g t) t ps).bs))) (.inr rfl) rfl rfl rfl rfl ?_
        obtain ⟨e0, e1, e2, e3⟩ : takeF g t ps b = _ ∧ takeT g t ps b = _ ∧ takeM g t ps b = _ ∧ takeE g t ps b = _ := by obtain rfl : b = true := (by assumption); exact take_last (by assumption)
        rw [e0, e1, e2, e3]
        refine ⟨_, _, rfl, Rw.low hr1 (by omega), ?_, hS⟩
        first | refine GaOf.cast ?_ (out_0 (by assumption)) | refine GaOf.cast ?_ (out_1 (by assumption))
        exact ⟨none, 0, ho5, SlX.nil, Nat.le_refl _⟩
    · try simp only [Bool.and_eq_true, Bool.or_eq_true, decide_eq_true_eq, Bool.not_eq_true', decide_eq_false_iff_not, Bool.and_eq_false_iff, Bool.or_eq_false_iff, beq_iff_eq, bne_iff_ne, beq_eq_false_iff_ne, bne_eq_false_iff_eq, Bool.not_eq_eq_eq_not, Bool.not_true, Bool.not_false] at h2
      refine VC_seq ?_
      refine VC_region ?_
      refine VL_pure 1 [0, 40] [(0, .pointer (some ⟨p, 0, none⟩)), (40, .pointer (some ⟨p, 0, none⟩))] (by kernel_rfl) rfl ?_
      have hzs6 := hS.size
      have hzl9 := ho1.lt
      have hzl10 := ho4.lt
      refine VL_call (d := 41) (f := 18) (by kernel_rfl) (by kernel_rfl) (by kernel_rfl) Try.call18 (parts_any p (gaddF (tickF g t) t ps) X _ ⟨_, _, ho4, hv2, by first | assumption | exact Nat.zero_le _⟩ (by omega)) ?_
      rintro _ w8 ⟨rfl, hc4⟩
      replace hS := Step.trans hS (Step.weak hc4)
      replace ho1 := ho1.no hc4
      replace ho4 := ho4.no hc4
      replace hv2 := hv2.no hc4
      have hzs7 := hS.size
      have hzl11 := ho1.lt
      have hzl12 := ho4.lt
      refine VL_call (d := 42) (f := 22) (args := #[.int .i64 1000]) (by kernel_rfl) (by kernel_rfl) (by kernel_rfl) Try.call22 (many_1000 _) ?_
      rintro _ w9 ⟨rfl, hc5⟩
      replace hS := Step.trans hS (Step.weak hc5)
      replace ho1 := ho1.no hc5
      replace ho4 := ho4.no hc5
      replace hv2 := hv2.no hc5
      refine VL_pure 5 [0, 39] [(0, .pointer (some ⟨p, 0, none⟩)), (39, .bool (decide ((((gaddF (tickF g t) t ps).bs.length / 48 : Nat) : Int) < 21)))] (by kernel_rfl) rfl ?_
      refine VL_end (by kernel_rfl) ?_
      refine VQ_next ?_
      refine VC_dec ((((gaddF (tickF g t) t ps).bs.length / 48 : Nat) : Int) < 21) (by kernel_rfl) (fun h4 => ?_) (fun h4 => ?_)
      · refine VC_seq ?_
        refine VC_region ?_
        refine VL_pure 3 [8, 9, 10] [(8, .slice none 0 0), (9, .int .u8 0), (10, .int .i64 2)] (by kernel_rfl) rfl ?_
        refine VL_end (by kernel_rfl) ?_
        refine VQ_next ?_
        refine VC_ret ?_
        refine VQ_block_ret ?_
        refine VQ_then_ret ?_
        refine VQ_ret3 (.slice none 0 0) (.int .u8 0) (.int .i64 2) (.inr rfl) rfl rfl rfl rfl ?_
        obtain ⟨e0, e1, e2, e3⟩ : takeF g t ps b = _ ∧ takeT g t ps b = [] ∧ takeM g t ps b = 0 ∧ takeE g t ps b = 2 := by first | exact take_skip (by assumption) | (obtain rfl : b = false := (by assumption); exact take_more (by assumption) (by omega))
        rw [e0, e1, e2, e3]
        exact ⟨none, 0, rfl, Rw.nil _ _ _, ⟨_, _, ho4, hv2, by first | assumption | exact Nat.zero_le _⟩, hS⟩
      · refine VC_seq ?_
        refine VC_region ?_
        refine VL_pure 1 [0, 32] [(0, .pointer (some ⟨p, 0, none⟩)), (32, .pointer (some ⟨p, 0, none⟩))] (by kernel_rfl) rfl ?_
        have hzs8 := hS.size
        have hzl13 := ho1.lt
        have hzl14 := ho4.lt
        refine VL_call (d := 33) (f := 23) (by kernel_rfl) (by kernel_rfl) (by kernel_rfl) Try.call23 (lose_any p (gaddF (tickF g t) t ps) X _ (fun k hk => hX k (by omega)) ⟨_, _, ho4, hv2, by first | assumption | exact Nat.zero_le _⟩ (by have h9 := (hI.tick t).l0; omega) (by have h9 := (hI.tick t).l1; omega)) ?_
        rintro _ w10 ⟨⟨A4, c4, ho7, hv3, hAcA4⟩, hc6⟩
        replace hS := Step.trans hS (Step.mono hc6 (by intro i hi; first | exact hi | (have hi9 : i = p := hi; (first | show _ ∨ _ | show _ = _); omega)))
        replace ho1 := ho1.step hc6 (show ¬ b1 = p by omega)
        refine VL_end (by kernel_rfl) ?_
        refine VQ_next ?_
        refine VC_seq ?_
        refine VC_region ?_
        refine VL_pure 3 [36] [(36, .pointer (some ⟨p, 4, none⟩))] (by kernel_rfl) rfl ?_
        refine VL_store (b := p) (o := 4) (vs := [.bool true]) (by kernel_rfl) (by kernel_rfl) ho7 (Nat.le_of_ble_eq_true (by kernel_rfl)) ?_
        intro w11 hw4
        replace hS := Step.trans hS (Step.mono hw4.step (by intro i hi; first | exact hi | (have hi9 : i = p := hi; (first | show _ ∨ _ | show _ = _); omega)))
        replace ho1 := ho1.step hw4.step (show ¬ b1 = p by omega)
        replace hv3 := hv3.own ho7 (by decide) hw4.step
        have ho8 : Own w11 p #[.int .i64 ((loseF (gaddF (tickF g t) t ps)).wait), .int .i64 ((loseF (gaddF (tickF g t) t ps)).began), .int .i64 ((loseF (gaddF (tickF g t) t ps)).lost), .slice A4 ((loseF (gaddF (tickF g t) t ps)).bs.length) c4, .bool true] 58 := Own.cast hw4.own (by kernel_rfl)
        have hzhw4 := hw4.same
        refine VL_end (by kernel_rfl) ?_
        refine VQ_next ?_
        refine VC_seq ?_
        refine VC_region ?_
        refine VL_pure 3 [8, 9, 10] [(8, .slice none 0 0), (9, .int .u8 0), (10, .int .i64 6)] (by kernel_rfl) rfl ?_
        refine VL_end (by kernel_rfl) ?_
        refine VQ_next ?_
        refine VC_ret ?_
        refine VQ_block_ret ?_
        refine VQ_then_ret ?_
        refine VQ_ret3 (.slice none 0 0) (.int .u8 0) (.int .i64 6) (.inr rfl) rfl rfl rfl rfl ?_
        obtain ⟨e0, e1, e2, e3⟩ : takeF g t ps b = _ ∧ takeT g t ps b = [] ∧ takeM g t ps b = 0 ∧ takeE g t ps b = 6 := by obtain rfl : b = false := (by assumption); exact take_long (by assumption) (by omega)
        rw [e0, e1, e2, e3]
        exact ⟨none, 0, rfl, Rw.nil _ _ _, ⟨_, _, ho8, hv3, by first | assumption | exact Nat.zero_le _⟩, hS⟩

end Go.Proofs.Ytgiefcolkohgkaa
