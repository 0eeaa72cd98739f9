/- Layer 11: the document's gather. -/
import Derived.Test.YtgiefcolkohgkaaProg
import Derived.Test.YtgiefcolkohgkaaGa1
import Derived.Test.YtgiefcolkohgkaaFr6
set_option linter.unusedVariables false
set_option linter.unusedSimpArgs false
namespace Go.Proofs.Ytgiefcolkohgkaa
open Go.Vc Go.RowKit

theorem runpack2_any (A : Option Addr) (n c Bd : Nat) (bs : List Int) (w : World) (hn : bs.length = n) (hA : Sl w Bd A (iL .u8 bs)) (hb : Bytes bs) (hBd : Bd ≤ w.heap.size) (hlen : n ≤ 10000) (hc : n ≤ c) :
    CV Try.prog 26 #[.slice A n c] w (fun x w1 => ∃ A' c', x = .tuple #[.slice A' (unT bs).length c', .int .u8 (unM bs), .int .i64 (unE bs)] ∧ Rw w1 w.heap.size 5 A' (unT bs).length c' (iL .u8 (unT bs)) ∧ Step No w w1) := by
  obtain ⟨e0, e1, e2⟩ := un_eq hb
  rw [e0, e1, e2]
  exact runpack_any A n c Bd bs w hn hA hb hBd hlen hc
set_option maxRecDepth 100000 in
set_option maxHeartbeats 4000000 in
theorem rgnew_any (m : Int) (w : World) :
    CV Try.prog 11 #[.int .i64 m] w (fun x w1 => ∃ p, x = .pointer (some ⟨p, 0, none⟩) ∧ ¬ p < w.heap.size ∧ GaOf w1 41 p (fun _ => True) ⟨imax 1 (imin m 1152921504606846976), 0, 0, [], false⟩ ∧ Step No w w1) := by
  have hS : Step No w w := Step.refl _ _
  refine CV_enter Try.f11 _ 8 [(0, .int .i64 m)] Try.func11 rfl rfl (by kernel_rfl) rfl ?_
  refine VC_seq ?_
  refine VC_region ?_
  refine VL_pure 1 [0] [(0, .int .i64 m)] (by kernel_rfl) rfl ?_
  refine VL_end (by kernel_rfl) ?_
  refine VQ_next ?_
  refine VC_seq ?_
  refine VC_region ?_
  refine VL_pure 4 [6] [(6, .agg #[.int .i64 (imax 1 (imin m 1152921504606846976)), .int .i64 0, .int .i64 0, .slice none 0 0, .bool false])] (by kernel_rfl) rfl ?_
  have hzs1 := hS.size
  refine VL_box (d := 7) (t := 41) (c := #[.int .i64 (imax 1 (imin m 1152921504606846976)), .int .i64 0, .int .i64 0, .slice none 0 0, .bool false]) (by kernel_rfl) (by kernel_rfl) ?_
  intro b1 w1 hn1
  replace hS := Step.trans hS (hn1.step No)
  have ho1 := hn1.own
  have hzhn1 := hn1.size
  have hqhn1 := hn1.eqb
  refine VL_pure 6 [2] [(2, .pointer (some ⟨b1, 0, none⟩))] (by kernel_rfl) rfl ?_
  refine VL_end (by kernel_rfl) ?_
  refine VQ_next ?_
  refine VC_ret ?_
  refine VQ_ret1 (.pointer (some ⟨b1, 0, none⟩)) (.inr rfl) rfl rfl ?_
  exact ⟨_, rfl, by omega, ⟨none, 0, ho1, SlX.nil, Nat.le_refl _⟩, hS⟩

set_option maxRecDepth 100000 in
set_option maxHeartbeats 4000000 in
theorem rtick_any (p : Nat) (g : Ga) (X : Nat → Prop) (w : World) (hX : ∀ k, w.heap.size ≤ k → X k) (hG : GaOf w 41 p X g) (k : Nat) (hI : GaI g k) (hk : k ≤ 1000000) (t : Int) (h0 : 0 ≤ t) (h1 : t ≤ 1152921504606846976) :
    CV Try.prog 14 #[.pointer (some ⟨p, 0, none⟩), .int .i64 t] w (fun x w1 => x = .bool (tickB g t) ∧ GaOf w1 41 p X (tickF g t) ∧ Step (Just p) w w1) := by
  have hS : Step (Just p) w w := Step.refl _ _
  obtain ⟨A, c, ho, hv, hAc⟩ := hG
  have hb0 := hI.b0
  have hb1 := hI.b1
  have hl0 := hI.l0
  have hl1 := hI.l1
  refine CV_enter Try.f14 _ 35 [(0, .pointer (some ⟨p, 0, none⟩)), (1, .int .i64 t)] Try.func14 rfl rfl (by kernel_rfl) rfl ?_
  refine VC_seq ?_
  refine VC_region ?_
  refine VL_pure 1 [0, 1] [(0, .pointer (some ⟨p, 0, none⟩)), (1, .int .i64 t)] (by kernel_rfl) rfl ?_
  refine VL_end (by kernel_rfl) ?_
  refine VQ_next ?_
  refine VC_seq ?_
  refine VC_seq ?_
  have hs1 := drew_step w
  have hs1z : w.heap.size = w.drew.heap.size := rfl
  refine VC_text [[], [0], [0, 1], [0, 1, 2], [0, 1, 2, 3], [0, 1, 2, 3, 4], [0, 1, 2, 3, 4, 5], [0, 1, 2, 3, 4, 5, 6], [0, 1, 2, 3, 4, 5, 6], [0, 1, 2, 3, 4, 5, 6, 8], [0, 1, 2, 3, 4, 5, 6, 8, 9], [0, 1, 2, 3, 4, 5, 6, 8, 9, 10], [0, 1, 2, 3, 4, 5, 6, 7, 8, 9, 10, 11], [0, 1, 2, 3, 4, 5, 6], [0, 1, 2, 3, 4, 5, 6, 13], [0, 1, 2, 3, 4, 5, 6, 13, 14], [0, 1, 2, 3, 4, 5, 6, 13, 14, 15], [0, 1, 2, 3, 4, 5, 6, 7, 8, 9, 10, 11, 12, 13, 14, 15, 16], [0, 1, 2, 3, 4, 5, 6, 7, 8, 9, 10, 11, 12, 13, 14, 15, 16, 17]] 17 (fun x y => Step (fun k => w.heap.size ≤ k) x y) [] [0, 1, 2, 3, 4, 5, 6, 7, 8, 9, 10, 11, 12, 13, 14, 15, 16] (by kernel_rfl) (by kernel_rfl) (by kernel_rfl) (by kernel_rfl) (fun x => Step.refl _ x) (fun h k => Step.trans h k) Step.weak ?_
  have hzs1 := hS.size
  have hzl1 := ho.lt
  generalize w.drew = w1 at hs1 hs1z ⊢
  replace hS := Step.trans hS (Step.weak hs1)
  replace ho := ho.no hs1
  replace hv := hv.no hs1
  refine VT_pures 3 (kn' := [(2, .pointer (some ⟨p, 3, none⟩)), (1, .pointer (some ⟨p, 0, none⟩)), (0, .pointer (some ⟨p, 0, none⟩))]) (by kernel_rfl) ?_
  refine VT_load (d := 8) (t := 32) (a := ⟨p, 3, none⟩) (v := .slice A g.bs.length c) (by kernel_rfl) (by kernel_rfl) ?_ ?_
  · intro w2 hr1
    replace hS := Step.transNew hS hr1 (fun i hi hG => by (try simp only at hG); (first | show _ ∨ _ | show _ = _); omega)
    replace ho := ho.step hr1 (by (try simp only); omega)
    exact (Loads.own1 ho (by kernel_rfl) (by rfl))
  refine VT_pures 3 (kn' := [(6, .bool (((g.bs.length : Nat) : Int) == 0)), (5, .bool (((g.bs.length : Nat) : Int) == 0)), (4, .int .i64 ((g.bs.length : Nat) : Int)), (3, .slice A g.bs.length c), (2, .pointer (some ⟨p, 3, none⟩)), (1, .pointer (some ⟨p, 0, none⟩)), (0, .pointer (some ⟨p, 0, none⟩))]) (by kernel_rfl) ?_
  rcases Bool.eq_false_or_eq_true (((g.bs.length : Nat) : Int) == 0) with hg1 | hg1
  · refine VT_eq [(6, .bool true), (5, .bool true), (4, .int .i64 ((g.bs.length : Nat) : Int)), (3, .slice A g.bs.length c), (2, .pointer (some ⟨p, 3, none⟩)), (1, .pointer (some ⟨p, 0, none⟩)), (0, .pointer (some ⟨p, 0, none⟩))] (by simp only [hg1, Bool.not_true, Bool.not_false]) ?_
    try simp only [bne_iff_ne, beq_iff_eq, decide_eq_true_eq, decide_eq_false_iff_not, bne_eq_false_iff_eq, beq_eq_false_iff_ne, ne_eq] at hg1
    refine VT_pures 10 (kn' := [(16, undef), (15, undef), (14, undef), (13, undef), (12, undef), (11, undef), (10, undef), (9, undef), (8, undef), (7, undef), (6, .bool true), (5, .bool true), (4, .int .i64 ((g.bs.length : Nat) : Int)), (3, .slice A g.bs.length c), (2, .pointer (some ⟨p, 3, none⟩)), (1, .pointer (some ⟨p, 0, none⟩)), (0, .pointer (some ⟨p, 0, none⟩))]) (by kernel_rfl) ?_
    refine VT_end ?_
    intro w3 hs2
    replace hS := Step.trans hS (Step.weak hs2)
    replace ho := ho.no hs2
    replace hv := hv.no hs2
    refine VL_keep [0, 11, 17, 21] [(0, .pointer (some ⟨p, 0, none⟩)), (11, .bool true), (17, undef), (21, undef)] (by kernel_rfl) ?_
    refine VL_pure 19 [0, 23] [(0, .pointer (some ⟨p, 0, none⟩)), (23, .bool true)] (by kernel_rfl) rfl ?_
    refine VL_end (by kernel_rfl) ?_
    refine VQ_next ?_
    refine VC_true (by kernel_rfl) ?_
    refine VC_seq ?_
    refine VC_region ?_
    refine VL_pure 1 [4] [(4, .bool false)] (by kernel_rfl) rfl ?_
    refine VL_end (by kernel_rfl) ?_
    refine VQ_next ?_
    refine VC_ret ?_
    refine VQ_then_ret ?_
    refine VQ_ret1 (.bool false) (.inr rfl) rfl rfl ?_
    try rw [wrap_i64 _ (by omega) (by omega)] at h1
    have e9 : tickB g t = false := by first | exact tick_0 (by omega) | exact tick_1 (by assumption) | exact tick_2 (by omega) (by assumption)
    exact ⟨by rw [e9], GaOf.cast (g := g) ⟨_, _, ho, hv, by first | assumption | exact Nat.zero_le _⟩ (tick_no e9).symm, hS⟩
  · refine VT_eq [(6, .bool false), (5, .bool false), (4, .int .i64 ((g.bs.length : Nat) : Int)), (3, .slice A g.bs.length c), (2, .pointer (some ⟨p, 3, none⟩)), (1, .pointer (some ⟨p, 0, none⟩)), (0, .pointer (some ⟨p, 0, none⟩))] (by simp only [hg1, Bool.not_true, Bool.not_false]) ?_
    try simp only [bne_iff_ne, beq_iff_eq, decide_eq_true_eq, decide_eq_false_iff_not, bne_eq_false_iff_eq, beq_eq_false_iff_ne, ne_eq] at hg1
    refine VT_pures 4 (kn' := [(10, .pointer (some ⟨p, 1, none⟩)), (9, .pointer (some ⟨p, 0, none⟩)), (8, .pointer (some ⟨p, 0, none⟩)), (7, .int .i64 t), (6, .bool false), (5, .bool false), (4, .int .i64 ((g.bs.length : Nat) : Int)), (3, .slice A g.bs.length c), (2, .pointer (some ⟨p, 3, none⟩)), (1, .pointer (some ⟨p, 0, none⟩)), (0, .pointer (some ⟨p, 0, none⟩))]) (by kernel_rfl) ?_
    refine VT_load (d := 16) (t := 3) (a := ⟨p, 1, none⟩) (v := .int .i64 g.began) (by kernel_rfl) (by kernel_rfl) ?_ ?_
    · intro w4 hr2
      replace hS := Step.transNew hS hr2 (fun i hi hG => by (try simp only at hG); (first | show _ ∨ _ | show _ = _); omega)
      replace ho := ho.step hr2 (by (try simp only); omega)
      exact (Loads.own1 ho (by kernel_rfl) (by rfl))
    refine VT_pures 4 (kn' := [(15, .pointer (some ⟨p, 0, none⟩)), (14, .pointer (some ⟨p, 0, none⟩)), (13, .pointer (some ⟨p, 0, none⟩)), (12, .int .i64 (IntKind.wrap .i64 (t - g.began))), (11, .int .i64 g.began), (10, .pointer (some ⟨p, 1, none⟩)), (9, .pointer (some ⟨p, 0, none⟩)), (8, .pointer (some ⟨p, 0, none⟩)), (7, .int .i64 t), (6, .bool false), (5, .bool false), (4, .int .i64 ((g.bs.length : Nat) : Int)), (3, .slice A g.bs.length c), (2, .pointer (some ⟨p, 3, none⟩)), (1, .pointer (some ⟨p, 0, none⟩)), (0, .pointer (some ⟨p, 0, none⟩))]) (by kernel_rfl) ?_
    refine VT_load (d := 21) (t := 3) (a := ⟨p, 0, none⟩) (v := .int .i64 g.wait) (by kernel_rfl) (by kernel_rfl) ?_ ?_
    · intro w5 hr3
      replace hS := Step.transNew hS hr3 (fun i hi hG => by (try simp only at hG); (first | show _ ∨ _ | show _ = _); omega)
      replace ho := ho.step hr3 (by (try simp only); omega)
      exact (Loads.own1 ho (by kernel_rfl) (by rfl))
    refine VT_end ?_
    intro w6 hs3
    replace hS := Step.trans hS (Step.weak hs3)
    replace ho := ho.no hs3
    replace hv := hv.no hs3
    refine VL_keep [0, 11, 17, 21] [(0, .pointer (some ⟨p, 0, none⟩)), (11, .bool false), (17, .int .i64 (IntKind.wrap .i64 (t - g.began))), (21, .int .i64 g.wait)] (by kernel_rfl) ?_
    refine VL_pure 19 [0, 23] [(0, .pointer (some ⟨p, 0, none⟩)), (23, .bool (decide ((IntKind.wrap .i64 (t - g.began)) < g.wait)))] (by kernel_rfl) rfl ?_
    refine VL_end (by kernel_rfl) ?_
    refine VQ_next ?_
    refine VC_dec ((IntKind.wrap .i64 (t - g.began)) < g.wait) (by kernel_rfl) (fun h1 => ?_) (fun h1 => ?_)
    · refine VC_seq ?_
      refine VC_region ?_
      refine VL_pure 1 [4] [(4, .bool false)] (by kernel_rfl) rfl ?_
      refine VL_end (by kernel_rfl) ?_
      refine VQ_next ?_
      refine VC_ret ?_
      refine VQ_then_ret ?_
      refine VQ_ret1 (.bool false) (.inr rfl) rfl rfl ?_
      try rw [wrap_i64 _ (by omega) (by omega)] at h1
      have e9 : tickB g t = false := by first | exact tick_0 (by omega) | exact tick_1 (by assumption) | exact tick_2 (by omega) (by assumption)
      exact ⟨by rw [e9], GaOf.cast (g := g) ⟨_, _, ho, hv, by first | assumption | exact Nat.zero_le _⟩ (tick_no e9).symm, hS⟩
    · refine VC_skip ?_
      refine VQ_next ?_
      refine VC_seq ?_
      refine VC_region ?_
      refine VL_pure 3 [0, 26] [(0, .pointer (some ⟨p, 0, none⟩)), (26, .pointer (some ⟨p, 3, none⟩))] (by kernel_rfl) rfl ?_
      refine VL_store (b := p) (o := 3) (vs := [.slice none 0 0]) (by kernel_rfl) (by kernel_rfl) ho (Nat.le_of_ble_eq_true (by kernel_rfl)) ?_
      intro w7 hw1
      replace hS := Step.trans hS (Step.mono hw1.step (by intro i hi; first | exact hi | (have hi9 : i = p := hi; (first | show _ ∨ _ | show _ = _); omega)))
      replace hv := hv.own ho (by decide) hw1.step
      have ho1 : Own w7 p #[.int .i64 g.wait, .int .i64 g.began, .int .i64 g.lost, .slice none 0 0, .bool g.sk] 41 := Own.cast hw1.own (by kernel_rfl)
      have hzhw1 := hw1.same
      refine VL_end (by kernel_rfl) ?_
      refine VQ_next ?_
      refine VC_seq ?_
      refine VC_region ?_
      refine VL_pure 4 [27, 30] [(27, .pointer (some ⟨p, 0, none⟩)), (30, .pointer (some ⟨p, 2, none⟩))] (by kernel_rfl) rfl ?_
      refine VL_load (d := 31) (t := 3) (a := ⟨p, 2, none⟩) (v := .int .i64 g.lost) (by kernel_rfl) (by kernel_rfl) (Loads.own1 ho1 (by kernel_rfl) (by rfl)) ?_
      refine VL_pure 6 [27, 32] [(27, .pointer (some ⟨p, 0, none⟩)), (32, .int .i64 (IntKind.wrap .i64 (g.lost + 1)))] (by kernel_rfl) rfl ?_
      refine VL_eq [(27, .pointer (some ⟨p, 0, none⟩)), (32, .int .i64 (g.lost + 1))] (by rw [wrap_i64 _ (by omega) (by omega)]) ?_
      refine VL_pure 8 [32, 34] [(32, .int .i64 (g.lost + 1)), (34, .pointer (some ⟨p, 2, none⟩))] (by kernel_rfl) rfl ?_
      refine VL_store (b := p) (o := 2) (vs := [.int .i64 (g.lost + 1)]) (by kernel_rfl) (by kernel_rfl) ho1 (Nat.le_of_ble_eq_true (by kernel_rfl)) ?_
      intro w8 hw2
      replace hS := Step.trans hS (Step.mono hw2.step (by intro i hi; first | exact hi | (have hi9 : i = p := hi; (first | show _ ∨ _ | show _ = _); omega)))
      replace hv := hv.own ho1 (by decide) hw2.step
      have ho2 : Own w8 p #[.int .i64 g.wait, .int .i64 g.began, .int .i64 (g.lost + 1), .slice none 0 0, .bool g.sk] 41 := Own.cast hw2.own (by kernel_rfl)
      have hzhw2 := hw2.same
      refine VL_end (by kernel_rfl) ?_
      refine VQ_next ?_
      refine VC_seq ?_
      refine VC_region ?_
      refine VL_pure 1 [4] [(4, .bool true)] (by kernel_rfl) rfl ?_
      refine VL_end (by kernel_rfl) ?_
      refine VQ_next ?_
      refine VC_ret ?_
      refine VQ_ret1 (.bool true) (.inr rfl) rfl rfl ?_
      try rw [wrap_i64 _ (by omega) (by omega)] at h1
      have e9 : tickB g t = true := by first | exact tick_0 (by omega) | exact tick_1 (by assumption) | exact tick_2 (by omega) (by assumption)
      exact ⟨by rw [e9], GaOf.cast (g := loseF g) ⟨none, 0, ho2, SlX.nil, Nat.le_refl _⟩ (tick_yes e9).symm, hS⟩

set_option maxRecDepth 100000 in
set_option maxHeartbeats 4000000 in
theorem rtake_any (p : Nat) (g : Ga) (X : Nat → Prop) (w : World) (hX : ∀ k, w.heap.size ≤ k → X k) (hG : GaOf w 41 p X g) (k : Nat) (hI : GaI g k) (hk : k ≤ 900000) (t : Int) (h0 : 0 ≤ t) (h1 : t ≤ 1152921504606846976) (ps : List Int) (hp : ps.length = 48) (hb : Bytes ps) (b : Bool) (P : Option Addr) (cP eP : Nat) (hP : SlX w eP (fun _ => True) P (iL .u8 ps)) (heP : eP ≠ 41) :
    CV Try.prog 16 #[.pointer (some ⟨p, 0, none⟩), .int .i64 t, .slice P 48 cP, .bool b] w (fun x w1 => ∃ A' c', x = .tuple #[.slice A' (takeT g t ps b).length c', .int .u8 (takeM g t ps b), .int .i64 (takeE g t ps b)] ∧ Rw w1 w.heap.size 5 A' (takeT g t ps b).length c' (iL .u8 (takeT g t ps b)) ∧ GaOf w1 41 p X (takeF g t ps b) ∧ Step (Just p) w w1) := by
  have hS : Step (Just p) w w := Step.refl _ _
  obtain ⟨A, c, ho, hv, hAc⟩ := hG
  obtain ⟨hBy, hl3, hl4, hl5⟩ := (hI.tick t).add (t := t) hp hb
  refine CV_enter Try.f16 _ 91 [(0, .pointer (some ⟨p, 0, none⟩)), (1, .int .i64 t), (2, .slice P 48 cP), (3, .bool b)] Try.func16 rfl rfl (by kernel_rfl) rfl ?_
  refine VC_seq ?_
  refine VC_region ?_
  refine VL_pure 3 [0, 1, 2, 3] [(0, .pointer (some ⟨p, 0, none⟩)), (1, .int .i64 t), (2, .slice P 48 cP), (3, .bool b)] (by kernel_rfl) rfl ?_
  refine VL_end (by kernel_rfl) ?_
  refine VQ_next ?_
  refine VC_seq ?_
  refine VC_region ?_
  refine VL_pure 2 [0, 1, 2, 3, 15, 16] [(0, .pointer (some ⟨p, 0, none⟩)), (1, .int .i64 t), (2, .slice P 48 cP), (3, .bool b), (15, .pointer (some ⟨p, 0, none⟩)), (16, .int .i64 t)] (by kernel_rfl) rfl ?_
  have hzs1 := hS.size
  have hzl1 := ho.lt
  refine VL_call (d := 17) (f := 14) (by kernel_rfl) (by kernel_rfl) (by kernel_rfl) Try.call14 (rtick_any p g X _ (fun k hk => hX k (by omega)) ⟨_, _, ho, hv, by first | assumption | exact Nat.zero_le _⟩ _ hI (by omega) t h0 h1) ?_
  rintro _ w1 ⟨rfl, ⟨A1, c1, ho1, hv1, hAcA1⟩, hc1⟩
  replace hS := Step.trans hS (Step.mono hc1 (by intro i hi; first | exact hi | (have hi9 : i = p := hi; (first | show _ ∨ _ | show _ = _); omega)))
  replace hP := hP.own ho heP hc1
  refine VL_end (by kernel_rfl) ?_
  refine VQ_next ?_
  refine VC_seq ?_
  refine VC_seq ?_
  refine VC_region ?_
  refine VL_pure 3 [0, 1, 2, 3, 20] [(0, .pointer (some ⟨p, 0, none⟩)), (1, .int .i64 t), (2, .slice P 48 cP), (3, .bool b), (20, .pointer (some ⟨p, 4, none⟩))] (by kernel_rfl) rfl ?_
  refine VL_load (d := 21) (t := 4) (a := ⟨p, 4, none⟩) (v := .bool ((tickF g t).sk)) (by kernel_rfl) (by kernel_rfl) (Loads.own1 ho1 (by kernel_rfl) (by rfl)) ?_
  refine VL_end (by kernel_rfl) ?_
  refine VQ_next ?_
  refine VC_cond ((tickF g t).sk) (by kernel_rfl) (fun h1 => ?_) (fun h1 => ?_)
  · try simp only [Bool.and_eq_true, Bool.or_eq_true, decide_eq_true_eq, Bool.not_eq_true', decide_eq_false_iff_not, Bool.and_eq_false_iff, Bool.or_eq_false_iff, beq_iff_eq, bne_iff_ne, beq_eq_false_iff_ne, bne_eq_false_iff_eq, Bool.not_eq_eq_eq_not, Bool.not_true, Bool.not_false] at h1
    refine VC_seq ?_
    refine VC_region ?_
    refine VL_pure 5 [24, 26] [(24, .bool (!b)), (26, .pointer (some ⟨p, 4, none⟩))] (by kernel_rfl) rfl ?_
    refine VL_store (b := p) (o := 4) (vs := [.bool (!b)]) (by kernel_rfl) (by kernel_rfl) ho1 (Nat.le_of_ble_eq_true (by kernel_rfl)) ?_
    intro w2 hw1
    replace hS := Step.trans hS (Step.mono hw1.step (by intro i hi; first | exact hi | (have hi9 : i = p := hi; (first | show _ ∨ _ | show _ = _); omega)))
    replace hP := hP.own ho1 heP hw1.step
    replace hv1 := hv1.own ho1 (by decide) hw1.step
    have ho2 : Own w2 p #[.int .i64 ((tickF g t).wait), .int .i64 ((tickF g t).began), .int .i64 ((tickF g t).lost), .slice A1 ((tickF g t).bs.length) c1, .bool (!b)] 41 := Own.cast hw1.own (by kernel_rfl)
    have hzhw1 := hw1.same
    refine VL_end (by kernel_rfl) ?_
    refine VQ_next ?_
    refine VC_seq ?_
    refine VC_region ?_
    refine VL_pure 3 [8, 9, 10] [(8, .slice none 0 0), (9, .int .u8 0), (10, .int .i64 2)] (by kernel_rfl) rfl ?_
    refine VL_end (by kernel_rfl) ?_
    refine VQ_next ?_
    refine VC_ret ?_
    refine VQ_then_ret ?_
    refine VQ_ret3 (.slice none 0 0) (.int .u8 0) (.int .i64 2) (.inr rfl) rfl rfl rfl rfl ?_
    obtain ⟨e0, e1, e2, e3⟩ : takeF g t ps b = _ ∧ takeT g t ps b = [] ∧ takeM g t ps b = 0 ∧ takeE g t ps b = 2 := by first | exact take_skip (by assumption) | (obtain rfl : b = false := (by assumption); exact take_more (by assumption) (by omega))
    rw [e0, e1, e2, e3]
    exact ⟨none, 0, rfl, Rw.nil _ _ _, ⟨_, _, ho2, hv1, by first | assumption | exact Nat.zero_le _⟩, hS⟩
  · try simp only [Bool.and_eq_true, Bool.or_eq_true, decide_eq_true_eq, Bool.not_eq_true', decide_eq_false_iff_not, Bool.and_eq_false_iff, Bool.or_eq_false_iff, beq_iff_eq, bne_iff_ne, beq_eq_false_iff_ne, bne_eq_false_iff_eq, Bool.not_eq_eq_eq_not, Bool.not_true, Bool.not_false] at h1
    refine VC_skip ?_
    refine VQ_next ?_
    refine VC_seq ?_
    refine VC_seq ?_
    refine VC_region ?_
    refine VL_pure 3 [0, 1, 2, 3, 29] [(0, .pointer (some ⟨p, 0, none⟩)), (1, .int .i64 t), (2, .slice P 48 cP), (3, .bool b), (29, .pointer (some ⟨p, 3, none⟩))] (by kernel_rfl) rfl ?_
    refine VL_load (d := 30) (t := 32) (a := ⟨p, 3, none⟩) (v := .slice A1 ((tickF g t).bs.length) c1) (by kernel_rfl) (by kernel_rfl) (Loads.own1 ho1 (by kernel_rfl) (by rfl)) ?_
    refine VL_pure 6 [0, 1, 2, 3, 32] [(0, .pointer (some ⟨p, 0, none⟩)), (1, .int .i64 t), (2, .slice P 48 cP), (3, .bool b), (32, .bool ((((tickF g t).bs.length : Nat) : Int) == 0))] (by kernel_rfl) rfl ?_
    refine VL_end (by kernel_rfl) ?_
    refine VQ_next ?_
    refine VC_eq (((tickF g t).bs.length : Nat) : Int) 0 (by kernel_rfl) (fun h2 => ?_) (fun h2 => ?_)
    · refine VC_region ?_
      refine VL_pure 4 [0, 2, 3, 34, 36] [(0, .pointer (some ⟨p, 0, none⟩)), (2, .slice P 48 cP), (3, .bool b), (34, .int .i64 t), (36, .pointer (some ⟨p, 1, none⟩))] (by kernel_rfl) rfl ?_
      refine VL_store (b := p) (o := 1) (vs := [.int .i64 t]) (by kernel_rfl) (by kernel_rfl) ho1 (Nat.le_of_ble_eq_true (by kernel_rfl)) ?_
      intro w3 hw2
      replace hS := Step.trans hS (Step.mono hw2.step (by intro i hi; first | exact hi | (have hi9 : i = p := hi; (first | show _ ∨ _ | show _ = _); omega)))
      replace hP := hP.own ho1 heP hw2.step
      replace hv1 := hv1.own ho1 (by decide) hw2.step
      have ho3 : Own w3 p #[.int .i64 ((tickF g t).wait), .int .i64 t, .int .i64 ((tickF g t).lost), .slice A1 ((tickF g t).bs.length) c1, .bool ((tickF g t).sk)] 41 := Own.cast hw2.own (by kernel_rfl)
      have hzhw2 := hw2.same
      refine VL_end (by kernel_rfl) ?_
      refine VQ_next ?_
      refine VC_seq ?_
      have hvs := SlX.sl hv1
      have hPs := SlX.sl hP
      have hLen : (gaddF (tickF g t) t ps).bs.length = (tickF g t).bs.length + 48 := by simp only [gaddF, List.length_append, hp]
      refine VC_region ?_
      have hzs2 := hS.size
      have hzl2 := ho3.lt
      refine VL_bs (d := 37) (e := 5) (c := #[]) (len := 0) (by kernel_rfl) (by kernel_rfl) ?_
      intro b1 w4 hn1
      replace hS := Step.trans hS (Step.weak (hn1.step No))
      replace ho3 := ho3.no (hn1.step No)
      replace hvs := hvs.no (hn1.step No)
      replace hPs := hPs.no (hn1.step No)
      have ho4 := hn1.own
      have hzhn1 := hn1.size
      have hqhn1 := hn1.eqb
      refine VL_pure 4 [0, 2, 3, 37, 40] [(0, .pointer (some ⟨p, 0, none⟩)), (2, .slice P 48 cP), (3, .bool b), (37, .slice (some ⟨b1, 0, none⟩) 0 0), (40, .pointer (some ⟨p, 3, none⟩))] (by kernel_rfl) rfl ?_
      refine VL_load (d := 41) (t := 32) (a := ⟨p, 3, none⟩) (v := .slice A1 ((tickF g t).bs.length) c1) (by kernel_rfl) (by kernel_rfl) (Loads.own1 ho3 (by kernel_rfl) (by rfl)) ?_
      have hzs3 := hS.size
      have hzl3 := ho3.lt
      have hzl4 := ho4.lt
      have hbase1 := Nat.le_of_lt ho4.lt
      refine VL_appendS (d := 42) (e := 5) (A := (some ⟨b1, 0, none⟩)) (m := 0) (c := 0) (A2 := A1) (m2 := ((tickF g t).bs.length)) (c2 := c1) (bytes := 1) (by kernel_rfl) (by kernel_rfl) (by kernel_rfl) b1 w4.heap.size (iL .u8 ([])) (iL .u8 ((tickF g t).bs)) (Rw.of_new ho4 (Nat.le_refl _) (Nat.le_of_ble_eq_true (by kernel_rfl))) (by rw [iL_length]; first | done | exact rfl) (Sl.mono hvs (by first | exact Nat.le_refl _ | omega)) iL_one ((tickF g t).bs.length) (by omega) (by simp only [maxLen]; omega) (by omega) (by omega) ?_
      intro A2 c2 w5 hr1 hg1
      replace hr1 : Rw w5 b1 5 A2 ((tickF g t).bs.length) c2 (iL .u8 ((tickF g t).bs)) := Rw.cast hr1 rfl (by simp only [iL, List.map_append, List.map_cons, List.map_nil, List.append_assoc, List.cons_append, List.nil_append, List.append_nil])
      have hzhg1 := hg1.size
      replace hS := Step.transNew hS hg1 (fun i hi hG => by (try simp only at hG); (first | show _ ∨ _ | show _ = _); omega)
      replace ho3 := ho3.step hg1 (by (try simp only); omega)
      replace hvs := hvs.step hg1 (fun k hk hG => by (try simp only at hG); omega)
      replace hPs := hPs.step hg1 (fun k hk hG => by (try simp only at hG); omega)
      replace hbase1 := Nat.le_trans hbase1 (hg1).size
      refine VL_pure 7 [0, 3, 42, 43] [(0, .pointer (some ⟨p, 0, none⟩)), (3, .bool b), (42, .slice A2 ((tickF g t).bs.length) c2), (43, .slice P 48 cP)] (by kernel_rfl) rfl ?_
      have hzs4 := hS.size
      have hzl5 := ho3.lt
      have hzk1 := hbase1
      refine VL_appendS (d := 44) (e := 5) (A := A2) (m := ((tickF g t).bs.length)) (c := c2) (A2 := P) (m2 := 48) (c2 := cP) (bytes := 1) (by kernel_rfl) (by kernel_rfl) (by kernel_rfl) b1 w5.heap.size (iL .u8 ((tickF g t).bs)) (iL .u8 ps) hr1 (by rw [iL_length]; first | done | exact hp) (Sl.mono hPs (by first | exact Nat.le_refl _ | omega)) iL_one ((tickF g t).bs.length + 48) (by omega) (by simp only [maxLen]; omega) (by omega) (by omega) ?_
      intro A3 c3 w6 hr2 hg2
      replace hr2 : Rw w6 b1 5 A3 ((tickF g t).bs.length + 48) c3 (iL .u8 (((tickF g t).bs) ++ ps)) := Rw.cast hr2 rfl (by simp only [iL, List.map_append, List.map_cons, List.map_nil, List.append_assoc, List.cons_append, List.nil_append, List.append_nil])
      have hzhg2 := hg2.size
      replace hS := Step.transNew hS hg2 (fun i hi hG => by (try simp only at hG); (first | show _ ∨ _ | show _ = _); omega)
      replace ho3 := ho3.step hg2 (by (try simp only); omega)
      replace hvs := hvs.step hg2 (fun k hk hG => by (try simp only at hG); omega)
      replace hPs := hPs.step hg2 (fun k hk hG => by (try simp only at hG); omega)
      replace hbase1 := Nat.le_trans hbase1 (hg2).size
      refine VL_pure 9 [0, 3, 11] [(0, .pointer (some ⟨p, 0, none⟩)), (3, .bool b), (11, .slice A3 ((tickF g t).bs.length + 48) c3)] (by kernel_rfl) rfl ?_
      refine VL_end (by kernel_rfl) ?_
      refine VQ_next ?_
      refine VC_seq ?_
      refine VC_seq ?_
      refine VC_region ?_
      refine VL_pure 3 [0, 3, 11, 47] [(0, .pointer (some ⟨p, 0, none⟩)), (3, .bool b), (11, .slice A3 ((tickF g t).bs.length + 48) c3), (47, .bool (!b))] (by kernel_rfl) rfl ?_
      refine VL_bool b (fun bV => [(0, .pointer (some ⟨p, 0, none⟩)), (3, .bool bV), (11, .slice A3 ((tickF g t).bs.length + 48) c3), (47, .bool (!bV))]) rfl (fun hg3 => ?_) (fun hg3 => ?_)
      · refine VL_pure 7 [0, 3, 11, 51] [(0, .pointer (some ⟨p, 0, none⟩)), (3, .bool true), (11, .slice A3 ((tickF g t).bs.length + 48) c3), (51, .bool false)] (by kernel_rfl) rfl ?_
        refine VL_end (by kernel_rfl) ?_
        refine VQ_next ?_
        refine VC_false (by kernel_rfl) ?_
        refine VC_skip ?_
        refine VQ_next ?_
        refine VC_seq ?_
        refine VC_region ?_
        refine VL_pure 3 [0, 3, 11, 58] [(0, .pointer (some ⟨p, 0, none⟩)), (3, .bool true), (11, .slice A3 ((tickF g t).bs.length + 48) c3), (58, .pointer (some ⟨p, 3, none⟩))] (by kernel_rfl) rfl ?_
        refine VL_store (b := p) (o := 3) (vs := [.slice none 0 0]) (by kernel_rfl) (by kernel_rfl) ho3 (Nat.le_of_ble_eq_true (by kernel_rfl)) ?_
        intro w7 hw3
        replace hS := Step.trans hS (Step.mono hw3.step (by intro i hi; first | exact hi | (have hi9 : i = p := hi; (first | show _ ∨ _ | show _ = _); omega)))
        replace hbase1 := Nat.le_trans hbase1 (hw3.step).size
        replace hr2 := hr2.step hw3.step (fun k hk (hF : k = p) => by omega)
        have ho5 : Own w7 p #[.int .i64 ((tickF g t).wait), .int .i64 t, .int .i64 ((tickF g t).lost), .slice none 0 0, .bool ((tickF g t).sk)] 41 := Own.cast hw3.own (by kernel_rfl)
        have hzhw3 := hw3.same
        refine VL_end (by kernel_rfl) ?_
        refine VQ_next ?_
        refine VC_seq ?_
        refine VC_seq ?_
        refine VC_region ?_
        refine VL_pure 2 [0, 11, 60] [(0, .pointer (some ⟨p, 0, none⟩)), (11, .slice A3 ((tickF g t).bs.length + 48) c3), (60, .bool false)] (by kernel_rfl) rfl ?_
        refine VL_end (by kernel_rfl) ?_
        refine VQ_next ?_
        refine VC_false (by kernel_rfl) ?_
        refine VC_skip ?_
        refine VQ_next ?_
        refine VC_seq ?_
        refine VC_region ?_
        refine VL_pure 1 [0, 73] [(0, .pointer (some ⟨p, 0, none⟩)), (73, .slice A3 ((tickF g t).bs.length + 48) c3)] (by kernel_rfl) rfl ?_
        have hzs5 := hS.size
        have hzl6 := ho5.lt
        refine VL_call (d := 74) (f := 26) (by kernel_rfl) (by kernel_rfl) (by kernel_rfl) Try.call26 (runpack2_any A3 ((tickF g t).bs.length + 48) c3 _ (((tickF g t).bs) ++ ps) _ (Rw.lenI hr2) (Rw.slI hr2) hBy (by omega) (by omega) (Rw.cap hr2)) ?_
        rintro _ w8 ⟨A4, c4, rfl, hr3, hc2⟩
        replace hS := Step.trans hS (Step.weak hc2)
        replace hbase1 := Nat.le_trans hbase1 (hc2).size
        replace hr2 := hr2.no hc2
        replace ho5 := ho5.no hc2
        obtain ⟨base1, hbase2E⟩ : ∃ x, x = w7.heap.size := ⟨_, rfl⟩
        rw [← hbase2E] at hr3
        have hbase2 : base1 ≤ w8.heap.size := by rw [hbase2E]; exact hc2.size
        refine VL_pure 9 [0, 12, 13, 14] [(0, .pointer (some ⟨p, 0, none⟩)), (12, .slice A4 ((unT (((tickF g t).bs) ++ ps)).length) c4), (13, .int .u8 (unM (((tickF g t).bs) ++ ps))), (14, .int .i64 (unE (((tickF g t).bs) ++ ps)))] (by kernel_rfl) rfl ?_
        refine VL_end (by kernel_rfl) ?_
        refine VQ_next ?_
        refine VC_seq ?_
        refine VC_seq ?_
        refine VC_region ?_
        refine VL_pure 2 [0, 12, 13, 14, 79] [(0, .pointer (some ⟨p, 0, none⟩)), (12, .slice A4 ((unT (((tickF g t).bs) ++ ps)).length) c4), (13, .int .u8 (unM (((tickF g t).bs) ++ ps))), (14, .int .i64 (unE (((tickF g t).bs) ++ ps))), (79, .bool ((unE (((tickF g t).bs) ++ ps)) != 0))] (by kernel_rfl) rfl ?_
        refine VL_end (by kernel_rfl) ?_
        refine VQ_next ?_
        refine VC_ne (unE (((tickF g t).bs) ++ ps)) 0 (by kernel_rfl) (fun h3 => ?_) (fun h3 => ?_)
        · refine VC_region ?_
          refine VL_pure 4 [12, 13, 14, 80, 83] [(12, .slice A4 ((unT (((tickF g t).bs) ++ ps)).length) c4), (13, .int .u8 (unM (((tickF g t).bs) ++ ps))), (14, .int .i64 (unE (((tickF g t).bs) ++ ps))), (80, .pointer (some ⟨p, 0, none⟩)), (83, .pointer (some ⟨p, 2, none⟩))] (by kernel_rfl) rfl ?_
          refine VL_load (d := 84) (t := 3) (a := ⟨p, 2, none⟩) (v := .int .i64 ((tickF g t).lost)) (by kernel_rfl) (by kernel_rfl) (Loads.own1 ho5 (by kernel_rfl) (by rfl)) ?_
          refine VL_pure 6 [12, 13, 14, 80, 85] [(12, .slice A4 ((unT (((tickF g t).bs) ++ ps)).length) c4), (13, .int .u8 (unM (((tickF g t).bs) ++ ps))), (14, .int .i64 (unE (((tickF g t).bs) ++ ps))), (80, .pointer (some ⟨p, 0, none⟩)), (85, .int .i64 (IntKind.wrap .i64 (((tickF g t).lost) + 1)))] (by kernel_rfl) rfl ?_
          refine VL_eq [(12, .slice A4 ((unT (((tickF g t).bs) ++ ps)).length) c4), (13, .int .u8 (unM (((tickF g t).bs) ++ ps))), (14, .int .i64 (unE (((tickF g t).bs) ++ ps))), (80, .pointer (some ⟨p, 0, none⟩)), (85, .int .i64 ((tickF g t).lost + 1))] (by rw [wrap_i64 _ (by have h9 := (hI.tick t).l0; omega) (by have h9 := (hI.tick t).l1; omega)]) ?_
          refine VL_pure 8 [12, 13, 14, 85, 87] [(12, .slice A4 ((unT (((tickF g t).bs) ++ ps)).length) c4), (13, .int .u8 (unM (((tickF g t).bs) ++ ps))), (14, .int .i64 (unE (((tickF g t).bs) ++ ps))), (85, .int .i64 ((tickF g t).lost + 1)), (87, .pointer (some ⟨p, 2, none⟩))] (by kernel_rfl) rfl ?_
          refine VL_store (b := p) (o := 2) (vs := [.int .i64 ((tickF g t).lost + 1)]) (by kernel_rfl) (by kernel_rfl) ho5 (Nat.le_of_ble_eq_true (by kernel_rfl)) ?_
          intro w9 hw4
          replace hS := Step.trans hS (Step.mono hw4.step (by intro i hi; first | exact hi | (have hi9 : i = p := hi; (first | show _ ∨ _ | show _ = _); omega)))
          replace hbase1 := Nat.le_trans hbase1 (hw4.step).size
          replace hbase2 := Nat.le_trans hbase2 (hw4.step).size
          replace hr3 := hr3.step hw4.step (fun k hk (hF : k = p) => by omega)
          have ho6 : Own w9 p #[.int .i64 ((tickF g t).wait), .int .i64 t, .int .i64 ((tickF g t).lost + 1), .slice none 0 0, .bool ((tickF g t).sk)] 41 := Own.cast hw4.own (by kernel_rfl)
          have hzhw4 := hw4.same
          refine VL_end (by kernel_rfl) ?_
          refine VQ_next ?_
          refine VC_seq ?_
          refine VC_region ?_
          refine VL_pure 6 [8, 9, 10] [(8, .slice A4 ((unT (((tickF g t).bs) ++ ps)).length) c4), (9, .int .u8 (unM (((tickF g t).bs) ++ ps))), (10, .int .i64 (unE (((tickF g t).bs) ++ ps)))] (by kernel_rfl) rfl ?_
          refine VL_end (by kernel_rfl) ?_
          refine VQ_next ?_
          refine VC_ret ?_
          refine VQ_ret3 (.slice A4 ((unT (((tickF g t).bs) ++ ps)).length) c4) (.int .u8 (unM (((tickF g t).bs) ++ ps))) (.int .i64 (unE (((tickF g t).bs) ++ ps))) (.inr rfl) rfl rfl rfl rfl ?_
          obtain ⟨e0, e1, e2, e3⟩ : takeF g t ps b = _ ∧ takeT g t ps b = _ ∧ takeM g t ps b = _ ∧ takeE g t ps b = _ := by obtain rfl : b = true := (by assumption); exact take_last (by assumption)
          rw [e0, e1, e2, e3]
          refine ⟨_, _, rfl, Rw.low hr3 (by omega), ?_, hS⟩
          first | rw [← out_0 (by assumption)] | rw [← out_1 (by assumption)]
          exact ⟨none, 0, Own.cast ho6 (by simp only [gaddF, outF, loseF, List.length_nil]; first | rw [if_pos (by rw [← List.length_eq_zero_iff]; omega)] | rw [if_neg (by rw [← List.length_eq_zero_iff]; omega)]), SlX.nil, Nat.le_refl _⟩
        · refine VC_skip ?_
          refine VQ_next ?_
          refine VC_seq ?_
          refine VC_region ?_
          refine VL_pure 6 [8, 9, 10] [(8, .slice A4 ((unT (((tickF g t).bs) ++ ps)).length) c4), (9, .int .u8 (unM (((tickF g t).bs) ++ ps))), (10, .int .i64 (unE (((tickF g t).bs) ++ ps)))] (by kernel_rfl) rfl ?_
          refine VL_end (by kernel_rfl) ?_
          refine VQ_next ?_
          refine VC_ret ?_
          refine VQ_ret3 (.slice A4 ((unT (((tickF g t).bs) ++ ps)).length) c4) (.int .u8 (unM (((tickF g t).bs) ++ ps))) (.int .i64 (unE (((tickF g t).bs) ++ ps))) (.inr rfl) rfl rfl rfl rfl ?_
          obtain ⟨e0, e1, e2, e3⟩ : takeF g t ps b = _ ∧ takeT g t ps b = _ ∧ takeM g t ps b = _ ∧ takeE g t ps b = _ := by obtain rfl : b = true := (by assumption); exact take_last (by assumption)
          rw [e0, e1, e2, e3]
          refine ⟨_, _, rfl, Rw.low hr3 (by omega), ?_, hS⟩
          first | rw [← out_0 (by assumption)] | rw [← out_1 (by assumption)]
          exact ⟨none, 0, Own.cast ho5 (by simp only [gaddF, outF, loseF, List.length_nil]; first | rw [if_pos (by rw [← List.length_eq_zero_iff]; omega)] | rw [if_neg (by rw [← List.length_eq_zero_iff]; omega)]), SlX.nil, Nat.le_refl _⟩
      · refine VL_pure 7 [0, 3, 11, 51] [(0, .pointer (some ⟨p, 0, none⟩)), (3, .bool false), (11, .slice A3 ((tickF g t).bs.length + 48) c3), (51, .bool (decide ((((tickF g t).bs.length + 48 : Nat) : Int) < 1008)))] (by kernel_rfl) rfl ?_
        refine VL_end (by kernel_rfl) ?_
        refine VQ_next ?_
        refine VC_dec ((((tickF g t).bs.length + 48 : Nat) : Int) < 1008) (by kernel_rfl) (fun h4 => ?_) (fun h4 => ?_)
        · refine VC_seq ?_
          refine VC_region ?_
          refine VL_pure 4 [53, 55] [(53, .slice A3 ((tickF g t).bs.length + 48) c3), (55, .pointer (some ⟨p, 3, none⟩))] (by kernel_rfl) rfl ?_
          refine VL_store (b := p) (o := 3) (vs := [.slice A3 ((tickF g t).bs.length + 48) c3]) (by kernel_rfl) (by kernel_rfl) ho3 (Nat.le_of_ble_eq_true (by kernel_rfl)) ?_
          intro w10 hw5
          replace hS := Step.trans hS (Step.mono hw5.step (by intro i hi; first | exact hi | (have hi9 : i = p := hi; (first | show _ ∨ _ | show _ = _); omega)))
          replace hbase1 := Nat.le_trans hbase1 (hw5.step).size
          replace hr2 := hr2.step hw5.step (fun k hk (hF : k = p) => by omega)
          have ho7 : Own w10 p #[.int .i64 ((tickF g t).wait), .int .i64 t, .int .i64 ((tickF g t).lost), .slice A3 ((tickF g t).bs.length + 48) c3, .bool ((tickF g t).sk)] 41 := Own.cast hw5.own (by kernel_rfl)
          have hzhw5 := hw5.same
          refine VL_end (by kernel_rfl) ?_
          refine VQ_next ?_
          refine VC_seq ?_
          refine VC_region ?_
          refine VL_pure 3 [8, 9, 10] [(8, .slice none 0 0), (9, .int .u8 0), (10, .int .i64 2)] (by kernel_rfl) rfl ?_
          refine VL_end (by kernel_rfl) ?_
          refine VQ_next ?_
          refine VC_ret ?_
          refine VQ_then_ret ?_
          refine VQ_ret3 (.slice none 0 0) (.int .u8 0) (.int .i64 2) (.inr rfl) rfl rfl rfl rfl ?_
          obtain ⟨e0, e1, e2, e3⟩ : takeF g t ps b = _ ∧ takeT g t ps b = [] ∧ takeM g t ps b = 0 ∧ takeE g t ps b = 2 := by first | exact take_skip (by assumption) | (obtain rfl : b = false := (by assumption); exact take_more (by assumption) (by omega))
          rw [e0, e1, e2, e3]
          exact ⟨none, 0, rfl, Rw.nil _ _ _, ⟨_, _, Own.cast ho7 (by rw [hLen]; simp only [gaddF]; first | rw [if_pos (by rw [← List.length_eq_zero_iff]; omega)] | rw [if_neg (by rw [← List.length_eq_zero_iff]; omega)]), SlX.cast (SlX.of_rw hr2 (fun k hk => hX k (by omega))) rfl, by rw [hLen]; exact Rw.cap hr2⟩, hS⟩
        · refine VC_skip ?_
          refine VQ_next ?_
          refine VC_seq ?_
          refine VC_region ?_
          refine VL_pure 3 [0, 3, 11, 58] [(0, .pointer (some ⟨p, 0, none⟩)), (3, .bool false), (11, .slice A3 ((tickF g t).bs.length + 48) c3), (58, .pointer (some ⟨p, 3, none⟩))] (by kernel_rfl) rfl ?_
          refine VL_store (b := p) (o := 3) (vs := [.slice none 0 0]) (by kernel_rfl) (by kernel_rfl) ho3 (Nat.le_of_ble_eq_true (by kernel_rfl)) ?_
          intro w11 hw6
          replace hS := Step.trans hS (Step.mono hw6.step (by intro i hi; first | exact hi | (have hi9 : i = p := hi; (first | show _ ∨ _ | show _ = _); omega)))
          replace hbase1 := Nat.le_trans hbase1 (hw6.step).size
          replace hr2 := hr2.step hw6.step (fun k hk (hF : k = p) => by omega)
          have ho8 : Own w11 p #[.int .i64 ((tickF g t).wait), .int .i64 t, .int .i64 ((tickF g t).lost), .slice none 0 0, .bool ((tickF g t).sk)] 41 := Own.cast hw6.own (by kernel_rfl)
          have hzhw6 := hw6.same
          refine VL_end (by kernel_rfl) ?_
          refine VQ_next ?_
          refine VC_seq ?_
          refine VC_seq ?_
          refine VC_region ?_
          refine VL_pure 2 [0, 11, 60] [(0, .pointer (some ⟨p, 0, none⟩)), (11, .slice A3 ((tickF g t).bs.length + 48) c3), (60, .bool true)] (by kernel_rfl) rfl ?_
          refine VL_end (by kernel_rfl) ?_
          refine VQ_next ?_
          refine VC_true (by kernel_rfl) ?_
          refine VC_seq ?_
          refine VC_region ?_
          refine VL_pure 4 [0, 61, 64] [(0, .pointer (some ⟨p, 0, none⟩)), (61, .pointer (some ⟨p, 0, none⟩)), (64, .pointer (some ⟨p, 2, none⟩))] (by kernel_rfl) rfl ?_
          refine VL_load (d := 65) (t := 3) (a := ⟨p, 2, none⟩) (v := .int .i64 ((tickF g t).lost)) (by kernel_rfl) (by kernel_rfl) (Loads.own1 ho8 (by kernel_rfl) (by rfl)) ?_
          refine VL_pure 6 [0, 61, 66] [(0, .pointer (some ⟨p, 0, none⟩)), (61, .pointer (some ⟨p, 0, none⟩)), (66, .int .i64 (IntKind.wrap .i64 (((tickF g t).lost) + 1)))] (by kernel_rfl) rfl ?_
          refine VL_eq [(0, .pointer (some ⟨p, 0, none⟩)), (61, .pointer (some ⟨p, 0, none⟩)), (66, .int .i64 ((tickF g t).lost + 1))] (by rw [wrap_i64 _ (by have h9 := (hI.tick t).l0; omega) (by have h9 := (hI.tick t).l1; omega)]) ?_
          refine VL_pure 8 [0, 66, 68] [(0, .pointer (some ⟨p, 0, none⟩)), (66, .int .i64 ((tickF g t).lost + 1)), (68, .pointer (some ⟨p, 2, none⟩))] (by kernel_rfl) rfl ?_
          refine VL_store (b := p) (o := 2) (vs := [.int .i64 ((tickF g t).lost + 1)]) (by kernel_rfl) (by kernel_rfl) ho8 (Nat.le_of_ble_eq_true (by kernel_rfl)) ?_
          intro w12 hw7
          replace hS := Step.trans hS (Step.mono hw7.step (by intro i hi; first | exact hi | (have hi9 : i = p := hi; (first | show _ ∨ _ | show _ = _); omega)))
          replace hbase1 := Nat.le_trans hbase1 (hw7.step).size
          have ho9 : Own w12 p #[.int .i64 ((tickF g t).wait), .int .i64 t, .int .i64 ((tickF g t).lost + 1), .slice none 0 0, .bool ((tickF g t).sk)] 41 := Own.cast hw7.own (by kernel_rfl)
          have hzhw7 := hw7.same
          refine VL_end (by kernel_rfl) ?_
          refine VQ_next ?_
          refine VC_seq ?_
          refine VC_region ?_
          refine VL_pure 3 [71] [(71, .pointer (some ⟨p, 4, none⟩))] (by kernel_rfl) rfl ?_
          refine VL_store (b := p) (o := 4) (vs := [.bool true]) (by kernel_rfl) (by kernel_rfl) ho9 (Nat.le_of_ble_eq_true (by kernel_rfl)) ?_
          intro w13 hw8
          replace hS := Step.trans hS (Step.mono hw8.step (by intro i hi; first | exact hi | (have hi9 : i = p := hi; (first | show _ ∨ _ | show _ = _); omega)))
          replace hbase1 := Nat.le_trans hbase1 (hw8.step).size
          have ho10 : Own w13 p #[.int .i64 ((tickF g t).wait), .int .i64 t, .int .i64 ((tickF g t).lost + 1), .slice none 0 0, .bool true] 41 := Own.cast hw8.own (by kernel_rfl)
          have hzhw8 := hw8.same
          refine VL_end (by kernel_rfl) ?_
          refine VQ_next ?_
          refine VC_seq ?_
          refine VC_region ?_
          refine VL_pure 3 [8, 9, 10] [(8, .slice none 0 0), (9, .int .u8 0), (10, .int .i64 6)] (by kernel_rfl) rfl ?_
          refine VL_end (by kernel_rfl) ?_
          refine VQ_next ?_
          refine VC_ret ?_
          refine VQ_then_ret ?_
          refine VQ_ret3 (.slice none 0 0) (.int .u8 0) (.int .i64 6) (.inr rfl) rfl rfl rfl rfl ?_
          obtain ⟨e0, e1, e2, e3⟩ : takeF g t ps b = _ ∧ takeT g t ps b = [] ∧ takeM g t ps b = 0 ∧ takeE g t ps b = 6 := by obtain rfl : b = false := (by assumption); exact take_long (by assumption) (by omega)
          rw [e0, e1, e2, e3]
          exact ⟨none, 0, rfl, Rw.nil _ _ _, ⟨none, 0, Own.cast ho10 (by simp only [gaddF, outF, loseF, List.length_nil]; first | rw [if_pos (by rw [← List.length_eq_zero_iff]; omega)] | rw [if_neg (by rw [← List.length_eq_zero_iff]; omega)]), SlX.nil, Nat.le_refl _⟩, hS⟩
    · refine VC_skip ?_
      refine VQ_next ?_
      refine VC_seq ?_
      have hvs := SlX.sl hv1
      have hPs := SlX.sl hP
      have hLen : (gaddF (tickF g t) t ps).bs.length = (tickF g t).bs.length + 48 := by simp only [gaddF, List.length_append, hp]
      refine VC_region ?_
      have hzs6 := hS.size
      have hzl7 := ho1.lt
      refine VL_bs (d := 37) (e := 5) (c := #[]) (len := 0) (by kernel_rfl) (by kernel_rfl) ?_
      intro b2 w14 hn2
      replace hS := Step.trans hS (Step.weak (hn2.step No))
      replace ho1 := ho1.no (hn2.step No)
      replace hvs := hvs.no (hn2.step No)
      replace hPs := hPs.no (hn2.step No)
      have ho11 := hn2.own
      have hzhn2 := hn2.size
      have hqhn2 := hn2.eqb
      refine VL_pure 4 [0, 2, 3, 37, 40] [(0, .pointer (some ⟨p, 0, none⟩)), (2, .slice P 48 cP), (3, .bool b), (37, .slice (some ⟨b2, 0, none⟩) 0 0), (40, .pointer (some ⟨p, 3, none⟩))] (by kernel_rfl) rfl ?_
      refine VL_load (d := 41) (t := 32) (a := ⟨p, 3, none⟩) (v := .slice A1 ((tickF g t).bs.length) c1) (by kernel_rfl) (by kernel_rfl) (Loads.own1 ho1 (by kernel_rfl) (by rfl)) ?_
      have hzs7 := hS.size
      have hzl8 := ho1.lt
      have hzl9 := ho11.lt
      have hbase3 := Nat.le_of_lt ho11.lt
      refine VL_appendS (d := 42) (e := 5) (A := (some ⟨b2, 0, none⟩)) (m := 0) (c := 0) (A2 := A1) (m2 := ((tickF g t).bs.length)) (c2 := c1) (bytes := 1) (by kernel_rfl) (by kernel_rfl) (by kernel_rfl) b2 w14.heap.size (iL .u8 ([])) (iL .u8 ((tickF g t).bs)) (Rw.of_new ho11 (Nat.le_refl _) (Nat.le_of_ble_eq_true (by kernel_rfl))) (by rw [iL_length]; first | done | exact rfl) (Sl.mono hvs (by first | exact Nat.le_refl _ | omega)) iL_one ((tickF g t).bs.length) (by omega) (by simp only [maxLen]; omega) (by omega) (by omega) ?_
      intro A5 c5 w15 hr4 hg4
      replace hr4 : Rw w15 b2 5 A5 ((tickF g t).bs.length) c5 (iL .u8 ((tickF g t).bs)) := Rw.cast hr4 rfl (by simp only [iL, List.map_append, List.map_cons, List.map_nil, List.append_assoc, List.cons_append, List.nil_append, List.append_nil])
      have hzhg4 := hg4.size
      replace hS := Step.transNew hS hg4 (fun i hi hG => by (try simp only at hG); (first | show _ ∨ _ | show _ = _); omega)
      replace ho1 := ho1.step hg4 (by (try simp only); omega)
      replace hvs := hvs.step hg4 (fun k hk hG => by (try simp only at hG); omega)
      replace hPs := hPs.step hg4 (fun k hk hG => by (try simp only at hG); omega)
      replace hbase3 := Nat.le_trans hbase3 (hg4).size
      refine VL_pure 7 [0, 3, 42, 43] [(0, .pointer (some ⟨p, 0, none⟩)), (3, .bool b), (42, .slice A5 ((tickF g t).bs.length) c5), (43, .slice P 48 cP)] (by kernel_rfl) rfl ?_
      have hzs8 := hS.size
      have hzl10 := ho1.lt
      have hzk2 := hbase3
      refine VL_appendS (d := 44) (e := 5) (A := A5) (m := ((tickF g t).bs.length)) (c := c5) (A2 := P) (m2 := 48) (c2 := cP) (bytes := 1) (by kernel_rfl) (by kernel_rfl) (by kernel_rfl) b2 w15.heap.size (iL .u8 ((tickF g t).bs)) (iL .u8 ps) hr4 (by rw [iL_length]; first | done | exact hp) (Sl.mono hPs (by first | exact Nat.le_refl _ | omega)) iL_one ((tickF g t).bs.length + 48) (by omega) (by simp only [maxLen]; omega) (by omega) (by omega) ?_
      intro A6 c6 w16 hr5 hg5
      replace hr5 : Rw w16 b2 5 A6 ((tickF g t).bs.length + 48) c6 (iL .u8 (((tickF g t).bs) ++ ps)) := Rw.cast hr5 rfl (by simp only [iL, List.map_append, List.map_cons, List.map_nil, List.append_assoc, List.cons_append, List.nil_append, List.append_nil])
      have hzhg5 := hg5.size
      replace hS := Step.transNew hS hg5 (fun i hi hG => by (try simp only at hG); (first | show _ ∨ _ | show _ = _); omega)
      replace ho1 := ho1.step hg5 (by (try simp only); omega)
      replace hvs := hvs.step hg5 (fun k hk hG => by (try simp only at hG); omega)
      replace hPs := hPs.step hg5 (fun k hk hG => by (try simp only at hG); omega)
      replace hbase3 := Nat.le_trans hbase3 (hg5).size
      refine VL_pure 9 [0, 3, 11] [(0, .pointer (some ⟨p, 0, none⟩)), (3, .bool b), (11, .slice A6 ((tickF g t).bs.length + 48) c6)] (by kernel_rfl) rfl ?_
      refine VL_end (by kernel_rfl) ?_
      refine VQ_next ?_
      refine VC_seq ?_
      refine VC_seq ?_
      refine VC_region ?_
      refine VL_pure 3 [0, 3, 11, 47] [(0, .pointer (some ⟨p, 0, none⟩)), (3, .bool b), (11, .slice A6 ((tickF g t).bs.length + 48) c6), (47, .bool (!b))] (by kernel_rfl) rfl ?_
      refine VL_bool b (fun bV => [(0, .pointer (some ⟨p, 0, none⟩)), (3, .bool bV), (11, .slice A6 ((tickF g t).bs.length + 48) c6), (47, .bool (!bV))]) rfl (fun hg6 => ?_) (fun hg6 => ?_)
      · refine VL_pure 7 [0, 3, 11, 51] [(0, .pointer (some ⟨p, 0, none⟩)), (3, .bool true), (11, .slice A6 ((tickF g t).bs.length + 48) c6), (51, .bool false)] (by kernel_rfl) rfl ?_
        refine VL_end (by kernel_rfl) ?_
        refine VQ_next ?_
        refine VC_false (by kernel_rfl) ?_
        refine VC_skip ?_
        refine VQ_next ?_
        refine VC_seq ?_
        refine VC_region ?_
        refine VL_pure 3 [0, 3, 11, 58] [(0, .pointer (some ⟨p, 0, none⟩)), (3, .bool true), (11, .slice A6 ((tickF g t).bs.length + 48) c6), (58, .pointer (some ⟨p, 3, none⟩))] (by kernel_rfl) rfl ?_
        refine VL_store (b := p) (o := 3) (vs := [.slice none 0 0]) (by kernel_rfl) (by kernel_rfl) ho1 (Nat.le_of_ble_eq_true (by kernel_rfl)) ?_
        intro w17 hw9
        replace hS := Step.trans hS (Step.mono hw9.step (by intro i hi; first | exact hi | (have hi9 : i = p := hi; (first | show _ ∨ _ | show _ = _); omega)))
        replace hbase3 := Nat.le_trans hbase3 (hw9.step).size
        replace hr5 := hr5.step hw9.step (fun k hk (hF : k = p) => by omega)
        have ho12 : Own w17 p #[.int .i64 ((tickF g t).wait), .int .i64 ((tickF g t).began), .int .i64 ((tickF g t).lost), .slice none 0 0, .bool ((tickF g t).sk)] 41 := Own.cast hw9.own (by kernel_rfl)
        have hzhw9 := hw9.same
        refine VL_end (by kernel_rfl) ?_
        refine VQ_next ?_
        refine VC_seq ?_
        refine VC_seq ?_
        refine VC_region ?_
        refine VL_pure 2 [0, 11, 60] [(0, .pointer (some ⟨p, 0, none⟩)), (11, .slice A6 ((tickF g t).bs.length + 48) c6), (60, .bool false)] (by kernel_rfl) rfl ?_
        refine VL_end (by kernel_rfl) ?_
        refine VQ_next ?_
        refine VC_false (by kernel_rfl) ?_
        refine VC_skip ?_
        refine VQ_next ?_
        refine VC_seq ?_
        refine VC_region ?_
        refine VL_pure 1 [0, 73] [(0, .pointer (some ⟨p, 0, none⟩)), (73, .slice A6 ((tickF g t).bs.length + 48) c6)] (by kernel_rfl) rfl ?_
        have hzs9 := hS.size
        have hzl11 := ho12.lt
        refine VL_call (d := 74) (f := 26) (by kernel_rfl) (by kernel_rfl) (by kernel_rfl) Try.call26 (runpack2_any A6 ((tickF g t).bs.length + 48) c6 _ (((tickF g t).bs) ++ ps) _ (Rw.lenI hr5) (Rw.slI hr5) hBy (by omega) (by omega) (Rw.cap hr5)) ?_
        rintro _ w18 ⟨A7, c7, rfl, hr6, hc3⟩
        replace hS := Step.trans hS (Step.weak hc3)
        replace hbase3 := Nat.le_trans hbase3 (hc3).size
        replace hr5 := hr5.no hc3
        replace ho12 := ho12.no hc3
        obtain ⟨base2, hbase4E⟩ : ∃ x, x = w17.heap.size := ⟨_, rfl⟩
        rw [← hbase4E] at hr6
        have hbase4 : base2 ≤ w18.heap.size := by rw [hbase4E]; exact hc3.size
        refine VL_pure 9 [0, 12, 13, 14] [(0, .pointer (some ⟨p, 0, none⟩)), (12, .slice A7 ((unT (((tickF g t).bs) ++ ps)).length) c7), (13, .int .u8 (unM (((tickF g t).bs) ++ ps))), (14, .int .i64 (unE (((tickF g t).bs) ++ ps)))] (by kernel_rfl) rfl ?_
        refine VL_end (by kernel_rfl) ?_
        refine VQ_next ?_
        refine VC_seq ?_
        refine VC_seq ?_
        refine VC_region ?_
        refine VL_pure 2 [0, 12, 13, 14, 79] [(0, .pointer (some ⟨p, 0, none⟩)), (12, .slice A7 ((unT (((tickF g t).bs) ++ ps)).length) c7), (13, .int .u8 (unM (((tickF g t).bs) ++ ps))), (14, .int .i64 (unE (((tickF g t).bs) ++ ps))), (79, .bool ((unE (((tickF g t).bs) ++ ps)) != 0))] (by kernel_rfl) rfl ?_
        refine VL_end (by kernel_rfl) ?_
        refine VQ_next ?_
        refine VC_ne (unE (((tickF g t).bs) ++ ps)) 0 (by kernel_rfl) (fun h5 => ?_) (fun h5 => ?_)
        · refine VC_region ?_
          refine VL_pure 4 [12, 13, 14, 80, 83] [(12, .slice A7 ((unT (((tickF g t).bs) ++ ps)).length) c7), (13, .int .u8 (unM (((tickF g t).bs) ++ ps))), (14, .int .i64 (unE (((tickF g t).bs) ++ ps))), (80, .pointer (some ⟨p, 0, none⟩)), (83, .pointer (some ⟨p, 2, none⟩))] (by kernel_rfl) rfl ?_
          refine VL_load (d := 84) (t := 3) (a := ⟨p, 2, none⟩) (v := .int .i64 ((tickF g t).lost)) (by kernel_rfl) (by kernel_rfl) (Loads.own1 ho12 (by kernel_rfl) (by rfl)) ?_
          refine VL_pure 6 [12, 13, 14, 80, 85] [(12, .slice A7 ((unT (((tickF g t).bs) ++ ps)).length) c7), (13, .int .u8 (unM (((tickF g t).bs) ++ ps))), (14, .int .i64 (unE (((tickF g t).bs) ++ ps))), (80, .pointer (some ⟨p, 0, none⟩)), (85, .int .i64 (IntKind.wrap .i64 (((tickF g t).lost) + 1)))] (by kernel_rfl) rfl ?_
          refine VL_eq [(12, .slice A7 ((unT (((tickF g t).bs) ++ ps)).length) c7), (13, .int .u8 (unM (((tickF g t).bs) ++ ps))), (14, .int .i64 (unE (((tickF g t).bs) ++ ps))), (80, .pointer (some ⟨p, 0, none⟩)), (85, .int .i64 ((tickF g t).lost + 1))] (by rw [wrap_i64 _ (by have h9 := (hI.tick t).l0; omega) (by have h9 := (hI.tick t).l1; omega)]) ?_
          refine VL_pure 8 [12, 13, 14, 85, 87] [(12, .slice A7 ((unT (((tickF g t).bs) ++ ps)).length) c7), (13, .int .u8 (unM (((tickF g t).bs) ++ ps))), (14, .int .i64 (unE (((tickF g t).bs) ++ ps))), (85, .int .i64 ((tickF g t).lost + 1)), (87, .pointer (some ⟨p, 2, none⟩))] (by kernel_rfl) rfl ?_
          refine VL_store (b := p) (o := 2) (vs := [.int .i64 ((tickF g t).lost + 1)]) (by kernel_rfl) (by kernel_rfl) ho12 (Nat.le_of_ble_eq_true (by kernel_rfl)) ?_
          intro w19 hw10
          replace hS := Step.trans hS (Step.mono hw10.step (by intro i hi; first | exact hi | (have hi9 : i = p := hi; (first | show _ ∨ _ | show _ = _); omega)))
          replace hbase3 := Nat.le_trans hbase3 (hw10.step).size
          replace hbase4 := Nat.le_trans hbase4 (hw10.step).size
          replace hr6 := hr6.step hw10.step (fun k hk (hF : k = p) => by omega)
          have ho13 : Own w19 p #[.int .i64 ((tickF g t).wait), .int .i64 ((tickF g t).began), .int .i64 ((tickF g t).lost + 1), .slice none 0 0, .bool ((tickF g t).sk)] 41 := Own.cast hw10.own (by kernel_rfl)
          have hzhw10 := hw10.same
          refine VL_end (by kernel_rfl) ?_
          refine VQ_next ?_
          refine VC_seq ?_
          refine VC_region ?_
          refine VL_pure 6 [8, 9, 10] [(8, .slice A7 ((unT (((tickF g t).bs) ++ ps)).length) c7), (9, .int .u8 (unM (((tickF g t).bs) ++ ps))), (10, .int .i64 (unE (((tickF g t).bs) ++ ps)))] (by kernel_rfl) rfl ?_
          refine VL_end (by kernel_rfl) ?_
          refine VQ_next ?_
          refine VC_ret ?_
          refine VQ_ret3 (.slice A7 ((unT (((tickF g t).bs) ++ ps)).length) c7) (.int .u8 (unM (((tickF g t).bs) ++ ps))) (.int .i64 (unE (((tickF g t).bs) ++ ps))) (.inr rfl) rfl rfl rfl rfl ?_
          obtain ⟨e0, e1, e2, e3⟩ : takeF g t ps b = _ ∧ takeT g t ps b = _ ∧ takeM g t ps b = _ ∧ takeE g t ps b = _ := by obtain rfl : b = true := (by assumption); exact take_last (by assumption)
          rw [e0, e1, e2, e3]
          refine ⟨_, _, rfl, Rw.low hr6 (by omega), ?_, hS⟩
          first | rw [← out_0 (by assumption)] | rw [← out_1 (by assumption)]
          exact ⟨none, 0, Own.cast ho13 (by simp only [gaddF, outF, loseF, List.length_nil]; first | rw [if_pos (by rw [← List.length_eq_zero_iff]; omega)] | rw [if_neg (by rw [← List.length_eq_zero_iff]; omega)]), SlX.nil, Nat.le_refl _⟩
        · refine VC_skip ?_
          refine VQ_next ?_
          refine VC_seq ?_
          refine VC_region ?_
          refine VL_pure 6 [8, 9, 10] [(8, .slice A7 ((unT (((tickF g t).bs) ++ ps)).length) c7), (9, .int .u8 (unM (((tickF g t).bs) ++ ps))), (10, .int .i64 (unE (((tickF g t).bs) ++ ps)))] (by kernel_rfl) rfl ?_
          refine VL_end (by kernel_rfl) ?_
          refine VQ_next ?_
          refine VC_ret ?_
          refine VQ_ret3 (.slice A7 ((unT (((tickF g t).bs) ++ ps)).length) c7) (.int .u8 (unM (((tickF g t).bs) ++ ps))) (.int .i64 (unE (((tickF g t).bs) ++ ps))) (.inr rfl) rfl rfl rfl rfl ?_
          obtain ⟨e0, e1, e2, e3⟩ : takeF g t ps b = _ ∧ takeT g t ps b = _ ∧ takeM g t ps b = _ ∧ takeE g t ps b = _ := by obtain rfl : b = true := (by assumption); exact take_last (by assumption)
          rw [e0, e1, e2, e3]
          refine ⟨_, _, rfl, Rw.low hr6 (by omega), ?_, hS⟩
          first | rw [← out_0 (by assumption)] | rw [← out_1 (by assumption)]
          exact ⟨none, 0, Own.cast ho12 (by simp only [gaddF, outF, loseF, List.length_nil]; first | rw [if_pos (by rw [← List.length_eq_zero_iff]; omega)] | rw [if_neg (by rw [← List.length_eq_zero_iff]; omega)]), SlX.nil, Nat.le_refl _⟩
      · refine VL_pure 7 [0, 3, 11, 51] [(0, .pointer (some ⟨p, 0, none⟩)), (3, .bool false), (11, .slice A6 ((tickF g t).bs.length + 48) c6), (51, .bool (decide ((((tickF g t).bs.length + 48 : Nat) : Int) < 1008)))] (by kernel_rfl) rfl ?_
        refine VL_end (by kernel_rfl) ?_
        refine VQ_next ?_
        refine VC_dec ((((tickF g t).bs.length + 48 : Nat) : Int) < 1008) (by kernel_rfl) (fun h6 => ?_) (fun h6 => ?_)
        · refine VC_seq ?_
          refine VC_region ?_
          refine VL_pure 4 [53, 55] [(53, .slice A6 ((tickF g t).bs.length + 48) c6), (55, .pointer (some ⟨p, 3, none⟩))] (by kernel_rfl) rfl ?_
          refine VL_store (b := p) (o := 3) (vs := [.slice A6 ((tickF g t).bs.length + 48) c6]) (by kernel_rfl) (by kernel_rfl) ho1 (Nat.le_of_ble_eq_true (by kernel_rfl)) ?_
          intro w20 hw11
          replace hS := Step.trans hS (Step.mono hw11.step (by intro i hi; first | exact hi | (have hi9 : i = p := hi; (first | show _ ∨ _ | show _ = _); omega)))
          replace hbase3 := Nat.le_trans hbase3 (hw11.step).size
          replace hr5 := hr5.step hw11.step (fun k hk (hF : k = p) => by omega)
          have ho14 : Own w20 p #[.int .i64 ((tickF g t).wait), .int .i64 ((tickF g t).began), .int .i64 ((tickF g t).lost), .slice A6 ((tickF g t).bs.length + 48) c6, .bool ((tickF g t).sk)] 41 := Own.cast hw11.own (by kernel_rfl)
          have hzhw11 := hw11.same
          refine VL_end (by kernel_rfl) ?_
          refine VQ_next ?_
          refine VC_seq ?_
          refine VC_region ?_
          refine VL_pure 3 [8, 9, 10] [(8, .slice none 0 0), (9, .int .u8 0), (10, .int .i64 2)] (by kernel_rfl) rfl ?_
          refine VL_end (by kernel_rfl) ?_
          refine VQ_next ?_
          refine VC_ret ?_
          refine VQ_then_ret ?_
          refine VQ_ret3 (.slice none 0 0) (.int .u8 0) (.int .i64 2) (.inr rfl) rfl rfl rfl rfl ?_
          obtain ⟨e0, e1, e2, e3⟩ : takeF g t ps b = _ ∧ takeT g t ps b = [] ∧ takeM g t ps b = 0 ∧ takeE g t ps b = 2 := by first | exact take_skip (by assumption) | (obtain rfl : b = false := (by assumption); exact take_more (by assumption) (by omega))
          rw [e0, e1, e2, e3]
          exact ⟨none, 0, rfl, Rw.nil _ _ _, ⟨_, _, Own.cast ho14 (by rw [hLen]; simp only [gaddF]; first | rw [if_pos (by rw [← List.length_eq_zero_iff]; omega)] | rw [if_neg (by rw [← List.length_eq_zero_iff]; omega)]), SlX.cast (SlX.of_rw hr5 (fun k hk => hX k (by omega))) rfl, by rw [hLen]; exact Rw.cap hr5⟩, hS⟩
        · refine VC_skip ?_
          refine VQ_next ?_
          refine VC_seq ?_
          refine VC_region ?_
          refine VL_pure 3 [0, 3, 11, 58] [(0, .pointer (some ⟨p, 0, none⟩)), (3, .bool false), (11, .slice A6 ((tickF g t).bs.length + 48) c6), (58, .pointer (some ⟨p, 3, none⟩))] (by kernel_rfl) rfl ?_
          refine VL_store (b := p) (o := 3) (vs := [.slice none 0 0]) (by kernel_rfl) (by kernel_rfl) ho1 (Nat.le_of_ble_eq_true (by kernel_rfl)) ?_
          intro w21 hw12
          replace hS := Step.trans hS (Step.mono hw12.step (by intro i hi; first | exact hi | (have hi9 : i = p := hi; (first | show _ ∨ _ | show _ = _); omega)))
          replace hbase3 := Nat.le_trans hbase3 (hw12.step).size
          replace hr5 := hr5.step hw12.step (fun k hk (hF : k = p) => by omega)
          have ho15 : Own w21 p #[.int .i64 ((tickF g t).wait), .int .i64 ((tickF g t).began), .int .i64 ((tickF g t).lost), .slice none 0 0, .bool ((tickF g t).sk)] 41 := Own.cast hw12.own (by kernel_rfl)
          have hzhw12 := hw12.same
          refine VL_end (by kernel_rfl) ?_
          refine VQ_next ?_
          refine VC_seq ?_
          refine VC_seq ?_
          refine VC_region ?_
          refine VL_pure 2 [0, 11, 60] [(0, .pointer (some ⟨p, 0, none⟩)), (11, .slice A6 ((tickF g t).bs.length + 48) c6), (60, .bool true)] (by kernel_rfl) rfl ?_
          refine VL_end (by kernel_rfl) ?_
          refine VQ_next ?_
          refine VC_true (by kernel_rfl) ?_
          refine VC_seq ?_
          refine VC_region ?_
          refine VL_pure 4 [0, 61, 64] [(0, .pointer (some ⟨p, 0, none⟩)), (61, .pointer (some ⟨p, 0, none⟩)), (64, .pointer (some ⟨p, 2, none⟩))] (by kernel_rfl) rfl ?_
          refine VL_load (d := 65) (t := 3) (a := ⟨p, 2, none⟩) (v := .int .i64 ((tickF g t).lost)) (by kernel_rfl) (by kernel_rfl) (Loads.own1 ho15 (by kernel_rfl) (by rfl)) ?_
          refine VL_pure 6 [0, 61, 66] [(0, .pointer (some ⟨p, 0, none⟩)), (61, .pointer (some ⟨p, 0, none⟩)), (66, .int .i64 (IntKind.wrap .i64 (((tickF g t).lost) + 1)))] (by kernel_rfl) rfl ?_
          refine VL_eq [(0, .pointer (some ⟨p, 0, none⟩)), (61, .pointer (some ⟨p, 0, none⟩)), (66, .int .i64 ((tickF g t).lost + 1))] (by rw [wrap_i64 _ (by have h9 := (hI.tick t).l0; omega) (by have h9 := (hI.tick t).l1; omega)]) ?_
          refine VL_pure 8 [0, 66, 68] [(0, .pointer (some ⟨p, 0, none⟩)), (66, .int .i64 ((tickF g t).lost + 1)), (68, .pointer (some ⟨p, 2, none⟩))] (by kernel_rfl) rfl ?_
          refine VL_store (b := p) (o := 2) (vs := [.int .i64 ((tickF g t).lost + 1)]) (by kernel_rfl) (by kernel_rfl) ho15 (Nat.le_of_ble_eq_true (by kernel_rfl)) ?_
          intro w22 hw13
          replace hS := Step.trans hS (Step.mono hw13.step (by intro i hi; first | exact hi | (have hi9 : i = p := hi; (first | show _ ∨ _ | show _ = _); omega)))
          replace hbase3 := Nat.le_trans hbase3 (hw13.step).size
          have ho16 : Own w22 p #[.int .i64 ((tickF g t).wait), .int .i64 ((tickF g t).began), .int .i64 ((tickF g t).lost + 1), .slice none 0 0, .bool ((tickF g t).sk)] 41 := Own.cast hw13.own (by kernel_rfl)
          have hzhw13 := hw13.same
          refine VL_end (by kernel_rfl) ?_
          refine VQ_next ?_
          refine VC_seq ?_
          refine VC_region ?_
          refine VL_pure 3 [71] [(71, .pointer (some ⟨p, 4, none⟩))] (by kernel_rfl) rfl ?_
          refine VL_store (b := p) (o := 4) (vs := [.bool true]) (by kernel_rfl) (by kernel_rfl) ho16 (Nat.le_of_ble_eq_true (by kernel_rfl)) ?_
          intro w23 hw14
          replace hS := Step.trans hS (Step.mono hw14.step (by intro i hi; first | exact hi | (have hi9 : i = p := hi; (first | show _ ∨ _ | show _ = _); omega)))
          replace hbase3 := Nat.le_trans hbase3 (hw14.step).size
          have ho17 : Own w23 p #[.int .i64 ((tickF g t).wait), .int .i64 ((tickF g t).began), .int .i64 ((tickF g t).lost + 1), .slice none 0 0, .bool true] 41 := Own.cast hw14.own (by kernel_rfl)
          have hzhw14 := hw14.same
          refine VL_end (by kernel_rfl) ?_
          refine VQ_next ?_
          refine VC_seq ?_
          refine VC_region ?_
          refine VL_pure 3 [8, 9, 10] [(8, .slice none 0 0), (9, .int .u8 0), (10, .int .i64 6)] (by kernel_rfl) rfl ?_
          refine VL_end (by kernel_rfl) ?_
          refine VQ_next ?_
          refine VC_ret ?_
          refine VQ_then_ret ?_
          refine VQ_ret3 (.slice none 0 0) (.int .u8 0) (.int .i64 6) (.inr rfl) rfl rfl rfl rfl ?_
          obtain ⟨e0, e1, e2, e3⟩ : takeF g t ps b = _ ∧ takeT g t ps b = [] ∧ takeM g t ps b = 0 ∧ takeE g t ps b = 6 := by obtain rfl : b = false := (by assumption); exact take_long (by assumption) (by omega)
          rw [e0, e1, e2, e3]
          exact ⟨none, 0, rfl, Rw.nil _ _ _, ⟨none, 0, Own.cast ho17 (by simp only [gaddF, outF, loseF, List.length_nil]; first | rw [if_pos (by rw [← List.length_eq_zero_iff]; omega)] | rw [if_neg (by rw [← List.length_eq_zero_iff]; omega)]), SlX.nil, Nat.le_refl _⟩, hS⟩

end Go.Proofs.Ytgiefcolkohgkaa
