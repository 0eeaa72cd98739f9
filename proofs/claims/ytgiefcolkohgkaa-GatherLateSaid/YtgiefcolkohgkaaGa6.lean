/- Layer 11: frames' parts, taken in order. -/
import Derived.Test.YtgiefcolkohgkaaGa5
import Derived.Test.YtgiefcolkohgkaaCe0
set_option linter.unusedVariables false
set_option linter.unusedSimpArgs false
namespace Go.Proofs.Ytgiefcolkohgkaa
open Go.Vc Go.RowKit
/-- At a time nothing of what waits is in the way. -/
structure RdyG (g : Ga) (t : Int) : Prop where
  bs : (tickF g t).bs = []
  sk : (tickF g t).sk = false
  wait : 0 < g.wait
/-- The bytes X came, all at the time t. -/
structure FedI (g : Ga) (t : Int) (X : List Int) (x : Ga) : Prop where
  bs : x.bs = X
  began : x.began = t
  sk : x.sk = false
  lost : x.lost = (tickF g t).lost
  wait : x.wait = g.wait
def StG (g : Ga) (t : Int) (X : List Int) (x : Ga) : Prop := (X = [] ∧ x = g) ∨ (X ≠ [] ∧ FedI g t X x)
/-- A frame came. -/
structure OutI (g : Ga) (t : Int) (X : List Int) (x : Ga) : Prop where
  bs : x.bs = []
  sk : x.sk = false
  lost : x.lost = lostE (unE X) (tickF g t).lost
  wait : x.wait = g.wait
theorem tickF_wait (g : Ga) (t : Int) : (tickF g t).wait = g.wait := by unfold tickF; cases tickB g t <;> rfl
theorem tickF_sk (g : Ga) (t : Int) : (tickF g t).sk = g.sk := by unfold tickF; cases tickB g t <;> rfl
theorem StG.tick {g x : Ga} {t : Int} {X : List Int} (hr : RdyG g t) (h : StG g t X x) : (tickF x t).bs = X ∧ (tickF x t).sk = false ∧ (tickF x t).lost = (tickF g t).lost ∧ (tickF x t).wait = g.wait ∧ (X ≠ [] → (tickF x t).began = t) := by
  rcases h with ⟨rfl, rfl⟩ | ⟨hX, h⟩
  · exact ⟨hr.bs, hr.sk, rfl, tickF_wait _ _, fun h => absurd rfl h⟩
  · have e : tickF x t = x := tick_in (.inr (by rw [h.began, h.wait]; have := hr.wait; omega))
    rw [e]
    exact ⟨h.bs, h.sk, h.lost, h.wait, fun _ => h.began⟩
theorem StG.more {g x : Ga} {t : Int} {X p : List Int} (hr : RdyG g t) (h : StG g t X x) (hp : p.length = 48) (hl : (X ++ p).length < 1008) : StG g t (X ++ p) (takeF x t p false) ∧ takeT x t p false = [] ∧ takeM x t p false = 0 ∧ takeE x t p false = 2 := by
  obtain ⟨h1, h2, h3, h4, h5⟩ := h.tick hr
  have hg : (gaddF (tickF x t) t p).bs = X ++ p := by simp only [gaddF, h1]
  obtain ⟨e0, e1, e2, e3⟩ := take_more (g := x) (t := t) (p := p) h2 (by rw [hg]; exact hl)
  refine ⟨.inr ⟨fun e => ?_, ?_⟩, e1, e2, e3⟩
  · have h9 := congrArg List.length e; rw [List.length_append, hp, List.length_nil] at h9; omega
  · rw [e0]
    refine ⟨hg, ?_, h2, h3, h4⟩
    simp only [gaddF, h1]
    by_cases e : X = []
    · rw [if_pos e]
    · rw [if_neg e]; exact h5 e
theorem StG.end {g x : Ga} {t : Int} {X p : List Int} (hr : RdyG g t) (h : StG g t X x) : OutI g t (X ++ p) (takeF x t p true) ∧ takeT x t p true = unT (X ++ p) ∧ takeM x t p true = unM (X ++ p) ∧ takeE x t p true = unE (X ++ p) := by
  obtain ⟨h1, h2, h3, h4, h5⟩ := h.tick hr
  have hg : (gaddF (tickF x t) t p).bs = X ++ p := by simp only [gaddF, h1]
  obtain ⟨e0, e1, e2, e3⟩ := take_last (g := x) (t := t) (p := p) h2
  rw [hg] at e0 e1 e2 e3
  refine ⟨?_, e1, e2, e3⟩
  rw [e0]
  exact ⟨rfl, h2, by simp only [outF, gaddF, h3], h4⟩
theorem StG.of {g x : Ga} {t : Int} {X : List Int} (h : StG g t X x) (hX : X ≠ []) : FedI g t X x := (h.resolve_left fun e => hX e.1).2
/-- A gather that takes the parts of F, each with its mark. -/
def feedG (g : Ga) (t : Int) (F : List Int) (fl : Nat → Bool) : Nat → Ga
  | 0 => g
  | k + 1 => takeF (feedG g t F fl k) t ((F.drop (48 * k)).take 48) (fl k)
def flF (n k : Nat) : Bool := ((n - 48 * k : Nat) : Int) == 48
theorem part_I {F : List Int} {n k : Nat} (hF : F.length = n) (hb : Bytes F) (hk : 48 * k + 48 ≤ n) : ((F.drop (48 * k)).take 48).length = 48 ∧ Bytes ((F.drop (48 * k)).take 48) := ⟨by simp; omega, (hb.drop _).take _⟩
theorem flF_F {n k : Nat} (h : 48 * k + 48 < n) : flF n k = false := by simp only [flF, beq_eq_false_iff_ne]; omega
theorem flF_T {n k : Nat} (h : 48 * k + 48 = n) : flF n k = true := by simp only [flF, beq_iff_eq]; omega
theorem feed_I {g : Ga} {c : Nat} (hI : GaI g c) {t : Int} {F : List Int} {n : Nat} (hF : F.length = n) (hb : Bytes F) (h0 : 0 ≤ t) (h1 : t ≤ 1152921504606846976) (fl : Nat → Bool) : ∀ k, 48 * k ≤ n → GaI (feedG g t F fl k) (c + 3 * k)
  | 0, _ => hI
  | k + 1, h => by
    have ih := feed_I hI hF hb h0 h1 fl k (by omega)
    obtain ⟨p1, p2⟩ := part_I (k := k) hF hb (by omega)
    exact (GaI.take (t := t) (p := (F.drop (48 * k)).take 48) ih (fl k) h0 h1 p1 p2).mono (by omega)
theorem feed_false {g : Ga} {t : Int} (hr : RdyG g t) {F : List Int} {n : Nat} (hF : F.length = n) (hn : n < 1008) {fl : Nat → Bool} : ∀ k, 48 * k ≤ n → (∀ j, j < k → fl j = false) → StG g t (F.take (48 * k)) (feedG g t F fl k)
  | 0, _, _ => .inl ⟨by simp, rfl⟩
  | k + 1, h, hf => by
    have ih := feed_false hr hF hn (fl := fl) k (by omega) (fun j hj => hf j (by omega))
    have hp : ((F.drop (48 * k)).take 48).length = 48 := by simp; omega
    have := (StG.more hr ih hp (by rw [List.length_append, hp, List.length_take]; omega)).1
    have e : F.take (48 * (k + 1)) = F.take (48 * k) ++ (F.drop (48 * k)).take 48 := by rw [show 48 * (k + 1) = 48 * k + 48 by omega, List.take_add]
    rw [e]
    show StG g t _ (takeF _ _ _ (fl k))
    rw [hf k (by omega)]
    exact this
theorem feed_st {g : Ga} {t : Int} (hr : RdyG g t) {F : List Int} {n : Nat} (hF : F.length = n) (hn : n ≤ 1008) (k : Nat) (h : 48 * k < n) : StG g t (F.take (48 * k)) (feedG g t F (flF n) k) := by
  have h2 := feed_false hr (F := F.take (48 * k)) (n := 48 * k) (by simp; omega) (by omega) (fl := flF n) k (by omega) (fun j hj => flF_F (by omega))
  rw [List.take_take, Nat.min_self] at h2
  have : ∀ j, j ≤ k → feedG g t (F.take (48 * k)) (flF n) j = feedG g t F (flF n) j := by
    intro j
    induction j with
    | zero => intro _; rfl
    | succ j ih =>
      intro hj
      show takeF _ _ _ _ = takeF _ _ _ _
      rw [ih (by omega), List.drop_take, List.take_take, Nat.min_eq_left (show 48 ≤ 48 * k - 48 * j by omega)]
  rwa [this k (Nat.le_refl _)] at h2
/-- A part ahead of the last one. -/
theorem feed_mid {g : Ga} {t : Int} (hr : RdyG g t) {F : List Int} {n k : Nat} (hF : F.length = n) (hn : n ≤ 1008) (h : 48 * k + 48 ≤ n) (hl : (((n - 48 * k : Nat) : Int) == 48) = false) :
    takeT (feedG g t F (flF n) k) t ((F.drop (48 * k)).take 48) (((n - 48 * k : Nat) : Int) == 48) = [] ∧ takeE (feedG g t F (flF n) k) t ((F.drop (48 * k)).take 48) (((n - 48 * k : Nat) : Int) == 48) = 2 := by
  have hk : 48 * k + 48 < n := by simp only [beq_eq_false_iff_ne] at hl; omega
  have hp : ((F.drop (48 * k)).take 48).length = 48 := by simp; omega
  obtain ⟨_, e1, _, e3⟩ := StG.more hr (feed_st hr hF hn k (by omega)) hp (by rw [List.length_append, hp, List.length_take]; omega)
  rw [hl]
  exact ⟨e1, e3⟩
/-- The last part. -/
theorem feed_end {g : Ga} {t : Int} (hr : RdyG g t) {F : List Int} {n k : Nat} (hF : F.length = n) (hn : n ≤ 1008) (h : 48 * k + 48 ≤ n) (hl : (((n - 48 * k : Nat) : Int) == 48) = true) :
    OutI g t F (feedG g t F (flF n) (k + 1)) ∧ takeT (feedG g t F (flF n) k) t ((F.drop (48 * k)).take 48) (((n - 48 * k : Nat) : Int) == 48) = unT F ∧ takeM (feedG g t F (flF n) k) t ((F.drop (48 * k)).take 48) (((n - 48 * k : Nat) : Int) == 48) = unM F ∧ takeE (feedG g t F (flF n) k) t ((F.drop (48 * k)).take 48) (((n - 48 * k : Nat) : Int) == 48) = unE F := by
  have hk : 48 * k + 48 = n := by simp only [beq_iff_eq] at hl; omega
  have := StG.end (p := (F.drop (48 * k)).take 48) hr (feed_st hr hF hn k (by omega))
  have e : F.take (48 * k) ++ (F.drop (48 * k)).take 48 = F := by rw [← List.take_add, List.take_of_length_le (by omega)]
  rw [e] at this
  show OutI g t F (takeF _ _ _ (flF n k)) ∧ _
  rw [flF_T hk, hl]
  exact this
theorem feed_done {g : Ga} {t : Int} (hr : RdyG g t) {F : List Int} {n K : Nat} (hF : F.length = n) (hn : n ≤ 1008) (h : n = 48 * K) (h0 : 0 < K) : OutI g t F (feedG g t F (flF n) K) := by
  obtain ⟨k, rfl⟩ : ∃ k, K = k + 1 := ⟨K - 1, by omega⟩
  exact (feed_end hr hF hn (k := k) (by omega) (by simp only [beq_iff_eq]; omega)).1
theorem OutI.good {g x : Ga} {t : Int} {X : List Int} (h : OutI g t X x) (he : unE X = 0) : x.lost = (tickF g t).lost := by rw [h.lost]; unfold lostE; rw [if_pos he]
theorem OutI.bad {g x : Ga} {t : Int} {X : List Int} (h : OutI g t X x) (he : unE X ≠ 0) : x.lost = (tickF g t).lost + 1 := by rw [h.lost]; unfold lostE; rw [if_neg he]
theorem rdy_idle {g : Ga} {t : Int} (h0 : g.bs = []) (h1 : g.sk = false) (h2 : 0 < g.wait) : RdyG g t := by
  have e : tickF g t = g := tick_in (.inl (by rw [h0]; rfl))
  exact ⟨by rw [e]; exact h0, by rw [e]; exact h1, h2⟩
theorem tick_idle {g : Ga} {t : Int} (h0 : g.bs = []) : tickF g t = g := tick_in (.inl (by rw [h0]; rfl))
theorem newG_wait {m : Int} (h0 : 1 ≤ m) (h1 : m ≤ 1152921504606846976) : (newG m).wait = m := by
  show imax 1 (imin m 1152921504606846976) = m
  rw [imin_eq, imax_eq]; omega
/-! ### GatherLate -/
structure LateI (W : Int) (N : Nat) (x : Ga) : Prop where
  bs : x.bs.length = 48 * N
  began : x.began = 5
  sk : x.sk = false
  lost : x.lost = 0
  wait : x.wait = W
theorem late_fed {W : Int} (h0 : 1 ≤ W) (h1 : W ≤ 1152921504606846976) {F : List Int} {N : Nat} (hF : F.length = 48 * N) (hN : 0 < N) (hn : 48 * N < 1008) : LateI W N (feedG (newG W) 5 F (fun _ => false) N) := by
  have hw := newG_wait h0 h1
  have hr : RdyG (newG W) 5 := rdy_idle rfl rfl (by rw [hw]; omega)
  have h := feed_false hr hF hn (fl := fun _ => false) N (Nat.le_refl _) (fun _ _ => rfl)
  rw [List.take_of_length_le (by omega)] at h
  have h := h.of (fun e => by rw [e, List.length_nil] at hF; omega)
  exact ⟨by rw [h.bs, hF], h.began, h.sk, by rw [h.lost, tick_idle rfl]; rfl, by rw [h.wait, hw]⟩
theorem LateI.no {W : Int} {N : Nat} {x : Ga} (h : LateI W N x) {t : Int} (ht : t < 5 + W) : tickB x t = false ∧ tickF x t = x := by
  have e : tickB x t = false := tick_1 (by rw [h.began, h.wait]; omega)
  exact ⟨e, tick_no e⟩
theorem LateI.yes {W : Int} {N : Nat} {x : Ga} (h : LateI W N x) (hN : 0 < N) {t : Int} (ht : t = 5 + W) : tickB x t = true ∧ tickF x t = loseF x := by
  have e : tickB x t = true := tick_2 (by rw [h.bs]; omega) (by rw [h.began, h.wait]; omega)
  exact ⟨e, tick_yes e⟩
theorem LateI.rdy {W : Int} {N : Nat} {x : Ga} (h : LateI W N x) (hN : 0 < N) (hW : 0 < W) {t : Int} (ht : t = 5 + W) : RdyG x t ∧ (tickF x t).lost = 1 ∧ RdyG (loseF x) t ∧ (tickF (loseF x) t).lost = 1 := by
  have e := (h.yes hN ht).2
  refine ⟨⟨by rw [e]; rfl, by rw [e]; exact h.sk, by rw [h.wait]; exact hW⟩, by rw [e]; simp only [loseF, h.lost]; rfl, rdy_idle rfl h.sk (by simp only [loseF, h.wait]; exact hW), ?_⟩
  rw [tick_idle rfl]; simp only [loseF, h.lost]; rfl
theorem lose_idle (x : Ga) (t : Int) : tickB (loseF x) t = false ∧ tickF (loseF x) t = loseF x := ⟨tick_0 rfl, tick_idle rfl⟩
end Go.Proofs.Ytgiefcolkohgkaa
