/- Layer 11: a frame with a part that is left out; parts without an end. -/
import Derived.Test.YtgiefcolkohgkaaGa6
set_option linter.unusedVariables false
set_option linter.unusedSimpArgs false
namespace Go.Proofs.Ytgiefcolkohgkaa
open Go.Vc Go.RowKit
theorem un_many {X : List Int} (h : unE X = 0) : lenF X X.length ≠ 0 ∧ manyN (lenF X X.length) * 48 = X.length ∧ X.length ≠ 0 ∧ X.length % 48 = 0 := by
  unfold unE at h
  dsimp only at h
  by_cases h1 : X.length = 0 ∨ X.length % 48 ≠ 0
  · rw [if_pos h1] at h; omega
  · rw [if_neg h1] at h
    by_cases h2 : (X.drop (X.length - 4)).take (X.length - (X.length - 4)) ≠ sumL (X.take (X.length - 4))
    · rw [if_pos h2] at h; omega
    · rw [if_neg h2] at h
      by_cases h3 : (tailF X X.length).getD 1 0 ≠ 0 ∨ lenF X X.length = 0 ∨ manyN (lenF X X.length) * 48 ≠ X.length
      · rw [if_pos h3] at h; omega
      · exact ⟨fun e => h3 (.inr (.inl e)), Classical.byContradiction fun e => h3 (.inr (.inr e)), fun e => h1 (.inl e), Classical.byContradiction fun e => h1 (.inr e)⟩
theorem lenF_frame {a : List Int} {m : Int} (h0 : 0 < a.length) (h1 : a.length ≤ 1000) (hb : Bytes a) (hm : 0 ≤ m ∧ m < 256) : lenF (frameF a m) (frameF a m).length = a.length := by
  obtain ⟨e0, e1, e2⟩ := frame_un (m := m) h0 h1 hb hm
  obtain ⟨k1, k2, _⟩ := un_many e0
  have hml := (many_le (lenF (frameF a m) (frameF a m).length)).2 (by omega)
  unfold unT at e1
  rw [if_pos e0] at e1
  have := congrArg List.length e1
  rw [List.length_take] at this
  omega
theorem tailF_end {Y Z : List Int} (h : 8 ≤ Z.length) : tailF (Y ++ Z) (Y ++ Z).length = tailF Z Z.length := by
  unfold tailF
  rw [List.length_append, List.drop_append, List.drop_of_length_le (by omega), List.nil_append]
  congr 1
  · omega
  · congr 1; omega
theorem lenF_end {Y Z : List Int} (h : 8 ≤ Z.length) : lenF (Y ++ Z) (Y ++ Z).length = lenF Z Z.length := by
  unfold lenF; rw [tailF_end h]
/-- What ends as a frame does, and is shorter, is none. -/
theorem un_miss {a : List Int} {m : Int} (h0 : 0 < a.length) (h1 : a.length ≤ 1000) (hb : Bytes a) (hm : 0 ≤ m ∧ m < 256) {Y Y' Z : List Int} (hF : frameF a m = Y' ++ Z) (hZ : 8 ≤ Z.length) (hl : (Y ++ Z).length ≠ (frameF a m).length) : unE (Y ++ Z) ≠ 0 := by
  intro e
  obtain ⟨k1, k2, _⟩ := un_many e
  have hL := lenF_frame h0 h1 hb hm
  rw [hF, lenF_end hZ] at hL
  rw [lenF_end hZ, hL] at k2
  have := frameF_len (m := m) h0
  omega
def missX (F : List Int) (q : Nat) : Nat → List Int
  | 0 => []
  | k + 1 => if k = q then missX F q k else missX F q k ++ (F.drop (48 * k)).take 48
def missG (g : Ga) (t : Int) (F : List Int) (fl : Nat → Bool) (q : Nat) : Nat → Ga
  | 0 => g
  | k + 1 => if k = q then missG g t F fl q k else takeF (missG g t F fl q k) t ((F.drop (48 * k)).take 48) (fl k)
theorem miss_skip {g : Ga} {t : Int} {F : List Int} {fl : Nat → Bool} {q k : Nat} (h : k = q) : missG g t F fl q k = missG g t F fl q (k + 1) := by
  show _ = if k = q then _ else _
  rw [if_pos h]
theorem miss_take {g : Ga} {t : Int} {F : List Int} {fl : Nat → Bool} {q k : Nat} (h : k ≠ q) : takeF (missG g t F fl q k) t ((F.drop (48 * k)).take 48) (fl k) = missG g t F fl q (k + 1) := by
  show _ = if k = q then _ else _
  rw [if_neg h]
theorem missX_len {F : List Int} {q : Nat} : ∀ k, 48 * k ≤ F.length → (missX F q k).length = if k ≤ q then 48 * k else 48 * (k - 1)
  | 0, _ => by simp [missX]
  | k + 1, h => by
    have ih := missX_len (F := F) (q := q) k (by omega)
    show (if k = q then _ else _ : List Int).length = _
    by_cases e : k = q
    · rw [if_pos e, ih, if_pos (by omega), if_neg (by omega)]; omega
    · rw [if_neg e, List.length_append, ih, List.length_take, List.length_drop]
      by_cases e2 : k ≤ q
      · rw [if_pos e2, if_pos (by omega)]; omega
      · rw [if_neg e2, if_neg (by omega)]; omega
theorem miss_I {g : Ga} {c : Nat} (hI : GaI g c) {t : Int} {F : List Int} {n : Nat} (hF : F.length = n) (hb : Bytes F) (h0 : 0 ≤ t) (h1 : t ≤ 1152921504606846976) (fl : Nat → Bool) (q : Nat) : ∀ k, 48 * k ≤ n → GaI (missG g t F fl q k) (c + 3 * k)
  | 0, _ => hI
  | k + 1, h => by
    have ih := miss_I hI hF hb h0 h1 fl q k (by omega)
    obtain ⟨p1, p2⟩ := part_I (k := k) hF hb (by omega)
    by_cases e : k = q
    · rw [← miss_skip e]; exact ih.mono (by omega)
    · rw [← miss_take e]; exact (GaI.take (t := t) (p := (F.drop (48 * k)).take 48) ih (fl k) h0 h1 p1 p2).mono (by omega)
theorem miss_st {g : Ga} {t : Int} (hr : RdyG g t) {F : List Int} {n q : Nat} (hF : F.length = n) (hn : n ≤ 1008) : ∀ k, 48 * k < n → StG g t (missX F q k) (missG g t F (flF n) q k)
  | 0, _ => .inl ⟨rfl, rfl⟩
  | k + 1, h => by
    have ih := miss_st hr hF hn (q := q) k (by omega)
    have hp : ((F.drop (48 * k)).take 48).length = 48 := by simp; omega
    have hx := missX_len (F := F) (q := q) k (by omega)
    by_cases e : k = q
    · rw [← miss_skip e]
      show StG g t (if k = q then _ else _) _
      rw [if_pos e]; exact ih
    · have := (StG.more hr ih hp (by rw [List.length_append, hp, hx]; split <;> omega)).1
      rw [← miss_take e]
      show StG g t (if k = q then _ else _) _
      rw [if_neg e, flF_F (by omega)]; exact this
/-- With a part less. -/
theorem miss_res {g : Ga} {t : Int} (hr : RdyG g t) {a : List Int} {m : Int} (h0 : 0 < a.length) (h1 : a.length ≤ 1000) (hb : Bytes a) (hm : 0 ≤ m ∧ m < 256) {n q k : Nat} (hF : (frameF a m).length = n) (hn : n ≤ 1008) (hq : 48 * (q + 1) < n) (hk : 48 * k + 48 ≤ n) (hkq : k ≠ q) :
    takeE (missG g t (frameF a m) (flF n) q k) t (((frameF a m).drop (48 * k)).take 48) (((n - 48 * k : Nat) : Int) == 48) ≠ 0 ∧ takeT (missG g t (frameF a m) (flF n) q k) t (((frameF a m).drop (48 * k)).take 48) (((n - 48 * k : Nat) : Int) == 48) = [] ∧
    (48 * k + 48 = n → OutI g t (missX (frameF a m) q k ++ ((frameF a m).drop (48 * k)).take 48) (missG g t (frameF a m) (flF n) q (k + 1)) ∧ unE (missX (frameF a m) q k ++ ((frameF a m).drop (48 * k)).take 48) ≠ 0) := by
  have hp : (((frameF a m).drop (48 * k)).take 48).length = 48 := by simp; omega
  have hx := missX_len (F := frameF a m) (q := q) k (by omega)
  have hs := miss_st hr hF hn (q := q) k (by omega)
  by_cases hl : 48 * k + 48 = n
  · have e1 : (((n - 48 * k : Nat) : Int) == 48) = true := by simp only [beq_iff_eq]; omega
    have hE := StG.end (p := ((frameF a m).drop (48 * k)).take 48) hr hs
    have hu : unE (missX (frameF a m) q k ++ ((frameF a m).drop (48 * k)).take 48) ≠ 0 := by
      refine un_miss h0 h1 hb hm (Y' := (frameF a m).take (48 * k)) ?_ (by omega) (by rw [List.length_append, hp, hx, hF]; split <;> omega)
      rw [← List.take_add, List.take_of_length_le (by omega)]
    rw [e1]
    refine ⟨by rw [hE.2.2.2]; exact hu, by rw [hE.2.1]; exact (un_err rfl hu).1, fun _ => ⟨?_, hu⟩⟩
    rw [← miss_take hkq, flF_T hl]
    exact hE.1
  · have e1 : (((n - 48 * k : Nat) : Int) == 48) = false := by simp only [beq_eq_false_iff_ne]; omega
    have hE := StG.more hr hs hp (by rw [List.length_append, hp, hx]; split <;> omega)
    rw [e1]
    exact ⟨by rw [hE.2.2.2]; decide, hE.2.1, fun h => absurd h hl⟩
theorem miss_done {g : Ga} {t : Int} (hr : RdyG g t) {a : List Int} {m : Int} (h0 : 0 < a.length) (h1 : a.length ≤ 1000) (hb : Bytes a) (hm : 0 ≤ m ∧ m < 256) {n q K : Nat} (hF : (frameF a m).length = n) (hn : n ≤ 1008) (hq : 48 * (q + 1) < n) (hK : n = 48 * K) :
    (missG g t (frameF a m) (flF n) q K).bs = [] ∧ (missG g t (frameF a m) (flF n) q K).sk = false ∧ (missG g t (frameF a m) (flF n) q K).wait = g.wait ∧ (missG g t (frameF a m) (flF n) q K).lost = (tickF g t).lost + 1 := by
  obtain ⟨k, rfl⟩ : ∃ k, K = k + 1 := ⟨K - 1, by omega⟩
  obtain ⟨h, hu⟩ := (miss_res hr h0 h1 hb hm hF hn hq (k := k) (by omega) (by omega)).2.2 (by omega)
  exact ⟨h.bs, h.sk, h.wait, h.bad hu⟩
/-! ### Parts without an end -/
def longG (p : List Int) : Nat → Ga
  | 0 => newG 1000
  | k + 1 => takeF (longG p k) 0 p false
def repP (p : List Int) : Nat → List Int
  | 0 => []
  | k + 1 => repP p k ++ p
theorem repP_len {p : List Int} (hp : p.length = 48) : ∀ k, (repP p k).length = 48 * k
  | 0 => rfl
  | k + 1 => by show (repP p k ++ p).length = _; rw [List.length_append, repP_len hp k, hp]; omega
theorem long_rdy : RdyG (newG 1000) 0 := rdy_idle rfl rfl (by decide)
theorem long_st {p : List Int} (hp : p.length = 48) : ∀ k, k < 21 → StG (newG 1000) 0 (repP p k) (longG p k)
  | 0, _ => .inl ⟨rfl, rfl⟩
  | k + 1, h => (StG.more long_rdy (long_st hp k (by omega)) hp (by rw [List.length_append, repP_len hp, hp]; omega)).1
theorem long_I {p : List Int} (hp : p.length = 48) (hb : Bytes p) : ∀ k, GaI (longG p k) (3 * k)
  | 0 => GaI.new _
  | k + 1 => (GaI.take (t := 0) (p := p) (long_I hp hb k) false (by decide) (by decide) hp hb).mono (by omega)
theorem long_E {p : List Int} (hp : p.length = 48) {k : Nat} (hk : k < 21) : takeE (longG p k) 0 p false = if k = 20 then 6 else 2 := by
  obtain ⟨h1, h2, h3, h4, h5⟩ := (long_st hp k hk).tick long_rdy
  have hg : (gaddF (tickF (longG p k) 0) 0 p).bs.length = 48 * (k + 1) := by simp only [gaddF, h1, List.length_append, repP_len hp, hp]; omega
  by_cases e : k = 20
  · rw [if_pos e]; exact (take_long h2 (by rw [hg]; omega)).2.2.2
  · rw [if_neg e]; exact (take_more h2 (by rw [hg]; omega)).2.2.2
/-- Skipping. -/
structure SkpI (x : Ga) : Prop where
  bs : x.bs = []
  sk : x.sk = true
  lost : x.lost = 1
  wait : x.wait = 1000
theorem long_last {p : List Int} (hp : p.length = 48) {x : Ga} {X : List Int} (hX : X.length = 960) (h : StG (newG 1000) 0 X x) : SkpI (takeF x 0 p false) := by
  obtain ⟨h1, h2, h3, h4, h5⟩ := h.tick long_rdy
  rw [tick_idle (show (newG 1000).bs = [] from rfl)] at h3
  have hg : (gaddF (tickF x 0) 0 p).bs.length = 48 * 21 := by simp only [gaddF, h1, List.length_append, hX, hp]
  have e := (take_long (p := p) h2 (by rw [hg]; omega)).1
  rw [e]
  generalize tickF x 0 = y at *
  have h9 : y.lost + 1 = 1 := by rw [h3]; rfl
  exact ⟨rfl, rfl, h9, h4⟩
theorem long_21 {p : List Int} (hp : p.length = 48) : SkpI (longG p 21) := long_last hp (repP_len hp 20) (long_st hp 20 (by decide))
theorem SkpI.take {x : Ga} (h : SkpI x) (t : Int) (p : List Int) (l : Bool) : takeF x t p l = { x with sk := !l } ∧ takeT x t p l = [] ∧ takeM x t p l = 0 ∧ takeE x t p l = 2 := by
  have e : tickF x t = x := tick_idle h.bs
  have := take_skip (g := x) (t := t) (p := p) (last := l) (by rw [e]; exact h.sk)
  rwa [e] at this
theorem SkpI.go {x : Ga} (h : SkpI x) (t : Int) (p : List Int) : takeF x t p false = x := by
  rw [(h.take t p false).1]
  have := h.sk
  cases x
  simp_all
theorem SkpI.rdy {x : Ga} (h : SkpI x) (t t' : Int) (p : List Int) : RdyG (takeF x t p true) t' ∧ (tickF (takeF x t p true) t').lost = 1 := by
  rw [(h.take t p true).1]
  refine ⟨rdy_idle h.bs rfl (by show 0 < x.wait; rw [h.wait]; decide), ?_⟩
  rw [tick_idle (show ({ x with sk := !true } : Ga).bs = [] from h.bs)]
  exact h.lost
theorem long_cmp {p : List Int} (hp : p.length = 48) {k : Nat} (hk : k < 21) : (!((takeE (longG p k) 0 p false == 6) == (((k : Nat) : Int) == 20))) = false := by
  rw [long_E hp hk]
  by_cases e : k = 20
  · subst e; rfl
  · rw [if_neg e]
    have : (((k : Nat) : Int) == 20) = false := by simp only [beq_eq_false_iff_ne]; omega
    rw [this]; rfl
theorem long_ok {p : List Int} (hp : p.length = 48) {k : Nat} (hk : k < 21) : (takeE (longG p k) 0 p false == 0) = false := by
  rw [long_E hp hk]
  by_cases e : k = 20
  · rw [if_pos e]; rfl
  · rw [if_neg e]; rfl
theorem SkpI.parts {x : Ga} (h : SkpI x) : (((x.bs.length / 48 : Nat) : Int) != 0) = false := by rw [h.bs]; rfl
end Go.Proofs.Ytgiefcolkohgkaa
