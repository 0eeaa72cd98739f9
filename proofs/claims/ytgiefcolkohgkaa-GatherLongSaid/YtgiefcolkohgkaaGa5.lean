/- Layer 11: what a gather does, without Go. -/
import Derived.Test.YtgiefcolkohgkaaGa3
set_option linter.unusedVariables false
set_option linter.unusedSimpArgs false
namespace Go.Proofs.Ytgiefcolkohgkaa
open Go.Vc Go.RowKit
/-- In time: nothing waits, or not too long. -/
def inT (g : Ga) (t : Int) : Prop := g.bs.length = 0 ∨ t - g.began < g.wait
theorem tick_in {g : Ga} {t : Int} (h : inT g t) : tickF g t = g := tick_no (h.elim tick_0 tick_1)
theorem take_part {g : Ga} {t : Int} {p : List Int} (hs : g.sk = false) (h : inT g t) (hl : (g.bs ++ p).length < 1008) : takeF g t p false = gaddF g t p ∧ takeT g t p false = [] ∧ takeM g t p false = 0 ∧ takeE g t p false = 2 := by
  have e := tick_in h
  have := take_more (g := g) (t := t) (p := p) (by rw [e]; exact hs) (by rw [e]; exact hl)
  rwa [e] at this
theorem take_end {g : Ga} {t : Int} {p : List Int} (hs : g.sk = false) (h : inT g t) : takeF g t p true = outF (gaddF g t p) (g.bs ++ p) ∧ takeT g t p true = unT (g.bs ++ p) ∧ takeM g t p true = unM (g.bs ++ p) ∧ takeE g t p true = unE (g.bs ++ p) := by
  have e := tick_in h
  have := take_last (g := g) (t := t) (p := p) (by rw [e]; exact hs)
  rwa [e] at this
/-! ### later by as much -/
structure ShG (g g' : Ga) (d : Int) : Prop where
  wait : g'.wait = g.wait
  bs : g'.bs = g.bs
  lost : g'.lost = g.lost
  sk : g'.sk = g.sk
  began : g.bs ≠ [] → g'.began = g.began + d
def shq (q : Nat → Pa) (d : Int) : Nat → Pa := fun i => { q i with t := (q i).t + d }
theorem ShG.refl (g : Ga) (h : g.bs = []) (d : Int) : ShG g g d := ⟨rfl, rfl, rfl, rfl, fun h' => absurd h h'⟩
theorem ShG.tickB {g g' : Ga} {d : Int} (h : ShG g g' d) (t : Int) : tickB g' (t + d) = tickB g t := by
  unfold Go.Proofs.Ytgiefcolkohgkaa.tickB
  rw [h.bs, h.wait]
  by_cases e : g.bs.length = 0
  · simp [e]
  · rw [h.began (fun e2 => e (by rw [e2]; rfl)), show t + d - (g.began + d) = t - g.began by omega]
theorem ShG.lose {g g' : Ga} {d : Int} (h : ShG g g' d) : ShG (loseF g) (loseF g') d := ⟨h.wait, rfl, by simp only [loseF, h.lost], h.sk, fun e => absurd rfl e⟩
theorem ShG.tick {g g' : Ga} {d : Int} (h : ShG g g' d) (t : Int) : ShG (tickF g t) (tickF g' (t + d)) d := by
  unfold tickF
  rw [h.tickB t]
  cases Go.Proofs.Ytgiefcolkohgkaa.tickB g t
  · exact h
  · exact h.lose
theorem ShG.add {g g' : Ga} {d : Int} (h : ShG g g' d) (t : Int) (p : List Int) : ShG (gaddF g t p) (gaddF g' (t + d) p) d := by
  refine ⟨h.wait, by simp only [gaddF, h.bs], h.lost, h.sk, fun _ => ?_⟩
  simp only [gaddF, h.bs]
  by_cases e : g.bs = []
  · rw [if_pos e, if_pos e]
  · rw [if_neg e, if_neg e, h.began e]
theorem ShG.out {g g' : Ga} {d : Int} (h : ShG g g' d) (ps : List Int) : ShG (outF g ps) (outF g' ps) d := ⟨h.wait, rfl, by simp only [outF, h.lost], h.sk, fun e => absurd rfl e⟩
theorem ShG.skip {g g' : Ga} {d : Int} (h : ShG g g' d) (b : Bool) : ShG { g with sk := b } { g' with sk := b } d := ⟨h.wait, h.bs, h.lost, rfl, h.began⟩
theorem ShG.take {g g' : Ga} {d : Int} (h : ShG g g' d) (t : Int) (p : List Int) (l : Bool) : ShG (takeF g t p l) (takeF g' (t + d) p l) d ∧ takeT g' (t + d) p l = takeT g t p l ∧ takeM g' (t + d) p l = takeM g t p l ∧ takeE g' (t + d) p l = takeE g t p l := by
  have h1 := h.tick t
  have h2 := h1.add t p
  unfold takeF takeT takeM takeE
  dsimp only
  refine ⟨?_, by rw [h1.sk, h1.bs], by rw [h1.sk, h1.bs], by rw [h1.sk, h1.bs]⟩
  rw [h1.sk]
  cases (tickF g t).sk
  · simp only [cond_false]
    rw [h2.bs]
    cases l
    · simp only [cond_false]
      split
      · exact h2
      · exact h2.lose.skip true
    · exact h2.out _
  · exact h1.skip _
theorem ShG.step {g g' : Ga} {d : Int} (h : ShG g g' d) (x : Pa) : ShG (stepG g x) (stepG g' { x with t := x.t + d }) d := by
  unfold stepG
  dsimp only
  cases x.tick
  · exact (h.take x.t x.ps x.last).1
  · exact h.tick x.t
theorem ShG.walk (m : Int) (q : Nat → Pa) (d : Int) (k : Nat) : ShG (gwalk (newG m) q k) (gwalk (newG m) (shq q d) k) d := by
  induction k with
  | zero => exact ShG.refl _ rfl d
  | succ k ih => exact ih.step (q k)
theorem shq_I {q : Nat → Pa} (h : ∀ i, PaI (q i)) (d : Int) (i : Nat) : PaI (shq q d i) := h i
/-! ### awake -/
def awF : List Int := frameF (List.replicate 41 0) 7
def aw1 : List Int := awF.take 48
def aw2 : List Int := awF.drop 48
theorem awF_len : awF.length = 96 := by
  unfold awF
  rw [frameF_len (by simp)]
  simp [manyN]
theorem aw2_eq : (((frameF (List.replicate 41 0) 7).drop 48).take ((48 * manyN 41) - 48)).take 48 = aw2 := by
  have h := awF_len
  have hm : 48 * manyN 41 - 48 = 48 := by decide
  show ((awF.drop 48).take (48 * manyN 41 - 48)).take 48 = aw2
  rw [hm, List.take_take]
  exact List.take_of_length_le (by rw [List.length_drop]; omega)
theorem aw1_I : aw1.length = 48 ∧ Bytes aw1 := ⟨by simp [aw1, awF_len], (frame_bytes (fun x hx => by have := List.eq_of_mem_replicate hx; omega) (by decide)).take _⟩
theorem aw2_I : aw2.length = 48 ∧ Bytes aw2 := ⟨by simp [aw2, awF_len], (frame_bytes (fun x hx => by have := List.eq_of_mem_replicate hx; omega) (by decide)).drop _⟩
theorem aw_un : unE awF = 0 ∧ unT awF = List.replicate 41 0 ∧ unM awF = 7 := frame_un (bs := List.replicate 41 0) (by simp) (by simp) (fun x hx => by have := List.eq_of_mem_replicate hx; omega) (by decide)
theorem aw_1 : takeF (newG 10) 0 aw1 false = gaddF (newG 10) 0 aw1 ∧ takeT (newG 10) 0 aw1 false = [] ∧ takeM (newG 10) 0 aw1 false = 0 ∧ takeE (newG 10) 0 aw1 false = 2 :=
  take_part rfl (.inl rfl) (by have := aw1_I.1; simp only [newG, List.nil_append]; omega)
theorem aw_2 : takeF (takeF (newG 10) 0 aw1 false) 1 aw2 true = outF (gaddF (gaddF (newG 10) 0 aw1) 1 aw2) awF ∧ takeT (takeF (newG 10) 0 aw1 false) 1 aw2 true = List.replicate 41 0 ∧ takeM (takeF (newG 10) 0 aw1 false) 1 aw2 true = 7 ∧ takeE (takeF (newG 10) 0 aw1 false) 1 aw2 true = 0 := by
  rw [aw_1.1]
  obtain ⟨u0, u1, u2⟩ := aw_un
  have hb : (gaddF (newG 10) 0 aw1).bs ++ aw2 = awF := by
    show ([] ++ aw1) ++ aw2 = awF
    rw [List.nil_append]; exact List.take_append_drop 48 awF
  have h := take_end (g := gaddF (newG 10) 0 aw1) (t := 1) (p := aw2) rfl (.inr (by decide))
  rw [hb, u0, u1, u2] at h
  exact h
theorem aw_3 : (takeF (newG 10) 0 aw1 false).bs.length / 48 = 1 := by
  rw [aw_1.1]
  have := aw1_I.1
  simp only [gaddF, newG, List.nil_append]; omega
theorem aw_4 : (takeF (takeF (newG 10) 0 aw1 false) 1 aw2 true).bs.length / 48 = 0 := by rw [aw_2.1]; simp [outF]
theorem aw_5 : (takeF (takeF (newG 10) 0 aw1 false) 1 aw2 true).lost = 0 := by
  rw [aw_2.1]
  simp only [outF, lostE, aw_un.1, if_true]
  rfl
end Go.Proofs.Ytgiefcolkohgkaa
