/- The document's table of numbers by connections, in plain Lean. -/
import Derived.Test.YtfkahhkojlfmdaaCnh
set_option linter.unusedVariables false
set_option linter.unusedSimpArgs false
namespace Go.Proofs.Ytfkahhkojlfmdaa
open Go.Vc Go.RowKit
/-- The document's table at p: its list lies in [lo, ..). -/
def Rt (w : World) (p lo : Nat) (room : Int) (L : List Ent) : Prop := ∃ A n c hi, Own w p #[.slice A n c, .int .i64 room] 54 ∧ L.length = n ∧ n ≤ c ∧ hi ≤ w.heap.size ∧ Sl2 w lo hi A (flat Ent.cells L)
section
variable {w w' : World} {p lo : Nat} {room : Int} {L : List Ent}
theorem Rt.lt (h : Rt w p lo room L) : p < w.heap.size := by obtain ⟨A, n, c, hi, ho, _⟩ := h; exact ho.lt
theorem Rt.no (h : Rt w p lo room L) (hs : Step No w w') : Rt w' p lo room L := by
  obtain ⟨A, n, c, hi, ho, hn, hc, hh, hv⟩ := h
  exact ⟨A, n, c, hi, ho.no hs, hn, hc, Nat.le_trans hh hs.size, hv.step hs fun k _ _ h => h⟩
theorem Rt.step {F : Nat → Prop} (h : Rt w p lo room L) (hs : Step F w w') (hF : ¬ F p) (hG : ∀ k, lo ≤ k → k < w.heap.size → ¬ F k) : Rt w' p lo room L := by
  obtain ⟨A, n, c, hi, ho, hn, hc, hh, hv⟩ := h
  exact ⟨A, n, c, hi, ho.step hs hF, hn, hc, Nat.le_trans hh hs.size, hv.step hs fun k h1 h2 => hG k h1 (by omega)⟩
end
/-! ### Where a key lies in a list -/
def atI (L : List Ent) (p v c : Int) : Int := match L.findIdx? (fun x => keyIs x p v c) with | some i => (i : Int) | none => -1
theorem keyIs_iff {x : Ent} {p v c : Int} : keyIs x p v c = true ↔ x.p = p ∧ x.v = v ∧ x.c = c := by simp [keyIs]
theorem atI_hit {L : List Ent} {p v c : Int} {i : Nat} {y : Ent} (hb : ∀ j, j < i → ∀ x, L[j]? = some x → keyIs x p v c = false) (hy : L[i]? = some y) (hk : keyIs y p v c = true) : atI L p v c = i := by
  have : L.findIdx? (fun x => keyIs x p v c) = some i := by
    obtain ⟨hi, rfl⟩ := List.getElem?_eq_some_iff.1 hy
    rw [List.findIdx?_eq_some_iff_getElem]
    exact ⟨hi, hk, fun j hj => by rw [hb j hj _ (List.getElem?_eq_getElem (by omega))]; simp⟩
  unfold atI; rw [this]
theorem atI_none {L : List Ent} {p v c : Int} (hb : ∀ j, j < L.length → ∀ x, L[j]? = some x → keyIs x p v c = false) : atI L p v c = -1 := by
  have : L.findIdx? (fun x => keyIs x p v c) = none := by
    rw [List.findIdx?_eq_none_iff]
    intro x hx
    obtain ⟨j, hj, rfl⟩ := List.mem_iff_getElem.1 hx
    exact hb j hj _ (List.getElem?_eq_getElem hj)
  unfold atI; rw [this]
theorem atI_cases (L : List Ent) (p v c : Int) : (atI L p v c = -1 ∧ lookE L p v c = none) ∨ (∃ i y, atI L p v c = (i : Nat) ∧ L[i]? = some y ∧ y.p = p ∧ y.v = v ∧ y.c = c ∧ lookE L p v c = some y.n) := by
  cases hf : L.findIdx? (fun x => keyIs x p v c) with
  | none =>
    left
    refine ⟨by unfold atI; rw [hf], ?_⟩
    rw [List.findIdx?_eq_none_iff] at hf
    exact lookE_none.2 fun y hy e => by have := hf y hy; rw [keyIs_iff.2 e] at this; cases this
  | some i =>
    right
    rw [List.findIdx?_eq_some_iff_getElem] at hf
    obtain ⟨hi, hk, hb⟩ := hf
    refine ⟨i, L[i], ?_, List.getElem?_eq_getElem hi, (keyIs_iff.1 hk).1, (keyIs_iff.1 hk).2.1, (keyIs_iff.1 hk).2.2, ?_⟩
    · refine atI_hit (fun j hj x hx => ?_) (List.getElem?_eq_getElem hi) hk
      obtain ⟨hj2, rfl⟩ := List.getElem?_eq_some_iff.1 hx
      simpa using hb j hj
    · unfold lookE
      have : L.find? (fun x => keyIs x p v c) = some L[i] := by
        rw [List.find?_eq_some_iff_getElem]
        exact ⟨hk, i, hi, rfl, fun j hj => by simpa using hb j hj⟩
      rw [this]; rfl
/-- Without the one at a place. -/
theorem delE_at {L : List Ent} (h : SrtE L) {i : Nat} {y : Ent} (hy : L[i]? = some y) : delE L y.p y.v y.c = L.take i ++ L.drop (i + 1) := by
  obtain ⟨hi, e⟩ := List.getElem?_eq_some_iff.1 hy
  have hsp : L = L.take i ++ y :: L.drop (i + 1) := by rw [← e, ← List.drop_eq_getElem_cons hi, List.take_append_drop]
  have hp := h
  rw [hsp] at hp
  obtain ⟨h1, h2, h3⟩ := List.pairwise_append.1 hp
  obtain ⟨h4, h5⟩ := List.pairwise_cons.1 h2
  rw [show delE L y.p y.v y.c = delE (L.take i ++ y :: L.drop (i + 1)) y.p y.v y.c from congrArg (fun l => delE l y.p y.v y.c) hsp]
  unfold delE
  rw [List.filter_append, List.filter_cons_of_neg (by simp [keyIs])]
  congr 1
  · refine List.filter_eq_self.2 fun x hx => ?_
    have := befE_ne (h3 x hx y (by simp))
    unfold keyIs; rw [decide_eq_false this]; rfl
  · refine List.filter_eq_self.2 fun x hx => ?_
    have := befE_ne (h4 x hx)
    unfold keyIs; rw [decide_eq_false fun e => this ⟨e.1.symm, e.2.1.symm, e.2.2.symm⟩]; rfl
theorem aheadE_step {L : List Ent} {i : Nat} {y : Ent} {p v c : Int} (hy : L[i]? = some y) (hb : befK y.p y.v y.c p v c = true) : aheadE (L.drop i) p v c = aheadE (L.drop (i + 1)) p v c + 1 := by
  obtain ⟨hi, rfl⟩ := List.getElem?_eq_some_iff.1 hy
  rw [List.drop_eq_getElem_cons hi, aheadE, hb]; rfl
theorem aheadE_stop {L : List Ent} {i : Nat} {y : Ent} {p v c : Int} (hy : L[i]? = some y) (hb : befK y.p y.v y.c p v c = false) : aheadE (L.drop i) p v c = 0 := by
  obtain ⟨hi, rfl⟩ := List.getElem?_eq_some_iff.1 hy
  rw [List.drop_eq_getElem_cons hi, aheadE, hb]; rfl
end Go.Proofs.Ytfkahhkojlfmdaa
