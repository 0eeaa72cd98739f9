/- Layer 21: what AlarmPlays wants besides. -/
import Derived.Test.YtkimbomnbaogjaaAl18
set_option linter.unusedVariables false
set_option linter.unusedSimpArgs false
namespace Go.Proofs.Ytkimbomnbaogjaa
open Go.Vc
theorem OpsB.all {w w1 : World} {b o n : Nat} {q : Nat → OpA} (h : OpsB w b o n q) (hs : Step No w w1) {P : Program} {t : TypeId} (ht : aggB P t = some 38) (i : Nat) (hi : i < n) : Loads P t w1 ⟨b, o + i * 38, none⟩ (.agg (opL (q i)).toArray) := by
  refine Loads.cells ht _ rfl fun j hj => ?_
  rw [add_none]
  have := h i hi j (by omega)
  rw [List.getElem?_eq_getElem (by simpa [opL, omL] using hj)] at this
  rw [hs.cell id this]
  simp
theorem oms_own {w : World} {c T : Nat} {l : List Om} (h : Own w c (omsC l) T) : OmsAt w c l.length (fun k => l.getD k chk) := by
  intro k hk j hj
  rw [h.cell, omsC]
  simpa using flat_get l k hk j hj
theorem oms_row {w : World} {base T : Nat} {v : Value} {l : List Om} (h : w.ownsRow base T 36 v l.length (l.flatMap omL)) (hl : l ≠ []) : ∃ g cap, v = .slice (some ⟨g, 0, none⟩) l.length cap ∧ base ≤ g ∧ OmsAt w g l.length (fun k => l.getD k chk) := by
  rcases h.2 with ⟨_, h0⟩ | ⟨g, cap, cur, hv, hb, hg, _, _, _, hx⟩
  · exact absurd (List.eq_nil_of_length_eq_zero h0) hl
  · refine ⟨g, cap, hv, hb, fun k hk j hj => ?_⟩
    rw [show w.cell? ⟨g, k * 36 + j, none⟩ = cur[k * 36 + j]? from Own.cell (w := w) hg _, ← flat_get l k hk j hj, ← hx, List.getElem?_take]
    have : k * 36 + j < l.length * 36 := by omega
    rw [if_pos this]
    simp
theorem OmsAt.no {w w1 : World} {c N : Nat} {f : Nat → Om} (h : OmsAt w c N f) (hs : Step No w w1) : OmsAt w1 c N f := by
  intro k hk j hj
  have := h k hk j hj
  rw [List.getElem?_eq_getElem (by simpa [omL] using hj)] at this ⊢
  exact hs.cell id this
theorem stepE_1 {s : Al} {x : OpA} (h : x.do_ = 1) : gotA s x.t x.o = stepA s x := by unfold stepA; rw [if_pos h]
theorem stepE_2 {s : Al} {x : OpA} (h1 : x.do_ ≠ 1) (h : x.do_ = 2) : userA s = stepA s x := by unfold stepA; rw [if_neg h1, if_pos h]
theorem stepE_3 {s : Al} {x : OpA} (h1 : x.do_ ≠ 1) (h2 : x.do_ ≠ 2) (h : x.do_ = 3 ∨ x.do_ = 4) : downA s (x.do_ == 3) = stepA s x := by unfold stepA; rw [if_neg h1, if_neg h2, if_pos h]
theorem stepE_0 {s : Al} {x : OpA} (h1 : x.do_ ≠ 1) (h2 : x.do_ ≠ 2) (h3 : x.do_ ≠ 3) (h4 : x.do_ ≠ 4) : s = stepA s x := by unfold stepA; rw [if_neg h1, if_neg h2, if_neg (by omega)]
theorem send_ne (s : Al) (t : Int) : sendL s t ≠ [] := by unfold sendL; split <;> (try split) <;> simp
theorem send_len (s : Al) (t : Int) : (sendL s t).length < 1000 := by unfold sendL; split <;> (try split) <;> simp
end Go.Proofs.Ytkimbomnbaogjaa
