/- Layer 21: lists of maintenance cells, side by side. -/
import Derived.Test.YtkimbomnbaogjaaAl16
set_option linter.unusedVariables false
set_option linter.unusedSimpArgs false
namespace Go.Proofs.Ytkimbomnbaogjaa
open Go.Vc
/-- Cells of n things lie from a block's beginning on. -/
def OmsAt (w : World) (c N : Nat) (f : Nat → Om) : Prop := ∀ k, k < N → ∀ j, j < 36 → w.cell? ⟨c, k * 36 + j, none⟩ = (omL (f k))[j]?
theorem OmsAt.load {w w1 : World} {c N : Nat} {f : Nat → Om} (h : OmsAt w c N f) (hs : Step No w w1) {P : Program} {t : TypeId} (ht : aggB P t = some 36) (k : Nat) (hk : k < N) : Loads P t w1 ⟨c, k * 36, none⟩ (.agg (omL (f k)).toArray) := by
  refine Loads.cells ht _ rfl fun j hj => ?_
  rw [add_none]
  have := h k hk j hj
  rw [List.getElem?_eq_getElem (by simpa [omL] using hj)] at this
  rw [hs.cell id this]
  simp
theorem om_ne (o : Om) : (!cellsEq (omL o) (omL o)) = false := by
  rw [(cellsEq_iff (ks := omLs) (by simp [CellsAre, omL, Leaf.has, omLs, u8s, rep]) (by simp [CellsAre, omL, Leaf.has, omLs, u8s, rep])).2 rfl]; rfl
theorem flat_get (l : List Om) : ∀ k, k < l.length → ∀ j, j < 36 → (l.flatMap omL)[k * 36 + j]? = (omL (l.getD k chk))[j]? := by
  induction l with
  | nil => intro k hk; cases hk
  | cons o l ih =>
    intro k hk j hj
    rw [List.flatMap_cons]
    have hlen : (omL o).length = 36 := rfl
    cases k with
    | zero => rw [List.getElem?_append_left (by omega)]; simp
    | succ k =>
      rw [List.getElem?_append_right (by omega), hlen, show (k + 1) * 36 + j - 36 = k * 36 + j by omega, ih k (by simpa using hk) j hj]
      simp
end Go.Proofs.Ytkimbomnbaogjaa
