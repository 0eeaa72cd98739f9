/- Messages that are handed in. -/
import Derived.Test.YtejpcmjokamdcaaIe5
set_option linter.unusedVariables false
set_option linter.unusedSimpArgs false
namespace Go.Proofs.Ytejpcmjokamdcaa
open Go.Vc Go.RowKit Go.ChangeShapes Go.WideShapes Go.ChangeAt
section
variable {H : Type} {enc : TypeId × Value → H} {P : Program} {w : World} {spare : Nat → Bool} {held : Bool}
structure IsMsg (P : Program) (m : TypeId) : Prop where
  fs : ∃ fs f0 f1 f2 f3 e, P.underlying m = some (.struct fs) ∧ fs.toList = [f0, f1, f2, f3] ∧ f0.offset = 0 ∧ f1.offset = 1 ∧ f2.offset = 2 ∧ f3.offset = 3 ∧ P.cellsOf f0.type = 1 ∧ P.cellsOf f1.type = 1 ∧ P.cellsOf f2.type = 1 ∧ P.cellsOf f3.type = 1 ∧
    P.underlying f0.type = some (.int .i64) ∧ P.underlying f1.type = some .bool ∧ P.underlying f2.type = some (.int .i64) ∧ P.underlying f3.type = some (.slice e) ∧ P.cellsOf e = 2 ∧ IsIe P e ∧ P.cellsOf m = 4
theorem open_msg {m : TypeId} {v : Value} {d : DataW H} {ps : List MemPlace} (hm : IsMsg P m) (h : DataW.Trod enc P w 0 spare held m v d ps) {rr : Reach} {b0 : Nat} (hag : isAggB P m = true) (hval : Value.okWide P w rr b0 m v) :
    ∃ r bk k A n c l, v = .agg #[.int .i64 r, .bool bk, .int .i64 k, .slice A n c] ∧ n ≤ c ∧ c ≤ maxLen ∧ l.length = n ∧ Ies w 0 w.heap.size A l ∧ ∀ x ∈ l, IeB x := by
  obtain ⟨f, hf⟩ := h
  have hv : ∃ cs, v = .agg cs := by
    unfold isAggB at hag
    unfold Value.okWide at hval
    cases hu : P.underlying m with
    | none => rw [hu] at hag; cases hag
    | some u =>
      rw [hu] at hag hval
      cases u <;> simp at hag
      · obtain ⟨cs, rfl, _⟩ := hval; exact ⟨cs, rfl⟩
      · obtain ⟨cs, rfl, _⟩ := hval; exact ⟨cs, rfl⟩
  obtain ⟨cs, rfl⟩ := hv
  obtain ⟨fs, f0, f1, f2, f3, e, h1, h2, o0, o1, o2, o3, c0, c1, c2, c3, u0, u1, u2, u3, ce, he, cm⟩ := hm.fs
  obtain ⟨f', hl, hg⟩ := trod_struct h1 hf
  rw [cm] at hl
  have hcs : (Value.agg cs).cells.toList = cs.toList := rfl
  rw [hcs] at hl hg
  obtain ⟨L, hL⟩ : ∃ L, L = cs.toList := ⟨_, rfl⟩
  rw [← hL] at hl hg
  obtain ⟨v0, v1, v2, v3, rfl⟩ : ∃ v0 v1 v2 v3, L = [v0, v1, v2, v3] := by
    clear hL hg
    rcases L with _ | ⟨v0, _ | ⟨v1, _ | ⟨v2, _ | ⟨v3, _ | ⟨v4, q⟩⟩⟩⟩⟩ <;> first | exact ⟨_, _, _, _, rfl⟩ | (simp at hl)
  obtain ⟨y0, g0⟩ := hg f0 (by rw [h2]; simp)
  obtain ⟨y1, g1⟩ := hg f1 (by rw [h2]; simp)
  obtain ⟨y2, g2⟩ := hg f2 (by rw [h2]; simp)
  obtain ⟨y3, g3⟩ := hg f3 (by rw [h2]; simp)
  rw [o0, c0] at g0
  rw [o1, c1] at g1
  rw [o2, c2] at g2
  rw [o3, c3] at g3
  obtain ⟨r, hr, _⟩ := trod_int u0 g0
  obtain ⟨bk, hb⟩ := trod_bool u1 g1
  obtain ⟨k, hk, _⟩ := trod_int u2 g2
  obtain ⟨A, n, c, f9, hs, q1, q2, q3⟩ := trod_slice u3 ce (by decide) g3
  obtain ⟨l, q4, q5, q6⟩ := ies_of he q3
  simp at hr hb hk hs
  subst hr; subst hb; subst hk; subst hs
  refine ⟨r, bk, k, A, n, c, l, ?_, q1, q2, q4, q5, q6⟩
  rw [← Array.toArray_toList (xs := cs), ← hL]
end
end Go.Proofs.Ytejpcmjokamdcaa
