/- Contracts and keys that are handed in. -/
import Derived.Test.YtpfggjaoinfegaaIe5
import Derived.Test.YtpfggjaoinfegaaIe6
set_option linter.unusedVariables false
set_option linter.unusedSimpArgs false
namespace Go.Proofs.Ytpfggjaoinfegaa
open Go.Vc Go.RowKit Go.ChangeShapes Go.WideShapes Go.ChangeAt
theorem cw_cons {vs : List Value} {k : Leaf} {ks : List Leaf} (h : CellsW vs (k :: ks)) : ∃ v r, vs = v :: r ∧ k.hasW v ∧ CellsW r ks := by
  cases vs with
  | nil => exact h.elim
  | cons v r => exact ⟨v, r, rfl, h.1, h.2⟩
theorem cw_nil {vs : List Value} (h : CellsW vs []) : vs = [] := by
  cases vs with
  | nil => rfl
  | cons v r => exact h.elim
theorem ints6 {cs : Array Value} (h : CellsW cs.toList [.int .i64, .int .i64, .int .i64, .int .i64, .int .i64, .int .i64]) : ∃ a b c d e f, cs = #[.int .i64 a, .int .i64 b, .int .i64 c, .int .i64 d, .int .i64 e, .int .i64 f] := by
  have h0 := h
  obtain ⟨v0, r0, e0, ⟨a, rfl, _⟩, h1⟩ := cw_cons h0
  obtain ⟨v1, r1, e1, ⟨b, rfl, _⟩, h2⟩ := cw_cons h1
  obtain ⟨v2, r2, e2, ⟨c, rfl, _⟩, h3⟩ := cw_cons h2
  obtain ⟨v3, r3, e3, ⟨d, rfl, _⟩, h4⟩ := cw_cons h3
  obtain ⟨v4, r4, e4, ⟨e, rfl, _⟩, h5⟩ := cw_cons h4
  obtain ⟨v5, r5, e5, ⟨f, rfl, _⟩, h6⟩ := cw_cons h5
  have en := cw_nil h6
  subst en
  subst e5
  subst e4
  subst e3
  subst e2
  subst e1
  exact ⟨a, b, c, d, e, f, by rw [← Array.toArray_toList (xs := cs), e0]⟩
theorem ints3 {cs : Array Value} (h : CellsW cs.toList [.int .i64, .int .i64, .int .i64]) : ∃ a b c, cs = #[.int .i64 a, .int .i64 b, .int .i64 c] := by
  have h0 := h
  obtain ⟨v0, r0, e0, ⟨a, rfl, _⟩, h1⟩ := cw_cons h0
  obtain ⟨v1, r1, e1, ⟨b, rfl, _⟩, h2⟩ := cw_cons h1
  obtain ⟨v2, r2, e2, ⟨c, rfl, _⟩, h3⟩ := cw_cons h2
  have en := cw_nil h3
  subst en
  subst e2
  subst e1
  exact ⟨a, b, c, by rw [← Array.toArray_toList (xs := cs), e0]⟩
theorem nat_of {x : Int} (h : 0 ≤ x) : ∃ n : Nat, x = (n : Int) := ⟨x.toNat, by omega⟩
theorem nats_of {k p e h b t : Int} (hr : rightC k p e h b t = 0) : ∃ p' e' h' b' t' : Nat, p = p' ∧ e = e' ∧ h = h' ∧ b = b' ∧ t = t' := by
  have := right_nat hr
  exact ⟨p.toNat, e.toNat, h.toNat, b.toNat, t.toNat, by omega, by omega, by omega, by omega, by omega⟩
theorem natk_of {p v c : Int} (hr : rightK p v c = true) : ∃ p' v' c' : Nat, p = p' ∧ v = v' ∧ c = c' := by
  have := rightK_T hr
  exact ⟨p.toNat, v.toNat, c.toNat, by omega, by omega, by omega⟩
end Go.Proofs.Ytpfggjaoinfegaa
