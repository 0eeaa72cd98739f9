/- An array of bytes that is handed in. -/
import Derived.Test.YtgiefcolkohgkaaFr10
import Derived.Test.YtgiefcolkohgkaaFr13
set_option linter.unusedVariables false
set_option linter.unusedSimpArgs false
namespace Go.Proofs.Ytgiefcolkohgkaa
open Go.Vc Go.RowKit Go.ChangeShapes Go.WideShapes Go.ChangeAt
theorem bytes_of : ∀ (m : Nat) (vs : List Value), CellsW vs (rep m [.int .u8]) → ∃ bs : List Int, vs = iL .u8 bs ∧ bs.length = m ∧ Bytes bs
  | 0, [], _ => ⟨[], rfl, rfl, nil_bytes⟩
  | 0, _ :: _, h => by cases h
  | m + 1, [], h => by cases h
  | m + 1, v :: vs, h => by
    have h' : CellsW (v :: vs) (.int .u8 :: rep m [.int .u8]) := h
    obtain ⟨⟨a, rfl, u⟩, h2⟩ := h'
    obtain ⟨bs, rfl, h3, h4⟩ := bytes_of m vs h2
    refine ⟨a :: bs, rfl, by simp [h3], ?_⟩
    intro x hx
    rcases List.mem_cons.1 hx with rfl | hx
    · exact u8_rng u
    · exact h4 x hx
theorem bytes_arr {cs : Array Value} {m : Nat} (h : CellsW cs.toList (rep m [.int .u8])) : ∃ bs : List Int, cs = iA .u8 bs ∧ bs.length = m ∧ Bytes bs := by
  obtain ⟨bs, e, h1, h2⟩ := bytes_of m _ h
  exact ⟨bs, Array.toList_inj.1 (by rw [e]; rfl), h1, h2⟩
end Go.Proofs.Ytgiefcolkohgkaa
