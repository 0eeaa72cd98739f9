/- Layer 14: how the laws' arguments are opened. -/
import Derived.Test.YteipakmfiiccpaaOm9
import Derived.Test.YteipakmfiiccpaaAl2
import Derived.Test.YteipakmfiiccpaaVc6
set_option linter.unusedVariables false
set_option linter.unusedSimpArgs false
namespace Go.Proofs.Yteipakmfiiccpaa
open Go.Vc
theorem om14_of {vs : List Value} (h : CellsW vs omLs) : ∃ o : Om, vs = omL o ∧ OmOk o := by
  obtain ⟨xs, ys, rfl, hx, hy⟩ := cw_split h
  obtain ⟨ps, ss, rfl, hp, hs⟩ := cw_split hy
  obtain ⟨p, rfl, hp'⟩ := pl_of hp
  obtain ⟨q, rfl, hq'⟩ := pl_of hs
  obtain ⟨a, b, c, d, rfl⟩ : ∃ a b c d, xs = [a, b, c, d] := by
    have := hx.length
    rcases xs with _ | ⟨c0, _ | ⟨c1, _ | ⟨c2, _ | ⟨c3, _ | ⟨c4, r⟩⟩⟩⟩⟩ <;> first | exact ⟨_, _, _, _, rfl⟩ | (simp at this)
  obtain ⟨⟨a0, h0, u0⟩, ⟨a1, h1, u1⟩, ⟨a2, h2⟩, ⟨a3, h3, u3⟩, u4⟩ := hx
  clear u4
  subst h0; subst h1; subst h2; subst h3
  refine ⟨⟨a0, a1, a2, a3, p, q⟩, rfl, ⟨?_, ?_, hp', hq'⟩⟩
  · have h0 : IntKind.u8.min = 0 := rfl
    have h1 : IntKind.u8.max = 255 := rfl
    simp [Lit.wf] at u1
    show 0 ≤ a1 ∧ a1 < 256
    omega
  · have h0 : IntKind.u32.min = 0 := rfl
    have h1 : IntKind.u32.max = 4294967295 := rfl
    simp [Lit.wf] at u3
    show 0 ≤ a3 ∧ a3 < 4294967296
    omega
theorem om14_arr {cs : Array Value} (h : CellsW cs.toList omLs) : ∃ o : Om, cs = (omL o).toArray ∧ OmOk o := by
  obtain ⟨o, h1, h2⟩ := om14_of h
  exact ⟨o, Array.toList_inj.1 (by simpa using h1), h2⟩
theorem bytes_arr {cs : Array Value} {m : Nat} (h : CellsW cs.toList (rep m [.int .u8])) : ∃ bs : List Int, cs = iA .u8 bs ∧ bs.length = m ∧ Bytes bs := by
  obtain ⟨h1, h2⟩ := u8_of m h
  generalize hf : (fun i => intOf (cs.toList.getD i undef)) = f at h1 h2
  have h1' : cs.toList = (List.range m).map fun i => Value.int .u8 (f i) := by rw [← hf]; exact h1
  have h2 : ∀ i, 0 ≤ f i ∧ f i < 256 := by intro i; rw [← hf]; exact h2 i
  refine ⟨(List.range m).map f, ?_, by simp, ?_⟩
  · apply Array.toList_inj.1
    rw [h1']
    simp [iA, iL, Function.comp_def]
  · intro x hx
    obtain ⟨i, _, rfl⟩ := List.mem_map.1 hx
    exact h2 i
theorem pl14_arr {cs : Array Value} (h : CellsW cs.toList u8s) : ∃ p, cs = (pl p).toArray ∧ inByte p := by
  obtain ⟨p, h1, h2⟩ := pl_of h
  exact ⟨p, Array.toList_inj.1 (by simpa using h1), h2⟩
end Go.Proofs.Yteipakmfiiccpaa
