/- Layer 15: there and back. -/
import Derived.Test.YtejpcmjokamdcaaIe3
set_option linter.unusedVariables false
set_option linter.unusedSimpArgs false
namespace Go.Proofs.Ytejpcmjokamdcaa
open Go.Vc
theorem packE_0 {L : List IeD} (h : packE L = 0) : okL L := by
  by_cases ho : okL L
  · exact ho
  · rw [(packT_no ho).2] at h; cases h
theorem packE_n {L : List IeD} (h : packE L ≠ 0) : ¬ okL L := fun ho => h (packT_yes ho).2
theorem ie_there {L : List IeD} (h : packE L = 0) : ieU [] (packT L) = (L, 0) := by
  have ho := packE_0 h
  rw [(packT_yes ho).1, ieU_pack L [] (by simp) ho.2, if_pos (.inl (by simpa using ho.1)), List.nil_append]
theorem ie_thereE {L : List IeD} (h : packE L = 0) : ieUE (packT L) = 0 := congrArg Prod.snd (ie_there h)
theorem ie_thereL {L : List IeD} (h : packE L = 0) : ieUL (packT L) = L := congrArg Prod.fst (ie_there h)
theorem ie_back {bs : List Int} {L : List IeD} (hb : Bytes bs) (hv : L = ieUL bs) (he : ieUE bs = 0) : packE L = 0 ∧ packT L = bs := by
  have h1 : ieU [] bs = (L, 0) := Prod.ext hv.symm he
  obtain ⟨h2, l', h3, h4, h5⟩ := ieP_un bs [] L hb h1 (by simp)
  rw [List.nil_append] at h3
  subst h3
  have ho : okL L := ⟨h2, h5⟩
  exact ⟨(packT_yes ho).2, by rw [(packT_yes ho).1]; exact h4⟩
theorem ie_errL {bs : List Int} {l : List IeV} (hv : vals l = ieUL bs) (he : ieUE bs ≠ 0) : l.length = 0 := by
  rw [← vals_len, hv, show ieUL bs = [] from ieU_err bs [] he]; rfl
theorem packL_bytes {L : List IeD} (h : ∀ x ∈ L, ((0 ≤ x.1 ∧ x.1 < 256) ∧ Bytes x.2) ∧ x.2.length ≤ 200) : Bytes (packL L) := by
  intro y hy
  obtain ⟨x, hx, hy⟩ := List.mem_flatMap.1 hy
  have := h x hx
  simp only [packB, List.mem_cons] at hy
  rcases hy with rfl | rfl | rfl | rfl | hy
  · exact this.1.1
  · omega
  · omega
  · omega
  · exact this.1.2 y hy
theorem packT_bytes {l : List IeV} (hl : ∀ x ∈ l, IeB x) : Bytes (packT (vals l)) := by
  by_cases h : okL (vals l)
  · rw [(packT_yes h).1]
    refine packL_bytes fun y hy => ?_
    have h2 := h.2 y hy
    obtain ⟨x, hx, rfl⟩ := vals_mem hy
    exact ⟨hl x hx, h2⟩
  · rw [(packT_no h).1]; exact Bytes.nil
theorem packT_app {a b : List IeD} (ha : packE a = 0) (hb : packE b = 0) : packT a ++ packT b = packL (a ++ b) ∧ ∀ x ∈ a ++ b, x.2.length ≤ 200 := by
  have h1 := packE_0 ha
  have h2 := packE_0 hb
  refine ⟨by rw [(packT_yes h1).1, (packT_yes h2).1, packL_app], fun x hx => ?_⟩
  rcases List.mem_append.1 hx with hx | hx
  · exact h1.2 x hx
  · exact h2.2 x hx
theorem ie_both {a b : List IeD} (ha : packE a = 0) (hb : packE b = 0) : ieU [] (packT a ++ packT b) = if a.length + b.length ≤ 16 then (a ++ b, 0) else ([], 6) := by
  obtain ⟨h1, h2⟩ := packT_app ha hb
  rw [h1, ieU_pack _ [] (by simp) h2]
  by_cases h : a.length + b.length ≤ 16
  · rw [if_pos h, if_pos (.inl (by simpa using h)), List.nil_append]
  · rw [if_neg h, if_neg]
    rintro (h3 | h3)
    · simp at h3; omega
    · rw [List.append_eq_nil_iff] at h3; rw [h3.1, h3.2] at h; simp at h
end Go.Proofs.Ytejpcmjokamdcaa
