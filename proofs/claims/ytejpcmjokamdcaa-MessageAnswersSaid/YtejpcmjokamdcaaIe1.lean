/- Layer 15 in plain Lean: elements as bytes, and bytes as elements. -/
import Derived.Test.YtejpcmjokamdcaaIe0
set_option linter.unusedVariables false
set_option linter.unusedSimpArgs false
namespace Go.Proofs.Ytejpcmjokamdcaa
open Go.Vc
def packB (x : IeD) : List Int := x.1 :: 128 :: 0 :: ((x.2.length : Nat) : Int) :: x.2
def packL (l : List IeD) : List Int := l.flatMap packB
def okL (l : List IeD) : Prop := l.length ≤ 16 ∧ ∀ x ∈ l, x.2.length ≤ 200
instance (l : List IeD) : Decidable (okL l) := by unfold okL; infer_instance
def packT (l : List IeD) : List Int := if okL l then packL l else []
def packE (l : List IeD) : Int := if okL l then 0 else 6
theorem packL_nil : packL [] = [] := rfl
theorem packL_cons (x : IeD) (l : List IeD) : packL (x :: l) = packB x ++ packL l := List.flatMap_cons
theorem packL_app (l l' : List IeD) : packL (l ++ l') = packL l ++ packL l' := by simp [packL]
theorem packB_len (x : IeD) : (packB x).length = 4 + x.2.length := by simp [packB]; omega
theorem packL_succ {l : List IeD} {k : Nat} {x : IeD} (h : l[k]? = some x) : packL (l.take (k + 1)) = packL (l.take k) ++ packB x := by
  rw [List.take_add_one, h, packL_app]; simp [packL]
theorem packL_le (l : List IeD) (h : ∀ x ∈ l, x.2.length ≤ 200) : (packL l).length ≤ l.length * 204 := by
  induction l with
  | nil => simp [packL]
  | cons x r ih =>
    have := ih fun y hy => h y (by simp [hy])
    have := h x (by simp)
    rw [packL_cons, List.length_append, packB_len, List.length_cons]; omega
theorem packT_le (l : List IeD) : (packT l).length ≤ 3264 := by
  unfold packT
  by_cases h : okL l
  · rw [if_pos h]; have := packL_le l h.2; have := h.1; omega
  · rw [if_neg h]; simp
def numB (bs : List Int) : Nat := natL ((bs.drop 2).take 2)
def ieU (out : List IeD) (bs : List Int) : List IeD × Int :=
  if h0 : bs.length = 0 then (out, 0)
  else if out.length = 16 then ([], 6)
  else if bs.length < 4 then ([], 2)
  else if bs.getD 1 0 ≠ 128 then ([], 5)
  else if 200 < numB bs then ([], 6)
  else if bs.length < 4 + numB bs then ([], 2)
  else ieU (out ++ [(bs.getD 0 0, (bs.drop 4).take (numB bs))]) (bs.drop (4 + numB bs))
termination_by bs.length
decreasing_by rw [List.length_drop]; omega
def ieUL (bs : List Int) : List IeD := (ieU [] bs).1
def ieUE (bs : List Int) : Int := (ieU [] bs).2
theorem ieU_end {out : List IeD} {bs : List Int} (h : bs.length = 0) : ieU out bs = (out, 0) := by rw [ieU, dif_pos h]
theorem ieU_16 {out : List IeD} {bs : List Int} (h : 0 < bs.length) (h1 : out.length = 16) : ieU out bs = ([], 6) := by rw [ieU, dif_neg (by omega), if_pos h1]
theorem ieU_4 {out : List IeD} {bs : List Int} (h : 0 < bs.length) (h1 : ¬ out.length = 16) (h2 : bs.length < 4) : ieU out bs = ([], 2) := by rw [ieU, dif_neg (by omega), if_neg h1, if_pos h2]
theorem ieU_128 {out : List IeD} {bs : List Int} (h1 : ¬ out.length = 16) (h2 : ¬ bs.length < 4) (h3 : bs.getD 1 0 ≠ 128) : ieU out bs = ([], 5) := by rw [ieU, dif_neg (by omega), if_neg h1, if_neg h2, if_pos h3]
theorem ieU_200 {out : List IeD} {bs : List Int} (h1 : ¬ out.length = 16) (h2 : ¬ bs.length < 4) (h3 : bs.getD 1 0 = 128) (h4 : 200 < numB bs) : ieU out bs = ([], 6) := by rw [ieU, dif_neg (by omega), if_neg h1, if_neg h2, if_neg (fun h => h h3), if_pos h4]
theorem ieU_short {out : List IeD} {bs : List Int} (h1 : ¬ out.length = 16) (h2 : ¬ bs.length < 4) (h3 : bs.getD 1 0 = 128) (h4 : ¬ 200 < numB bs) (h5 : bs.length < 4 + numB bs) : ieU out bs = ([], 2) := by rw [ieU, dif_neg (by omega), if_neg h1, if_neg h2, if_neg (fun h => h h3), if_neg h4, if_pos h5]
theorem ieU_on {out : List IeD} {bs : List Int} (h1 : ¬ out.length = 16) (h2 : ¬ bs.length < 4) (h3 : bs.getD 1 0 = 128) (h4 : ¬ 200 < numB bs) (h5 : ¬ bs.length < 4 + numB bs) : ieU out bs = ieU (out ++ [(bs.getD 0 0, (bs.drop 4).take (numB bs))]) (bs.drop (4 + numB bs)) := by
  rw [ieU, dif_neg (by omega), if_neg h1, if_neg h2, if_neg (fun h => h h3), if_neg h4, if_neg h5]
theorem numB_pack (x : IeD) (r : List Int) (h : x.2.length ≤ 200) : numB (packB x ++ r) = x.2.length := by
  simp [numB, packB, natL]
/-- What is packed is unpacked. -/
theorem ieU_pack : ∀ (l : List IeD) (out : List IeD), out.length ≤ 16 → (∀ x ∈ l, x.2.length ≤ 200) → ieU out (packL l) = if out.length + l.length ≤ 16 ∨ l = [] then (out ++ l, 0) else ([], 6)
  | [], out, _, _ => by rw [packL_nil, ieU_end rfl, if_pos (.inr rfl), List.append_nil]
  | x :: l, out, ho, h => by
    have hx := h x (by simp)
    have hlen : (packB x ++ packL l).length = 4 + x.2.length + (packL l).length := by rw [List.length_append, packB_len]
    rw [packL_cons]
    by_cases h16 : out.length = 16
    · rw [ieU_16 (by omega) h16, if_neg (by simp; omega)]
    · have hn := numB_pack x (packL l) hx
      rw [ieU_on h16 (by omega) (by simp [packB]) (by omega) (by omega), hn]
      have e0 : (packB x ++ packL l).getD 0 0 = x.1 := by simp [packB]
      have e1 : ((packB x ++ packL l).drop 4).take x.2.length = x.2 := by simp [packB]
      have e2 : (packB x ++ packL l).drop (4 + x.2.length) = packL l := by
        rw [← List.drop_drop]; simp [packB]
      rw [e0, e1, e2, ieU_pack l _ (by simp; omega) (fun y hy => h y (by simp [hy]))]
      by_cases h2 : out.length + (x :: l).length ≤ 16
      · rw [if_pos (.inl (by simp at h2 ⊢; omega)), if_pos (.inl h2)]
        simp
      · by_cases hl : l = []
        · subst hl; simp at h2; omega
        · rw [if_neg (by simp at h2 ⊢; exact ⟨by omega, hl⟩), if_neg (by simp at h2 ⊢; omega)]
/-- What is unpacked is packed to what it was. -/
theorem ieP_un (bs : List Int) (out l : List IeD) (hb : Bytes bs) (hu : ieU out bs = (l, 0)) (ho : out.length ≤ 16) : l.length ≤ 16 ∧ ∃ l', l = out ++ l' ∧ packL l' = bs ∧ ∀ x ∈ l', x.2.length ≤ 200 := by
  by_cases h0 : bs.length = 0
  · rw [ieU_end h0] at hu
    cases hu
    have := List.eq_nil_of_length_eq_zero h0
    subst this
    exact ⟨ho, [], by simp, rfl, fun x hx => by simp at hx⟩
  by_cases h1 : out.length = 16
  · rw [ieU_16 (by omega) h1] at hu; cases hu
  by_cases h2 : bs.length < 4
  · rw [ieU_4 (by omega) h1 h2] at hu; cases hu
  by_cases h3 : bs.getD 1 0 = 128
  · by_cases h4 : 200 < numB bs
    · rw [ieU_200 h1 h2 h3 h4] at hu; cases hu
    by_cases h5 : bs.length < 4 + numB bs
    · rw [ieU_short h1 h2 h3 h4 h5] at hu; cases hu
    rw [ieU_on h1 h2 h3 h4 h5] at hu
    obtain ⟨g1, l', g2, g3, g4⟩ := ieP_un _ _ _ (fun x hx => hb x (List.mem_of_mem_drop hx)) hu (by simp; omega)
    refine ⟨g1, (bs.getD 0 0, (bs.drop 4).take (numB bs)) :: l', by rw [g2]; simp, ?_, ?_⟩
    · rw [packL_cons, g3]
      rcases bs with _ | ⟨a, _ | ⟨b, _ | ⟨c, _ | ⟨d, r⟩⟩⟩⟩ <;> try (simp at h2; done)
      have hc := hb c (by simp)
      have hd := hb d (by simp)
      have hn : numB (a :: b :: c :: d :: r) = c.toNat * 256 + d.toNat := by simp [numB, natL]
      have hb3 : b = 128 := by simpa using h3
      rw [hn] at h4 h5 ⊢
      simp only [List.length_cons] at h5
      have hlen : (r.take (c.toNat * 256 + d.toNat)).length = c.toNat * 256 + d.toNat := by rw [List.length_take]; omega
      have hdr : (a :: b :: c :: d :: r).drop (4 + (c.toNat * 256 + d.toNat)) = r.drop (c.toNat * 256 + d.toNat) := by rw [← List.drop_drop]; rfl
      rw [hdr]
      have e : packB ((a :: b :: c :: d :: r).getD 0 0, ((a :: b :: c :: d :: r).drop 4).take (c.toNat * 256 + d.toNat)) = a :: b :: c :: d :: r.take (c.toNat * 256 + d.toNat) := by
        unfold packB
        simp only [List.getD_cons_zero, List.drop_succ_cons, List.drop_zero]
        rw [hlen, hb3, show c = 0 by omega, show (((0 : Int).toNat * 256 + d.toNat : Nat) : Int) = d by simp; omega]
      rw [e]
      simp only [List.cons_append, List.take_append_drop]
    · intro x hx
      rcases List.mem_cons.1 hx with rfl | hx
      · simp only [List.length_take]; omega
      · exact g4 x hx
  · rw [ieU_128 h1 h2 h3] at hu; cases hu
termination_by bs.length
decreasing_by rw [List.length_drop]; omega
theorem ieU_err (bs : List Int) (out : List IeD) (h : (ieU out bs).2 ≠ 0) : (ieU out bs).1 = [] := by
  by_cases h0 : bs.length = 0
  · rw [ieU_end h0] at h; exact absurd rfl h
  by_cases h1 : out.length = 16
  · rw [ieU_16 (by omega) h1]
  by_cases h2 : bs.length < 4
  · rw [ieU_4 (by omega) h1 h2]
  by_cases h3 : bs.getD 1 0 = 128
  · by_cases h4 : 200 < numB bs
    · rw [ieU_200 h1 h2 h3 h4]
    by_cases h5 : bs.length < 4 + numB bs
    · rw [ieU_short h1 h2 h3 h4 h5]
    rw [ieU_on h1 h2 h3 h4 h5] at h ⊢
    exact ieU_err _ _ h
  · rw [ieU_128 h1 h2 h3]
termination_by bs.length
decreasing_by rw [List.length_drop]; omega
theorem ieU_count (bs : List Int) (out : List IeD) (ho : out.length ≤ 16) : (ieU out bs).1.length ≤ 16 := by
  by_cases h0 : bs.length = 0
  · rw [ieU_end h0]; exact ho
  by_cases h1 : out.length = 16
  · rw [ieU_16 (by omega) h1]; simp
  by_cases h2 : bs.length < 4
  · rw [ieU_4 (by omega) h1 h2]; simp
  by_cases h3 : bs.getD 1 0 = 128
  · by_cases h4 : 200 < numB bs
    · rw [ieU_200 h1 h2 h3 h4]; simp
    by_cases h5 : bs.length < 4 + numB bs
    · rw [ieU_short h1 h2 h3 h4 h5]; simp
    rw [ieU_on h1 h2 h3 h4 h5]
    exact ieU_count _ _ (by simp; omega)
  · rw [ieU_128 h1 h2 h3]; simp
termination_by bs.length
decreasing_by rw [List.length_drop]; omega
theorem ieUE_few (bs : List Int) (out : List IeD) : (ieU out bs).2 = 0 ∨ (ieU out bs).2 = 2 ∨ (ieU out bs).2 = 5 ∨ (ieU out bs).2 = 6 := by
  by_cases h0 : bs.length = 0
  · rw [ieU_end h0]; simp
  by_cases h1 : out.length = 16
  · rw [ieU_16 (by omega) h1]; simp
  by_cases h2 : bs.length < 4
  · rw [ieU_4 (by omega) h1 h2]; simp
  by_cases h3 : bs.getD 1 0 = 128
  · by_cases h4 : 200 < numB bs
    · rw [ieU_200 h1 h2 h3 h4]; simp
    by_cases h5 : bs.length < 4 + numB bs
    · rw [ieU_short h1 h2 h3 h4 h5]; simp
    rw [ieU_on h1 h2 h3 h4 h5]
    exact ieUE_few _ _
  · rw [ieU_128 h1 h2 h3]; simp
termination_by bs.length
decreasing_by rw [List.length_drop]; omega
theorem ieU_bytes (bs : List Int) (out : List IeD) (hb : Bytes bs) (ho : ∀ x ∈ out, (0 ≤ x.1 ∧ x.1 < 256) ∧ Bytes x.2 ∧ x.2.length ≤ 200) : ∀ x ∈ (ieU out bs).1, (0 ≤ x.1 ∧ x.1 < 256) ∧ Bytes x.2 ∧ x.2.length ≤ 200 := by
  by_cases h0 : bs.length = 0
  · rw [ieU_end h0]; exact ho
  by_cases h1 : out.length = 16
  · rw [ieU_16 (by omega) h1]; simp
  by_cases h2 : bs.length < 4
  · rw [ieU_4 (by omega) h1 h2]; simp
  by_cases h3 : bs.getD 1 0 = 128
  · by_cases h4 : 200 < numB bs
    · rw [ieU_200 h1 h2 h3 h4]; simp
    by_cases h5 : bs.length < 4 + numB bs
    · rw [ieU_short h1 h2 h3 h4 h5]; simp
    rw [ieU_on h1 h2 h3 h4 h5]
    refine ieU_bytes _ _ (hb.drop _) fun x hx => ?_
    rcases List.mem_append.1 hx with hx | hx
    · exact ho x hx
    · simp at hx; subst hx
      exact ⟨hb.get 0, (hb.drop _).take _, by simp only [List.length_take]; omega⟩
  · rw [ieU_128 h1 h2 h3]; simp
termination_by bs.length
decreasing_by rw [List.length_drop]; omega
end Go.Proofs.Ytejpcmjokamdcaa
