/- Elements that are handed in. -/
import Derived.Test.YtejpcmjokamdcaaVd1
import Derived.Test.YtejpcmjokamdcaaIe0
set_option linter.unusedVariables false
set_option linter.unusedSimpArgs false
namespace Go.Proofs.Ytejpcmjokamdcaa
open Go.Vc Go.RowKit Go.ChangeShapes Go.WideShapes Go.ChangeAt
theorem wf_u8 {x : Int} (h : (Lit.int .u8 x).wf = true) : 0 ≤ x ∧ x < 256 := by
  have h0 : IntKind.u8.min = 0 := rfl
  have h1 : IntKind.u8.max = 255 := rfl
  simp [Lit.wf] at h
  omega
section
variable {H : Type} {enc : TypeId × Value → H} {P : Program} {w : World} {spare : Nat → Bool} {held : Bool}
/-- What an element's type is. -/
structure IsIe (P : Program) (e : TypeId) : Prop where
  fs : ∃ fs f0 f1 eb, P.underlying e = some (.struct fs) ∧ fs.toList = [f0, f1] ∧ f0.offset = 0 ∧ f1.offset = 1 ∧ P.cellsOf f0.type = 1 ∧ P.cellsOf f1.type = 1 ∧ P.underlying f0.type = some (.int .u8) ∧ P.underlying f1.type = some (.slice eb) ∧ P.underlying eb = some (.int .u8) ∧ P.cellsOf eb = 1 ∧ P.cellsOf e = 2
theorem trod_ie {e : TypeId} (he : IsIe P e) {f : Nat} {cs : List Value} {x : DataW H × List MemPlace} (hx : DataW.trod enc P w 0 spare held f e cs = some x) : ∃ y : IeV, cs = ieC y ∧ IeOk w 0 w.heap.size y ∧ IeB y := by
  obtain ⟨fs, f0, f1, eb, h1, h2, h3, h4, h5, h6, h7, h8, h9, h10, h11⟩ := he.fs
  obtain ⟨f', hl, hg⟩ := trod_struct h1 hx
  rw [h11] at hl
  obtain ⟨v0, v1, rfl⟩ : ∃ v0 v1, cs = [v0, v1] := by
    rcases cs with _ | ⟨v0, _ | ⟨v1, _ | ⟨v2, r⟩⟩⟩ <;> first | exact ⟨_, _, rfl⟩ | (simp at hl)
  obtain ⟨y0, hy0⟩ := hg f0 (by rw [h2]; simp)
  obtain ⟨y1, hy1⟩ := hg f1 (by rw [h2]; simp)
  rw [h3, h5] at hy0
  rw [h4, h6] at hy1
  obtain ⟨z, hz, hzw⟩ := trod_int h7 hy0
  obtain ⟨A, n, c, bs, hb, hnc, _, hbn, hbw, hsl⟩ := trod_nums h8 h9 h10 hy1
  simp at hz hb
  subst hz; subst hb
  exact ⟨⟨z, A, n, c, bs⟩, rfl, ⟨hbn, hnc, hsl.sl2⟩, ⟨wf_u8 hzw, fun x hx => wf_u8 (hbw x hx)⟩⟩
theorem ies_of {e : TypeId} {A : Option Addr} {n f' : Nat} (he : IsIe P e) (h : 0 < n → ∃ b o, A = some ⟨b, o, none⟩ ∧ b < w.heap.size ∧ ∀ i, i < n → ∃ cs x, cs.length = 2 ∧ (∀ j, j < 2 → w.cell? ⟨b, o + i * 2 + j, none⟩ = cs[j]?) ∧ DataW.trod enc P w 0 spare held f' e cs = some x) :
    ∃ l : List IeV, l.length = n ∧ Ies w 0 w.heap.size A l ∧ ∀ x ∈ l, IeB x := by
  by_cases hn : 0 < n
  · obtain ⟨b, o, rfl, hb, hc⟩ := h hn
    have hex : ∀ i, ∃ y : IeV, i < n → (w.cell? ⟨b, o + i * 2, none⟩ = some (.int .u8 y.id) ∧ w.cell? ⟨b, o + i * 2 + 1, none⟩ = some (.slice y.A y.n y.c)) ∧ IeOk w 0 w.heap.size y ∧ IeB y := by
      intro i
      by_cases hi : i < n
      · obtain ⟨cs, x, hl, hr, hx⟩ := hc i hi
        obtain ⟨y, rfl, h1, h2⟩ := trod_ie he hx
        exact ⟨y, fun _ => ⟨⟨hr 0 (by decide), hr 1 (by decide)⟩, h1, h2⟩⟩
      · exact ⟨⟨0, none, 0, 0, []⟩, fun h => absurd h hi⟩
    obtain ⟨q, hq⟩ := Classical.axiomOfChoice hex
    have hg : ∀ i, i < n → ((List.range n).map q)[i]? = some (q i) := fun i hi => by simp [hi]
    refine ⟨(List.range n).map q, by simp, ⟨fun _ => ⟨b, o, rfl, Nat.zero_le _, hb, fun j u hu => ?_⟩, ?_⟩, ?_⟩
    · have hj := (List.getElem?_eq_some_iff.1 hu).1
      rw [ieL_len] at hj
      simp only [List.length_map, List.length_range] at hj
      obtain ⟨i, hi, ej⟩ : ∃ i, i < n ∧ (j = i * 2 ∨ j = i * 2 + 1) := ⟨j / 2, by omega, by omega⟩
      have h2 := ieL_get (hg i hi)
      have h3 := (hq i hi).1
      rcases ej with rfl | rfl
      · rw [← hu, h2.1]; exact h3.1
      · rw [← hu, h2.2]; exact h3.2
    · intro x hx
      obtain ⟨i, hi, rfl⟩ := List.mem_map.1 hx
      exact (hq i (List.mem_range.1 hi)).2.1
    · intro x hx
      obtain ⟨i, hi, rfl⟩ := List.mem_map.1 hx
      exact (hq i (List.mem_range.1 hi)).2.2
  · obtain rfl : n = 0 := by omega
    exact ⟨[], rfl, Ies.nil, fun x hx => by simp at hx⟩
theorem open_ies {t e : TypeId} {v : Value} {d : DataW H} {ps : List MemPlace} (ht : P.underlying t = some (.slice e)) (he : IsIe P e) (h : DataW.Trod enc P w 0 spare held t v d ps) {rr : Reach} {b0 : Nat} (hval : Value.okWide P w rr b0 t v) :
    ∃ A n c l, v = .slice A n c ∧ n ≤ c ∧ c ≤ maxLen ∧ l.length = n ∧ Ies w 0 w.heap.size A l ∧ ∀ x ∈ l, IeB x := by
  obtain ⟨f, hf⟩ := h
  obtain ⟨A0, n0, c0, rfl⟩ := okWide_slice ht hval
  obtain ⟨A, n, c, f', hv, h1, h2, h3⟩ := trod_slice ht he.fs.choose_spec.choose_spec.choose_spec.choose_spec.2.2.2.2.2.2.2.2.2.2 (by decide) hf
  have hv2 : (Value.slice A0 n0 c0).cells.toList = [.slice A0 n0 c0] := rfl
  rw [hv2] at hv
  simp at hv
  obtain ⟨rfl, rfl, rfl⟩ := hv
  obtain ⟨l, h4, h5, h6⟩ := ies_of he h3
  exact ⟨A0, n0, c0, l, rfl, h1, h2, h4, h5, h6⟩
/-- A list of bytes that is handed in. -/
theorem open_txt {t e : TypeId} {v : Value} {d : DataW H} {ps : List MemPlace} (ht : P.underlying t = some (.slice e)) (he : P.underlying e = some (.int .u8)) (hsz : P.cellsOf e = 1) (h : DataW.Trod enc P w 0 spare held t v d ps) {rr : Reach} {b0 : Nat} (hval : Value.okWide P w rr b0 t v) :
    ∃ A n c bs, v = .slice A n c ∧ n ≤ c ∧ c ≤ maxLen ∧ bs.length = n ∧ Bytes bs ∧ Sl w w.heap.size A (iL .u8 bs) := by
  obtain ⟨f, hf⟩ := h
  obtain ⟨A0, n0, c0, rfl⟩ := okWide_slice ht hval
  obtain ⟨A, n, c, bs, hv, h1, h2, h3, h4, h5⟩ := trod_nums ht he hsz hf
  have hv2 : (Value.slice A0 n0 c0).cells.toList = [.slice A0 n0 c0] := rfl
  rw [hv2] at hv
  simp at hv
  obtain ⟨rfl, rfl, rfl⟩ := hv
  exact ⟨A0, n0, c0, bs, rfl, h1, h2, h3, fun x hx => wf_u8 (h4 x hx), h5⟩
/-- An element by value. -/
theorem open_ie {e : TypeId} {v : Value} {d : DataW H} {ps : List MemPlace} (he : IsIe P e) (h : DataW.Trod enc P w 0 spare held e v d ps) {rr : Reach} {b0 : Nat} (hag : isAggB P e = true) (hval : Value.okWide P w rr b0 e v) :
    ∃ y : IeV, v = .agg #[.int .u8 y.id, .slice y.A y.n y.c] ∧ IeOk w 0 w.heap.size y ∧ IeB y := by
  obtain ⟨f, hf⟩ := h
  have hv : ∃ cs, v = .agg cs := by
    unfold isAggB at hag
    unfold Value.okWide at hval
    cases hu : P.underlying e with
    | none => rw [hu] at hag; cases hag
    | some u =>
      rw [hu] at hag hval
      cases u <;> simp at hag
      · obtain ⟨cs, rfl, _⟩ := hval; exact ⟨cs, rfl⟩
      · obtain ⟨cs, rfl, _⟩ := hval; exact ⟨cs, rfl⟩
  obtain ⟨cs, rfl⟩ := hv
  obtain ⟨y, hy, h1, h2⟩ := trod_ie he hf
  refine ⟨y, ?_, h1, h2⟩
  have : cs.toList = ieC y := hy
  rw [← Array.toArray_toList (xs := cs), this]; rfl
end
end Go.Proofs.Ytejpcmjokamdcaa
