/- Rows: arguments that hold slices: what lies at each element. -/
import Derived.Test.YtgiefcolkohgkaaVc6
import Derived.Test.YtgiefcolkohgkaaVc17
set_option linter.unusedVariables false
set_option linter.unusedSimpArgs false
namespace Go.Vc
open Go.RowKit Go.ChangeShapes Go.WideShapes Go.ChangeAt
section
variable {H : Type} {enc : TypeId × Value → H} {P : Program} {w : World} {spare : Nat → Bool} {held : Bool}
theorem trod_slice {t e : TypeId} {sz : Nat} (ht : P.underlying t = some (.slice e)) (hsz : P.cellsOf e = sz) (hpos : 0 < sz) {f : Nat} {cs : List Value} {x : DataW H × List MemPlace} (hf : DataW.trod enc P w 0 spare held f t cs = some x) :
    ∃ A n c f', cs = [.slice A n c] ∧ n ≤ c ∧ c ≤ maxLen ∧ (0 < n → ∃ b o, A = some ⟨b, o, none⟩ ∧ b < w.heap.size ∧ ∀ i, i < n → ∃ cs x, cs.length = sz ∧ (∀ j, j < sz → w.cell? ⟨b, o + i * sz + j, none⟩ = cs[j]?) ∧ DataW.trod enc P w 0 spare held f' e cs = some x) := by
  cases f with
  | zero => cases hf
  | succ f =>
    unfold DataW.trod at hf
    split at hf <;> rename_i heq <;> (try (rw [ht] at heq; simp only [Option.some.injEq, reduceCtorEq] at heq; done)) <;> (try (cases hf; done))
    · exact ⟨none, 0, 0, 0, rfl, Nat.le_refl _, by simp [maxLen], fun h0 => absurd h0 (by omega)⟩
    · rename_i e' a n c
      rw [ht] at heq
      simp only [Option.some.injEq, TypeDesc.slice.injEq] at heq
      subst heq
      split at hf
      · rename_i hb
        obtain ⟨elems, hel, _⟩ := Option.bind_eq_some_iff.1 hf
        refine ⟨some a, n, c, f, rfl, hb.2.1, hb.2.2, fun h0 => ?_⟩
        have key : ∀ i, i < n → ∃ cs x, cs.length = sz ∧ (∀ j, j < sz → w.cell? ((a.add (i * sz)).add j) = cs[j]?) ∧ DataW.trod enc P w 0 spare held f e cs = some x := by
          intro i hi
          obtain ⟨y, hy⟩ := mapM_mem hel i (List.mem_range.2 hi)
          obtain ⟨cs, h1, h2⟩ := Option.bind_eq_some_iff.1 hy
          rw [hsz] at h1
          unfold World.cells? at h1
          split at h1
          · obtain ⟨h3, h4⟩ := mapM_get h1
            refine ⟨cs, y, by rw [h3]; simp, fun j hj => ?_, h2⟩
            obtain ⟨z, h5, h6⟩ := h4 j j (List.getElem?_range hj)
            rw [h5, h6]
          · cases h1
        obtain ⟨cs0, x0, hl0, hc0, _⟩ := key 0 h0
        have h00 := hc0 0 hpos
        rw [Nat.zero_mul, show (a.add 0) = a from rfl, show (a.add 0) = a from rfl, List.getElem?_eq_getElem (by omega)] at h00
        have hsp : a.spot = none := by
          unfold World.cell? at h00
          split at h00
          · cases hs : a.spot with
            | none => rfl
            | some x => rw [hs] at h00; simp at h00
          · cases h00
        obtain ⟨b, o, sp⟩ := a
        simp only at hsp
        subst hsp
        refine ⟨b, o, rfl, World.block_lt_of_cell? w _ h00, fun i hi => ?_⟩
        obtain ⟨cs, x, hl, hc, hx⟩ := key i hi
        refine ⟨cs, x, hl, fun j hj => ?_, hx⟩
        have := hc j hj
        rwa [add_none, add_none] at this
      · cases hf
theorem trod_struct {t : TypeId} {fs : Array Field} (ht : P.underlying t = some (.struct fs)) {f : Nat} {cs : List Value} {x : DataW H × List MemPlace} (hf : DataW.trod enc P w 0 spare held f t cs = some x) :
    ∃ f', cs.length = P.cellsOf t ∧ ∀ g ∈ fs.toList, ∃ y, DataW.trod enc P w 0 spare held f' g.type ((cs.drop g.offset).take (P.cellsOf g.type)) = some y := by
  cases f with
  | zero => cases hf
  | succ f =>
    unfold DataW.trod at hf
    split at hf <;> rename_i heq <;> (try (rw [ht] at heq; simp only [Option.some.injEq, reduceCtorEq] at heq; done)) <;> (try (cases hf; done))
    rename_i fs' hd
    rw [ht] at heq
    simp only [Option.some.injEq, TypeDesc.struct.injEq] at heq
    subst heq
    split at hf
    · rename_i hlen
      obtain ⟨ys, hys, _⟩ := Option.map_eq_some_iff.1 hf
      exact ⟨f, hlen, fun g hg => mapM_mem hys g hg⟩
    · cases hf
theorem trod_int {k : IntKind} {t : TypeId} (he : P.underlying t = some (.int k)) {f : Nat} {cs : List Value} {x : DataW H × List MemPlace} (hx : DataW.trod enc P w 0 spare held f t cs = some x) : ∃ z, cs = [.int k z] ∧ (Lit.int k z).wf = true := by
  cases f with
  | zero => cases hx
  | succ f' =>
    unfold DataW.trod at hx
    split at hx <;> rename_i heq <;> (try (rw [he] at heq; simp only [Option.some.injEq, reduceCtorEq] at heq; done)) <;> (try (cases hx; done))
    rename_i k1 k2 z
    rw [he] at heq
    simp only [Option.some.injEq, TypeDesc.int.injEq] at heq
    subst heq
    split at hx
    · rename_i hw
      obtain ⟨rfl, hw⟩ := hw
      exact ⟨z, rfl, hw⟩
    · cases hx
/-- A slice of bytes, or of other numbers, by what lies there. -/
theorem nums_of {k : IntKind} {e : TypeId} {A : Option Addr} {n f' : Nat} (he : P.underlying e = some (.int k)) (h : 0 < n → ∃ b o, A = some ⟨b, o, none⟩ ∧ b < w.heap.size ∧ ∀ i, i < n → ∃ cs x, cs.length = 1 ∧ (∀ j, j < 1 → w.cell? ⟨b, o + i * 1 + j, none⟩ = cs[j]?) ∧ DataW.trod enc P w 0 spare held f' e cs = some x) :
    ∃ bs : List Int, bs.length = n ∧ (∀ x ∈ bs, (Lit.int k x).wf = true) ∧ Sl w w.heap.size A (iL k bs) := by
  by_cases hn : 0 < n
  · obtain ⟨b, o, rfl, hb, hc⟩ := h hn
    have hex : ∀ i, ∃ x : Int, i < n → (Lit.int k x).wf = true ∧ w.cell? ⟨b, o + i, none⟩ = some (.int k x) := by
      intro i
      by_cases hi : i < n
      · obtain ⟨cs, x, hl, hr, hx⟩ := hc i hi
        obtain ⟨c0, rfl⟩ : ∃ c0, cs = [c0] := by
          rcases cs with _ | ⟨c0, _ | ⟨c1, r⟩⟩ <;> first | exact ⟨_, rfl⟩ | (simp at hl)
        obtain ⟨z, hcz, hw⟩ := trod_int he hx
        have h0 := hr 0 (by decide)
        simp at hcz
        subst hcz
        exact ⟨z, fun _ => ⟨hw, by simpa using h0⟩⟩
      · exact ⟨0, fun h => absurd h hi⟩
    obtain ⟨q, hq⟩ := Classical.axiomOfChoice hex
    refine ⟨(List.range n).map q, by simp, ?_, ?_⟩
    · intro x hx
      obtain ⟨i, hi, rfl⟩ := List.mem_map.1 hx
      exact (hq i (List.mem_range.1 hi)).1
    · intro _
      refine ⟨b, o, rfl, hb, fun j u hu => ?_⟩
      have hj : j < n := by
        have := (List.getElem?_eq_some_iff.1 hu).1
        simpa [iL] using this
      have hu2 : some (Value.int k (q j)) = some u := by rw [← hu]; simp [iL, hj]
      rw [← hu2]
      exact (hq j hj).2
  · obtain rfl : n = 0 := by omega
    exact ⟨[], rfl, fun x hx => by simp at hx, Sl.nil⟩
theorem trod_nums {k : IntKind} {t e : TypeId} (ht : P.underlying t = some (.slice e)) (he : P.underlying e = some (.int k)) (hsz : P.cellsOf e = 1) {f : Nat} {cs : List Value} {x : DataW H × List MemPlace} (hf : DataW.trod enc P w 0 spare held f t cs = some x) :
    ∃ A n c bs, cs = [.slice A n c] ∧ n ≤ c ∧ c ≤ maxLen ∧ bs.length = n ∧ (∀ x ∈ bs, (Lit.int k x).wf = true) ∧ Sl w w.heap.size A (iL k bs) := by
  obtain ⟨A, n, c, f', rfl, h1, h2, h3⟩ := trod_slice ht hsz (by decide) hf
  obtain ⟨bs, h4, h5, h6⟩ := nums_of he h3
  exact ⟨A, n, c, bs, rfl, h1, h2, h4, h5, h6⟩
theorem trod_bool {t : TypeId} (he : P.underlying t = some .bool) {f : Nat} {cs : List Value} {x : DataW H × List MemPlace} (hx : DataW.trod enc P w 0 spare held f t cs = some x) : ∃ z, cs = [.bool z] := by
  cases f with
  | zero => cases hx
  | succ f' =>
    unfold DataW.trod at hx
    split at hx <;> rename_i heq <;> (try (rw [he] at heq; simp only [Option.some.injEq, reduceCtorEq] at heq; done)) <;> (try (cases hx; done))
    exact ⟨_, rfl⟩
end
end Go.Vc
