/- Package conns: what is put one after another, what is undone again. -/
import Derived.Test.YtfkahhkojlfmdaaCng
set_option linter.unusedVariables false
set_option linter.unusedSimpArgs false
namespace Go.Proofs.Ytfkahhkojlfmdaa
open Go.Vc Go.RowKit
theorem delE_insE {M : List Ent} {x : Ent} (hs : SrtE M) (hx : lookE M x.p x.v x.c = none) : delE (insE M x) x.p x.v x.c = M := by
  have hn : ∀ y ∈ M, ¬ (y.p = x.p ∧ y.v = x.v ∧ y.c = x.c) := fun y hy => lookE_none.1 hx y hy
  refine srt_ext (delE_srt (insE_srt hs hn) _ _ _) hs fun z => ?_
  rw [mem_delE, mem_insE]
  constructor
  · rintro ⟨rfl | h, h2⟩
    · exact absurd ⟨rfl, rfl, rfl⟩ h2
    · exact h
  · intro h; exact ⟨.inr h, hn z h⟩
theorem lookE_insE {M : List Ent} {x : Ent} (hs : SrtE M) (hx : lookE M x.p x.v x.c = none) : lookE (insE M x) x.p x.v x.c = some x.n := by
  have hn : ∀ y ∈ M, ¬ (y.p = x.p ∧ y.v = x.v ∧ y.c = x.c) := fun y hy => lookE_none.1 hx y hy
  exact (lookE_some (insE_srt hs hn)).2 (mem_insE.2 (.inl rfl))
theorem putE_last {M : List Ent} {y : Ent} {room : Int} (hs : SrtE (M ++ [y])) (hr : rightB y.p y.v y.c = true) (hl : (M.length : Int) < room) : putE M room y.p y.v y.c y.n = M ++ [y] := by
  obtain ⟨h1, h2, h3⟩ := List.pairwise_append.1 hs
  have hn : ∀ x ∈ M, ¬ (x.p = y.p ∧ x.v = y.v ∧ x.c = y.c) := fun x hx => befE_ne (h3 x hx y (by simp))
  have hk : putK M room y.p y.v y.c = 0 := putK_ok.2 ⟨hr, lookE_none.2 hn, hl⟩
  unfold putE
  rw [if_pos hk]
  refine srt_ext (insE_srt h1 hn) hs fun z => ?_
  rw [mem_insE, List.mem_append, List.mem_singleton]
  exact Or.comm
theorem SrtE.take {L : List Ent} (h : SrtE L) (k : Nat) : SrtE (L.take k) := List.Pairwise.sublist (List.take_sublist k L) h
/-- One more of a list that is in order. -/
theorem putE_take {L : List Ent} (h : SrtE L) {k : Nat} {y : Ent} (hy : L[k]? = some y) (hr : rightB y.p y.v y.c = true) (hl : L.length ≤ 64) : putE (L.take k) 64 y.p y.v y.c y.n = L.take (k + 1) := by
  have hk := (List.getElem?_eq_some_iff.1 hy).1
  have h2 := h.take (k + 1)
  rw [take_next hy] at h2 ⊢
  exact putE_last h2 hr (by rw [List.length_take]; omega)
/-- M is L and, one after another, the keys K. -/
inductive Und (L : List Ent) : List Ent → List Ent → Prop
  | nil : Und L [] L
  | put {K M : List Ent} {p v c : Int} (n : Int) : Und L K M → SrtE M → putK M 64 p v c = 0 → Und L (K ++ [⟨p, v, c, 0⟩]) (putE M 64 p v c n)
theorem Und.empty {L M : List Ent} (h : Und L [] M) : M = L := by
  generalize hK : ([] : List Ent) = K at h
  cases h with
  | nil => rfl
  | put n h1 h2 h3 => simp at hK
theorem Und.drop {L K M : List Ent} {j : Nat} {y : Ent} (h : Und L (K.take (j + 1)) M) (hy : K[j]? = some y) : (lookE M y.p y.v y.c).isSome = true ∧ Und L (K.take j) (delE M y.p y.v y.c) := by
  rw [take_next hy] at h
  generalize hK : K.take j ++ [y] = K1 at h
  cases h with
  | nil => simp at hK
  | @put K1 M1 p v c n h1 h2 h3 =>
    obtain ⟨e1, e2⟩ := List.append_inj' hK rfl
    simp only [List.cons.injEq, and_true] at e2
    subst e2
    rw [e1]
    have h4 := (putK_ok.1 h3).2.1
    unfold putE
    rw [if_pos h3]
    have a := lookE_insE (x := ⟨p, v, c, n⟩) h2 h4
    have b := delE_insE (x := ⟨p, v, c, n⟩) h2 h4
    refine ⟨?_, ?_⟩
    · show (lookE (insE M1 ⟨p, v, c, n⟩) p v c).isSome = true
      rw [show lookE (insE M1 ⟨p, v, c, n⟩) p v c = some n from a]; rfl
    · show Und L K1 (delE (insE M1 ⟨p, v, c, n⟩) p v c)
      rw [show delE (insE M1 ⟨p, v, c, n⟩) p v c = M1 from b]; exact h1
theorem list_ext {xs ys : List Ent} (hl : xs.length = ys.length) (h : ∀ j, j < xs.length → ∀ x y, xs[j]? = some x → ys[j]? = some y → x = y) : xs = ys := by
  apply List.ext_getElem? 
  intro i
  by_cases hi : i < xs.length
  · have h1 := List.getElem?_eq_getElem hi
    have h2 := List.getElem?_eq_getElem (show i < ys.length by omega)
    rw [h1, h2, h i hi _ _ h1 h2]
  · rw [List.getElem?_eq_none (by omega), List.getElem?_eq_none (by omega)]
end Go.Proofs.Ytfkahhkojlfmdaa
