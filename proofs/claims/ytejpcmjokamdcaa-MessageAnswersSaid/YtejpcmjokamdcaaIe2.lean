/- Layer 15: what the walks over Pack and Unpack need. -/
import Derived.Test.YtejpcmjokamdcaaIe1
set_option linter.unusedVariables false
set_option linter.unusedSimpArgs false
namespace Go.Proofs.Ytejpcmjokamdcaa
open Go.Vc
theorem vals_len (l : List IeV) : (vals l).length = l.length := by simp [vals]
theorem vals_get {l : List IeV} {k : Nat} {x : IeV} (h : l[k]? = some x) : (vals l)[k]? = some (x.id, x.bs) := by simp [vals, h, IeV.val]
theorem vals_app (l l' : List IeV) : vals (l ++ l') = vals l ++ vals l' := by simp [vals]
theorem vals_take (l : List IeV) (k : Nat) : vals (l.take k) = (vals l).take k := by simp [vals]
theorem vals_drop (l : List IeV) (k : Nat) : vals (l.drop k) = (vals l).drop k := by simp [vals]
theorem vals_nil : vals [] = [] := rfl
theorem vals_mem {l : List IeV} {y : IeD} (h : y ∈ vals l) : ∃ x ∈ l, y = (x.id, x.bs) := by
  obtain ⟨x, hx, rfl⟩ := List.mem_map.1 h
  exact ⟨x, hx, rfl⟩
def anyL (l : List IeV) : Bool := l.any fun y => decide (200 < y.n)
theorem anyL_no {l : List IeV} {n : Nat} (hn : l.length = n) (h : ∀ i y, i < n → l[i]? = some y → y.n ≤ 200) : anyL l = false := by
  unfold anyL
  rw [List.any_eq_false]
  intro x hx
  obtain ⟨i, hi, rfl⟩ := List.getElem_of_mem hx
  have := h i l[i] (by omega) (List.getElem?_eq_getElem hi)
  simp; omega
theorem anyL_yes {l : List IeV} {k : Nat} {y : IeV} (h : l[k]? = some y) (h2 : 200 < y.n) : anyL l = true := by
  unfold anyL
  rw [List.any_eq_true]
  exact ⟨y, List.mem_of_getElem? h, by simpa using h2⟩
theorem ok_of {l : List IeV} {n : Nat} (hn : l.length = n) (h1 : n ≤ 16) (h2 : anyL l = false) (hl : ∀ x ∈ l, x.bs.length = x.n) : okL (vals l) := by
  refine ⟨by rw [vals_len]; omega, fun y hy => ?_⟩
  obtain ⟨x, hx, rfl⟩ := vals_mem hy
  have := hl x hx
  unfold anyL at h2
  rw [List.any_eq_false] at h2
  have := h2 x hx
  simp at this
  show x.bs.length ≤ 200
  omega
theorem ok_not1 {l : List IeV} {n : Nat} (hn : l.length = n) (h1 : 16 < n) : ¬ okL (vals l) := fun h => by have := h.1; rw [vals_len] at this; omega
theorem ok_not3 {l : List IeV} {k : Nat} {y : IeV} (h : l[k]? = some y) (h2 : 200 < y.n) (hl : y.bs.length = y.n) : ¬ okL (vals l) := fun ho => by
  have := ho.2 _ (List.mem_of_getElem? (vals_get h))
  simp only at this
  omega
theorem ok_not2 {l : List IeV} (h2 : anyL l = true) (hl : ∀ x ∈ l, x.bs.length = x.n) : ¬ okL (vals l) := by
  unfold anyL at h2
  rw [List.any_eq_true] at h2
  obtain ⟨x, hx, h3⟩ := h2
  obtain ⟨i, hi, rfl⟩ := List.getElem_of_mem hx
  exact ok_not3 (List.getElem?_eq_getElem hi) (by simpa using h3) (hl _ hx)
theorem ok_all {l : List IeV} {n : Nat} (hn : l.length = n) (h1 : n ≤ 16) (h : ∀ i y, i < n → l[i]? = some y → y.n ≤ 200) (hl : ∀ x ∈ l, x.bs.length = x.n) : okL (vals l) := ok_of hn h1 (anyL_no hn h) hl
theorem ok_le {l : List IeD} (h : okL l) (k : Nat) : (packL (l.take k)).length ≤ 3264 := by
  have h1 := packL_le (l.take k) fun x hx => h.2 x (List.mem_of_mem_take hx)
  have := h.1
  rw [List.length_take] at h1
  omega
theorem pack_step {l : List IeV} {k n c : Nat} {A : Option Addr} {id : Int} {bs : List Int} (h : l[k]? = some ⟨id, A, n, c, bs⟩) (hb : bs.length = n) (h2 : n ≤ 200) : packL ((vals l).take (k + 1)) = packL ((vals l).take k) ++ ([id, 128] ++ (digL n 2 ++ bs)) := by
  rw [packL_succ (vals_get h), digL_2 (by omega)]
  simp [packB, hb]
theorem pack_step2 {l : List IeV} {k n c : Nat} {A : Option Addr} {id : Int} {bs : List Int} (h : l[k]? = some ⟨id, A, n, c, bs⟩) (hb : bs.length = n) (h2 : n ≤ 200) : packL ((vals l).take (k + 1)) = packL ((vals l).take k) ++ ([id, 128, 0, IntKind.wrap .u8 ((n : Nat) : Int)] ++ bs) := by
  rw [packL_succ (vals_get h), wrap_u8, Nat.mod_eq_of_lt (by omega)]
  simp [packB, hb]
theorem packT_yes {l : List IeD} (h : okL l) : packT l = packL l ∧ packE l = 0 := by simp [packT, packE, h]
theorem packT_no {l : List IeD} (h : ¬ okL l) : packT l = [] ∧ packE l = 6 := by simp [packT, packE, h]
/-- What Pack answers. -/
def PackR (w w1 : World) (eB : TypeId) (x : Value) (T : List Int) (E : Int) : Prop := ∃ A' c', x = .tuple #[.slice A' T.length c', .int .i64 E] ∧ Rw w1 w.heap.size eB A' T.length c' (iL .u8 T) ∧ Step No w w1
theorem PackR.no {w w1 : World} {eB : TypeId} {l : List IeD} (h : ¬ okL l) (hs : Step No w w1) : PackR w w1 eB (.tuple #[.slice none 0 0, .int .i64 6]) (packT l) (packE l) := by
  obtain ⟨h1, h2⟩ := packT_no h
  rw [h1, h2]
  exact ⟨none, 0, rfl, Rw.nil _ _ _, hs⟩
theorem PackR.yes {w w1 : World} {eB base n c : Nat} {A : Option Addr} {l : List IeD} {xs : List Int} (h : okL l) (hr : Rw w1 base eB A n c (iL .u8 xs)) (hx : xs = packL l) (hb : w.heap.size ≤ base) (hs : Step No w w1) : PackR w w1 eB (.tuple #[.slice A n c, .int .i64 0]) (packT l) (packE l) := by
  obtain ⟨h1, h2⟩ := packT_yes h
  have hn := hr.lenI
  subst hx
  subst hn
  rw [h1, h2]
  exact ⟨A, c, rfl, hr.low hb, hs⟩
/-- What Unpack answers. -/
def UnR (w w1 : World) (eI eB : TypeId) (x : Value) (bs : List Int) : Prop := ∃ A' c' l', x = .tuple #[.slice A' l'.length c', .int .i64 (ieUE bs)] ∧ vals l' = ieUL bs ∧ Ier w1 w.heap.size eI eB A' l'.length c' l' ∧ Step No w w1
theorem UnR.no {w w1 : World} {eI eB : TypeId} {bs : List Int} {E : Int} (h : ieU [] bs = ([], E)) (hs : Step No w w1) : UnR w w1 eI eB (.tuple #[.slice none 0 0, .int .i64 E]) bs := by
  refine ⟨none, 0, [], ?_, by rw [ieUL, h]; rfl, Ier.nil _ _ _ _, hs⟩
  rw [ieUE, h]; rfl
theorem UnR.yes {w w1 : World} {eI eB base n c : Nat} {A : Option Addr} {l : List IeV} {bs : List Int} (h : ieU [] bs = (vals l, 0)) (hr : Ier w1 base eI eB A n c l) (hb : w.heap.size ≤ base) (hs : Step No w w1) : UnR w w1 eI eB (.tuple #[.slice A n c, .int .i64 0]) bs := by
  have hn := hr.len
  subst hn
  refine ⟨A, c, l, ?_, by rw [ieUL, h], hr.low hb, hs⟩
  rw [ieUE, h]
/-- The same elements. -/
theorem vals_eq {l l' : List IeV} {n : Nat} (h1 : l.length = n) (h2 : l'.length = n) (h : ∀ i x y, i < n → l[i]? = some x → l'[i]? = some y → x.id = y.id ∧ x.bs = y.bs) : (vals l == vals l') = true := by
  rw [beq_iff_eq]
  apply List.ext_getElem (by simp [vals, h1, h2])
  intro i g1 g2
  simp only [vals_len] at g1 g2
  have := h i l[i] l'[i] (by omega) (List.getElem?_eq_getElem g1) (List.getElem?_eq_getElem g2)
  simp [vals, IeV.val, this]
theorem vals_ne {l l' : List IeV} {i : Nat} {x y : IeV} (h1 : l[i]? = some x) (h2 : l'[i]? = some y) (h : ¬ (x.id = y.id ∧ x.bs = y.bs)) : (vals l == vals l') = false := by
  rw [beq_eq_false_iff_ne]
  intro e
  have := vals_get h1
  rw [e, vals_get h2] at this
  simp at this
  exact h ⟨this.1.symm, this.2.symm⟩
theorem vals_nel {l l' : List IeV} {n m : Nat} (h1 : l.length = n) (h2 : l'.length = m) (h : n ≠ m) : (vals l == vals l') = false := by
  rw [beq_eq_false_iff_ne]
  intro e
  have := congrArg List.length e
  simp only [vals_len] at this
  omega
theorem un_ieb {l : List IeV} {bs : List Int} (h : vals l = ieUL bs) (hb : Bytes bs) : ∀ x ∈ l, IeB x := by
  intro x hx
  have := ieU_bytes bs [] hb (fun x hx => by simp at hx) x.val (by rw [show (ieU [] bs).1 = vals l from h.symm]; exact List.mem_map_of_mem hx)
  exact ⟨this.1, this.2.1⟩
theorem un_small {w : World} {lo hi : Nat} {A : Option Addr} {l : List IeV} {bs : List Int} (hI : Ies w lo hi A l) (h : vals l = ieUL bs) (hb : Bytes bs) : ∀ x ∈ l, x.n ≤ 200 := by
  intro x hx
  have := ieU_bytes bs [] hb (fun x hx => by simp at hx) x.val (by rw [show (ieU [] bs).1 = vals l from h.symm]; exact List.mem_map_of_mem hx)
  have h2 := (hI.all x hx).len
  have h3 : x.val.2 = x.bs := rfl
  rw [h3] at this
  omega
end Go.Proofs.Ytejpcmjokamdcaa
