/- Layer 15: few, Find; slices of elements. -/
import Derived.Test.YtejpcmjokamdcaaIe2
set_option linter.unusedVariables false
set_option linter.unusedSimpArgs false
namespace Go.Proofs.Ytejpcmjokamdcaa
open Go.Vc
def fewB (l : List IeV) : Bool := l.all (fun y => decide (y.n ≤ 300)) && decide (l.length ≤ 20)
theorem fewB_yes {l : List IeV} (h : fewB l = true) : (∀ x ∈ l, x.n ≤ 300) ∧ l.length ≤ 20 := by
  unfold fewB at h
  simp only [Bool.and_eq_true, List.all_eq_true, decide_eq_true_eq] at h
  exact h
theorem fewB_no {l : List IeV} {k : Nat} {y : IeV} (h : l[k]? = some y) (h2 : 300 < y.n) : fewB l = false := by
  rw [Bool.eq_false_iff]
  intro h3
  have := (fewB_yes h3).1 y (List.mem_of_getElem? h)
  omega
theorem fewB_is {l : List IeV} {n : Nat} (hn : l.length = n) (h : ∀ i y, i < n → l[i]? = some y → y.n ≤ 300) : fewB l = decide (((n : Nat) : Int) ≤ 20) := by
  have h1 : l.all (fun y => decide (y.n ≤ 300)) = true := by
    rw [List.all_eq_true]
    intro x hx
    obtain ⟨i, hi, rfl⟩ := List.getElem_of_mem hx
    simpa using h i _ (by omega) (List.getElem?_eq_getElem hi)
  unfold fewB
  rw [h1, Bool.true_and, hn, Bool.eq_iff_iff]
  simp only [decide_eq_true_eq]
  omega
def isId (id : Int) (y : IeV) : Bool := decide (y.id = id)
theorem find_no {l : List IeV} {n : Nat} {id : Int} (hn : l.length = n) (h : ∀ i y, i < n → l[i]? = some y → y.id ≠ id) : l.find? (isId id) = none := by
  rw [List.find?_eq_none]
  intro x hx
  obtain ⟨i, hi, rfl⟩ := List.getElem_of_mem hx
  simpa [isId] using h i _ (by omega) (List.getElem?_eq_getElem hi)
theorem find_yes {id : Int} {y : IeV} (hy : y.id = id) : ∀ {l : List IeV} {k : Nat}, l[k]? = some y → (∀ i z, i < k → l[i]? = some z → z.id ≠ id) → l.find? (isId id) = some y
  | [], k, h, _ => by simp at h
  | x :: l, 0, h, _ => by simp at h; subst h; simp [isId, hy]
  | x :: l, k + 1, h, hz => by
    have h0 := hz 0 x (by omega) rfl
    rw [List.find?_cons_of_neg (by simpa [isId] using h0)]
    exact find_yes hy (by simpa using h) fun i z hi hz' => hz (i + 1) z (by omega) (by simpa using hz')
theorem find_step {l : List IeV} {k : Nat} {id : Int} {x : IeV} (h : l[k]? = some x) : (l.take (k + 1)).find? (isId id) = ((l.take k).find? (isId id)).or (if x.id = id then some x else none) := by
  rw [List.take_add_one, h, List.find?_append]
  by_cases hx : x.id = id <;> simp [isId, hx]
theorem find_in {l : List IeV} {id : Int} {y : IeV} (h : l.find? (isId id) = some y) : y ∈ l ∧ y.id = id := ⟨List.mem_of_find?_eq_some h, by have := List.find?_some h; simpa [isId] using this⟩
/-- What Find answers. -/
def FindR (w w1 : World) (x : Value) (l : List IeV) (id : Int) : Prop := ((l.find? (isId id) = none ∧ x = .tuple #[.agg #[.int .u8 0, .slice none 0 0], .bool false]) ∨ ∃ y, l.find? (isId id) = some y ∧ x = .tuple #[.agg #[.int .u8 y.id, .slice y.A y.n y.c], .bool true]) ∧ Step No w w1
section
variable {F : Nat → Prop} {w w' : World} {lo hi L H M sz : Nat} {A : Option Addr} {l : List IeV} {xs : List Value} {P : Program}
theorem Sl2.mov (h : Sl2 w lo hi A xs) (hM : H ≤ M) : Sl2 w lo hi (movA A (decide (M = L)) (L * sz)) ((xs.drop (L * sz)).take ((H - L) * sz)) := by
  intro h0
  have h1 : 0 < xs.length := by simp at h0; omega
  obtain ⟨b, o, rfl, hl, hb, _⟩ := h h1
  obtain ⟨b', o', hA, hb', hc⟩ := h.sl.mov (L := L) (sz := sz) hM h0
  refine ⟨b', o', hA, ?_, hb', hc⟩
  have : b' = b := by
    unfold movA at hA
    by_cases e : M = L
    · simp [e] at hA; exact hA.1.symm
    · simp [e, add_none] at hA; exact hA.1.symm
  omega
theorem Ies.mov (h : Ies w lo hi A l) (hM : H ≤ M) : Ies w lo hi (movA A (decide (M = L)) (L * 2)) ((l.drop L).take (H - L)) := by
  refine ⟨?_, fun x hx => h.all x (List.mem_of_mem_drop (List.mem_of_mem_take hx))⟩
  have := Sl2.mov (L := L) (sz := 2) h.sl hM
  rwa [ieL_drop, ieL_take] at this
end
section
variable {r : Option Nat} {n : Nat} {ds : List Deferred} {P : Program} {ops : Array Oper} {Q : Exit → Act → World → Prop} {tbl : List (List Nat)} {m : Nat} {l : List (Nat × Value)} {R : World → World → Prop} {ch : List Nat} {w : World} {i : Nat}
theorem VL_sliceI {d len cap lo9 hi9 : Nat} {A : Option Addr} {xs : List IeV} {lo hi mx : Option Int} (h : sliceOpA P n ops l i = some (d, A, 2, len, cap, lo, hi, mx)) (hi' : Nat.blt i ops.size = true) (hno : mx ≠ none → hi ≠ none) (hA : Ies w lo9 hi9 A xs) (L H M : Nat)
    (hl : lo.getD 0 = L) (hh : hi.getD len = H) (hm : mx.getD cap = M) (h1 : L ≤ H) (h2 : H ≤ M) (h3 : M ≤ cap) (N : Nat) (hN : H - L = N) (C : Nat) (hC : M - L = C) (next : ∀ A', Ies w lo9 hi9 A' ((xs.drop L).take N) → VL r n ds P ops Q (i + 1) ((d, .slice A' N C) :: l) w) : VL r n ds P ops Q i l w := by
  subst hN; subst hC
  exact VL_sliceA h hi' hno L H M hl hh hm h1 h2 h3 _ rfl _ rfl (next _ (hA.mov h2))
end
theorem drop_take_one {α : Type} {l : List α} {k : Nat} {x : α} (h : l[k]? = some x) : (l.drop k).take 1 = [x] := by
  obtain ⟨hk, rfl⟩ := List.getElem?_eq_some_iff.1 h
  rw [List.drop_eq_getElem_cons hk]; rfl
end Go.Proofs.Ytejpcmjokamdcaa
