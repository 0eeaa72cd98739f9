/- A slice's elements as an array. -/
import Derived.Test.YtfkahhkojlfmdaaVc14
set_option linter.unusedVariables false
set_option linter.unusedSimpArgs false
namespace Go.Vc
open Go.RowKit
section
variable {r : Option Nat} {n : Nat} {ds : List Deferred} {P : Program} {ops : Array Oper} {Q : Exit → Act → World → Prop} {l : List (Nat × Value)} {w : World} {i : Nat} {K : List (Nat × Value) → World → Prop}
def stapOp (P : Program) (n : Nat) (ops : Array Oper) (l : List (Nat × Value)) (i : Nat) : Option (Nat × Option Addr × Nat × Nat) :=
  match theOp ops l i with
  | some { dst := some d, op := .sliceToArrayPointer t x, .. } => match P.underlying t, evL l x with
    | some (.array N _), .slice A len _ => bif Nat.blt d n then some (d, A, len, N) else none
    | _, _ => none
  | _ => none
theorem V1_stap {d len N : Nat} {A : Option Addr} (h : stapOp P n ops l i = some (d, A, len, N)) (hN : N ≤ len) (next : K ((d, .pointer A) :: l) w) : V1 r n ds P ops Q i l w K := by
  unfold stapOp at h
  split at h
  · rename_i _ d' t x ty pos aft gd ho
    split at h
    · rename_i N' el A' len' cap' hu hx
      cases hb : Nat.blt d' n with
      | false => rw [hb] at h; cases h
      | true =>
        rw [hb] at h
        simp only [cond_true, Option.some.injEq, Prod.mk.injEq] at h
        obtain ⟨rfl, rfl, rfl, rfl⟩ := h
        refine V1_value ho rfl hb ?_ next
        have h0 : ¬ len' < N' := by omega
        simp [execOp, Instr.arrayAt, hx, Sem.run_bind, run_underlying' hu, h0]
    · cases h
  · cases h
theorem VL_stap {d len N : Nat} {A : Option Addr} (h : stapOp P n ops l i = some (d, A, len, N)) (hi : Nat.blt i ops.size = true) (hN : N ≤ len) (next : VL r n ds P ops Q (i + 1) ((d, .pointer A) :: l) w) : VL r n ds P ops Q i l w :=
  VL_of_V1 hi (V1_stap h hN next)
end
/-- The first elements of what lies at a slice's address, as an array. -/
theorem Loads.slArr {w : World} {B b o N : Nat} {k : IntKind} {bs : List Int} {P : Program} {t : TypeId} (h : Sl w B (some ⟨b, o, none⟩) (iL k bs)) (ht : aggB P t = some N) (hn : N ≤ bs.length) : Loads P t w ⟨b, o, none⟩ (.agg (iA k (bs.take N))) := by
  refine Loads.cells ht _ (by simp [Nat.min_eq_left hn]) fun j hj => ?_
  have hj2 : j < bs.length := by omega
  rw [add_none, iA_get j (by rw [List.length_take]; omega), h.get j _ (iL_get j hj2)]
  simp only [List.getD, List.getElem?_take, if_pos hj]
end Go.Vc
