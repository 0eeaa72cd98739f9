/- The rest by a variable. -/
import Derived.Test.YtfkahhkojlfmdaaVc13
set_option linter.unusedVariables false
set_option linter.unusedSimpArgs false
namespace Go.Vc
open Go.RowKit
section
variable {r : Option Nat} {n : Nat} {ds : List Deferred} {P : Program} {ops : Array Oper} {Q : Exit → Act → World → Prop} {l : List (Nat × Value)} {w : World} {i : Nat} {K : List (Nat × Value) → World → Prop}
def remOp (n : Nat) (ops : Array Oper) (l : List (Nat × Value)) (i : Nat) : Option (Nat × IntKind × Int × Int) :=
  match theOp ops l i with
  | some { dst := some d, op := .binOp .rem _ x y _, .. } => match evL l x, evL l y with
    | .int k a, .int k' b => if k = k' then bif Nat.blt d n then some (d, k, a, b) else none else none
    | _, _ => none
  | _ => none
theorem V1_rem {d : Nat} {k : IntKind} {x y : Int} (h : remOp n ops l i = some (d, k, x, y)) (hy : y ≠ 0) (next : K ((d, .int k (x.tmod y)) :: l) w) : V1 r n ds P ops Q i l w K := by
  unfold remOp at h
  split at h
  · rename_i _ d' t a b u ty pos aft gd ho
    split at h
    · rename_i k' xa yk yb hx hyv
      split at h
      · rename_i hk
        subst hk
        cases hb : Nat.blt d' n with
        | false => rw [hb] at h; cases h
        | true =>
          rw [hb] at h
          simp only [cond_true, Option.some.injEq, Prod.mk.injEq] at h
          obtain ⟨rfl, rfl, rfl, rfl⟩ := h
          refine V1_value ho rfl hb ?_ next
          simp [execOp, eqGuard, binOp, Op.intDiv, hx, hyv, Sem.run_bind, hy]
      · cases h
    · cases h
  · cases h
theorem VL_rem {d : Nat} {k : IntKind} {x y : Int} (h : remOp n ops l i = some (d, k, x, y)) (hi : Nat.blt i ops.size = true) (hy : y ≠ 0) (next : VL r n ds P ops Q (i + 1) ((d, .int k (x.tmod y)) :: l) w) : VL r n ds P ops Q i l w :=
  VL_of_V1 hi (V1_rem h hy next)
end
theorem wrap_u64n (a : Nat) (h : a < 18446744073709551616) : IntKind.wrap .u64 (a : Int) = (a : Int) := by
  unfold IntKind.wrap
  simp only [IntKind.signed, IntKind.bits, Bool.false_and, Bool.false_eq_true, if_false]
  omega
theorem rem_nat64 (a b : Nat) (hb : 0 < b) (hb2 : b < 9223372036854775808) : IntKind.wrap .i64 ((a : Int).tmod (b : Int)) = ((a % b : Nat) : Int) := by
  have h : (a : Int).tmod (b : Int) = ((a % b : Nat) : Int) := by rw [Int.tmod_eq_emod_of_nonneg (by omega)]; rfl
  have := Nat.mod_lt a hb
  rw [h, wrap_i64 _ (by omega) (by omega)]
end Go.Vc
