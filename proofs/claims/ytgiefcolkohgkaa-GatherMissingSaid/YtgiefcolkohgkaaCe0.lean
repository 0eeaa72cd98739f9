/- Layer 10: a frame's parts, as they are handed on. -/
import Derived.Test.YtgiefcolkohgkaaVc16
set_option linter.unusedVariables false
set_option linter.unusedSimpArgs false
namespace Go.Proofs.Ytgiefcolkohgkaa
open Go.Vc
def cellsV (bs : List Int) : List (Array Value) := (List.range (bs.length / 48)).map fun k => #[.agg (iA .u8 ((bs.drop (48 * k)).take 48)), .bool (((bs.length - 48 * k : Nat) : Int) == 48)]
theorem cellsV_len (bs : List Int) : (cellsV bs).length = bs.length / 48 := by simp [cellsV]
theorem cellsV_get {bs : List Int} {n j : Nat} (hn : bs.length = n) (hj : 48 ≤ n - 48 * j) : (cellsV bs)[j]? = some #[.agg (iA .u8 ((bs.drop (48 * j)).take 48)), .bool (((n - 48 * j : Nat) : Int) == 48)] := by
  subst hn
  unfold cellsV
  rw [List.getElem?_map, List.getElem?_range (by omega)]; rfl
theorem cellsV_inv {bs : List Int} {n k : Nat} {args : Array Value} (hn : bs.length = n) (h : (cellsV bs)[k]? = some args) : 48 * k + 48 ≤ n ∧ args = #[.agg (iA .u8 ((bs.drop (48 * k)).take 48)), .bool (((n - 48 * k : Nat) : Int) == 48)] := by
  have hlt : k < (cellsV bs).length := (List.getElem?_eq_some_iff.1 h).1
  rw [cellsV_len, hn] at hlt
  rw [cellsV_get hn (by omega)] at h
  exact ⟨by omega, (Option.some.inj h).symm⟩
theorem last_is {n k : Nat} (h : 48 * k + 48 ≤ n) : (((n - 48 * k : Nat) : Int) == 48) = (decide (n % 48 = 0) && decide (k = n / 48 - 1)) := by
  rw [Bool.eq_iff_iff]
  simp only [beq_iff_eq, Bool.and_eq_true, decide_eq_true_eq]
  omega
theorem last_T {n k : Nat} (h : 48 * k + 48 ≤ n) (h0 : ((n % 48 : Nat) : Int) = 0) : (!((((n - 48 * k : Nat) : Int) == 48) == (((k : Nat) : Int) == (((n / 48) - 1 : Nat) : Int)))) = false := by
  have : ((((n - 48 * k : Nat) : Int) == 48) = (((k : Nat) : Int) == (((n / 48) - 1 : Nat) : Int))) := by
    rw [Bool.eq_iff_iff]; simp only [beq_iff_eq]; omega
  rw [this]; simp
theorem last_F {n k : Nat} (h : 48 * k + 48 ≤ n) (h0 : ¬ ((n % 48 : Nat) : Int) = 0) : (!((((n - 48 * k : Nat) : Int) == 48) == false)) = false := by
  have : (((n - 48 * k : Nat) : Int) == 48) = false := by simp only [beq_eq_false_iff_ne]; omega
  rw [this]; rfl
theorem min_is {K n p : Nat} (hn : n < 1000) (hp : p < 256) (hK : K = min (n / 48) (p + 1)) : (((K : Nat) : Int) == imin (IntKind.wrap .i64 (((n : Nat) : Int).tdiv 48)) (IntKind.wrap .i64 ((IntKind.wrap .i64 ((p : Nat) : Int)) + 1))) = true := by
  rw [show ((n : Nat) : Int).tdiv 48 = ((n / 48 : Nat) : Int) from tdiv_nat n 48, wrap_i64 _ (by omega) (by omega), wrap_i64 ((p : Nat) : Int) (by omega) (by omega), wrap_i64 _ (by omega) (by omega), imin_eq, beq_iff_eq]; omega
end Go.Proofs.Ytgiefcolkohgkaa
