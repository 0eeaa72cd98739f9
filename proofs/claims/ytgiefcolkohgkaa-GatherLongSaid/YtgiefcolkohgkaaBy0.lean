/- Lists of bytes, and numbers out of them. -/
import Derived.Test.YtgiefcolkohgkaaVc12
set_option linter.unusedVariables false
set_option linter.unusedSimpArgs false
namespace Go.Proofs.Ytgiefcolkohgkaa
open Go.Vc
def Bytes (bs : List Int) : Prop := ∀ x ∈ bs, 0 ≤ x ∧ x < 256
theorem Bytes.get {bs : List Int} (h : Bytes bs) (j : Nat) : 0 ≤ bs.getD j 0 ∧ bs.getD j 0 < 256 := by
  by_cases hj : j < bs.length
  · rw [List.getD, List.getElem?_eq_getElem hj]; exact h _ (List.getElem_mem hj)
  · rw [List.getD, List.getElem?_eq_none (by omega)]; simp
theorem Bytes.drop {bs : List Int} (h : Bytes bs) (j : Nat) : Bytes (bs.drop j) := fun x hx => h x (List.mem_of_mem_drop hx)
theorem Bytes.take {bs : List Int} (h : Bytes bs) (j : Nat) : Bytes (bs.take j) := fun x hx => h x (List.mem_of_mem_take hx)
theorem Bytes.app {xs ys : List Int} (h : Bytes xs) (h' : Bytes ys) : Bytes (xs ++ ys) := fun x hx => (List.mem_append.1 hx).elim (h x) (h' x)
theorem wrap_u8 (x : Nat) : IntKind.wrap .u8 (x : Int) = ((x % 2 ^ 8 : Nat) : Int) := by
  unfold IntKind.wrap
  simp [IntKind.signed, IntKind.bits]
theorem fdiv_nat (a k : Nat) : ((a : Int).fdiv (2 ^ k)) = ((a / 2 ^ k : Nat) : Int) := by
  rw [Int.fdiv_eq_ediv_of_nonneg _ (Int.le_of_lt (Int.pow_pos (by omega))), show ((2 : Int) ^ k) = ((2 ^ k : Nat) : Int) by rw [Int.natCast_pow]; rfl, ← Int.natCast_ediv]
theorem byte_wrap (x : Int) : 0 ≤ IntKind.wrap .u8 x ∧ IntKind.wrap .u8 x < 256 := by
  unfold IntKind.wrap
  simp only [IntKind.signed, IntKind.bits, Bool.false_and, Bool.false_eq_true, if_false]
  omega
theorem or_byte (a b : Nat) (hb : b < 256) : a * 256 ||| b = a * 256 + b := by
  rw [show a * 256 = 2 ^ 8 * a by omega, Nat.two_pow_add_eq_or_of_lt (by omega)]
theorem bOr_i64 (a b : Nat) (ha : a < 2 ^ 62) (hb : b < 2 ^ 62) : bOr .i64 (a : Int) (b : Int) = ((a ||| b : Nat) : Int) := by
  unfold bOr
  rw [BitVec.ofInt_natCast, BitVec.ofInt_natCast, BitVec.toNat_or, BitVec.toNat_ofNat, BitVec.toNat_ofNat]
  show IntKind.wrap .i64 (((a % 2 ^ 64 ||| b % 2 ^ 64 : Nat)) : Int) = _
  have h := Nat.or_lt_two_pow ha hb
  rw [Nat.mod_eq_of_lt (by omega), Nat.mod_eq_of_lt (by omega), wrap_i64 _ (by omega) (by omega)]
theorem Bytes.nil : Bytes [] := fun x hx => by simp at hx
theorem Bytes.cons {x : Int} {xs : List Int} (h : 0 ≤ x ∧ x < 256) (h' : Bytes xs) : Bytes (x :: xs) := fun y hy => (List.mem_cons.1 hy).elim (fun e => e ▸ h) (h' y)
theorem Bytes.head {x : Int} {xs : List Int} (h : Bytes (x :: xs)) : 0 ≤ x ∧ x < 256 := h x (by simp)
theorem Bytes.tail {x : Int} {xs : List Int} (h : Bytes (x :: xs)) : Bytes xs := fun y hy => h y (by simp [hy])
theorem bytes_getD {bs : List Int} (h : Bytes bs) (j : Nat) : ∃ a : Nat, bs.getD j 0 = (a : Int) ∧ a < 256 := by
  have := h.get j
  exact ⟨(bs.getD j 0).toNat, by omega, by omega⟩
end Go.Proofs.Ytgiefcolkohgkaa
