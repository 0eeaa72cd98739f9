/- Layer 10 in plain Lean: a number's bits, as the law asks for them. -/
import Derived.Test.YtfgmlgkopphekaaFr16
import Derived.Test.YtfgmlgkopphekaaVc14
set_option linter.unusedVariables false
set_option linter.unusedSimpArgs false
namespace Go.Proofs.Ytfgmlgkopphekaa
open Go.Vc
theorem bAnd_u32' (a b : Nat) (ha : a < 2 ^ 32) (hb : b < 2 ^ 32) : bAnd .u32 (a : Int) (b : Int) = ((a &&& b : Nat) : Int) := by
  unfold bAnd
  rw [BitVec.ofInt_natCast, BitVec.ofInt_natCast, BitVec.toNat_and, BitVec.toNat_ofNat, BitVec.toNat_ofNat]
  show IntKind.wrap .u32 (((a % 2 ^ 32 &&& b % 2 ^ 32 : Nat)) : Int) = _
  have h := Nat.and_lt_two_pow a hb
  rw [Nat.mod_eq_of_lt ha, Nat.mod_eq_of_lt hb, wrap_u32, Nat.mod_eq_of_lt h]
theorem and_bit {y : Nat} (i : Nat) (h : y < 4294967296) : (bAnd .u32 (((y : Nat) : Int).fdiv (2 ^ i)) 1 == 1) = y.testBit i := by
  have hlt : y / 2 ^ i < 2 ^ 32 := Nat.lt_of_le_of_lt (Nat.div_le_self _ _) h
  have hp : ((y : Nat) : Int).fdiv (2 ^ i) = ((y / 2 ^ i : Nat) : Int) := fdiv_nat y i
  rw [hp, show (1 : Int) = ((1 : Nat) : Int) from rfl, bAnd_u32' _ _ hlt (by decide), Nat.and_one_is_mod, Nat.testBit_eq_decide_div_mod_eq]
  by_cases e : y / 2 ^ i % 2 = 1
  · rw [e]; rfl
  · rw [show y / 2 ^ i % 2 = 0 by omega]; rfl
theorem turnO_y {F : List Int} {s y i L : Nat} (hL : F.length = L) (h : bAnd .u32 (((y : Nat) : Int).fdiv (2 ^ i)) 1 = 1) (hy : y < 4294967296) (h2 : s + i < 8 * L) : turnO F s y (i + 1) = flipL (turnO F s y i) (s + i) := by
  have h1 : y.testBit i = true := by rw [← and_bit i hy, h]; rfl
  rw [turnO, if_pos (by simp [h1, hL, h2])]
theorem turnC_y {s y i L : Nat} (h : bAnd .u32 (((y : Nat) : Int).fdiv (2 ^ i)) 1 = 1) (hy : y < 4294967296) (h2 : s + i < L) : turnC L s y (i + 1) = true := by
  have h1 : y.testBit i = true := by rw [← and_bit i hy, h]; rfl
  rw [turnC, h1, decide_eq_true h2]; simp
theorem turn_n {F : List Int} {s y i L : Nat} (hL : F.length = L) (hy : y < 4294967296) (h : bAnd .u32 (((y : Nat) : Int).fdiv (2 ^ i)) 1 ≠ 1 ∨ ¬ s + i < 8 * L) : turnO F s y (i + 1) = turnO F s y i ∧ turnC (8 * L) s y (i + 1) = turnC (8 * L) s y i := by
  have h1 : (y.testBit i && decide (s + i < 8 * L)) = false := by
    rcases h with h | h
    · have : y.testBit i = false := by rw [← and_bit i hy, beq_eq_false_iff_ne.2 h]
      rw [this]; rfl
    · rw [decide_eq_false h, Bool.and_false]
  exact ⟨by rw [turnO, hL, h1]; rfl, by rw [turnC, h1, Bool.or_false]⟩
theorem un_short {F : List Int} {L : Nat} (hF : F.length = L) (h48 : 48 ≤ L) (h : unE (F.take (L - 48)) = 0) : 48 < L := by
  by_cases e : L = 48
  · subst e
    rw [Nat.sub_self, List.take_zero, un_nil] at h
    cases h
  · omega
end Go.Proofs.Ytfgmlgkopphekaa
