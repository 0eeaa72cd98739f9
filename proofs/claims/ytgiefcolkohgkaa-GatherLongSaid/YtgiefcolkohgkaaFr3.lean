/- Layer 10 in plain Lean: frames as texts. -/
import Derived.Test.YtgiefcolkohgkaaFr1
import Derived.Test.YtgiefcolkohgkaaCr2
import Derived.Laws.Strings
set_option linter.unusedVariables false
set_option linter.unusedSimpArgs false
namespace Go.Proofs.Ytgiefcolkohgkaa
open Go.Vc
theorem sumL_bytes (bs : List Int) : Bytes (sumL bs) := by
  intro x hx
  simp only [sumL, List.mem_cons, List.mem_nil_iff, or_false] at hx
  rcases hx with rfl | rfl | rfl | rfl <;> exact byte_wrap _
theorem str_eqL {xs ys : List Int} (hx : Bytes xs) (hy : Bytes ys) : ((strOf xs).toList == (strOf ys).toList) = (xs == ys) := by
  rw [Bool.eq_iff_iff, beq_iff_eq, beq_iff_eq]
  constructor
  · intro h
    refine strOf_inj hx hy ?_
    have : (strOf xs).data = (strOf ys).data := by
      have h2 := h
      rw [ByteArray.toList_eq, ByteArray.toList_eq] at h2
      exact Array.toList_inj.1 h2
    exact congrArg ByteArray.mk this
  · intro h; rw [h]
/-- What a frame's trailer tells: its text's length. -/
def tailF (bs : List Int) (n : Nat) : List Int := (bs.drop (n - 8)).take (n - (n - 8))
def lenF (bs : List Int) (n : Nat) : Nat := ((tailF bs n).getD 2 0 * 256 + (tailF bs n).getD 3 0).toNat
theorem lenF_eq {bs : List Int} {n : Nat} (hb : Bytes bs) : bOr .i64 (IntKind.wrap .i64 (IntKind.wrap .i64 ((tailF bs n).getD 2 0) * 2 ^ 8)) (IntKind.wrap .i64 ((tailF bs n).getD 3 0)) = ((lenF bs n : Nat) : Int) := by
  have h2 := ((hb.drop (n - 8)).take (n - (n - 8))).get 2
  have h3 := ((hb.drop (n - 8)).take (n - (n - 8))).get 3
  unfold lenF tailF
  obtain ⟨a, ha⟩ : ∃ a : Nat, (((bs.drop (n - 8)).take (n - (n - 8))).getD 2 0) = (a : Int) := ⟨_, (Int.toNat_of_nonneg h2.1).symm⟩
  obtain ⟨b, hb'⟩ : ∃ b : Nat, (((bs.drop (n - 8)).take (n - (n - 8))).getD 3 0) = (b : Int) := ⟨_, (Int.toNat_of_nonneg h3.1).symm⟩
  rw [ha] at h2
  rw [hb'] at h3
  rw [ha, hb']
  rw [wrap_i64 ((a : Nat) : Int) (by omega) (by omega), wrap_i64 ((b : Nat) : Int) (by omega) (by omega), show ((a : Nat) : Int) * 2 ^ 8 = ((a * 256 : Nat) : Int) by omega, wrap_i64 _ (by omega) (by omega), bOr_i64 _ _ (by omega) (by omega), or_byte a b (by omega)]
  rw [show ((a : Nat) : Int) * 256 + (b : Int) = ((a * 256 + b : Nat) : Int) by omega, Int.toNat_natCast]
theorem lenF_lt {bs : List Int} {n : Nat} (hb : Bytes bs) : lenF bs n < 65536 := by
  have h2 := ((hb.drop (n - 8)).take (n - (n - 8))).get 2
  have h3 := ((hb.drop (n - 8)).take (n - (n - 8))).get 3
  unfold lenF tailF
  omega
def midF (bs : List Int) (n : Nat) : List Int := (bs.drop (lenF bs n)).take (n - 8 - lenF bs n)
/-- Is a frame bad, and how? -/
def unE (bs : List Int) : Int :=
  let n := bs.length
  if n = 0 ∨ n % 48 ≠ 0 then 5 else if (bs.drop (n - 4)).take (n - (n - 4)) ≠ sumL (bs.take (n - 4)) then 4
  else if (tailF bs n).getD 1 0 ≠ 0 ∨ lenF bs n = 0 ∨ manyN (lenF bs n) * 48 ≠ n then 5
  else if (midF bs n).any (fun x => x != 0) = true then 5 else if 1000 < lenF bs n then 6 else 0
def unT (bs : List Int) : List Int := if unE bs = 0 then bs.take (lenF bs bs.length) else []
def unM (bs : List Int) : Int := if unE bs = 0 then (tailF bs bs.length).getD 0 0 else 0
theorem un_err {bs : List Int} {e : Int} (h : unE bs = e) (he : e ≠ 0) : unT bs = [] ∧ unM bs = 0 := by
  unfold unT unM
  rw [h, if_neg he, if_neg he]; exact ⟨rfl, rfl⟩
theorem un_5a {bs : List Int} (h : bs.length = 0 ∨ bs.length % 48 ≠ 0) : unE bs = 5 := by unfold unE; rw [if_pos h]
theorem un_4 {bs : List Int} {n : Nat} (hn : bs.length = n) (h0 : n ≠ 0) (h1 : n % 48 = 0) (h2 : (bs.drop (n - 4)).take (n - (n - 4)) ≠ sumL (bs.take (n - 4))) : unE bs = 4 := by
  subst hn; unfold unE; rw [if_neg (by omega), if_pos h2]
theorem un_5b {bs : List Int} {n : Nat} (hn : bs.length = n) (h0 : n ≠ 0) (h1 : n % 48 = 0) (h2 : (bs.drop (n - 4)).take (n - (n - 4)) = sumL (bs.take (n - 4))) (h3 : (tailF bs n).getD 1 0 ≠ 0 ∨ lenF bs n = 0 ∨ manyN (lenF bs n) * 48 ≠ n) : unE bs = 5 := by
  subst hn; unfold unE; rw [if_neg (by omega), if_neg (by simp [h2]), if_pos h3]
theorem un_5c {bs : List Int} {n : Nat} (hn : bs.length = n) (h0 : n ≠ 0) (h1 : n % 48 = 0) (h2 : (bs.drop (n - 4)).take (n - (n - 4)) = sumL (bs.take (n - 4))) (h3 : (tailF bs n).getD 1 0 = 0) (h4 : lenF bs n ≠ 0) (h5 : manyN (lenF bs n) * 48 = n) (h6 : (midF bs n).any (fun x => x != 0) = true) : unE bs = 5 := by
  subst hn; unfold unE; rw [if_neg (by omega), if_neg (by simp [h2]), if_neg (by rintro (h | h | h); exact h h3; exact h4 h; exact h h5), if_pos h6]
theorem un_6 {bs : List Int} {n : Nat} (hn : bs.length = n) (h0 : n ≠ 0) (h1 : n % 48 = 0) (h2 : (bs.drop (n - 4)).take (n - (n - 4)) = sumL (bs.take (n - 4))) (h3 : (tailF bs n).getD 1 0 = 0) (h4 : lenF bs n ≠ 0) (h5 : manyN (lenF bs n) * 48 = n) (h6 : (midF bs n).any (fun x => x != 0) = false) (h7 : 1000 < lenF bs n) : unE bs = 6 := by
  subst hn; unfold unE; rw [if_neg (by omega), if_neg (by simp [h2]), if_neg (by rintro (h | h | h); exact h h3; exact h4 h; exact h h5), if_neg (by rw [h6]; decide), if_pos h7]
theorem un_0 {bs : List Int} {n : Nat} (hn : bs.length = n) (h0 : n ≠ 0) (h1 : n % 48 = 0) (h2 : (bs.drop (n - 4)).take (n - (n - 4)) = sumL (bs.take (n - 4))) (h3 : (tailF bs n).getD 1 0 = 0) (h4 : lenF bs n ≠ 0) (h5 : manyN (lenF bs n) * 48 = n) (h6 : (midF bs n).any (fun x => x != 0) = false) (h7 : ¬ 1000 < lenF bs n) : unE bs = 0 ∧ unT bs = bs.take (lenF bs n) ∧ unM bs = (tailF bs n).getD 0 0 := by
  subst hn
  have : unE bs = 0 := by unfold unE; rw [if_neg (by omega), if_neg (by simp [h2]), if_neg (by rintro (h | h | h); exact h h3; exact h4 h; exact h h5), if_neg (by rw [h6]; decide), if_neg h7]
  exact ⟨this, by unfold unT; rw [if_pos this], by unfold unM; rw [if_pos this]⟩
end Go.Proofs.Ytgiefcolkohgkaa
