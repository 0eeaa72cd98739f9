/- Layer 10 in plain Lean: texts as frames. -/
import Derived.Test.YtgiefcolkohgkaaRf6
set_option linter.unusedVariables false
set_option linter.unusedSimpArgs false
namespace Go.Proofs.Ytgiefcolkohgkaa
open Go.Vc
def manyN (n : Nat) : Nat := if n = 0 then 0 else (n + 55) / 48
theorem many_le (n : Nat) : (n = 0 → manyN n = 0) ∧ (0 < n → n + 8 ≤ 48 * manyN n ∧ 48 * manyN n ≤ n + 55) := by
  unfold manyN
  by_cases h : n = 0
  · rw [if_pos h]; omega
  · rw [if_neg h]; omega
def sumL (bs : List Int) : List Int := [IntKind.wrap .u8 ((longB bs).fdiv (2 ^ 24)), IntKind.wrap .u8 ((longB bs).fdiv (2 ^ 16)), IntKind.wrap .u8 ((longB bs).fdiv (2 ^ 8)), IntKind.wrap .u8 (longB bs)]
def lenB (n : Nat) : List Int := [IntKind.wrap .u8 (((n : Nat) : Int).fdiv (2 ^ 8)), IntKind.wrap .u8 ((n : Nat) : Int)]
def padF (bs : List Int) : List Int := bs ++ List.replicate (48 * manyN bs.length - 8 - bs.length) 0
def headF (bs : List Int) (m : Int) : List Int := padF bs ++ (m :: 0 :: lenB bs.length)
def frameF (bs : List Int) (m : Int) : List Int := headF bs m ++ sumL (headF bs m)
theorem putL_rep (N : Nat) (bs : List Int) : putL (List.replicate N 0) 0 bs = bs ++ List.replicate (N - bs.length) 0 := by
  simp [putL]
theorem padF_len {bs : List Int} (h : 0 < bs.length) : (padF bs).length = 48 * manyN bs.length - 8 := by
  have := (many_le bs.length).2 h
  simp [padF]; omega
theorem headF_len {bs : List Int} {m : Int} (h : 0 < bs.length) : (headF bs m).length = 48 * manyN bs.length - 4 := by
  have := (many_le bs.length).2 h
  simp [headF, padF_len h, lenB]; omega
theorem frameF_len {bs : List Int} {m : Int} (h : 0 < bs.length) : (frameF bs m).length = 48 * manyN bs.length := by
  have := (many_le bs.length).2 h
  simp [frameF, headF_len h, sumL]; omega
end Go.Proofs.Ytgiefcolkohgkaa
