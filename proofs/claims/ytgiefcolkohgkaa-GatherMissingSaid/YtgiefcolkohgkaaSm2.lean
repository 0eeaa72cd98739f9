/- Layer 4: a payload's check. -/
import Derived.Test.YtgiefcolkohgkaaSm1
set_option linter.unusedVariables false
set_option linter.unusedSimpArgs false
namespace Go.Proofs.Ytgiefcolkohgkaa
open Go.Vc
def carryF (bs : List Int) : Nat → Int
  | 0 => 0
  | k + 1 => IntKind.wrap .u8 (bs.getD k 0 * 2 ^ 6)
def shiftF (bs : List Int) : Nat → List Int
  | 0 => List.replicate 47 0
  | k + 1 => (shiftF bs k).set k (bOr .u8 (carryF bs k) ((bs.getD k 0).fdiv (2 ^ 2)))
theorem shiftF_len (bs : List Int) : ∀ k, (shiftF bs k).length = 47
  | 0 => rfl
  | k + 1 => by rw [shiftF, List.length_set, shiftF_len bs k]
def tenB (bs : List Int) : Int := IntKind.wrap .u16 (restB bs 0 512 563)
def sealL (bs : List Int) : List Int :=
  (bs.set 46 (bOr .u8 (bAndNot .u8 (bs.getD 46 0) 3) (IntKind.wrap .u8 ((tenB (shiftF bs 47)).fdiv (2 ^ 8))))).set 47 (IntKind.wrap .u8 (tenB (shiftF bs 47)))
theorem sealL_len (bs : List Int) : (sealL bs).length = bs.length := by simp [sealL]
end Go.Proofs.Ytgiefcolkohgkaa
