/- Layer 1, the document's: bits, a division of polynomials. -/
import Derived.Test.YtgiefcolkohgkaaVc12
set_option linter.unusedVariables false
set_option linter.unusedSimpArgs false
namespace Go.Proofs.Ytgiefcolkohgkaa
open Go.Vc
def rbit (x d : Int) : Int := (IntKind.wrap .i64 ((IntKind.wrap .i64 x).tdiv d)).tmod 2
def rbits8 (x : Int) : List Int := [rbit x 128, rbit x 64, rbit x 32, rbit x 16, rbit x 8, rbit x 4, rbit x 2, rbit x 1]
def rbitsF (bs : List Int) (j : Nat) : List Int := (bs.take j).flatMap rbits8
def rbitsL (bs : List Int) : List Int := bs.flatMap rbits8
theorem rbitsF_succ {bs : List Int} {j : Nat} (h : j < bs.length) : rbitsF bs (j + 1) = rbitsF bs j ++ rbits8 (bs.getD j 0) := by
  unfold rbitsF
  rw [List.take_add_one, List.getElem?_eq_getElem h, List.flatMap_append]
  simp only [List.getD, List.getElem?_eq_getElem h, Option.toList_some, List.flatMap_cons, List.flatMap_nil, List.append_nil, Option.getD_some]
theorem rbitsF_all (bs : List Int) : rbitsF bs bs.length = rbitsL bs := by simp [rbitsF, rbitsL]
theorem rbits8_len (x : Int) : (rbits8 x).length = 8 := rfl
theorem rbitsL_len (bs : List Int) : (rbitsL bs).length = 8 * bs.length := by
  induction bs with
  | nil => rfl
  | cons x r ih => rw [rbitsL, List.flatMap_cons, List.length_append, rbits8_len, ← rbitsL, ih, List.length_cons]; omega
/-- One step of the division: the divisor is laid under, from place i on, k of its coefficients. -/
def addF (g : List Int) (i : Nat) (a : List Int) : Nat → List Int
  | 0 => a
  | k + 1 => (addF g i a k).set (i + k) ((IntKind.wrap .i64 ((addF g i a k).getD (i + k) 0 + g.getD k 0)).tmod 2)
def divF (g : List Int) (xs : List Int) : Nat → List Int
  | 0 => xs
  | i + 1 => if (divF g xs i).getD i 0 = 0 then divF g xs i else addF g i (divF g xs i) g.length
theorem addF_len (g : List Int) (i : Nat) (a : List Int) : ∀ k, (addF g i a k).length = a.length
  | 0 => rfl
  | k + 1 => by rw [addF, List.length_set, addF_len g i a k]
theorem divF_len (g : List Int) (xs : List Int) : ∀ i, (divF g xs i).length = xs.length
  | 0 => rfl
  | i + 1 => by rw [divF]; split <;> simp only [addF_len, divF_len g xs i]
def numF (xs : List Int) (from_ : Nat) : Nat → Int
  | 0 => 0
  | k + 1 => IntKind.wrap .u64 (IntKind.wrap .u64 (2 * numF xs from_ k) + IntKind.wrap .u64 (xs.getD (from_ + k) 0))
def flipF (xs : List Int) : Nat → List Int
  | 0 => xs
  | i + 1 => (flipF xs i).set i (IntKind.wrap .i64 (1 - (flipF xs i).getD i 0))
theorem flipF_len (xs : List Int) : ∀ i, (flipF xs i).length = xs.length
  | 0 => rfl
  | i + 1 => by rw [flipF, List.length_set, flipF_len xs i]
def gF (by_ : Int) (d : Nat) : Nat → List Int
  | 0 => [1]
  | k + 1 => gF by_ d k ++ [IntKind.wrap .i64 ((by_.fdiv (2 ^ (d - 1 - k))).tmod 2)]
theorem gF_len (by_ : Int) (d : Nat) : ∀ k, (gF by_ d k).length = k + 1
  | 0 => rfl
  | k + 1 => by rw [gF, List.length_append, gF_len by_ d k]; rfl
def restF (by_ : Int) (d : Nat) (bs : List Int) : Int := numF (divF (gF by_ d d) (bs ++ List.replicate d 0) bs.length) bs.length d
def sealR (bs : List Int) : List Int :=
  (bs.set 46 (IntKind.wrap .u8 (IntKind.wrap .u8 (IntKind.wrap .u8 ((bs.getD 46 0).tdiv 4) * 4) + IntKind.wrap .u8 (IntKind.wrap .u64 ((restF 563 10 ((rbitsL bs).take 374)).tdiv 256))))).set 47 (IntKind.wrap .u8 ((restF 563 10 ((rbitsL bs).take 374)).tmod 256))
theorem sealR_len (bs : List Int) : (sealR bs).length = bs.length := by simp [sealR]
def restL (g : List Int) (xs : List Int) (d : Nat) : Int := numF (divF g (xs ++ List.replicate d 0) xs.length) xs.length d
end Go.Proofs.Ytgiefcolkohgkaa
