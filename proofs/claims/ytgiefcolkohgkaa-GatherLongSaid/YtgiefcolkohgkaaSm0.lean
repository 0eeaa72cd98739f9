/- Layer 1: what the bits of bytes are, and the register behind them. -/
import Derived.Test.YtgiefcolkohgkaaVc12
set_option linter.unusedVariables false
set_option linter.unusedSimpArgs false
namespace Go.Proofs.Ytgiefcolkohgkaa
open Go.Vc

def bits8 (x : Int) : List Bool := [bAnd .u8 (x.fdiv (2 ^ 7)) 1 == 1, bAnd .u8 (x.fdiv (2 ^ 6)) 1 == 1, bAnd .u8 (x.fdiv (2 ^ 5)) 1 == 1, bAnd .u8 (x.fdiv (2 ^ 4)) 1 == 1, bAnd .u8 (x.fdiv (2 ^ 3)) 1 == 1, bAnd .u8 (x.fdiv (2 ^ 2)) 1 == 1, bAnd .u8 (x.fdiv (2 ^ 1)) 1 == 1, bAnd .u8 (x.fdiv (2 ^ 0)) 1 == 1]
def bitsL (bs : List Int) : List Bool := bs.flatMap bits8
def bitsV (bs : List Int) : List (Array Value) := (bitsL bs).map fun x => #[.bool x]
theorem flat8_get {α : Type} (f : Int → List α) (hf : ∀ x, (f x).length = 8) (bs : List Int) : ∀ (j i : Nat), j < bs.length → i < 8 → (bs.flatMap f)[8 * j + i]? = (f (bs.getD j 0))[i]? := by
  induction bs with
  | nil => intro j i h; simp at h
  | cons x r ih =>
    intro j i hj hi
    rw [List.flatMap_cons]
    cases j with
    | zero =>
      rw [Nat.mul_zero, Nat.zero_add, List.getElem?_append_left (by rw [hf]; exact hi)]
      rfl
    | succ j =>
      rw [List.getElem?_append_right (by rw [hf]; omega), hf, show 8 * (j + 1) + i - 8 = 8 * j + i from by omega, ih j i (by simpa using hj) hi]
      simp
theorem flat8_len {α : Type} (f : Int → List α) (hf : ∀ x, (f x).length = 8) (bs : List Int) : (bs.flatMap f).length = 8 * bs.length := by
  induction bs with
  | nil => rfl
  | cons x r ih => rw [List.flatMap_cons, List.length_append, hf, ih, List.length_cons]; omega
theorem bits8_len (x : Int) : (bits8 x).length = 8 := rfl
theorem bitsL_len (bs : List Int) : (bitsL bs).length = 8 * bs.length := flat8_len bits8 bits8_len bs
theorem bitsV_len (bs : List Int) : (bitsV bs).length = 8 * bs.length := by simp [bitsV, bitsL_len]
theorem bitsV_get {bs : List Int} {j i : Nat} {b : Bool} (hj : j < bs.length) (hi : i < 8) (h : (bits8 (bs.getD j 0))[i]? = some b) : (bitsV bs)[8 * j + i]? = some #[.bool b] := by
  rw [bitsV, List.getElem?_map, bitsL, flat8_get bits8 bits8_len bs j i hj hi, h]; rfl

def maskOf (top : Int) : Int := IntKind.wrap .u32 (IntKind.wrap .u32 (top * 2 ^ 1) - 1)
def stepB (top by_ r : Int) (bit : Bool) : Int :=
  if ((bAnd .u32 r top != 0) == bit) = true then bAnd .u32 (IntKind.wrap .u32 (r * 2 ^ 1)) (maskOf top) else bXor .u32 (bAnd .u32 (IntKind.wrap .u32 (r * 2 ^ 1)) (maskOf top)) by_
def restB (bs : List Int) (r top by_ : Int) : Int := (bitsL bs).foldl (stepB top by_) r
theorem foldl_take_succ {α β : Type} (f : β → α → β) (a : β) (xs : List α) (k : Nat) (x : α) (h : xs[k]? = some x) : (xs.take (k + 1)).foldl f a = f ((xs.take k).foldl f a) x := by
  rw [List.take_add_one, h]; simp
end Go.Proofs.Ytgiefcolkohgkaa
