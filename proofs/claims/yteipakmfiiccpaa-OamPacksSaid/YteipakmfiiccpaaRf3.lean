/- Layers 1 and 4, the document's. -/
import Derived.Test.YteipakmfiiccpaaRf2
set_option linter.unusedVariables false
set_option linter.unusedSimpArgs false
namespace Go.Proofs.Yteipakmfiiccpaa
open Go.Vc
def restF (by_ : Int) (d : Nat) (bs : List Int) : Int := numF (divF (gF by_ d d) (bs ++ List.replicate d 0) bs.length) bs.length d
theorem rrest2_any (A : Option Addr) (n c Bd : Nat) (bs : List Int) (w : World) (hn : bs.length = n) (hA : Sl w Bd A (iL .i64 bs)) (hlen : n ≤ 100000) (hBd : Bd ≤ w.heap.size) (by_ : Int) (d : Nat) (hd0 : 1 ≤ d) (hd : d ≤ 64) :
    CV Try.prog 30 #[.slice A n c, .int .u64 by_, .int .i64 ((d : Nat) : Int), .bool false] w (fun x w1 => x = .int .u64 (restF by_ d bs) ∧ Step No w w1) := by
  have := rrest_any A n c Bd bs w hn hA hlen hBd by_ d hd0 hd
  subst hn
  exact this
def sealR (bs : List Int) : List Int :=
  (bs.set 46 (IntKind.wrap .u8 (IntKind.wrap .u8 (IntKind.wrap .u8 ((bs.getD 46 0).tdiv 4) * 4) + IntKind.wrap .u8 (IntKind.wrap .u64 ((restF 563 10 ((rbitsL bs).take 374)).tdiv 256))))).set 47 (IntKind.wrap .u8 ((restF 563 10 ((rbitsL bs).take 374)).tmod 256))
theorem sealR_len (bs : List Int) : (sealR bs).length = bs.length := by simp [sealR]
end Go.Proofs.Yteipakmfiiccpaa
