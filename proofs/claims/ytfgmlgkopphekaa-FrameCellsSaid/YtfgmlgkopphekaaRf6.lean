/- Layer 1, the document's: the frame's check. -/
import Derived.Test.YtfgmlgkopphekaaRf5
import Derived.Test.YtfgmlgkopphekaaSm0
set_option linter.unusedVariables false
set_option linter.unusedSimpArgs false
namespace Go.Proofs.Ytfgmlgkopphekaa
open Go.Vc
def restT (by_ : Int) (d : Nat) (bs : List Int) : Int := numF (divF (gF by_ d d) (flipF (bs ++ List.replicate d 0) d) bs.length) bs.length d
theorem rrestT2_any (A : Option Addr) (n c Bd : Nat) (bs : List Int) (w : World) (hn : bs.length = n) (hA : Sl w Bd A (iL .i64 bs)) (hlen : n ≤ 100000) (hBd : Bd ≤ w.heap.size) (by_ : Int) (d : Nat) (hd0 : 1 ≤ d) (hd : d ≤ 64) :
    CV Try.prog 27 #[.slice A n c, .int .u64 by_, .int .i64 ((d : Nat) : Int), .bool true] w (fun x w1 => x = .int .u64 (restT by_ d bs) ∧ Step No w w1) := by
  have := rrestT_any A n c Bd bs w hn hA hlen hBd by_ d hd0 hd
  subst hn
  exact this
def longB (bs : List Int) : Int := bXor .u32 4294967295 (restB bs 4294967295 2147483648 79764919)
def rlongB (bs : List Int) : Int := bXor .u32 4294967295 (IntKind.wrap .u32 (restT 79764919 32 (rbitsL bs)))
end Go.Proofs.Ytfgmlgkopphekaa
