/- Layer 1, the document's: the frame's check. -/
import Derived.Test.YtgiefcolkohgkaaRf0
import Derived.Test.YtgiefcolkohgkaaSm0
set_option linter.unusedVariables false
set_option linter.unusedSimpArgs false
namespace Go.Proofs.Ytgiefcolkohgkaa
open Go.Vc
def restT (by_ : Int) (d : Nat) (bs : List Int) : Int := numF (divF (gF by_ d d) (flipF (bs ++ List.replicate d 0) d) bs.length) bs.length d
def longB (bs : List Int) : Int := bXor .u32 4294967295 (restB bs 4294967295 2147483648 79764919)
def rlongB (bs : List Int) : Int := bXor .u32 4294967295 (IntKind.wrap .u32 (restT 79764919 32 (rbitsL bs)))
end Go.Proofs.Ytgiefcolkohgkaa
