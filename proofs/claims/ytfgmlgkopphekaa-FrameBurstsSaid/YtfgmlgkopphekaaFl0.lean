/- Layer 1, the document's: a bit turned over. -/
import Derived.Test.YtfgmlgkopphekaaVc12
set_option linter.unusedVariables false
set_option linter.unusedSimpArgs false
namespace Go.Proofs.Ytfgmlgkopphekaa
open Go.Vc
def flipL (bs : List Int) (t : Nat) : List Int := bs.set (t / 8) (bXor .u8 (bs.getD (t / 8) 0) ((128 : Int).fdiv (2 ^ (t % 8))))
theorem flipL_len (bs : List Int) (t : Nat) : (flipL bs t).length = bs.length := by simp [flipL]
end Go.Proofs.Ytfgmlgkopphekaa
