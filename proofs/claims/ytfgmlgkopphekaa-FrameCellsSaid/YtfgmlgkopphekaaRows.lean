/-
  No cell of these rows narrows 'for every input' (looked for: loops, veiled, ifaces, maps, wideKeys, modest, calm, conditions, laid).
  DERIVED. THE GIVEN ROWS OF THIS SEAT. 6 by the template 'for every input the law returns true; each argument reads behind the call as it read before'; 0 by the template 'total and deterministic' (their statements: YtfgmlgkopphekaaTotals.lean).
  GIVEN WITH THE SEED: the statements are not yours to turn. If you find one false, say at which input.
  Laid BY PROGRAM, IN A SANDBOX (cutbox-rows.mjs): the forced cells as the released guide's own fill.sh prints them over the translation 5e2923d1aa78ebcc… (all of the seat's roots in one cut). By AI agents, Wed Nov 11 2026. No macro, syntax, notation, axiom, sorry.
-/
import Derived.Test.YtfgmlgkopphekaaChecked
import GoSem.Claim
import GoSem.ClaimJoined
import GoSem.ClaimMapViews
import Derived.JoinedTies
import Derived.KernelRfl
namespace Go.Proofs.Ytfgmlgkopphekaa
/- THE CELL 'sum', in the pinned program and in every row, IS THE sha256 OF THE DUMP (.gsa) THAT YtfgmlgkopphekaaProg.lean LOADS. Nothing in Lean hashes anything: it is a label: what it is worth is what the hold of that sum in a sandbox is worth. -/
noncomputable def Try.pinned : Pinned := { name := "ytfgmlgkopphekaa", sum := "5e2923d1aa78ebccc88220af0f436233bc07df6e589313df2ef057635124d9dd", checked := Try.checked }
namespace Rows
def none {H : Type} : Left H := { results := [], args := [] }

/-- 'trunklinelaw10.FramePacks': WHATEVER THE INPUT: true; the input reads as it did. -/
def framePacksSpec : ChangeSpec := { name := "framePacks", fn := fun _ => fun
  | [d1, d2, d3] => { results := [.lit (.bool true)], args := [d1, d2, d3] }
  | _ => none }
def framePacksRow : OpenClaim := { program := "ytfgmlgkopphekaa", sum := "5e2923d1aa78ebccc88220af0f436233bc07df6e589313df2ef057635124d9dd", func := "trunkline/trunklinelaw10.FramePacks", spec := "framePacks", unfollowed := true, recurses := true, apart := false }
def FramePacksSaid : Prop := framePacksRow.holds Try.pinned (OpenSpec.ofChange framePacksSpec)

/-- ITS FALSE NEIGHBOUR: 'it returns false'. Refute it at one input. -/
def framePacksWrong : ChangeSpec := { name := "framePacks", fn := fun _ => fun
  | [d1, d2, d3] => { results := [.lit (.bool false)], args := [d1, d2, d3] }
  | _ => none }
def FramePacksWrongFalsely : Prop := framePacksRow.holds Try.pinned (OpenSpec.ofChange framePacksWrong)

/-- 'trunklinelaw10.FrameSealed': WHATEVER THE INPUT: true; the input reads as it did. -/
def frameSealedSpec : ChangeSpec := { name := "frameSealed", fn := fun _ => fun
  | [d1, d2] => { results := [.lit (.bool true)], args := [d1, d2] }
  | _ => none }
def frameSealedRow : OpenClaim := { program := "ytfgmlgkopphekaa", sum := "5e2923d1aa78ebccc88220af0f436233bc07df6e589313df2ef057635124d9dd", func := "trunkline/trunklinelaw10.FrameSealed", spec := "frameSealed", unfollowed := true, recurses := true, apart := false }
def FrameSealedSaid : Prop := frameSealedRow.holds Try.pinned (OpenSpec.ofChange frameSealedSpec)

/-- ITS FALSE NEIGHBOUR: 'it returns false'. Refute it at one input. -/
def frameSealedWrong : ChangeSpec := { name := "frameSealed", fn := fun _ => fun
  | [d1, d2] => { results := [.lit (.bool false)], args := [d1, d2] }
  | _ => none }
def FrameSealedWrongFalsely : Prop := frameSealedRow.holds Try.pinned (OpenSpec.ofChange frameSealedWrong)

/-- 'trunklinelaw10.FrameBack': WHATEVER THE INPUT: true; the input reads as it did. -/
def frameBackSpec : ChangeSpec := { name := "frameBack", fn := fun _ => fun
  | [d1, d2] => { results := [.lit (.bool true)], args := [d1, d2] }
  | _ => none }
def frameBackRow : OpenClaim := { program := "ytfgmlgkopphekaa", sum := "5e2923d1aa78ebccc88220af0f436233bc07df6e589313df2ef057635124d9dd", func := "trunkline/trunklinelaw10.FrameBack", spec := "frameBack", unfollowed := true, recurses := true, apart := false }
def FrameBackSaid : Prop := frameBackRow.holds Try.pinned (OpenSpec.ofChange frameBackSpec)

/-- ITS FALSE NEIGHBOUR: 'it returns false'. Refute it at one input. -/
def frameBackWrong : ChangeSpec := { name := "frameBack", fn := fun _ => fun
  | [d1, d2] => { results := [.lit (.bool false)], args := [d1, d2] }
  | _ => none }
def FrameBackWrongFalsely : Prop := frameBackRow.holds Try.pinned (OpenSpec.ofChange frameBackWrong)

/-- 'trunklinelaw10.FrameBursts': WHATEVER THE INPUT: true; the input reads as it did. -/
def frameBurstsSpec : ChangeSpec := { name := "frameBursts", fn := fun _ => fun
  | [d1, d2, d3, d4, d5] => { results := [.lit (.bool true)], args := [d1, d2, d3, d4, d5] }
  | _ => none }
def frameBurstsRow : OpenClaim := { program := "ytfgmlgkopphekaa", sum := "5e2923d1aa78ebccc88220af0f436233bc07df6e589313df2ef057635124d9dd", func := "trunkline/trunklinelaw10.FrameBursts", spec := "frameBursts", unfollowed := true, recurses := true, apart := false }
def FrameBurstsSaid : Prop := frameBurstsRow.holds Try.pinned (OpenSpec.ofChange frameBurstsSpec)

/-- ITS FALSE NEIGHBOUR: 'it returns false'. Refute it at one input. -/
def frameBurstsWrong : ChangeSpec := { name := "frameBursts", fn := fun _ => fun
  | [d1, d2, d3, d4, d5] => { results := [.lit (.bool false)], args := [d1, d2, d3, d4, d5] }
  | _ => none }
def FrameBurstsWrongFalsely : Prop := frameBurstsRow.holds Try.pinned (OpenSpec.ofChange frameBurstsWrong)

/-- 'trunklinelaw10.FrameSizes': WHATEVER THE INPUT: true; the input reads as it did. -/
def frameSizesSpec : ChangeSpec := { name := "frameSizes", fn := fun _ => fun
  | [d1, d2, d3] => { results := [.lit (.bool true)], args := [d1, d2, d3] }
  | _ => none }
def frameSizesRow : OpenClaim := { program := "ytfgmlgkopphekaa", sum := "5e2923d1aa78ebccc88220af0f436233bc07df6e589313df2ef057635124d9dd", func := "trunkline/trunklinelaw10.FrameSizes", spec := "frameSizes", unfollowed := true, recurses := true, apart := false }
def FrameSizesSaid : Prop := frameSizesRow.holds Try.pinned (OpenSpec.ofChange frameSizesSpec)

/-- ITS FALSE NEIGHBOUR: 'it returns false'. Refute it at one input. -/
def frameSizesWrong : ChangeSpec := { name := "frameSizes", fn := fun _ => fun
  | [d1, d2, d3] => { results := [.lit (.bool false)], args := [d1, d2, d3] }
  | _ => none }
def FrameSizesWrongFalsely : Prop := frameSizesRow.holds Try.pinned (OpenSpec.ofChange frameSizesWrong)

/-- 'trunklinelaw10.FrameCells': WHATEVER THE INPUT: true; the input reads as it did. -/
def frameCellsSpec : ChangeSpec := { name := "frameCells", fn := fun _ => fun
  | [d1, d2] => { results := [.lit (.bool true)], args := [d1, d2] }
  | _ => none }
def frameCellsRow : OpenClaim := { program := "ytfgmlgkopphekaa", sum := "5e2923d1aa78ebccc88220af0f436233bc07df6e589313df2ef057635124d9dd", func := "trunkline/trunklinelaw10.FrameCells", spec := "frameCells", unfollowed := true, recurses := true, apart := false }
def FrameCellsSaid : Prop := frameCellsRow.holds Try.pinned (OpenSpec.ofChange frameCellsSpec)

/-- ITS FALSE NEIGHBOUR: 'it returns false'. Refute it at one input. -/
def frameCellsWrong : ChangeSpec := { name := "frameCells", fn := fun _ => fun
  | [d1, d2] => { results := [.lit (.bool false)], args := [d1, d2] }
  | _ => none }
def FrameCellsWrongFalsely : Prop := frameCellsRow.holds Try.pinned (OpenSpec.ofChange frameCellsWrong)

/- THE SECOND FORM. 'bulk': how many values and letters a reading holds, each counted each time it is reached (what is shared counts as often as it is met; a slice's spare places count too). A statement '..UptoSaid' is the law's where the arguments, and the package variables that the reading takes, are together of bulk at most 1048576: NARROWER than '..Said'. Prove '..Said' where nothing that the law and all that it calls make is longer than what came in: it says more and counts as full. Else prove '..UptoSaid'. A law counts once. -/
mutual
def uptoBulk {H : Type} : DataW H → Nat
  | .lit (.string bytes) => bytes.length + 1
  | .lit _ => 1
  | .nil => 1
  | .ptr d => uptoBulk d + 1
  | .slice elems spare => uptoBulkAll elems + uptoBulkAll spare + 1
  | .agg parts => uptoBulkAll parts + 1
  | .iface _ d => uptoBulk d + 1
  | .map entries => uptoBulkEntries entries + 1
  | .held _ => 1
def uptoBulkAll {H : Type} : List (DataW H) → Nat
  | [] => 0
  | d :: r => uptoBulk d + uptoBulkAll r
def uptoBulkEntries {H : Type} : List (Lit × DataW H) → Nat
  | [] => 0
  | x :: r => uptoBulkEntry x + uptoBulkEntries r
def uptoBulkEntry {H : Type} : Lit × DataW H → Nat
  | (.string bytes, d) => bytes.length + uptoBulk d + 1
  | (_, d) => uptoBulk d + 1
 end
def uptoSmall : (H : Type) → List (DataW H) → Bool := fun _ ds => decide (uptoBulkAll ds ≤ 1048576)
def OpenSpec.upto (s : _root_.Go.ChangeSpec) : _root_.Go.OpenSpec := { _root_.Go.OpenSpec.ofChange s with cond := some uptoSmall }

/-- 'trunklinelaw10.FramePacks', WHERE WHAT IT READS IS OF BULK AT MOST 1048576: true; the input reads as it did. -/
def framePacksUptoRow : OpenClaim := { program := "ytfgmlgkopphekaa", sum := "5e2923d1aa78ebccc88220af0f436233bc07df6e589313df2ef057635124d9dd", func := "trunkline/trunklinelaw10.FramePacks", spec := "framePacks", unfollowed := true, recurses := true, apart := false, narrowed := true }
def FramePacksUptoSaid : Prop := framePacksUptoRow.holds Try.pinned (OpenSpec.upto framePacksSpec)

/-- 'trunklinelaw10.FrameSealed', WHERE WHAT IT READS IS OF BULK AT MOST 1048576: true; the input reads as it did. -/
def frameSealedUptoRow : OpenClaim := { program := "ytfgmlgkopphekaa", sum := "5e2923d1aa78ebccc88220af0f436233bc07df6e589313df2ef057635124d9dd", func := "trunkline/trunklinelaw10.FrameSealed", spec := "frameSealed", unfollowed := true, recurses := true, apart := false, narrowed := true }
def FrameSealedUptoSaid : Prop := frameSealedUptoRow.holds Try.pinned (OpenSpec.upto frameSealedSpec)

/-- 'trunklinelaw10.FrameBack', WHERE WHAT IT READS IS OF BULK AT MOST 1048576: true; the input reads as it did. -/
def frameBackUptoRow : OpenClaim := { program := "ytfgmlgkopphekaa", sum := "5e2923d1aa78ebccc88220af0f436233bc07df6e589313df2ef057635124d9dd", func := "trunkline/trunklinelaw10.FrameBack", spec := "frameBack", unfollowed := true, recurses := true, apart := false, narrowed := true }
def FrameBackUptoSaid : Prop := frameBackUptoRow.holds Try.pinned (OpenSpec.upto frameBackSpec)

/-- 'trunklinelaw10.FrameBursts', WHERE WHAT IT READS IS OF BULK AT MOST 1048576: true; the input reads as it did. -/
def frameBurstsUptoRow : OpenClaim := { program := "ytfgmlgkopphekaa", sum := "5e2923d1aa78ebccc88220af0f436233bc07df6e589313df2ef057635124d9dd", func := "trunkline/trunklinelaw10.FrameBursts", spec := "frameBursts", unfollowed := true, recurses := true, apart := false, narrowed := true }
def FrameBurstsUptoSaid : Prop := frameBurstsUptoRow.holds Try.pinned (OpenSpec.upto frameBurstsSpec)

/-- 'trunklinelaw10.FrameSizes', WHERE WHAT IT READS IS OF BULK AT MOST 1048576: true; the input reads as it did. -/
def frameSizesUptoRow : OpenClaim := { program := "ytfgmlgkopphekaa", sum := "5e2923d1aa78ebccc88220af0f436233bc07df6e589313df2ef057635124d9dd", func := "trunkline/trunklinelaw10.FrameSizes", spec := "frameSizes", unfollowed := true, recurses := true, apart := false, narrowed := true }
def FrameSizesUptoSaid : Prop := frameSizesUptoRow.holds Try.pinned (OpenSpec.upto frameSizesSpec)

/-- 'trunklinelaw10.FrameCells', WHERE WHAT IT READS IS OF BULK AT MOST 1048576: true; the input reads as it did. -/
def frameCellsUptoRow : OpenClaim := { program := "ytfgmlgkopphekaa", sum := "5e2923d1aa78ebccc88220af0f436233bc07df6e589313df2ef057635124d9dd", func := "trunkline/trunklinelaw10.FrameCells", spec := "frameCells", unfollowed := true, recurses := true, apart := false, narrowed := true }
def FrameCellsUptoSaid : Prop := frameCellsUptoRow.holds Try.pinned (OpenSpec.upto frameCellsSpec)

end Rows
end Go.Proofs.Ytfgmlgkopphekaa
