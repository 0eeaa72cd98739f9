/-
  No cell of these rows narrows 'for every input' (looked for: loops, veiled, ifaces, maps, wideKeys, modest, calm, conditions, laid).
  DERIVED. THE GIVEN ROWS OF THIS SEAT. 6 by the template 'for every input the law returns true; each argument reads behind the call as it read before'; 0 by the template 'total and deterministic' (their statements: YtejpcmjokamdcaaTotals.lean).
  GIVEN WITH THE SEED: the statements are not yours to turn. If you find one false, say at which input.
  Laid BY PROGRAM, IN A SANDBOX (cutbox-rows.mjs): the forced cells as the released guide's own fill.sh prints them over the translation 7d69fc6566211d48… (all of the seat's roots in one cut). By AI agents, Wed Nov 11 2026. No macro, syntax, notation, axiom, sorry.
-/
import Derived.Test.YtejpcmjokamdcaaChecked
import GoSem.Claim
import GoSem.ClaimJoined
import GoSem.ClaimMapViews
import Derived.JoinedTies
import Derived.KernelRfl
namespace Go.Proofs.Ytejpcmjokamdcaa
/- THE CELL 'sum', in the pinned program and in every row, IS THE sha256 OF THE DUMP (.gsa) THAT YtejpcmjokamdcaaProg.lean LOADS. Nothing in Lean hashes anything: it is a label: what it is worth is what the hold of that sum in a sandbox is worth. -/
noncomputable def Try.pinned : Pinned := { name := "ytejpcmjokamdcaa", sum := "7d69fc6566211d48cdc035706d92242cdff0b5c8b0fc5964bada98491ea6c6cc", checked := Try.checked }
namespace Rows
def none {H : Type} : Left H := { results := [], args := [] }

/-- 'trunklinelaw16.MessagePacks': WHATEVER THE INPUT: true; the input reads as it did. -/
def messagePacksSpec : ChangeSpec := { name := "messagePacks", fn := fun _ => fun
  | [d1, d2] => { results := [.lit (.bool true)], args := [d1, d2] }
  | _ => none }
def messagePacksRow : OpenClaim := { program := "ytejpcmjokamdcaa", sum := "7d69fc6566211d48cdc035706d92242cdff0b5c8b0fc5964bada98491ea6c6cc", func := "trunkline/trunklinelaw16.MessagePacks", spec := "messagePacks", unfollowed := true, recurses := true, apart := false }
def MessagePacksSaid : Prop := messagePacksRow.holds Try.pinned (OpenSpec.ofChange messagePacksSpec)

/-- ITS FALSE NEIGHBOUR: 'it returns false'. Refute it at one input. -/
def messagePacksWrong : ChangeSpec := { name := "messagePacks", fn := fun _ => fun
  | [d1, d2] => { results := [.lit (.bool false)], args := [d1, d2] }
  | _ => none }
def MessagePacksWrongFalsely : Prop := messagePacksRow.holds Try.pinned (OpenSpec.ofChange messagePacksWrong)

/-- 'trunklinelaw16.MessageBack': WHATEVER THE INPUT: true; the input reads as it did. -/
def messageBackSpec : ChangeSpec := { name := "messageBack", fn := fun _ => fun
  | [d1, d2, d3, d4] => { results := [.lit (.bool true)], args := [d1, d2, d3, d4] }
  | _ => none }
def messageBackRow : OpenClaim := { program := "ytejpcmjokamdcaa", sum := "7d69fc6566211d48cdc035706d92242cdff0b5c8b0fc5964bada98491ea6c6cc", func := "trunkline/trunklinelaw16.MessageBack", spec := "messageBack", unfollowed := true, recurses := true, apart := false }
def MessageBackSaid : Prop := messageBackRow.holds Try.pinned (OpenSpec.ofChange messageBackSpec)

/-- ITS FALSE NEIGHBOUR: 'it returns false'. Refute it at one input. -/
def messageBackWrong : ChangeSpec := { name := "messageBack", fn := fun _ => fun
  | [d1, d2, d3, d4] => { results := [.lit (.bool false)], args := [d1, d2, d3, d4] }
  | _ => none }
def MessageBackWrongFalsely : Prop := messageBackRow.holds Try.pinned (OpenSpec.ofChange messageBackWrong)

/-- 'trunklinelaw16.MessageKinds': WHATEVER THE INPUT: true; the input reads as it did. -/
def messageKindsSpec : ChangeSpec := { name := "messageKinds", fn := fun _ => fun
  | [d1, d2, d3] => { results := [.lit (.bool true)], args := [d1, d2, d3] }
  | _ => none }
def messageKindsRow : OpenClaim := { program := "ytejpcmjokamdcaa", sum := "7d69fc6566211d48cdc035706d92242cdff0b5c8b0fc5964bada98491ea6c6cc", func := "trunkline/trunklinelaw16.MessageKinds", spec := "messageKinds", unfollowed := true, recurses := true, apart := false }
def MessageKindsSaid : Prop := messageKindsRow.holds Try.pinned (OpenSpec.ofChange messageKindsSpec)

/-- ITS FALSE NEIGHBOUR: 'it returns false'. Refute it at one input. -/
def messageKindsWrong : ChangeSpec := { name := "messageKinds", fn := fun _ => fun
  | [d1, d2, d3] => { results := [.lit (.bool false)], args := [d1, d2, d3] }
  | _ => none }
def MessageKindsWrongFalsely : Prop := messageKindsRow.holds Try.pinned (OpenSpec.ofChange messageKindsWrong)

/-- 'trunklinelaw16.MessageSides': WHATEVER THE INPUT: true; the input reads as it did. -/
def messageSidesSpec : ChangeSpec := { name := "messageSides", fn := fun _ => fun
  | [d1, d2, d3] => { results := [.lit (.bool true)], args := [d1, d2, d3] }
  | _ => none }
def messageSidesRow : OpenClaim := { program := "ytejpcmjokamdcaa", sum := "7d69fc6566211d48cdc035706d92242cdff0b5c8b0fc5964bada98491ea6c6cc", func := "trunkline/trunklinelaw16.MessageSides", spec := "messageSides", unfollowed := true, recurses := true, apart := false }
def MessageSidesSaid : Prop := messageSidesRow.holds Try.pinned (OpenSpec.ofChange messageSidesSpec)

/-- ITS FALSE NEIGHBOUR: 'it returns false'. Refute it at one input. -/
def messageSidesWrong : ChangeSpec := { name := "messageSides", fn := fun _ => fun
  | [d1, d2, d3] => { results := [.lit (.bool false)], args := [d1, d2, d3] }
  | _ => none }
def MessageSidesWrongFalsely : Prop := messageSidesRow.holds Try.pinned (OpenSpec.ofChange messageSidesWrong)

/-- 'trunklinelaw16.MessageFrames': WHATEVER THE INPUT: true; the input reads as it did. -/
def messageFramesSpec : ChangeSpec := { name := "messageFrames", fn := fun _ => fun
  | [d1, d2] => { results := [.lit (.bool true)], args := [d1, d2] }
  | _ => none }
def messageFramesRow : OpenClaim := { program := "ytejpcmjokamdcaa", sum := "7d69fc6566211d48cdc035706d92242cdff0b5c8b0fc5964bada98491ea6c6cc", func := "trunkline/trunklinelaw16.MessageFrames", spec := "messageFrames", unfollowed := true, recurses := true, apart := false }
def MessageFramesSaid : Prop := messageFramesRow.holds Try.pinned (OpenSpec.ofChange messageFramesSpec)

/-- ITS FALSE NEIGHBOUR: 'it returns false'. Refute it at one input. -/
def messageFramesWrong : ChangeSpec := { name := "messageFrames", fn := fun _ => fun
  | [d1, d2] => { results := [.lit (.bool false)], args := [d1, d2] }
  | _ => none }
def MessageFramesWrongFalsely : Prop := messageFramesRow.holds Try.pinned (OpenSpec.ofChange messageFramesWrong)

/-- 'trunklinelaw16.MessageAnswers': WHATEVER THE INPUT: true; the input reads as it did. -/
def messageAnswersSpec : ChangeSpec := { name := "messageAnswers", fn := fun _ => fun
  | [d1, d2, d3] => { results := [.lit (.bool true)], args := [d1, d2, d3] }
  | _ => none }
def messageAnswersRow : OpenClaim := { program := "ytejpcmjokamdcaa", sum := "7d69fc6566211d48cdc035706d92242cdff0b5c8b0fc5964bada98491ea6c6cc", func := "trunkline/trunklinelaw16.MessageAnswers", spec := "messageAnswers", unfollowed := true, recurses := true, apart := false }
def MessageAnswersSaid : Prop := messageAnswersRow.holds Try.pinned (OpenSpec.ofChange messageAnswersSpec)

/-- ITS FALSE NEIGHBOUR: 'it returns false'. Refute it at one input. -/
def messageAnswersWrong : ChangeSpec := { name := "messageAnswers", fn := fun _ => fun
  | [d1, d2, d3] => { results := [.lit (.bool false)], args := [d1, d2, d3] }
  | _ => none }
def MessageAnswersWrongFalsely : Prop := messageAnswersRow.holds Try.pinned (OpenSpec.ofChange messageAnswersWrong)

/- THE SECOND FORM. 'bulk': how many values and letters a reading holds, each counted each time it is reached (what is shared counts as often as it is met; a slice's spare places count too). A statement '..UptoSaid' is the law's where the arguments, and the package variables that the reading takes, are together of bulk at most 1048576: NARROWER than '..Said'. Prove '..Said' where nothing that the law and all that it calls make is longer than what came in: it says more and counts as full. Else prove '..UptoSaid'. A law counts once. -/
mutual
def uptoBulk {H : Type} : DataW H → Nat
  | .lit (.string bytes) => bytes.length + 1
  | .lit _ => 1
  | .nil => 1
  | .ptr d => uptoBulk d + 1
  | .slice elems spare => uptoBulkAll elems + uptoBulkAll spare + 1
  | .agg parts => uptoBulkAll parts + 1
  | .iface _ d => uptoBulk d + 1
  | .map entries => uptoBulkEntries entries + 1
  | .held _ => 1
def uptoBulkAll {H : Type} : List (DataW H) → Nat
  | [] => 0
  | d :: r => uptoBulk d + uptoBulkAll r
def uptoBulkEntries {H : Type} : List (Lit × DataW H) → Nat
  | [] => 0
  | x :: r => uptoBulkEntry x + uptoBulkEntries r
def uptoBulkEntry {H : Type} : Lit × DataW H → Nat
  | (.string bytes, d) => bytes.length + uptoBulk d + 1
  | (_, d) => uptoBulk d + 1
 end
def uptoSmall : (H : Type) → List (DataW H) → Bool := fun _ ds => decide (uptoBulkAll ds ≤ 1048576)
def OpenSpec.upto (s : _root_.Go.ChangeSpec) : _root_.Go.OpenSpec := { _root_.Go.OpenSpec.ofChange s with cond := some uptoSmall }

/-- 'trunklinelaw16.MessagePacks', WHERE WHAT IT READS IS OF BULK AT MOST 1048576: true; the input reads as it did. -/
def messagePacksUptoRow : OpenClaim := { program := "ytejpcmjokamdcaa", sum := "7d69fc6566211d48cdc035706d92242cdff0b5c8b0fc5964bada98491ea6c6cc", func := "trunkline/trunklinelaw16.MessagePacks", spec := "messagePacks", unfollowed := true, recurses := true, apart := false, narrowed := true }
def MessagePacksUptoSaid : Prop := messagePacksUptoRow.holds Try.pinned (OpenSpec.upto messagePacksSpec)

/-- 'trunklinelaw16.MessageBack', WHERE WHAT IT READS IS OF BULK AT MOST 1048576: true; the input reads as it did. -/
def messageBackUptoRow : OpenClaim := { program := "ytejpcmjokamdcaa", sum := "7d69fc6566211d48cdc035706d92242cdff0b5c8b0fc5964bada98491ea6c6cc", func := "trunkline/trunklinelaw16.MessageBack", spec := "messageBack", unfollowed := true, recurses := true, apart := false, narrowed := true }
def MessageBackUptoSaid : Prop := messageBackUptoRow.holds Try.pinned (OpenSpec.upto messageBackSpec)

/-- 'trunklinelaw16.MessageKinds', WHERE WHAT IT READS IS OF BULK AT MOST 1048576: true; the input reads as it did. -/
def messageKindsUptoRow : OpenClaim := { program := "ytejpcmjokamdcaa", sum := "7d69fc6566211d48cdc035706d92242cdff0b5c8b0fc5964bada98491ea6c6cc", func := "trunkline/trunklinelaw16.MessageKinds", spec := "messageKinds", unfollowed := true, recurses := true, apart := false, narrowed := true }
def MessageKindsUptoSaid : Prop := messageKindsUptoRow.holds Try.pinned (OpenSpec.upto messageKindsSpec)

/-- 'trunklinelaw16.MessageSides', WHERE WHAT IT READS IS OF BULK AT MOST 1048576: true; the input reads as it did. -/
def messageSidesUptoRow : OpenClaim := { program := "ytejpcmjokamdcaa", sum := "7d69fc6566211d48cdc035706d92242cdff0b5c8b0fc5964bada98491ea6c6cc", func := "trunkline/trunklinelaw16.MessageSides", spec := "messageSides", unfollowed := true, recurses := true, apart := false, narrowed := true }
def MessageSidesUptoSaid : Prop := messageSidesUptoRow.holds Try.pinned (OpenSpec.upto messageSidesSpec)

/-- 'trunklinelaw16.MessageFrames', WHERE WHAT IT READS IS OF BULK AT MOST 1048576: true; the input reads as it did. -/
def messageFramesUptoRow : OpenClaim := { program := "ytejpcmjokamdcaa", sum := "7d69fc6566211d48cdc035706d92242cdff0b5c8b0fc5964bada98491ea6c6cc", func := "trunkline/trunklinelaw16.MessageFrames", spec := "messageFrames", unfollowed := true, recurses := true, apart := false, narrowed := true }
def MessageFramesUptoSaid : Prop := messageFramesUptoRow.holds Try.pinned (OpenSpec.upto messageFramesSpec)

/-- 'trunklinelaw16.MessageAnswers', WHERE WHAT IT READS IS OF BULK AT MOST 1048576: true; the input reads as it did. -/
def messageAnswersUptoRow : OpenClaim := { program := "ytejpcmjokamdcaa", sum := "7d69fc6566211d48cdc035706d92242cdff0b5c8b0fc5964bada98491ea6c6cc", func := "trunkline/trunklinelaw16.MessageAnswers", spec := "messageAnswers", unfollowed := true, recurses := true, apart := false, narrowed := true }
def MessageAnswersUptoSaid : Prop := messageAnswersUptoRow.holds Try.pinned (OpenSpec.upto messageAnswersSpec)

end Rows
end Go.Proofs.Ytejpcmjokamdcaa
