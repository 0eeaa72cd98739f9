/-
  No cell of these rows narrows 'for every input' (looked for: loops, veiled, ifaces, maps, wideKeys, modest, calm, conditions, laid).
  DERIVED. THE GIVEN ROWS OF THIS SEAT. 6 by the template 'for every input the law returns true; each argument reads behind the call as it read before'; 0 by the template 'total and deterministic' (their statements: YtgiefcolkohgkaaTotals.lean).
  GIVEN WITH THE SEED: the statements are not yours to turn. If you find one false, say at which input.
  Laid BY PROGRAM, IN A SANDBOX (cutbox-rows.mjs): the forced cells as the released guide's own fill.sh prints them over the translation d1cc8b6437f58de3… (all of the seat's roots in one cut). By AI agents, Wed Nov 11 2026. No macro, syntax, notation, axiom, sorry.
-/
import Derived.Test.YtgiefcolkohgkaaChecked
import GoSem.Claim
import GoSem.ClaimJoined
import GoSem.ClaimMapViews
import Derived.JoinedTies
import Derived.KernelRfl
namespace Go.Proofs.Ytgiefcolkohgkaa
/- THE CELL 'sum', in the pinned program and in every row, IS THE sha256 OF THE DUMP (.gsa) THAT YtgiefcolkohgkaaProg.lean LOADS. Nothing in Lean hashes anything: it is a label: what it is worth is what the hold of that sum in a sandbox is worth. -/
noncomputable def Try.pinned : Pinned := { name := "ytgiefcolkohgkaa", sum := "d1cc8b6437f58de34ee7673bfe2cea77645607a0e79cbbff8dc23f59098f583b", checked := Try.checked }
namespace Rows
def none {H : Type} : Left H := { results := [], args := [] }

/-- 'trunklinelaw11.GatherTakes': WHATEVER THE INPUT: true; the input reads as it did. -/
def gatherTakesSpec : ChangeSpec := { name := "gatherTakes", fn := fun _ => fun
  | [d1, d2] => { results := [.lit (.bool true)], args := [d1, d2] }
  | _ => none }
def gatherTakesRow : OpenClaim := { program := "ytgiefcolkohgkaa", sum := "d1cc8b6437f58de34ee7673bfe2cea77645607a0e79cbbff8dc23f59098f583b", func := "trunkline/trunklinelaw11.GatherTakes", spec := "gatherTakes", unfollowed := true, recurses := true, apart := false }
def GatherTakesSaid : Prop := gatherTakesRow.holds Try.pinned (OpenSpec.ofChange gatherTakesSpec)

/-- ITS FALSE NEIGHBOUR: 'it returns false'. Refute it at one input. -/
def gatherTakesWrong : ChangeSpec := { name := "gatherTakes", fn := fun _ => fun
  | [d1, d2] => { results := [.lit (.bool false)], args := [d1, d2] }
  | _ => none }
def GatherTakesWrongFalsely : Prop := gatherTakesRow.holds Try.pinned (OpenSpec.ofChange gatherTakesWrong)

/-- 'trunklinelaw11.GatherAlike': WHATEVER THE INPUT: true; the input reads as it did. -/
def gatherAlikeSpec : ChangeSpec := { name := "gatherAlike", fn := fun _ => fun
  | [d1, d2, d3] => { results := [.lit (.bool true)], args := [d1, d2, d3] }
  | _ => none }
def gatherAlikeRow : OpenClaim := { program := "ytgiefcolkohgkaa", sum := "d1cc8b6437f58de34ee7673bfe2cea77645607a0e79cbbff8dc23f59098f583b", func := "trunkline/trunklinelaw11.GatherAlike", spec := "gatherAlike", unfollowed := true, recurses := true, apart := false }
def GatherAlikeSaid : Prop := gatherAlikeRow.holds Try.pinned (OpenSpec.ofChange gatherAlikeSpec)

/-- ITS FALSE NEIGHBOUR: 'it returns false'. Refute it at one input. -/
def gatherAlikeWrong : ChangeSpec := { name := "gatherAlike", fn := fun _ => fun
  | [d1, d2, d3] => { results := [.lit (.bool false)], args := [d1, d2, d3] }
  | _ => none }
def GatherAlikeWrongFalsely : Prop := gatherAlikeRow.holds Try.pinned (OpenSpec.ofChange gatherAlikeWrong)

/-- 'trunklinelaw11.GatherBack': WHATEVER THE INPUT: true; the input reads as it did. -/
def gatherBackSpec : ChangeSpec := { name := "gatherBack", fn := fun _ => fun
  | [d1, d2, d3] => { results := [.lit (.bool true)], args := [d1, d2, d3] }
  | _ => none }
def gatherBackRow : OpenClaim := { program := "ytgiefcolkohgkaa", sum := "d1cc8b6437f58de34ee7673bfe2cea77645607a0e79cbbff8dc23f59098f583b", func := "trunkline/trunklinelaw11.GatherBack", spec := "gatherBack", unfollowed := true, recurses := true, apart := false }
def GatherBackSaid : Prop := gatherBackRow.holds Try.pinned (OpenSpec.ofChange gatherBackSpec)

/-- ITS FALSE NEIGHBOUR: 'it returns false'. Refute it at one input. -/
def gatherBackWrong : ChangeSpec := { name := "gatherBack", fn := fun _ => fun
  | [d1, d2, d3] => { results := [.lit (.bool false)], args := [d1, d2, d3] }
  | _ => none }
def GatherBackWrongFalsely : Prop := gatherBackRow.holds Try.pinned (OpenSpec.ofChange gatherBackWrong)

/-- 'trunklinelaw11.GatherLate': WHATEVER THE INPUT: true; the input reads as it did. -/
def gatherLateSpec : ChangeSpec := { name := "gatherLate", fn := fun _ => fun
  | [d1, d2, d3, d4, d5] => { results := [.lit (.bool true)], args := [d1, d2, d3, d4, d5] }
  | _ => none }
def gatherLateRow : OpenClaim := { program := "ytgiefcolkohgkaa", sum := "d1cc8b6437f58de34ee7673bfe2cea77645607a0e79cbbff8dc23f59098f583b", func := "trunkline/trunklinelaw11.GatherLate", spec := "gatherLate", unfollowed := true, recurses := true, apart := false }
def GatherLateSaid : Prop := gatherLateRow.holds Try.pinned (OpenSpec.ofChange gatherLateSpec)

/-- ITS FALSE NEIGHBOUR: 'it returns false'. Refute it at one input. -/
def gatherLateWrong : ChangeSpec := { name := "gatherLate", fn := fun _ => fun
  | [d1, d2, d3, d4, d5] => { results := [.lit (.bool false)], args := [d1, d2, d3, d4, d5] }
  | _ => none }
def GatherLateWrongFalsely : Prop := gatherLateRow.holds Try.pinned (OpenSpec.ofChange gatherLateWrong)

/-- 'trunklinelaw11.GatherMissing': WHATEVER THE INPUT: true; the input reads as it did. -/
def gatherMissingSpec : ChangeSpec := { name := "gatherMissing", fn := fun _ => fun
  | [d1, d2, d3] => { results := [.lit (.bool true)], args := [d1, d2, d3] }
  | _ => none }
def gatherMissingRow : OpenClaim := { program := "ytgiefcolkohgkaa", sum := "d1cc8b6437f58de34ee7673bfe2cea77645607a0e79cbbff8dc23f59098f583b", func := "trunkline/trunklinelaw11.GatherMissing", spec := "gatherMissing", unfollowed := true, recurses := true, apart := false }
def GatherMissingSaid : Prop := gatherMissingRow.holds Try.pinned (OpenSpec.ofChange gatherMissingSpec)

/-- ITS FALSE NEIGHBOUR: 'it returns false'. Refute it at one input. -/
def gatherMissingWrong : ChangeSpec := { name := "gatherMissing", fn := fun _ => fun
  | [d1, d2, d3] => { results := [.lit (.bool false)], args := [d1, d2, d3] }
  | _ => none }
def GatherMissingWrongFalsely : Prop := gatherMissingRow.holds Try.pinned (OpenSpec.ofChange gatherMissingWrong)

/-- 'trunklinelaw11.GatherLong': WHATEVER THE INPUT: true; the input reads as it did. -/
def gatherLongSpec : ChangeSpec := { name := "gatherLong", fn := fun _ => fun
  | [d1, d2, d3] => { results := [.lit (.bool true)], args := [d1, d2, d3] }
  | _ => none }
def gatherLongRow : OpenClaim := { program := "ytgiefcolkohgkaa", sum := "d1cc8b6437f58de34ee7673bfe2cea77645607a0e79cbbff8dc23f59098f583b", func := "trunkline/trunklinelaw11.GatherLong", spec := "gatherLong", unfollowed := true, recurses := true, apart := false }
def GatherLongSaid : Prop := gatherLongRow.holds Try.pinned (OpenSpec.ofChange gatherLongSpec)

/-- ITS FALSE NEIGHBOUR: 'it returns false'. Refute it at one input. -/
def gatherLongWrong : ChangeSpec := { name := "gatherLong", fn := fun _ => fun
  | [d1, d2, d3] => { results := [.lit (.bool false)], args := [d1, d2, d3] }
  | _ => none }
def GatherLongWrongFalsely : Prop := gatherLongRow.holds Try.pinned (OpenSpec.ofChange gatherLongWrong)

/- THE SECOND FORM. 'bulk': how many values and letters a reading holds, each counted each time it is reached (what is shared counts as often as it is met; a slice's spare places count too). A statement '..UptoSaid' is the law's where the arguments, and the package variables that the reading takes, are together of bulk at most 1048576: NARROWER than '..Said'. Prove '..Said' where nothing that the law and all that it calls make is longer than what came in: it says more and counts as full. Else prove '..UptoSaid'. A law counts once. -/
mutual
def uptoBulk {H : Type} : DataW H → Nat
  | .lit (.string bytes) => bytes.length + 1
  | .lit _ => 1
  | .nil => 1
  | .ptr d => uptoBulk d + 1
  | .slice elems spare => uptoBulkAll elems + uptoBulkAll spare + 1
  | .agg parts => uptoBulkAll parts + 1
  | .iface _ d => uptoBulk d + 1
  | .map entries => uptoBulkEntries entries + 1
  | .held _ => 1
def uptoBulkAll {H : Type} : List (DataW H) → Nat
  | [] => 0
  | d :: r => uptoBulk d + uptoBulkAll r
def uptoBulkEntries {H : Type} : List (Lit × DataW H) → Nat
  | [] => 0
  | x :: r => uptoBulkEntry x + uptoBulkEntries r
def uptoBulkEntry {H : Type} : Lit × DataW H → Nat
  | (.string bytes, d) => bytes.length + uptoBulk d + 1
  | (_, d) => uptoBulk d + 1
 end
def uptoSmall : (H : Type) → List (DataW H) → Bool := fun _ ds => decide (uptoBulkAll ds ≤ 1048576)
def OpenSpec.upto (s : _root_.Go.ChangeSpec) : _root_.Go.OpenSpec := { _root_.Go.OpenSpec.ofChange s with cond := some uptoSmall }

/-- 'trunklinelaw11.GatherTakes', WHERE WHAT IT READS IS OF BULK AT MOST 1048576: true; the input reads as it did. -/
def gatherTakesUptoRow : OpenClaim := { program := "ytgiefcolkohgkaa", sum := "d1cc8b6437f58de34ee7673bfe2cea77645607a0e79cbbff8dc23f59098f583b", func := "trunkline/trunklinelaw11.GatherTakes", spec := "gatherTakes", unfollowed := true, recurses := true, apart := false, narrowed := true }
def GatherTakesUptoSaid : Prop := gatherTakesUptoRow.holds Try.pinned (OpenSpec.upto gatherTakesSpec)

/-- 'trunklinelaw11.GatherAlike', WHERE WHAT IT READS IS OF BULK AT MOST 1048576: true; the input reads as it did. -/
def gatherAlikeUptoRow : OpenClaim := { program := "ytgiefcolkohgkaa", sum := "d1cc8b6437f58de34ee7673bfe2cea77645607a0e79cbbff8dc23f59098f583b", func := "trunkline/trunklinelaw11.GatherAlike", spec := "gatherAlike", unfollowed := true, recurses := true, apart := false, narrowed := true }
def GatherAlikeUptoSaid : Prop := gatherAlikeUptoRow.holds Try.pinned (OpenSpec.upto gatherAlikeSpec)

/-- 'trunklinelaw11.GatherBack', WHERE WHAT IT READS IS OF BULK AT MOST 1048576: true; the input reads as it did. -/
def gatherBackUptoRow : OpenClaim := { program := "ytgiefcolkohgkaa", sum := "d1cc8b6437f58de34ee7673bfe2cea77645607a0e79cbbff8dc23f59098f583b", func := "trunkline/trunklinelaw11.GatherBack", spec := "gatherBack", unfollowed := true, recurses := true, apart := false, narrowed := true }
def GatherBackUptoSaid : Prop := gatherBackUptoRow.holds Try.pinned (OpenSpec.upto gatherBackSpec)

/-- 'trunklinelaw11.GatherLate', WHERE WHAT IT READS IS OF BULK AT MOST 1048576: true; the input reads as it did. -/
def gatherLateUptoRow : OpenClaim := { program := "ytgiefcolkohgkaa", sum := "d1cc8b6437f58de34ee7673bfe2cea77645607a0e79cbbff8dc23f59098f583b", func := "trunkline/trunklinelaw11.GatherLate", spec := "gatherLate", unfollowed := true, recurses := true, apart := false, narrowed := true }
def GatherLateUptoSaid : Prop := gatherLateUptoRow.holds Try.pinned (OpenSpec.upto gatherLateSpec)

/-- 'trunklinelaw11.GatherMissing', WHERE WHAT IT READS IS OF BULK AT MOST 1048576: true; the input reads as it did. -/
def gatherMissingUptoRow : OpenClaim := { program := "ytgiefcolkohgkaa", sum := "d1cc8b6437f58de34ee7673bfe2cea77645607a0e79cbbff8dc23f59098f583b", func := "trunkline/trunklinelaw11.GatherMissing", spec := "gatherMissing", unfollowed := true, recurses := true, apart := false, narrowed := true }
def GatherMissingUptoSaid : Prop := gatherMissingUptoRow.holds Try.pinned (OpenSpec.upto gatherMissingSpec)

/-- 'trunklinelaw11.GatherLong', WHERE WHAT IT READS IS OF BULK AT MOST 1048576: true; the input reads as it did. -/
def gatherLongUptoRow : OpenClaim := { program := "ytgiefcolkohgkaa", sum := "d1cc8b6437f58de34ee7673bfe2cea77645607a0e79cbbff8dc23f59098f583b", func := "trunkline/trunklinelaw11.GatherLong", spec := "gatherLong", unfollowed := true, recurses := true, apart := false, narrowed := true }
def GatherLongUptoSaid : Prop := gatherLongUptoRow.holds Try.pinned (OpenSpec.upto gatherLongSpec)

end Rows
end Go.Proofs.Ytgiefcolkohgkaa
