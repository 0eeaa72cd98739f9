/-
  No cell of these rows narrows 'for every input' (looked for: loops, veiled, ifaces, maps, wideKeys, modest, calm, conditions, laid).
  DERIVED. THE GIVEN ROWS OF THIS SEAT. 6 by the template 'for every input the law returns true; each argument reads behind the call as it read before'; 0 by the template 'total and deterministic' (their statements: YtkimbomnbaogjaaTotals.lean).
  GIVEN WITH THE SEED: the statements are not yours to turn. If you find one false, say at which input.
  Laid BY PROGRAM, IN A SANDBOX (cutbox-rows.mjs): the forced cells as the released guide's own fill.sh prints them over the translation e56f53dc51127222… (all of the seat's roots in one cut). By AI agents, Wed Nov 11 2026. No macro, syntax, notation, axiom, sorry.
-/
import Derived.Test.YtkimbomnbaogjaaChecked
import GoSem.Claim
import GoSem.ClaimJoined
import GoSem.ClaimMapViews
import Derived.JoinedTies
import Derived.KernelRfl
namespace Go.Proofs.Ytkimbomnbaogjaa
/- THE CELL 'sum', in the pinned program and in every row, IS THE sha256 OF THE DUMP (.gsa) THAT YtkimbomnbaogjaaProg.lean LOADS. Nothing in Lean hashes anything: it is a label: what it is worth is what the hold of that sum in a sandbox is worth. -/
noncomputable def Try.pinned : Pinned := { name := "ytkimbomnbaogjaa", sum := "e56f53dc511272229186d7e70c583631102efe044b83f0b114209283acdc72ce", checked := Try.checked }
namespace Rows
def none {H : Type} : Left H := { results := [], args := [] }

/-- 'trunklinelaw21.AlarmPlays': WHATEVER THE INPUT: true; the input reads as it did. -/
def alarmPlaysSpec : ChangeSpec := { name := "alarmPlays", fn := fun _ => fun
  | [d1, d2, d3, d4] => { results := [.lit (.bool true)], args := [d1, d2, d3, d4] }
  | _ => none }
def alarmPlaysRow : OpenClaim := { program := "ytkimbomnbaogjaa", sum := "e56f53dc511272229186d7e70c583631102efe044b83f0b114209283acdc72ce", func := "trunkline/trunklinelaw21.AlarmPlays", spec := "alarmPlays", inPlace := ["internal/bytealg.MakeNoZero"], apart := false }
def AlarmPlaysSaid : Prop := alarmPlaysRow.holds Try.pinned (OpenSpec.ofChange alarmPlaysSpec)

/-- ITS FALSE NEIGHBOUR: 'it returns false'. Refute it at one input. -/
def alarmPlaysWrong : ChangeSpec := { name := "alarmPlays", fn := fun _ => fun
  | [d1, d2, d3, d4] => { results := [.lit (.bool false)], args := [d1, d2, d3, d4] }
  | _ => none }
def AlarmPlaysWrongFalsely : Prop := alarmPlaysRow.holds Try.pinned (OpenSpec.ofChange alarmPlaysWrong)

/-- 'trunklinelaw21.AlarmTold': WHATEVER THE INPUT: true; the input reads as it did. -/
def alarmToldSpec : ChangeSpec := { name := "alarmTold", fn := fun _ => fun
  | [d1, d2, d3, d4, d5, d6] => { results := [.lit (.bool true)], args := [d1, d2, d3, d4, d5, d6] }
  | _ => none }
def alarmToldRow : OpenClaim := { program := "ytkimbomnbaogjaa", sum := "e56f53dc511272229186d7e70c583631102efe044b83f0b114209283acdc72ce", func := "trunkline/trunklinelaw21.AlarmTold", spec := "alarmTold", inPlace := ["internal/bytealg.MakeNoZero"], apart := false }
def AlarmToldSaid : Prop := alarmToldRow.holds Try.pinned (OpenSpec.ofChange alarmToldSpec)

/-- ITS FALSE NEIGHBOUR: 'it returns false'. Refute it at one input. -/
def alarmToldWrong : ChangeSpec := { name := "alarmTold", fn := fun _ => fun
  | [d1, d2, d3, d4, d5, d6] => { results := [.lit (.bool false)], args := [d1, d2, d3, d4, d5, d6] }
  | _ => none }
def AlarmToldWrongFalsely : Prop := alarmToldRow.holds Try.pinned (OpenSpec.ofChange alarmToldWrong)

/-- 'trunklinelaw21.AlarmOver': WHATEVER THE INPUT: true; the input reads as it did. -/
def alarmOverSpec : ChangeSpec := { name := "alarmOver", fn := fun _ => fun
  | [d1, d2, d3, d4, d5] => { results := [.lit (.bool true)], args := [d1, d2, d3, d4, d5] }
  | _ => none }
def alarmOverRow : OpenClaim := { program := "ytkimbomnbaogjaa", sum := "e56f53dc511272229186d7e70c583631102efe044b83f0b114209283acdc72ce", func := "trunkline/trunklinelaw21.AlarmOver", spec := "alarmOver", inPlace := ["internal/bytealg.MakeNoZero"], apart := false }
def AlarmOverSaid : Prop := alarmOverRow.holds Try.pinned (OpenSpec.ofChange alarmOverSpec)

/-- ITS FALSE NEIGHBOUR: 'it returns false'. Refute it at one input. -/
def alarmOverWrong : ChangeSpec := { name := "alarmOver", fn := fun _ => fun
  | [d1, d2, d3, d4, d5] => { results := [.lit (.bool false)], args := [d1, d2, d3, d4, d5] }
  | _ => none }
def AlarmOverWrongFalsely : Prop := alarmOverRow.holds Try.pinned (OpenSpec.ofChange alarmOverWrong)

/-- 'trunklinelaw21.AlarmSends': WHATEVER THE INPUT: true; the input reads as it did. -/
def alarmSendsSpec : ChangeSpec := { name := "alarmSends", fn := fun _ => fun
  | [d1, d2, d3, d4] => { results := [.lit (.bool true)], args := [d1, d2, d3, d4] }
  | _ => none }
def alarmSendsRow : OpenClaim := { program := "ytkimbomnbaogjaa", sum := "e56f53dc511272229186d7e70c583631102efe044b83f0b114209283acdc72ce", func := "trunkline/trunklinelaw21.AlarmSends", spec := "alarmSends", inPlace := ["internal/bytealg.MakeNoZero"], apart := false }
def AlarmSendsSaid : Prop := alarmSendsRow.holds Try.pinned (OpenSpec.ofChange alarmSendsSpec)

/-- ITS FALSE NEIGHBOUR: 'it returns false'. Refute it at one input. -/
def alarmSendsWrong : ChangeSpec := { name := "alarmSends", fn := fun _ => fun
  | [d1, d2, d3, d4] => { results := [.lit (.bool false)], args := [d1, d2, d3, d4] }
  | _ => none }
def AlarmSendsWrongFalsely : Prop := alarmSendsRow.holds Try.pinned (OpenSpec.ofChange alarmSendsWrong)

/-- 'trunklinelaw21.AlarmLoops': WHATEVER THE INPUT: true; the input reads as it did. -/
def alarmLoopsSpec : ChangeSpec := { name := "alarmLoops", fn := fun _ => fun
  | [d1, d2, d3, d4, d5] => { results := [.lit (.bool true)], args := [d1, d2, d3, d4, d5] }
  | _ => none }
def alarmLoopsRow : OpenClaim := { program := "ytkimbomnbaogjaa", sum := "e56f53dc511272229186d7e70c583631102efe044b83f0b114209283acdc72ce", func := "trunkline/trunklinelaw21.AlarmLoops", spec := "alarmLoops", inPlace := ["internal/bytealg.MakeNoZero"], apart := false }
def AlarmLoopsSaid : Prop := alarmLoopsRow.holds Try.pinned (OpenSpec.ofChange alarmLoopsSpec)

/-- ITS FALSE NEIGHBOUR: 'it returns false'. Refute it at one input. -/
def alarmLoopsWrong : ChangeSpec := { name := "alarmLoops", fn := fun _ => fun
  | [d1, d2, d3, d4, d5] => { results := [.lit (.bool false)], args := [d1, d2, d3, d4, d5] }
  | _ => none }
def AlarmLoopsWrongFalsely : Prop := alarmLoopsRow.holds Try.pinned (OpenSpec.ofChange alarmLoopsWrong)

/-- 'trunklinelaw21.AlarmRepeats': WHATEVER THE INPUT: true; the input reads as it did. -/
def alarmRepeatsSpec : ChangeSpec := { name := "alarmRepeats", fn := fun _ => fun
  | [d1, d2, d3, d4, d5, d6, d7] => { results := [.lit (.bool true)], args := [d1, d2, d3, d4, d5, d6, d7] }
  | _ => none }
def alarmRepeatsRow : OpenClaim := { program := "ytkimbomnbaogjaa", sum := "e56f53dc511272229186d7e70c583631102efe044b83f0b114209283acdc72ce", func := "trunkline/trunklinelaw21.AlarmRepeats", spec := "alarmRepeats", inPlace := ["internal/bytealg.MakeNoZero"], apart := false }
def AlarmRepeatsSaid : Prop := alarmRepeatsRow.holds Try.pinned (OpenSpec.ofChange alarmRepeatsSpec)

/-- ITS FALSE NEIGHBOUR: 'it returns false'. Refute it at one input. -/
def alarmRepeatsWrong : ChangeSpec := { name := "alarmRepeats", fn := fun _ => fun
  | [d1, d2, d3, d4, d5, d6, d7] => { results := [.lit (.bool false)], args := [d1, d2, d3, d4, d5, d6, d7] }
  | _ => none }
def AlarmRepeatsWrongFalsely : Prop := alarmRepeatsRow.holds Try.pinned (OpenSpec.ofChange alarmRepeatsWrong)

/- THE SECOND FORM. 'bulk': how many values and letters a reading holds, each counted each time it is reached (what is shared counts as often as it is met; a slice's spare places count too). A statement '..UptoSaid' is the law's where the arguments, and the package variables that the reading takes, are together of bulk at most 1048576: NARROWER than '..Said'. Prove '..Said' where nothing that the law and all that it calls make is longer than what came in: it says more and counts as full. Else prove '..UptoSaid'. A law counts once. -/
mutual
def uptoBulk {H : Type} : DataW H → Nat
  | .lit (.string bytes) => bytes.length + 1
  | .lit _ => 1
  | .nil => 1
  | .ptr d => uptoBulk d + 1
  | .slice elems spare => uptoBulkAll elems + uptoBulkAll spare + 1
  | .agg parts => uptoBulkAll parts + 1
  | .iface _ d => uptoBulk d + 1
  | .map entries => uptoBulkEntries entries + 1
  | .held _ => 1
def uptoBulkAll {H : Type} : List (DataW H) → Nat
  | [] => 0
  | d :: r => uptoBulk d + uptoBulkAll r
def uptoBulkEntries {H : Type} : List (Lit × DataW H) → Nat
  | [] => 0
  | x :: r => uptoBulkEntry x + uptoBulkEntries r
def uptoBulkEntry {H : Type} : Lit × DataW H → Nat
  | (.string bytes, d) => bytes.length + uptoBulk d + 1
  | (_, d) => uptoBulk d + 1
 end
def uptoSmall : (H : Type) → List (DataW H) → Bool := fun _ ds => decide (uptoBulkAll ds ≤ 1048576)
def OpenSpec.upto (s : _root_.Go.ChangeSpec) : _root_.Go.OpenSpec := { _root_.Go.OpenSpec.ofChange s with cond := some uptoSmall }

/-- 'trunklinelaw21.AlarmPlays', WHERE WHAT IT READS IS OF BULK AT MOST 1048576: true; the input reads as it did. -/
def alarmPlaysUptoRow : OpenClaim := { program := "ytkimbomnbaogjaa", sum := "e56f53dc511272229186d7e70c583631102efe044b83f0b114209283acdc72ce", func := "trunkline/trunklinelaw21.AlarmPlays", spec := "alarmPlays", inPlace := ["internal/bytealg.MakeNoZero"], apart := false, narrowed := true }
def AlarmPlaysUptoSaid : Prop := alarmPlaysUptoRow.holds Try.pinned (OpenSpec.upto alarmPlaysSpec)

/-- 'trunklinelaw21.AlarmTold', WHERE WHAT IT READS IS OF BULK AT MOST 1048576: true; the input reads as it did. -/
def alarmToldUptoRow : OpenClaim := { program := "ytkimbomnbaogjaa", sum := "e56f53dc511272229186d7e70c583631102efe044b83f0b114209283acdc72ce", func := "trunkline/trunklinelaw21.AlarmTold", spec := "alarmTold", inPlace := ["internal/bytealg.MakeNoZero"], apart := false, narrowed := true }
def AlarmToldUptoSaid : Prop := alarmToldUptoRow.holds Try.pinned (OpenSpec.upto alarmToldSpec)

/-- 'trunklinelaw21.AlarmOver', WHERE WHAT IT READS IS OF BULK AT MOST 1048576: true; the input reads as it did. -/
def alarmOverUptoRow : OpenClaim := { program := "ytkimbomnbaogjaa", sum := "e56f53dc511272229186d7e70c583631102efe044b83f0b114209283acdc72ce", func := "trunkline/trunklinelaw21.AlarmOver", spec := "alarmOver", inPlace := ["internal/bytealg.MakeNoZero"], apart := false, narrowed := true }
def AlarmOverUptoSaid : Prop := alarmOverUptoRow.holds Try.pinned (OpenSpec.upto alarmOverSpec)

/-- 'trunklinelaw21.AlarmSends', WHERE WHAT IT READS IS OF BULK AT MOST 1048576: true; the input reads as it did. -/
def alarmSendsUptoRow : OpenClaim := { program := "ytkimbomnbaogjaa", sum := "e56f53dc511272229186d7e70c583631102efe044b83f0b114209283acdc72ce", func := "trunkline/trunklinelaw21.AlarmSends", spec := "alarmSends", inPlace := ["internal/bytealg.MakeNoZero"], apart := false, narrowed := true }
def AlarmSendsUptoSaid : Prop := alarmSendsUptoRow.holds Try.pinned (OpenSpec.upto alarmSendsSpec)

/-- 'trunklinelaw21.AlarmLoops', WHERE WHAT IT READS IS OF BULK AT MOST 1048576: true; the input reads as it did. -/
def alarmLoopsUptoRow : OpenClaim := { program := "ytkimbomnbaogjaa", sum := "e56f53dc511272229186d7e70c583631102efe044b83f0b114209283acdc72ce", func := "trunkline/trunklinelaw21.AlarmLoops", spec := "alarmLoops", inPlace := ["internal/bytealg.MakeNoZero"], apart := false, narrowed := true }
def AlarmLoopsUptoSaid : Prop := alarmLoopsUptoRow.holds Try.pinned (OpenSpec.upto alarmLoopsSpec)

/-- 'trunklinelaw21.AlarmRepeats', WHERE WHAT IT READS IS OF BULK AT MOST 1048576: true; the input reads as it did. -/
def alarmRepeatsUptoRow : OpenClaim := { program := "ytkimbomnbaogjaa", sum := "e56f53dc511272229186d7e70c583631102efe044b83f0b114209283acdc72ce", func := "trunkline/trunklinelaw21.AlarmRepeats", spec := "alarmRepeats", inPlace := ["internal/bytealg.MakeNoZero"], apart := false, narrowed := true }
def AlarmRepeatsUptoSaid : Prop := alarmRepeatsUptoRow.holds Try.pinned (OpenSpec.upto alarmRepeatsSpec)

end Rows
end Go.Proofs.Ytkimbomnbaogjaa
