/-
  No cell of these rows narrows 'for every input' (looked for: loops, veiled, ifaces, maps, wideKeys, modest, calm, conditions, laid).
  DERIVED. THE GIVEN ROWS OF THIS SEAT. 12 by the template 'for every input the law returns true; each argument reads behind the call as it read before'; 0 by the template 'total and deterministic' (their statements: YtcablikikkmfjaaGreatTotals.lean).
  GIVEN WITH THE SEED: the statements are not yours to turn. If you find one false, say at which input.
  Laid BY PROGRAM, IN A SANDBOX (cutbox-rows.mjs): the forced cells as the released guide's own fill.sh prints them over the translation 70f0ec7c75acc576… (all of the seat's roots in one cut). By AI agents, Wed Nov 11 2026. No macro, syntax, notation, axiom, sorry.
-/
import Derived.Test.YtcablikikkmfjaaGreatChecked
import GoSem.Claim
import GoSem.ClaimJoined
import GoSem.ClaimMapViews
import Derived.JoinedTies
import Derived.KernelRfl
namespace Go.Proofs.YtcablikikkmfjaaGreat
/- THE CELL 'sum', in the pinned program and in every row, IS THE sha256 OF THE DUMP (.gsa) THAT YtcablikikkmfjaaGreatProg.lean LOADS. Nothing in Lean hashes anything: it is a label: what it is worth is what the hold of that sum in a sandbox is worth. -/
noncomputable def Tryz.pinned : Pinned := { name := "ytcablikikkmfjaagreat", sum := "70f0ec7c75acc5761cb8e9a5f422e3df43d8aed7a936808346b3d131966d80ad", checked := Tryz.checked }
namespace Rows
def none {H : Type} : Left H := { results := [], args := [] }

/-- 'trunklinelaw22.PlaneWindows': WHATEVER THE INPUT: true; the input reads as it did. -/
def planeWindowsSpec : ChangeSpec := { name := "planeWindows", fn := fun _ => fun
  | [d1, d2, d3, d4] => { results := [.lit (.bool true)], args := [d1, d2, d3, d4] }
  | _ => none }
def planeWindowsRow : OpenClaim := { program := "ytcablikikkmfjaagreat", sum := "70f0ec7c75acc5761cb8e9a5f422e3df43d8aed7a936808346b3d131966d80ad", func := "trunkline/trunklinelaw22.PlaneWindows", spec := "planeWindows", inPlace := ["internal/bytealg.MakeNoZero"], unfollowed := true, recurses := true, plainKeys := false, apart := false }
def PlaneWindowsSaid : Prop := planeWindowsRow.holds Tryz.pinned (OpenSpec.ofChange planeWindowsSpec)

/-- ITS FALSE NEIGHBOUR: 'it returns false'. Refute it at one input. -/
def planeWindowsWrong : ChangeSpec := { name := "planeWindows", fn := fun _ => fun
  | [d1, d2, d3, d4] => { results := [.lit (.bool false)], args := [d1, d2, d3, d4] }
  | _ => none }
def PlaneWindowsWrongFalsely : Prop := planeWindowsRow.holds Tryz.pinned (OpenSpec.ofChange planeWindowsWrong)

/-- 'trunklinelaw22.PlaneApart': WHATEVER THE INPUT: true; the input reads as it did. -/
def planeApartSpec : ChangeSpec := { name := "planeApart", fn := fun _ => fun
  | [d1, d2, d3] => { results := [.lit (.bool true)], args := [d1, d2, d3] }
  | _ => none }
def planeApartRow : OpenClaim := { program := "ytcablikikkmfjaagreat", sum := "70f0ec7c75acc5761cb8e9a5f422e3df43d8aed7a936808346b3d131966d80ad", func := "trunkline/trunklinelaw22.PlaneApart", spec := "planeApart", inPlace := ["internal/bytealg.MakeNoZero"], unfollowed := true, recurses := true, plainKeys := false, apart := false }
def PlaneApartSaid : Prop := planeApartRow.holds Tryz.pinned (OpenSpec.ofChange planeApartSpec)

/-- ITS FALSE NEIGHBOUR: 'it returns false'. Refute it at one input. -/
def planeApartWrong : ChangeSpec := { name := "planeApart", fn := fun _ => fun
  | [d1, d2, d3] => { results := [.lit (.bool false)], args := [d1, d2, d3] }
  | _ => none }
def PlaneApartWrongFalsely : Prop := planeApartRow.holds Tryz.pinned (OpenSpec.ofChange planeApartWrong)

/-- 'trunklinelaw22.PlaneCells': WHATEVER THE INPUT: true; the input reads as it did. -/
def planeCellsSpec : ChangeSpec := { name := "planeCells", fn := fun _ => fun
  | [d1, d2, d3, d4] => { results := [.lit (.bool true)], args := [d1, d2, d3, d4] }
  | _ => none }
def planeCellsRow : OpenClaim := { program := "ytcablikikkmfjaagreat", sum := "70f0ec7c75acc5761cb8e9a5f422e3df43d8aed7a936808346b3d131966d80ad", func := "trunkline/trunklinelaw22.PlaneCells", spec := "planeCells", inPlace := ["internal/bytealg.MakeNoZero", "maps.clone"], unfollowed := true, recurses := true, plainKeys := false, apart := false }
def PlaneCellsSaid : Prop := planeCellsRow.holds Tryz.pinned (OpenSpec.ofChange planeCellsSpec)

/-- ITS FALSE NEIGHBOUR: 'it returns false'. Refute it at one input. -/
def planeCellsWrong : ChangeSpec := { name := "planeCells", fn := fun _ => fun
  | [d1, d2, d3, d4] => { results := [.lit (.bool false)], args := [d1, d2, d3, d4] }
  | _ => none }
def PlaneCellsWrongFalsely : Prop := planeCellsRow.holds Tryz.pinned (OpenSpec.ofChange planeCellsWrong)

/-- 'trunklinelaw22.PlaneCounts': WHATEVER THE INPUT: true; the input reads as it did. -/
def planeCountsSpec : ChangeSpec := { name := "planeCounts", fn := fun _ => fun
  | [d1, d2, d3, d4, d5, d6, d7] => { results := [.lit (.bool true)], args := [d1, d2, d3, d4, d5, d6, d7] }
  | _ => none }
def planeCountsRow : OpenClaim := { program := "ytcablikikkmfjaagreat", sum := "70f0ec7c75acc5761cb8e9a5f422e3df43d8aed7a936808346b3d131966d80ad", func := "trunkline/trunklinelaw22.PlaneCounts", spec := "planeCounts", inPlace := ["internal/bytealg.MakeNoZero", "maps.clone"], unfollowed := true, recurses := true, plainKeys := false, apart := false }
def PlaneCountsSaid : Prop := planeCountsRow.holds Tryz.pinned (OpenSpec.ofChange planeCountsSpec)

/-- ITS FALSE NEIGHBOUR: 'it returns false'. Refute it at one input. -/
def planeCountsWrong : ChangeSpec := { name := "planeCounts", fn := fun _ => fun
  | [d1, d2, d3, d4, d5, d6, d7] => { results := [.lit (.bool false)], args := [d1, d2, d3, d4, d5, d6, d7] }
  | _ => none }
def PlaneCountsWrongFalsely : Prop := planeCountsRow.holds Tryz.pinned (OpenSpec.ofChange planeCountsWrong)

/-- 'trunklinelaw22.PlanePass': WHATEVER THE INPUT: true; the input reads as it did. -/
def planePassSpec : ChangeSpec := { name := "planePass", fn := fun _ => fun
  | [d1, d2, d3, d4, d5, d6, d7, d8] => { results := [.lit (.bool true)], args := [d1, d2, d3, d4, d5, d6, d7, d8] }
  | _ => none }
def planePassRow : OpenClaim := { program := "ytcablikikkmfjaagreat", sum := "70f0ec7c75acc5761cb8e9a5f422e3df43d8aed7a936808346b3d131966d80ad", func := "trunkline/trunklinelaw22.PlanePass", spec := "planePass", inPlace := ["internal/bytealg.MakeNoZero", "maps.clone"], unfollowed := true, recurses := true, plainKeys := false, apart := false }
def PlanePassSaid : Prop := planePassRow.holds Tryz.pinned (OpenSpec.ofChange planePassSpec)

/-- ITS FALSE NEIGHBOUR: 'it returns false'. Refute it at one input. -/
def planePassWrong : ChangeSpec := { name := "planePass", fn := fun _ => fun
  | [d1, d2, d3, d4, d5, d6, d7, d8] => { results := [.lit (.bool false)], args := [d1, d2, d3, d4, d5, d6, d7, d8] }
  | _ => none }
def PlanePassWrongFalsely : Prop := planePassRow.holds Tryz.pinned (OpenSpec.ofChange planePassWrong)

/-- 'trunklinelaw22.PlaneAgain': WHATEVER THE INPUT: true; the input reads as it did. -/
def planeAgainSpec : ChangeSpec := { name := "planeAgain", fn := fun _ => fun
  | [d1, d2, d3, d4, d5] => { results := [.lit (.bool true)], args := [d1, d2, d3, d4, d5] }
  | _ => none }
def planeAgainRow : OpenClaim := { program := "ytcablikikkmfjaagreat", sum := "70f0ec7c75acc5761cb8e9a5f422e3df43d8aed7a936808346b3d131966d80ad", func := "trunkline/trunklinelaw22.PlaneAgain", spec := "planeAgain", inPlace := ["internal/bytealg.MakeNoZero", "maps.clone"], unfollowed := true, recurses := true, plainKeys := false, apart := false }
def PlaneAgainSaid : Prop := planeAgainRow.holds Tryz.pinned (OpenSpec.ofChange planeAgainSpec)

/-- ITS FALSE NEIGHBOUR: 'it returns false'. Refute it at one input. -/
def planeAgainWrong : ChangeSpec := { name := "planeAgain", fn := fun _ => fun
  | [d1, d2, d3, d4, d5] => { results := [.lit (.bool false)], args := [d1, d2, d3, d4, d5] }
  | _ => none }
def PlaneAgainWrongFalsely : Prop := planeAgainRow.holds Tryz.pinned (OpenSpec.ofChange planeAgainWrong)

/-- 'trunklinelaw22.PlaneEnds': WHATEVER THE INPUT: true; the input reads as it did. -/
def planeEndsSpec : ChangeSpec := { name := "planeEnds", fn := fun _ => fun
  | [d1, d2, d3, d4, d5, d6] => { results := [.lit (.bool true)], args := [d1, d2, d3, d4, d5, d6] }
  | _ => none }
def planeEndsRow : OpenClaim := { program := "ytcablikikkmfjaagreat", sum := "70f0ec7c75acc5761cb8e9a5f422e3df43d8aed7a936808346b3d131966d80ad", func := "trunkline/trunklinelaw22.PlaneEnds", spec := "planeEnds", inPlace := ["internal/bytealg.MakeNoZero", "maps.clone"], unfollowed := true, recurses := true, plainKeys := false, apart := false }
def PlaneEndsSaid : Prop := planeEndsRow.holds Tryz.pinned (OpenSpec.ofChange planeEndsSpec)

/-- ITS FALSE NEIGHBOUR: 'it returns false'. Refute it at one input. -/
def planeEndsWrong : ChangeSpec := { name := "planeEnds", fn := fun _ => fun
  | [d1, d2, d3, d4, d5, d6] => { results := [.lit (.bool false)], args := [d1, d2, d3, d4, d5, d6] }
  | _ => none }
def PlaneEndsWrongFalsely : Prop := planeEndsRow.holds Tryz.pinned (OpenSpec.ofChange planeEndsWrong)

/-- 'trunklinelaw22.PlaneLate': WHATEVER THE INPUT: true; the input reads as it did. -/
def planeLateSpec : ChangeSpec := { name := "planeLate", fn := fun _ => fun
  | [d1, d2, d3, d4, d5] => { results := [.lit (.bool true)], args := [d1, d2, d3, d4, d5] }
  | _ => none }
def planeLateRow : OpenClaim := { program := "ytcablikikkmfjaagreat", sum := "70f0ec7c75acc5761cb8e9a5f422e3df43d8aed7a936808346b3d131966d80ad", func := "trunkline/trunklinelaw22.PlaneLate", spec := "planeLate", inPlace := ["internal/bytealg.MakeNoZero", "maps.clone"], unfollowed := true, recurses := true, plainKeys := false, apart := false }
def PlaneLateSaid : Prop := planeLateRow.holds Tryz.pinned (OpenSpec.ofChange planeLateSpec)

/-- ITS FALSE NEIGHBOUR: 'it returns false'. Refute it at one input. -/
def planeLateWrong : ChangeSpec := { name := "planeLate", fn := fun _ => fun
  | [d1, d2, d3, d4, d5] => { results := [.lit (.bool false)], args := [d1, d2, d3, d4, d5] }
  | _ => none }
def PlaneLateWrongFalsely : Prop := planeLateRow.holds Tryz.pinned (OpenSpec.ofChange planeLateWrong)

/-- 'trunklinelaw22.PlaneSums': WHATEVER THE INPUT: true; the input reads as it did. -/
def planeSumsSpec : ChangeSpec := { name := "planeSums", fn := fun _ => fun
  | [d1, d2, d3, d4] => { results := [.lit (.bool true)], args := [d1, d2, d3, d4] }
  | _ => none }
def planeSumsRow : OpenClaim := { program := "ytcablikikkmfjaagreat", sum := "70f0ec7c75acc5761cb8e9a5f422e3df43d8aed7a936808346b3d131966d80ad", func := "trunkline/trunklinelaw22.PlaneSums", spec := "planeSums", inPlace := ["internal/bytealg.MakeNoZero", "maps.clone"], unfollowed := true, recurses := true, plainKeys := false, apart := false }
def PlaneSumsSaid : Prop := planeSumsRow.holds Tryz.pinned (OpenSpec.ofChange planeSumsSpec)

/-- ITS FALSE NEIGHBOUR: 'it returns false'. Refute it at one input. -/
def planeSumsWrong : ChangeSpec := { name := "planeSums", fn := fun _ => fun
  | [d1, d2, d3, d4] => { results := [.lit (.bool false)], args := [d1, d2, d3, d4] }
  | _ => none }
def PlaneSumsWrongFalsely : Prop := planeSumsRow.holds Tryz.pinned (OpenSpec.ofChange planeSumsWrong)

/-- 'trunklinelaw22.PlanePlays': WHATEVER THE INPUT: true; the input reads as it did. -/
def planePlaysSpec : ChangeSpec := { name := "planePlays", fn := fun _ => fun
  | [d1, d2, d3, d4, d5, d6] => { results := [.lit (.bool true)], args := [d1, d2, d3, d4, d5, d6] }
  | _ => none }
def planePlaysRow : OpenClaim := { program := "ytcablikikkmfjaagreat", sum := "70f0ec7c75acc5761cb8e9a5f422e3df43d8aed7a936808346b3d131966d80ad", func := "trunkline/trunklinelaw22.PlanePlays", spec := "planePlays", inPlace := ["internal/bytealg.MakeNoZero", "maps.clone"], unfollowed := true, recurses := true, plainKeys := false, apart := false }
def PlanePlaysSaid : Prop := planePlaysRow.holds Tryz.pinned (OpenSpec.ofChange planePlaysSpec)

/-- ITS FALSE NEIGHBOUR: 'it returns false'. Refute it at one input. -/
def planePlaysWrong : ChangeSpec := { name := "planePlays", fn := fun _ => fun
  | [d1, d2, d3, d4, d5, d6] => { results := [.lit (.bool false)], args := [d1, d2, d3, d4, d5, d6] }
  | _ => none }
def PlanePlaysWrongFalsely : Prop := planePlaysRow.holds Tryz.pinned (OpenSpec.ofChange planePlaysWrong)

/-- 'trunklinelaw22.PlaneNil': WHATEVER THE INPUT: true; the input reads as it did. -/
def planeNilSpec : ChangeSpec := { name := "planeNil", fn := fun _ => fun
  | [d1, d2, d3] => { results := [.lit (.bool true)], args := [d1, d2, d3] }
  | _ => none }
def planeNilRow : OpenClaim := { program := "ytcablikikkmfjaagreat", sum := "70f0ec7c75acc5761cb8e9a5f422e3df43d8aed7a936808346b3d131966d80ad", func := "trunkline/trunklinelaw22.PlaneNil", spec := "planeNil", inPlace := ["internal/bytealg.MakeNoZero", "maps.clone"], unfollowed := true, recurses := true, plainKeys := false, apart := false }
def PlaneNilSaid : Prop := planeNilRow.holds Tryz.pinned (OpenSpec.ofChange planeNilSpec)

/-- ITS FALSE NEIGHBOUR: 'it returns false'. Refute it at one input. -/
def planeNilWrong : ChangeSpec := { name := "planeNil", fn := fun _ => fun
  | [d1, d2, d3] => { results := [.lit (.bool false)], args := [d1, d2, d3] }
  | _ => none }
def PlaneNilWrongFalsely : Prop := planeNilRow.holds Tryz.pinned (OpenSpec.ofChange planeNilWrong)

/-- 'trunklinelaw22.PlaneCalls': WHATEVER THE INPUT: true; the input reads as it did. -/
def planeCallsSpec : ChangeSpec := { name := "planeCalls", fn := fun _ => fun
  | [d1, d2, d3, d4, d5, d6] => { results := [.lit (.bool true)], args := [d1, d2, d3, d4, d5, d6] }
  | _ => none }
def planeCallsRow : OpenClaim := { program := "ytcablikikkmfjaagreat", sum := "70f0ec7c75acc5761cb8e9a5f422e3df43d8aed7a936808346b3d131966d80ad", func := "trunkline/trunklinelaw22.PlaneCalls", spec := "planeCalls", inPlace := ["internal/bytealg.MakeNoZero", "maps.clone"], unfollowed := true, recurses := true, plainKeys := false, apart := false }
def PlaneCallsSaid : Prop := planeCallsRow.holds Tryz.pinned (OpenSpec.ofChange planeCallsSpec)

/-- ITS FALSE NEIGHBOUR: 'it returns false'. Refute it at one input. -/
def planeCallsWrong : ChangeSpec := { name := "planeCalls", fn := fun _ => fun
  | [d1, d2, d3, d4, d5, d6] => { results := [.lit (.bool false)], args := [d1, d2, d3, d4, d5, d6] }
  | _ => none }
def PlaneCallsWrongFalsely : Prop := planeCallsRow.holds Tryz.pinned (OpenSpec.ofChange planeCallsWrong)

/- THE SECOND FORM. 'bulk': how many values and letters a reading holds, each counted each time it is reached (what is shared counts as often as it is met; a slice's spare places count too). A statement '..UptoSaid' is the law's where the arguments, and the package variables that the reading takes, are together of bulk at most 1048576: NARROWER than '..Said'. Prove '..Said' where nothing that the law and all that it calls make is longer than what came in: it says more and counts as full. Else prove '..UptoSaid'. A law counts once. -/
mutual
def uptoBulk {H : Type} : DataW H → Nat
  | .lit (.string bytes) => bytes.length + 1
  | .lit _ => 1
  | .nil => 1
  | .ptr d => uptoBulk d + 1
  | .slice elems spare => uptoBulkAll elems + uptoBulkAll spare + 1
  | .agg parts => uptoBulkAll parts + 1
  | .iface _ d => uptoBulk d + 1
  | .map entries => uptoBulkEntries entries + 1
  | .held _ => 1
def uptoBulkAll {H : Type} : List (DataW H) → Nat
  | [] => 0
  | d :: r => uptoBulk d + uptoBulkAll r
def uptoBulkEntries {H : Type} : List (Lit × DataW H) → Nat
  | [] => 0
  | x :: r => uptoBulkEntry x + uptoBulkEntries r
def uptoBulkEntry {H : Type} : Lit × DataW H → Nat
  | (.string bytes, d) => bytes.length + uptoBulk d + 1
  | (_, d) => uptoBulk d + 1
 end
def uptoSmall : (H : Type) → List (DataW H) → Bool := fun _ ds => decide (uptoBulkAll ds ≤ 1048576)
def OpenSpec.upto (s : _root_.Go.ChangeSpec) : _root_.Go.OpenSpec := { _root_.Go.OpenSpec.ofChange s with cond := some uptoSmall }

/-- 'trunklinelaw22.PlaneWindows', WHERE WHAT IT READS IS OF BULK AT MOST 1048576: true; the input reads as it did. -/
def planeWindowsUptoRow : OpenClaim := { program := "ytcablikikkmfjaagreat", sum := "70f0ec7c75acc5761cb8e9a5f422e3df43d8aed7a936808346b3d131966d80ad", func := "trunkline/trunklinelaw22.PlaneWindows", spec := "planeWindows", inPlace := ["internal/bytealg.MakeNoZero"], unfollowed := true, recurses := true, plainKeys := false, apart := false, narrowed := true }
def PlaneWindowsUptoSaid : Prop := planeWindowsUptoRow.holds Tryz.pinned (OpenSpec.upto planeWindowsSpec)

/-- 'trunklinelaw22.PlaneApart', WHERE WHAT IT READS IS OF BULK AT MOST 1048576: true; the input reads as it did. -/
def planeApartUptoRow : OpenClaim := { program := "ytcablikikkmfjaagreat", sum := "70f0ec7c75acc5761cb8e9a5f422e3df43d8aed7a936808346b3d131966d80ad", func := "trunkline/trunklinelaw22.PlaneApart", spec := "planeApart", inPlace := ["internal/bytealg.MakeNoZero"], unfollowed := true, recurses := true, plainKeys := false, apart := false, narrowed := true }
def PlaneApartUptoSaid : Prop := planeApartUptoRow.holds Tryz.pinned (OpenSpec.upto planeApartSpec)

/-- 'trunklinelaw22.PlaneCells', WHERE WHAT IT READS IS OF BULK AT MOST 1048576: true; the input reads as it did. -/
def planeCellsUptoRow : OpenClaim := { program := "ytcablikikkmfjaagreat", sum := "70f0ec7c75acc5761cb8e9a5f422e3df43d8aed7a936808346b3d131966d80ad", func := "trunkline/trunklinelaw22.PlaneCells", spec := "planeCells", inPlace := ["internal/bytealg.MakeNoZero", "maps.clone"], unfollowed := true, recurses := true, plainKeys := false, apart := false, narrowed := true }
def PlaneCellsUptoSaid : Prop := planeCellsUptoRow.holds Tryz.pinned (OpenSpec.upto planeCellsSpec)

/-- 'trunklinelaw22.PlaneCounts', WHERE WHAT IT READS IS OF BULK AT MOST 1048576: true; the input reads as it did. -/
def planeCountsUptoRow : OpenClaim := { program := "ytcablikikkmfjaagreat", sum := "70f0ec7c75acc5761cb8e9a5f422e3df43d8aed7a936808346b3d131966d80ad", func := "trunkline/trunklinelaw22.PlaneCounts", spec := "planeCounts", inPlace := ["internal/bytealg.MakeNoZero", "maps.clone"], unfollowed := true, recurses := true, plainKeys := false, apart := false, narrowed := true }
def PlaneCountsUptoSaid : Prop := planeCountsUptoRow.holds Tryz.pinned (OpenSpec.upto planeCountsSpec)

/-- 'trunklinelaw22.PlanePass', WHERE WHAT IT READS IS OF BULK AT MOST 1048576: true; the input reads as it did. -/
def planePassUptoRow : OpenClaim := { program := "ytcablikikkmfjaagreat", sum := "70f0ec7c75acc5761cb8e9a5f422e3df43d8aed7a936808346b3d131966d80ad", func := "trunkline/trunklinelaw22.PlanePass", spec := "planePass", inPlace := ["internal/bytealg.MakeNoZero", "maps.clone"], unfollowed := true, recurses := true, plainKeys := false, apart := false, narrowed := true }
def PlanePassUptoSaid : Prop := planePassUptoRow.holds Tryz.pinned (OpenSpec.upto planePassSpec)

/-- 'trunklinelaw22.PlaneAgain', WHERE WHAT IT READS IS OF BULK AT MOST 1048576: true; the input reads as it did. -/
def planeAgainUptoRow : OpenClaim := { program := "ytcablikikkmfjaagreat", sum := "70f0ec7c75acc5761cb8e9a5f422e3df43d8aed7a936808346b3d131966d80ad", func := "trunkline/trunklinelaw22.PlaneAgain", spec := "planeAgain", inPlace := ["internal/bytealg.MakeNoZero", "maps.clone"], unfollowed := true, recurses := true, plainKeys := false, apart := false, narrowed := true }
def PlaneAgainUptoSaid : Prop := planeAgainUptoRow.holds Tryz.pinned (OpenSpec.upto planeAgainSpec)

/-- 'trunklinelaw22.PlaneEnds', WHERE WHAT IT READS IS OF BULK AT MOST 1048576: true; the input reads as it did. -/
def planeEndsUptoRow : OpenClaim := { program := "ytcablikikkmfjaagreat", sum := "70f0ec7c75acc5761cb8e9a5f422e3df43d8aed7a936808346b3d131966d80ad", func := "trunkline/trunklinelaw22.PlaneEnds", spec := "planeEnds", inPlace := ["internal/bytealg.MakeNoZero", "maps.clone"], unfollowed := true, recurses := true, plainKeys := false, apart := false, narrowed := true }
def PlaneEndsUptoSaid : Prop := planeEndsUptoRow.holds Tryz.pinned (OpenSpec.upto planeEndsSpec)

/-- 'trunklinelaw22.PlaneLate', WHERE WHAT IT READS IS OF BULK AT MOST 1048576: true; the input reads as it did. -/
def planeLateUptoRow : OpenClaim := { program := "ytcablikikkmfjaagreat", sum := "70f0ec7c75acc5761cb8e9a5f422e3df43d8aed7a936808346b3d131966d80ad", func := "trunkline/trunklinelaw22.PlaneLate", spec := "planeLate", inPlace := ["internal/bytealg.MakeNoZero", "maps.clone"], unfollowed := true, recurses := true, plainKeys := false, apart := false, narrowed := true }
def PlaneLateUptoSaid : Prop := planeLateUptoRow.holds Tryz.pinned (OpenSpec.upto planeLateSpec)

/-- 'trunklinelaw22.PlaneSums', WHERE WHAT IT READS IS OF BULK AT MOST 1048576: true; the input reads as it did. -/
def planeSumsUptoRow : OpenClaim := { program := "ytcablikikkmfjaagreat", sum := "70f0ec7c75acc5761cb8e9a5f422e3df43d8aed7a936808346b3d131966d80ad", func := "trunkline/trunklinelaw22.PlaneSums", spec := "planeSums", inPlace := ["internal/bytealg.MakeNoZero", "maps.clone"], unfollowed := true, recurses := true, plainKeys := false, apart := false, narrowed := true }
def PlaneSumsUptoSaid : Prop := planeSumsUptoRow.holds Tryz.pinned (OpenSpec.upto planeSumsSpec)

/-- 'trunklinelaw22.PlanePlays', WHERE WHAT IT READS IS OF BULK AT MOST 1048576: true; the input reads as it did. -/
def planePlaysUptoRow : OpenClaim := { program := "ytcablikikkmfjaagreat", sum := "70f0ec7c75acc5761cb8e9a5f422e3df43d8aed7a936808346b3d131966d80ad", func := "trunkline/trunklinelaw22.PlanePlays", spec := "planePlays", inPlace := ["internal/bytealg.MakeNoZero", "maps.clone"], unfollowed := true, recurses := true, plainKeys := false, apart := false, narrowed := true }
def PlanePlaysUptoSaid : Prop := planePlaysUptoRow.holds Tryz.pinned (OpenSpec.upto planePlaysSpec)

/-- 'trunklinelaw22.PlaneNil', WHERE WHAT IT READS IS OF BULK AT MOST 1048576: true; the input reads as it did. -/
def planeNilUptoRow : OpenClaim := { program := "ytcablikikkmfjaagreat", sum := "70f0ec7c75acc5761cb8e9a5f422e3df43d8aed7a936808346b3d131966d80ad", func := "trunkline/trunklinelaw22.PlaneNil", spec := "planeNil", inPlace := ["internal/bytealg.MakeNoZero", "maps.clone"], unfollowed := true, recurses := true, plainKeys := false, apart := false, narrowed := true }
def PlaneNilUptoSaid : Prop := planeNilUptoRow.holds Tryz.pinned (OpenSpec.upto planeNilSpec)

/-- 'trunklinelaw22.PlaneCalls', WHERE WHAT IT READS IS OF BULK AT MOST 1048576: true; the input reads as it did. -/
def planeCallsUptoRow : OpenClaim := { program := "ytcablikikkmfjaagreat", sum := "70f0ec7c75acc5761cb8e9a5f422e3df43d8aed7a936808346b3d131966d80ad", func := "trunkline/trunklinelaw22.PlaneCalls", spec := "planeCalls", inPlace := ["internal/bytealg.MakeNoZero", "maps.clone"], unfollowed := true, recurses := true, plainKeys := false, apart := false, narrowed := true }
def PlaneCallsUptoSaid : Prop := planeCallsUptoRow.holds Tryz.pinned (OpenSpec.upto planeCallsSpec)

end Rows
end Go.Proofs.YtcablikikkmfjaaGreat
