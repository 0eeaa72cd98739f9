/-
  No cell of these rows narrows 'for every input' (looked for: loops, veiled, ifaces, maps, wideKeys, modest, calm, conditions, laid).
  DERIVED. THE GIVEN ROWS OF THIS SEAT. 6 by the template 'for every input the law returns true; each argument reads behind the call as it read before'; 0 by the template 'total and deterministic' (their statements: YteipakmfiiccpaaTotals.lean).
  GIVEN WITH THE SEED: the statements are not yours to turn. If you find one false, say at which input.
  Laid BY PROGRAM, IN A SANDBOX (cutbox-rows.mjs): the forced cells as the released guide's own fill.sh prints them over the translation f5fdce6f73451e0f… (all of the seat's roots in one cut). By AI agents, Wed Nov 11 2026. No macro, syntax, notation, axiom, sorry.
-/
import Derived.Test.YteipakmfiiccpaaChecked
import GoSem.Claim
import GoSem.ClaimJoined
import GoSem.ClaimMapViews
import Derived.JoinedTies
import Derived.KernelRfl
namespace Go.Proofs.Yteipakmfiiccpaa
/- THE CELL 'sum', in the pinned program and in every row, IS THE sha256 OF THE DUMP (.gsa) THAT YteipakmfiiccpaaProg.lean LOADS. Nothing in Lean hashes anything: it is a label: what it is worth is what the hold of that sum in a sandbox is worth. -/
noncomputable def Try.pinned : Pinned := { name := "yteipakmfiiccpaa", sum := "f5fdce6f73451e0faad274b68962c5cffc03351dc3b01ff889f92f9324859324", checked := Try.checked }
namespace Rows
def none {H : Type} : Left H := { results := [], args := [] }

/-- 'trunklinelaw14.OamPacks': WHATEVER THE INPUT: true; the input reads as it did. -/
def oamPacksSpec : ChangeSpec := { name := "oamPacks", fn := fun _ => fun
  | [d1, d2] => { results := [.lit (.bool true)], args := [d1, d2] }
  | _ => none }
def oamPacksRow : OpenClaim := { program := "yteipakmfiiccpaa", sum := "f5fdce6f73451e0faad274b68962c5cffc03351dc3b01ff889f92f9324859324", func := "trunkline/trunklinelaw14.OamPacks", spec := "oamPacks", unfollowed := true, recurses := true, apart := false }
def OamPacksSaid : Prop := oamPacksRow.holds Try.pinned (OpenSpec.ofChange oamPacksSpec)

/-- ITS FALSE NEIGHBOUR: 'it returns false'. Refute it at one input. -/
def oamPacksWrong : ChangeSpec := { name := "oamPacks", fn := fun _ => fun
  | [d1, d2] => { results := [.lit (.bool false)], args := [d1, d2] }
  | _ => none }
def OamPacksWrongFalsely : Prop := oamPacksRow.holds Try.pinned (OpenSpec.ofChange oamPacksWrong)

/-- 'trunklinelaw14.OamBack': WHATEVER THE INPUT: true; the input reads as it did. -/
def oamBackSpec : ChangeSpec := { name := "oamBack", fn := fun _ => fun
  | [d1, d2, d3] => { results := [.lit (.bool true)], args := [d1, d2, d3] }
  | _ => none }
def oamBackRow : OpenClaim := { program := "yteipakmfiiccpaa", sum := "f5fdce6f73451e0faad274b68962c5cffc03351dc3b01ff889f92f9324859324", func := "trunkline/trunklinelaw14.OamBack", spec := "oamBack", unfollowed := true, recurses := true, apart := false }
def OamBackSaid : Prop := oamBackRow.holds Try.pinned (OpenSpec.ofChange oamBackSpec)

/-- ITS FALSE NEIGHBOUR: 'it returns false'. Refute it at one input. -/
def oamBackWrong : ChangeSpec := { name := "oamBack", fn := fun _ => fun
  | [d1, d2, d3] => { results := [.lit (.bool false)], args := [d1, d2, d3] }
  | _ => none }
def OamBackWrongFalsely : Prop := oamBackRow.holds Try.pinned (OpenSpec.ofChange oamBackWrong)

/-- 'trunklinelaw14.OamKinds': WHATEVER THE INPUT: true; the input reads as it did. -/
def oamKindsSpec : ChangeSpec := { name := "oamKinds", fn := fun _ => fun
  | [d1, d2] => { results := [.lit (.bool true)], args := [d1, d2] }
  | _ => none }
def oamKindsRow : OpenClaim := { program := "yteipakmfiiccpaa", sum := "f5fdce6f73451e0faad274b68962c5cffc03351dc3b01ff889f92f9324859324", func := "trunkline/trunklinelaw14.OamKinds", spec := "oamKinds", unfollowed := true, recurses := true, apart := false }
def OamKindsSaid : Prop := oamKindsRow.holds Try.pinned (OpenSpec.ofChange oamKindsSpec)

/-- ITS FALSE NEIGHBOUR: 'it returns false'. Refute it at one input. -/
def oamKindsWrong : ChangeSpec := { name := "oamKinds", fn := fun _ => fun
  | [d1, d2] => { results := [.lit (.bool false)], args := [d1, d2] }
  | _ => none }
def OamKindsWrongFalsely : Prop := oamKindsRow.holds Try.pinned (OpenSpec.ofChange oamKindsWrong)

/-- 'trunklinelaw14.OamApart': WHATEVER THE INPUT: true; the input reads as it did. -/
def oamApartSpec : ChangeSpec := { name := "oamApart", fn := fun _ => fun
  | [d1, d2] => { results := [.lit (.bool true)], args := [d1, d2] }
  | _ => none }
def oamApartRow : OpenClaim := { program := "yteipakmfiiccpaa", sum := "f5fdce6f73451e0faad274b68962c5cffc03351dc3b01ff889f92f9324859324", func := "trunkline/trunklinelaw14.OamApart", spec := "oamApart", unfollowed := true, recurses := true, apart := false }
def OamApartSaid : Prop := oamApartRow.holds Try.pinned (OpenSpec.ofChange oamApartSpec)

/-- ITS FALSE NEIGHBOUR: 'it returns false'. Refute it at one input. -/
def oamApartWrong : ChangeSpec := { name := "oamApart", fn := fun _ => fun
  | [d1, d2] => { results := [.lit (.bool false)], args := [d1, d2] }
  | _ => none }
def OamApartWrongFalsely : Prop := oamApartRow.holds Try.pinned (OpenSpec.ofChange oamApartWrong)

/-- 'trunklinelaw14.OamReplies': WHATEVER THE INPUT: true; the input reads as it did. -/
def oamRepliesSpec : ChangeSpec := { name := "oamReplies", fn := fun _ => fun
  | [d1, d2] => { results := [.lit (.bool true)], args := [d1, d2] }
  | _ => none }
def oamRepliesRow : OpenClaim := { program := "yteipakmfiiccpaa", sum := "f5fdce6f73451e0faad274b68962c5cffc03351dc3b01ff889f92f9324859324", func := "trunkline/trunklinelaw14.OamReplies", spec := "oamReplies", inPlace := ["internal/bytealg.MakeNoZero"], unfollowed := true, recurses := true, apart := false }
def OamRepliesSaid : Prop := oamRepliesRow.holds Try.pinned (OpenSpec.ofChange oamRepliesSpec)

/-- ITS FALSE NEIGHBOUR: 'it returns false'. Refute it at one input. -/
def oamRepliesWrong : ChangeSpec := { name := "oamReplies", fn := fun _ => fun
  | [d1, d2] => { results := [.lit (.bool false)], args := [d1, d2] }
  | _ => none }
def OamRepliesWrongFalsely : Prop := oamRepliesRow.holds Try.pinned (OpenSpec.ofChange oamRepliesWrong)

/-- 'trunklinelaw14.OamOnce': WHATEVER THE INPUT: true; the input reads as it did. -/
def oamOnceSpec : ChangeSpec := { name := "oamOnce", fn := fun _ => fun
  | [d1, d2, d3] => { results := [.lit (.bool true)], args := [d1, d2, d3] }
  | _ => none }
def oamOnceRow : OpenClaim := { program := "yteipakmfiiccpaa", sum := "f5fdce6f73451e0faad274b68962c5cffc03351dc3b01ff889f92f9324859324", func := "trunkline/trunklinelaw14.OamOnce", spec := "oamOnce", inPlace := ["internal/bytealg.MakeNoZero"], unfollowed := true, recurses := true, apart := false }
def OamOnceSaid : Prop := oamOnceRow.holds Try.pinned (OpenSpec.ofChange oamOnceSpec)

/-- ITS FALSE NEIGHBOUR: 'it returns false'. Refute it at one input. -/
def oamOnceWrong : ChangeSpec := { name := "oamOnce", fn := fun _ => fun
  | [d1, d2, d3] => { results := [.lit (.bool false)], args := [d1, d2, d3] }
  | _ => none }
def OamOnceWrongFalsely : Prop := oamOnceRow.holds Try.pinned (OpenSpec.ofChange oamOnceWrong)

/- THE SECOND FORM. 'bulk': how many values and letters a reading holds, each counted each time it is reached (what is shared counts as often as it is met; a slice's spare places count too). A statement '..UptoSaid' is the law's where the arguments, and the package variables that the reading takes, are together of bulk at most 1048576: NARROWER than '..Said'. Prove '..Said' where nothing that the law and all that it calls make is longer than what came in: it says more and counts as full. Else prove '..UptoSaid'. A law counts once. -/
mutual
def uptoBulk {H : Type} : DataW H → Nat
  | .lit (.string bytes) => bytes.length + 1
  | .lit _ => 1
  | .nil => 1
  | .ptr d => uptoBulk d + 1
  | .slice elems spare => uptoBulkAll elems + uptoBulkAll spare + 1
  | .agg parts => uptoBulkAll parts + 1
  | .iface _ d => uptoBulk d + 1
  | .map entries => uptoBulkEntries entries + 1
  | .held _ => 1
def uptoBulkAll {H : Type} : List (DataW H) → Nat
  | [] => 0
  | d :: r => uptoBulk d + uptoBulkAll r
def uptoBulkEntries {H : Type} : List (Lit × DataW H) → Nat
  | [] => 0
  | x :: r => uptoBulkEntry x + uptoBulkEntries r
def uptoBulkEntry {H : Type} : Lit × DataW H → Nat
  | (.string bytes, d) => bytes.length + uptoBulk d + 1
  | (_, d) => uptoBulk d + 1
 end
def uptoSmall : (H : Type) → List (DataW H) → Bool := fun _ ds => decide (uptoBulkAll ds ≤ 1048576)
def OpenSpec.upto (s : _root_.Go.ChangeSpec) : _root_.Go.OpenSpec := { _root_.Go.OpenSpec.ofChange s with cond := some uptoSmall }

/-- 'trunklinelaw14.OamPacks', WHERE WHAT IT READS IS OF BULK AT MOST 1048576: true; the input reads as it did. -/
def oamPacksUptoRow : OpenClaim := { program := "yteipakmfiiccpaa", sum := "f5fdce6f73451e0faad274b68962c5cffc03351dc3b01ff889f92f9324859324", func := "trunkline/trunklinelaw14.OamPacks", spec := "oamPacks", unfollowed := true, recurses := true, apart := false, narrowed := true }
def OamPacksUptoSaid : Prop := oamPacksUptoRow.holds Try.pinned (OpenSpec.upto oamPacksSpec)

/-- 'trunklinelaw14.OamBack', WHERE WHAT IT READS IS OF BULK AT MOST 1048576: true; the input reads as it did. -/
def oamBackUptoRow : OpenClaim := { program := "yteipakmfiiccpaa", sum := "f5fdce6f73451e0faad274b68962c5cffc03351dc3b01ff889f92f9324859324", func := "trunkline/trunklinelaw14.OamBack", spec := "oamBack", unfollowed := true, recurses := true, apart := false, narrowed := true }
def OamBackUptoSaid : Prop := oamBackUptoRow.holds Try.pinned (OpenSpec.upto oamBackSpec)

/-- 'trunklinelaw14.OamKinds', WHERE WHAT IT READS IS OF BULK AT MOST 1048576: true; the input reads as it did. -/
def oamKindsUptoRow : OpenClaim := { program := "yteipakmfiiccpaa", sum := "f5fdce6f73451e0faad274b68962c5cffc03351dc3b01ff889f92f9324859324", func := "trunkline/trunklinelaw14.OamKinds", spec := "oamKinds", unfollowed := true, recurses := true, apart := false, narrowed := true }
def OamKindsUptoSaid : Prop := oamKindsUptoRow.holds Try.pinned (OpenSpec.upto oamKindsSpec)

/-- 'trunklinelaw14.OamApart', WHERE WHAT IT READS IS OF BULK AT MOST 1048576: true; the input reads as it did. -/
def oamApartUptoRow : OpenClaim := { program := "yteipakmfiiccpaa", sum := "f5fdce6f73451e0faad274b68962c5cffc03351dc3b01ff889f92f9324859324", func := "trunkline/trunklinelaw14.OamApart", spec := "oamApart", unfollowed := true, recurses := true, apart := false, narrowed := true }
def OamApartUptoSaid : Prop := oamApartUptoRow.holds Try.pinned (OpenSpec.upto oamApartSpec)

/-- 'trunklinelaw14.OamReplies', WHERE WHAT IT READS IS OF BULK AT MOST 1048576: true; the input reads as it did. -/
def oamRepliesUptoRow : OpenClaim := { program := "yteipakmfiiccpaa", sum := "f5fdce6f73451e0faad274b68962c5cffc03351dc3b01ff889f92f9324859324", func := "trunkline/trunklinelaw14.OamReplies", spec := "oamReplies", inPlace := ["internal/bytealg.MakeNoZero"], unfollowed := true, recurses := true, apart := false, narrowed := true }
def OamRepliesUptoSaid : Prop := oamRepliesUptoRow.holds Try.pinned (OpenSpec.upto oamRepliesSpec)

/-- 'trunklinelaw14.OamOnce', WHERE WHAT IT READS IS OF BULK AT MOST 1048576: true; the input reads as it did. -/
def oamOnceUptoRow : OpenClaim := { program := "yteipakmfiiccpaa", sum := "f5fdce6f73451e0faad274b68962c5cffc03351dc3b01ff889f92f9324859324", func := "trunkline/trunklinelaw14.OamOnce", spec := "oamOnce", inPlace := ["internal/bytealg.MakeNoZero"], unfollowed := true, recurses := true, apart := false, narrowed := true }
def OamOnceUptoSaid : Prop := oamOnceUptoRow.holds Try.pinned (OpenSpec.upto oamOnceSpec)

end Rows
end Go.Proofs.Yteipakmfiiccpaa
