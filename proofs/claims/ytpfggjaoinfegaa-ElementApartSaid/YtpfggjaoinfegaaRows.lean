/-
  No cell of these rows narrows 'for every input' (looked for: loops, veiled, ifaces, maps, wideKeys, modest, calm, conditions, laid).
  DERIVED. THE GIVEN ROWS OF THIS SEAT. 6 by the template 'for every input the law returns true; each argument reads behind the call as it read before'; 0 by the template 'total and deterministic' (their statements: YtpfggjaoinfegaaTotals.lean).
  GIVEN WITH THE SEED: the statements are not yours to turn. If you find one false, say at which input.
  Laid BY PROGRAM, IN A SANDBOX (cutbox-rows.mjs): the forced cells as the released guide's own fill.sh prints them over the translation 3a572c3527c3c0d0… (all of the seat's roots in one cut). By AI agents, Wed Nov 11 2026. No macro, syntax, notation, axiom, sorry.
-/
import Derived.Test.YtpfggjaoinfegaaChecked
import GoSem.Claim
import GoSem.ClaimJoined
import GoSem.ClaimMapViews
import Derived.JoinedTies
import Derived.KernelRfl
namespace Go.Proofs.Ytpfggjaoinfegaa
/- THE CELL 'sum', in the pinned program and in every row, IS THE sha256 OF THE DUMP (.gsa) THAT YtpfggjaoinfegaaProg.lean LOADS. Nothing in Lean hashes anything: it is a label: what it is worth is what the hold of that sum in a sandbox is worth. -/
noncomputable def Try.pinned : Pinned := { name := "ytpfggjaoinfegaa", sum := "3a572c3527c3c0d06d7ece9847c1979379cebd99c56abd556ad0f8b14ab2aaab", checked := Try.checked }
namespace Rows
def none {H : Type} : Left H := { results := [], args := [] }

/-- 'trunklinelaw15.ElementBack': WHATEVER THE INPUT: true; the input reads as it did. -/
def elementBackSpec : ChangeSpec := { name := "elementBack", fn := fun _ => fun
  | [d1, d2] => { results := [.lit (.bool true)], args := [d1, d2] }
  | _ => none }
def elementBackRow : OpenClaim := { program := "ytpfggjaoinfegaa", sum := "3a572c3527c3c0d06d7ece9847c1979379cebd99c56abd556ad0f8b14ab2aaab", func := "trunkline/trunklinelaw15.ElementBack", spec := "elementBack", unfollowed := true, recurses := true, apart := false }
def ElementBackSaid : Prop := elementBackRow.holds Try.pinned (OpenSpec.ofChange elementBackSpec)

/-- ITS FALSE NEIGHBOUR: 'it returns false'. Refute it at one input. -/
def elementBackWrong : ChangeSpec := { name := "elementBack", fn := fun _ => fun
  | [d1, d2] => { results := [.lit (.bool false)], args := [d1, d2] }
  | _ => none }
def ElementBackWrongFalsely : Prop := elementBackRow.holds Try.pinned (OpenSpec.ofChange elementBackWrong)

/-- 'trunklinelaw15.ElementOwn': WHATEVER THE INPUT: true; the input reads as it did. -/
def elementOwnSpec : ChangeSpec := { name := "elementOwn", fn := fun _ => fun
  | [d1, d2, d3] => { results := [.lit (.bool true)], args := [d1, d2, d3] }
  | _ => none }
def elementOwnRow : OpenClaim := { program := "ytpfggjaoinfegaa", sum := "3a572c3527c3c0d06d7ece9847c1979379cebd99c56abd556ad0f8b14ab2aaab", func := "trunkline/trunklinelaw15.ElementOwn", spec := "elementOwn", unfollowed := true, recurses := true, apart := false }
def ElementOwnSaid : Prop := elementOwnRow.holds Try.pinned (OpenSpec.ofChange elementOwnSpec)

/-- ITS FALSE NEIGHBOUR: 'it returns false'. Refute it at one input. -/
def elementOwnWrong : ChangeSpec := { name := "elementOwn", fn := fun _ => fun
  | [d1, d2, d3] => { results := [.lit (.bool false)], args := [d1, d2, d3] }
  | _ => none }
def ElementOwnWrongFalsely : Prop := elementOwnRow.holds Try.pinned (OpenSpec.ofChange elementOwnWrong)

/-- 'trunklinelaw15.ElementPacks': WHATEVER THE INPUT: true; the input reads as it did. -/
def elementPacksSpec : ChangeSpec := { name := "elementPacks", fn := fun _ => fun
  | [d1, d2, d3] => { results := [.lit (.bool true)], args := [d1, d2, d3] }
  | _ => none }
def elementPacksRow : OpenClaim := { program := "ytpfggjaoinfegaa", sum := "3a572c3527c3c0d06d7ece9847c1979379cebd99c56abd556ad0f8b14ab2aaab", func := "trunkline/trunklinelaw15.ElementPacks", spec := "elementPacks", unfollowed := true, recurses := true, apart := false }
def ElementPacksSaid : Prop := elementPacksRow.holds Try.pinned (OpenSpec.ofChange elementPacksSpec)

/-- ITS FALSE NEIGHBOUR: 'it returns false'. Refute it at one input. -/
def elementPacksWrong : ChangeSpec := { name := "elementPacks", fn := fun _ => fun
  | [d1, d2, d3] => { results := [.lit (.bool false)], args := [d1, d2, d3] }
  | _ => none }
def ElementPacksWrongFalsely : Prop := elementPacksRow.holds Try.pinned (OpenSpec.ofChange elementPacksWrong)

/-- 'trunklinelaw15.ElementApart': WHATEVER THE INPUT: true; the input reads as it did. -/
def elementApartSpec : ChangeSpec := { name := "elementApart", fn := fun _ => fun
  | [d1, d2, d3, d4] => { results := [.lit (.bool true)], args := [d1, d2, d3, d4] }
  | _ => none }
def elementApartRow : OpenClaim := { program := "ytpfggjaoinfegaa", sum := "3a572c3527c3c0d06d7ece9847c1979379cebd99c56abd556ad0f8b14ab2aaab", func := "trunkline/trunklinelaw15.ElementApart", spec := "elementApart", unfollowed := true, recurses := true, apart := false }
def ElementApartSaid : Prop := elementApartRow.holds Try.pinned (OpenSpec.ofChange elementApartSpec)

/-- ITS FALSE NEIGHBOUR: 'it returns false'. Refute it at one input. -/
def elementApartWrong : ChangeSpec := { name := "elementApart", fn := fun _ => fun
  | [d1, d2, d3, d4] => { results := [.lit (.bool false)], args := [d1, d2, d3, d4] }
  | _ => none }
def ElementApartWrongFalsely : Prop := elementApartRow.holds Try.pinned (OpenSpec.ofChange elementApartWrong)

/-- 'trunklinelaw15.ElementReads': WHATEVER THE INPUT: true; the input reads as it did. -/
def elementReadsSpec : ChangeSpec := { name := "elementReads", fn := fun _ => fun
  | [d1, d2, d3, d4] => { results := [.lit (.bool true)], args := [d1, d2, d3, d4] }
  | _ => none }
def elementReadsRow : OpenClaim := { program := "ytpfggjaoinfegaa", sum := "3a572c3527c3c0d06d7ece9847c1979379cebd99c56abd556ad0f8b14ab2aaab", func := "trunkline/trunklinelaw15.ElementReads", spec := "elementReads", unfollowed := true, recurses := true, apart := false }
def ElementReadsSaid : Prop := elementReadsRow.holds Try.pinned (OpenSpec.ofChange elementReadsSpec)

/-- ITS FALSE NEIGHBOUR: 'it returns false'. Refute it at one input. -/
def elementReadsWrong : ChangeSpec := { name := "elementReads", fn := fun _ => fun
  | [d1, d2, d3, d4] => { results := [.lit (.bool false)], args := [d1, d2, d3, d4] }
  | _ => none }
def ElementReadsWrongFalsely : Prop := elementReadsRow.holds Try.pinned (OpenSpec.ofChange elementReadsWrong)

/-- 'trunklinelaw15.ElementKinds': WHATEVER THE INPUT: true; the input reads as it did. -/
def elementKindsSpec : ChangeSpec := { name := "elementKinds", fn := fun _ => fun
  | [d1, d2, d3] => { results := [.lit (.bool true)], args := [d1, d2, d3] }
  | _ => none }
def elementKindsRow : OpenClaim := { program := "ytpfggjaoinfegaa", sum := "3a572c3527c3c0d06d7ece9847c1979379cebd99c56abd556ad0f8b14ab2aaab", func := "trunkline/trunklinelaw15.ElementKinds", spec := "elementKinds", unfollowed := true, recurses := true, apart := false }
def ElementKindsSaid : Prop := elementKindsRow.holds Try.pinned (OpenSpec.ofChange elementKindsSpec)

/-- ITS FALSE NEIGHBOUR: 'it returns false'. Refute it at one input. -/
def elementKindsWrong : ChangeSpec := { name := "elementKinds", fn := fun _ => fun
  | [d1, d2, d3] => { results := [.lit (.bool false)], args := [d1, d2, d3] }
  | _ => none }
def ElementKindsWrongFalsely : Prop := elementKindsRow.holds Try.pinned (OpenSpec.ofChange elementKindsWrong)

/- THE SECOND FORM. 'bulk': how many values and letters a reading holds, each counted each time it is reached (what is shared counts as often as it is met; a slice's spare places count too). A statement '..UptoSaid' is the law's where the arguments, and the package variables that the reading takes, are together of bulk at most 1048576: NARROWER than '..Said'. Prove '..Said' where nothing that the law and all that it calls make is longer than what came in: it says more and counts as full. Else prove '..UptoSaid'. A law counts once. -/
mutual
def uptoBulk {H : Type} : DataW H → Nat
  | .lit (.string bytes) => bytes.length + 1
  | .lit _ => 1
  | .nil => 1
  | .ptr d => uptoBulk d + 1
  | .slice elems spare => uptoBulkAll elems + uptoBulkAll spare + 1
  | .agg parts => uptoBulkAll parts + 1
  | .iface _ d => uptoBulk d + 1
  | .map entries => uptoBulkEntries entries + 1
  | .held _ => 1
def uptoBulkAll {H : Type} : List (DataW H) → Nat
  | [] => 0
  | d :: r => uptoBulk d + uptoBulkAll r
def uptoBulkEntries {H : Type} : List (Lit × DataW H) → Nat
  | [] => 0
  | x :: r => uptoBulkEntry x + uptoBulkEntries r
def uptoBulkEntry {H : Type} : Lit × DataW H → Nat
  | (.string bytes, d) => bytes.length + uptoBulk d + 1
  | (_, d) => uptoBulk d + 1
 end
def uptoSmall : (H : Type) → List (DataW H) → Bool := fun _ ds => decide (uptoBulkAll ds ≤ 1048576)
def OpenSpec.upto (s : _root_.Go.ChangeSpec) : _root_.Go.OpenSpec := { _root_.Go.OpenSpec.ofChange s with cond := some uptoSmall }

/-- 'trunklinelaw15.ElementBack', WHERE WHAT IT READS IS OF BULK AT MOST 1048576: true; the input reads as it did. -/
def elementBackUptoRow : OpenClaim := { program := "ytpfggjaoinfegaa", sum := "3a572c3527c3c0d06d7ece9847c1979379cebd99c56abd556ad0f8b14ab2aaab", func := "trunkline/trunklinelaw15.ElementBack", spec := "elementBack", unfollowed := true, recurses := true, apart := false, narrowed := true }
def ElementBackUptoSaid : Prop := elementBackUptoRow.holds Try.pinned (OpenSpec.upto elementBackSpec)

/-- 'trunklinelaw15.ElementOwn', WHERE WHAT IT READS IS OF BULK AT MOST 1048576: true; the input reads as it did. -/
def elementOwnUptoRow : OpenClaim := { program := "ytpfggjaoinfegaa", sum := "3a572c3527c3c0d06d7ece9847c1979379cebd99c56abd556ad0f8b14ab2aaab", func := "trunkline/trunklinelaw15.ElementOwn", spec := "elementOwn", unfollowed := true, recurses := true, apart := false, narrowed := true }
def ElementOwnUptoSaid : Prop := elementOwnUptoRow.holds Try.pinned (OpenSpec.upto elementOwnSpec)

/-- 'trunklinelaw15.ElementPacks', WHERE WHAT IT READS IS OF BULK AT MOST 1048576: true; the input reads as it did. -/
def elementPacksUptoRow : OpenClaim := { program := "ytpfggjaoinfegaa", sum := "3a572c3527c3c0d06d7ece9847c1979379cebd99c56abd556ad0f8b14ab2aaab", func := "trunkline/trunklinelaw15.ElementPacks", spec := "elementPacks", unfollowed := true, recurses := true, apart := false, narrowed := true }
def ElementPacksUptoSaid : Prop := elementPacksUptoRow.holds Try.pinned (OpenSpec.upto elementPacksSpec)

/-- 'trunklinelaw15.ElementApart', WHERE WHAT IT READS IS OF BULK AT MOST 1048576: true; the input reads as it did. -/
def elementApartUptoRow : OpenClaim := { program := "ytpfggjaoinfegaa", sum := "3a572c3527c3c0d06d7ece9847c1979379cebd99c56abd556ad0f8b14ab2aaab", func := "trunkline/trunklinelaw15.ElementApart", spec := "elementApart", unfollowed := true, recurses := true, apart := false, narrowed := true }
def ElementApartUptoSaid : Prop := elementApartUptoRow.holds Try.pinned (OpenSpec.upto elementApartSpec)

/-- 'trunklinelaw15.ElementReads', WHERE WHAT IT READS IS OF BULK AT MOST 1048576: true; the input reads as it did. -/
def elementReadsUptoRow : OpenClaim := { program := "ytpfggjaoinfegaa", sum := "3a572c3527c3c0d06d7ece9847c1979379cebd99c56abd556ad0f8b14ab2aaab", func := "trunkline/trunklinelaw15.ElementReads", spec := "elementReads", unfollowed := true, recurses := true, apart := false, narrowed := true }
def ElementReadsUptoSaid : Prop := elementReadsUptoRow.holds Try.pinned (OpenSpec.upto elementReadsSpec)

/-- 'trunklinelaw15.ElementKinds', WHERE WHAT IT READS IS OF BULK AT MOST 1048576: true; the input reads as it did. -/
def elementKindsUptoRow : OpenClaim := { program := "ytpfggjaoinfegaa", sum := "3a572c3527c3c0d06d7ece9847c1979379cebd99c56abd556ad0f8b14ab2aaab", func := "trunkline/trunklinelaw15.ElementKinds", spec := "elementKinds", unfollowed := true, recurses := true, apart := false, narrowed := true }
def ElementKindsUptoSaid : Prop := elementKindsUptoRow.holds Try.pinned (OpenSpec.upto elementKindsSpec)

end Rows
end Go.Proofs.Ytpfggjaoinfegaa
