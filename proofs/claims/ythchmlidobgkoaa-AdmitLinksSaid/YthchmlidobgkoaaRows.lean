/-
  No cell of these rows narrows 'for every input' (looked for: loops, veiled, ifaces, maps, wideKeys, modest, calm, conditions, laid).
  DERIVED. THE GIVEN ROWS OF THIS SEAT. 3 by the template 'for every input the law returns true; each argument reads behind the call as it read before'; 0 by the template 'total and deterministic' (their statements: YthchmlidobgkoaaTotals.lean).
  GIVEN WITH THE SEED: the statements are not yours to turn. If you find one false, say at which input.
  Laid BY PROGRAM, IN A SANDBOX (cutbox-rows.mjs): the forced cells as the released guide's own fill.sh prints them over the translation 2c5192c2fe68a7dd… (all of the seat's roots in one cut). By AI agents, Wed Nov 11 2026. No macro, syntax, notation, axiom, sorry.
-/
import Derived.Test.YthchmlidobgkoaaChecked
import GoSem.Claim
import GoSem.ClaimJoined
import GoSem.ClaimMapViews
import Derived.JoinedTies
import Derived.KernelRfl
namespace Go.Proofs.Ythchmlidobgkoaa
/- THE CELL 'sum', in the pinned program and in every row, IS THE sha256 OF THE DUMP (.gsa) THAT YthchmlidobgkoaaProg.lean LOADS. Nothing in Lean hashes anything: it is a label: what it is worth is what the hold of that sum in a sandbox is worth. -/
noncomputable def Try.pinned : Pinned := { name := "ythchmlidobgkoaa", sum := "2c5192c2fe68a7dd84a6df75a02f2ecc38fda2312dfaf37acd3d909cd7fac356", checked := Try.checked }
namespace Rows
def none {H : Type} : Left H := { results := [], args := [] }

/-- 'trunklinelaw20.AdmitLinks': WHATEVER THE INPUT: true; the input reads as it did. -/
def admitLinksSpec : ChangeSpec := { name := "admitLinks", fn := fun _ => fun
  | [d1, d2, d3] => { results := [.lit (.bool true)], args := [d1, d2, d3] }
  | _ => none }
def admitLinksRow : OpenClaim := { program := "ythchmlidobgkoaa", sum := "2c5192c2fe68a7dd84a6df75a02f2ecc38fda2312dfaf37acd3d909cd7fac356", func := "trunkline/trunklinelaw20.AdmitLinks", spec := "admitLinks", unfollowed := true, recurses := true, apart := false }
def AdmitLinksSaid : Prop := admitLinksRow.holds Try.pinned (OpenSpec.ofChange admitLinksSpec)

/-- ITS FALSE NEIGHBOUR: 'it returns false'. Refute it at one input. -/
def admitLinksWrong : ChangeSpec := { name := "admitLinks", fn := fun _ => fun
  | [d1, d2, d3] => { results := [.lit (.bool false)], args := [d1, d2, d3] }
  | _ => none }
def AdmitLinksWrongFalsely : Prop := admitLinksRow.holds Try.pinned (OpenSpec.ofChange admitLinksWrong)

/-- 'trunklinelaw20.AdmitSums': WHATEVER THE INPUT: true; the input reads as it did. -/
def admitSumsSpec : ChangeSpec := { name := "admitSums", fn := fun _ => fun
  | [d1, d2] => { results := [.lit (.bool true)], args := [d1, d2] }
  | _ => none }
def admitSumsRow : OpenClaim := { program := "ythchmlidobgkoaa", sum := "2c5192c2fe68a7dd84a6df75a02f2ecc38fda2312dfaf37acd3d909cd7fac356", func := "trunkline/trunklinelaw20.AdmitSums", spec := "admitSums", unfollowed := true, recurses := true, apart := false }
def AdmitSumsSaid : Prop := admitSumsRow.holds Try.pinned (OpenSpec.ofChange admitSumsSpec)

/-- ITS FALSE NEIGHBOUR: 'it returns false'. Refute it at one input. -/
def admitSumsWrong : ChangeSpec := { name := "admitSums", fn := fun _ => fun
  | [d1, d2] => { results := [.lit (.bool false)], args := [d1, d2] }
  | _ => none }
def AdmitSumsWrongFalsely : Prop := admitSumsRow.holds Try.pinned (OpenSpec.ofChange admitSumsWrong)

/-- 'trunklinelaw20.AdmitExact': WHATEVER THE INPUT: true; the input reads as it did. -/
def admitExactSpec : ChangeSpec := { name := "admitExact", fn := fun _ => fun
  | [d1, d2, d3, d4] => { results := [.lit (.bool true)], args := [d1, d2, d3, d4] }
  | _ => none }
def admitExactRow : OpenClaim := { program := "ythchmlidobgkoaa", sum := "2c5192c2fe68a7dd84a6df75a02f2ecc38fda2312dfaf37acd3d909cd7fac356", func := "trunkline/trunklinelaw20.AdmitExact", spec := "admitExact", unfollowed := true, recurses := true, apart := false }
def AdmitExactSaid : Prop := admitExactRow.holds Try.pinned (OpenSpec.ofChange admitExactSpec)

/-- ITS FALSE NEIGHBOUR: 'it returns false'. Refute it at one input. -/
def admitExactWrong : ChangeSpec := { name := "admitExact", fn := fun _ => fun
  | [d1, d2, d3, d4] => { results := [.lit (.bool false)], args := [d1, d2, d3, d4] }
  | _ => none }
def AdmitExactWrongFalsely : Prop := admitExactRow.holds Try.pinned (OpenSpec.ofChange admitExactWrong)

/- THE SECOND FORM. 'bulk': how many values and letters a reading holds, each counted each time it is reached (what is shared counts as often as it is met; a slice's spare places count too). A statement '..UptoSaid' is the law's where the arguments, and the package variables that the reading takes, are together of bulk at most 1048576: NARROWER than '..Said'. Prove '..Said' where nothing that the law and all that it calls make is longer than what came in: it says more and counts as full. Else prove '..UptoSaid'. A law counts once. -/
mutual
def uptoBulk {H : Type} : DataW H → Nat
  | .lit (.string bytes) => bytes.length + 1
  | .lit _ => 1
  | .nil => 1
  | .ptr d => uptoBulk d + 1
  | .slice elems spare => uptoBulkAll elems + uptoBulkAll spare + 1
  | .agg parts => uptoBulkAll parts + 1
  | .iface _ d => uptoBulk d + 1
  | .map entries => uptoBulkEntries entries + 1
  | .held _ => 1
def uptoBulkAll {H : Type} : List (DataW H) → Nat
  | [] => 0
  | d :: r => uptoBulk d + uptoBulkAll r
def uptoBulkEntries {H : Type} : List (Lit × DataW H) → Nat
  | [] => 0
  | x :: r => uptoBulkEntry x + uptoBulkEntries r
def uptoBulkEntry {H : Type} : Lit × DataW H → Nat
  | (.string bytes, d) => bytes.length + uptoBulk d + 1
  | (_, d) => uptoBulk d + 1
 end
def uptoSmall : (H : Type) → List (DataW H) → Bool := fun _ ds => decide (uptoBulkAll ds ≤ 1048576)
def OpenSpec.upto (s : _root_.Go.ChangeSpec) : _root_.Go.OpenSpec := { _root_.Go.OpenSpec.ofChange s with cond := some uptoSmall }

/-- 'trunklinelaw20.AdmitLinks', WHERE WHAT IT READS IS OF BULK AT MOST 1048576: true; the input reads as it did. -/
def admitLinksUptoRow : OpenClaim := { program := "ythchmlidobgkoaa", sum := "2c5192c2fe68a7dd84a6df75a02f2ecc38fda2312dfaf37acd3d909cd7fac356", func := "trunkline/trunklinelaw20.AdmitLinks", spec := "admitLinks", unfollowed := true, recurses := true, apart := false, narrowed := true }
def AdmitLinksUptoSaid : Prop := admitLinksUptoRow.holds Try.pinned (OpenSpec.upto admitLinksSpec)

/-- 'trunklinelaw20.AdmitSums', WHERE WHAT IT READS IS OF BULK AT MOST 1048576: true; the input reads as it did. -/
def admitSumsUptoRow : OpenClaim := { program := "ythchmlidobgkoaa", sum := "2c5192c2fe68a7dd84a6df75a02f2ecc38fda2312dfaf37acd3d909cd7fac356", func := "trunkline/trunklinelaw20.AdmitSums", spec := "admitSums", unfollowed := true, recurses := true, apart := false, narrowed := true }
def AdmitSumsUptoSaid : Prop := admitSumsUptoRow.holds Try.pinned (OpenSpec.upto admitSumsSpec)

/-- 'trunklinelaw20.AdmitExact', WHERE WHAT IT READS IS OF BULK AT MOST 1048576: true; the input reads as it did. -/
def admitExactUptoRow : OpenClaim := { program := "ythchmlidobgkoaa", sum := "2c5192c2fe68a7dd84a6df75a02f2ecc38fda2312dfaf37acd3d909cd7fac356", func := "trunkline/trunklinelaw20.AdmitExact", spec := "admitExact", unfollowed := true, recurses := true, apart := false, narrowed := true }
def AdmitExactUptoSaid : Prop := admitExactUptoRow.holds Try.pinned (OpenSpec.upto admitExactSpec)

end Rows
end Go.Proofs.Ythchmlidobgkoaa
