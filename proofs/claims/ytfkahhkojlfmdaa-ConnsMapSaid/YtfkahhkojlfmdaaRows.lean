/-
  No cell of these rows narrows 'for every input' (looked for: loops, veiled, ifaces, maps, wideKeys, modest, calm, conditions, laid).
  DERIVED. THE GIVEN ROWS OF THIS SEAT. 6 by the template 'for every input the law returns true; each argument reads behind the call as it read before'; 0 by the template 'total and deterministic' (their statements: YtfkahhkojlfmdaaTotals.lean).
  GIVEN WITH THE SEED: the statements are not yours to turn. If you find one false, say at which input.
  Laid BY PROGRAM, IN A SANDBOX (cutbox-rows.mjs): the forced cells as the released guide's own fill.sh prints them over the translation 756d1fabe66222ac… (all of the seat's roots in one cut). By AI agents, Wed Nov 11 2026. No macro, syntax, notation, axiom, sorry.
-/
import Derived.Test.YtfkahhkojlfmdaaChecked
import GoSem.Claim
import GoSem.ClaimJoined
import GoSem.ClaimMapViews
import Derived.JoinedTies
import Derived.KernelRfl
namespace Go.Proofs.Ytfkahhkojlfmdaa
/- THE CELL 'sum', in the pinned program and in every row, IS THE sha256 OF THE DUMP (.gsa) THAT YtfkahhkojlfmdaaProg.lean LOADS. Nothing in Lean hashes anything: it is a label: what it is worth is what the hold of that sum in a sandbox is worth. -/
noncomputable def Try.pinned : Pinned := { name := "ytfkahhkojlfmdaa", sum := "756d1fabe66222acd8bef817f010da403108f4fce950553ba4e5a3c230189f53", checked := Try.checked }
namespace Rows
def none {H : Type} : Left H := { results := [], args := [] }

/-- 'trunklinelaw09.ConnsFree': WHATEVER THE INPUT: true; the input reads as it did. -/
def connsFreeSpec : ChangeSpec := { name := "connsFree", fn := fun _ => fun
  | [d1, d2, d3, d4] => { results := [.lit (.bool true)], args := [d1, d2, d3, d4] }
  | _ => none }
def connsFreeRow : OpenClaim := { program := "ytfkahhkojlfmdaa", sum := "756d1fabe66222acd8bef817f010da403108f4fce950553ba4e5a3c230189f53", func := "trunkline/trunklinelaw09.ConnsFree", spec := "connsFree", plainKeys := false, apart := false }
def ConnsFreeSaid : Prop := connsFreeRow.holds Try.pinned (OpenSpec.ofChange connsFreeSpec)

/-- ITS FALSE NEIGHBOUR: 'it returns false'. Refute it at one input. -/
def connsFreeWrong : ChangeSpec := { name := "connsFree", fn := fun _ => fun
  | [d1, d2, d3, d4] => { results := [.lit (.bool false)], args := [d1, d2, d3, d4] }
  | _ => none }
def ConnsFreeWrongFalsely : Prop := connsFreeRow.holds Try.pinned (OpenSpec.ofChange connsFreeWrong)

/-- 'trunklinelaw09.ConnsMap': WHATEVER THE INPUT: true; the input reads as it did. -/
def connsMapSpec : ChangeSpec := { name := "connsMap", fn := fun _ => fun
  | [d] => { results := [.lit (.bool true)], args := [d] }
  | _ => none }
def connsMapRow : OpenClaim := { program := "ytfkahhkojlfmdaa", sum := "756d1fabe66222acd8bef817f010da403108f4fce950553ba4e5a3c230189f53", func := "trunkline/trunklinelaw09.ConnsMap", spec := "connsMap", plainKeys := false, apart := false }
def ConnsMapSaid : Prop := connsMapRow.holds Try.pinned (OpenSpec.ofChange connsMapSpec)

/-- ITS FALSE NEIGHBOUR: 'it returns false'. Refute it at one input. -/
def connsMapWrong : ChangeSpec := { name := "connsMap", fn := fun _ => fun
  | [d] => { results := [.lit (.bool false)], args := [d] }
  | _ => none }
def ConnsMapWrongFalsely : Prop := connsMapRow.holds Try.pinned (OpenSpec.ofChange connsMapWrong)

/-- 'trunklinelaw09.ConnsAgain': WHATEVER THE INPUT: true; the input reads as it did. -/
def connsAgainSpec : ChangeSpec := { name := "connsAgain", fn := fun _ => fun
  | [d1, d2] => { results := [.lit (.bool true)], args := [d1, d2] }
  | _ => none }
def connsAgainRow : OpenClaim := { program := "ytfkahhkojlfmdaa", sum := "756d1fabe66222acd8bef817f010da403108f4fce950553ba4e5a3c230189f53", func := "trunkline/trunklinelaw09.ConnsAgain", spec := "connsAgain", unfollowed := true, recurses := true, plainKeys := false, apart := false }
def ConnsAgainSaid : Prop := connsAgainRow.holds Try.pinned (OpenSpec.ofChange connsAgainSpec)

/-- ITS FALSE NEIGHBOUR: 'it returns false'. Refute it at one input. -/
def connsAgainWrong : ChangeSpec := { name := "connsAgain", fn := fun _ => fun
  | [d1, d2] => { results := [.lit (.bool false)], args := [d1, d2] }
  | _ => none }
def ConnsAgainWrongFalsely : Prop := connsAgainRow.holds Try.pinned (OpenSpec.ofChange connsAgainWrong)

/-- 'trunklinelaw09.ConnsOrder': WHATEVER THE INPUT: true; the input reads as it did. -/
def connsOrderSpec : ChangeSpec := { name := "connsOrder", fn := fun _ => fun
  | [d1, d2, d3, d4, d5] => { results := [.lit (.bool true)], args := [d1, d2, d3, d4, d5] }
  | _ => none }
def connsOrderRow : OpenClaim := { program := "ytfkahhkojlfmdaa", sum := "756d1fabe66222acd8bef817f010da403108f4fce950553ba4e5a3c230189f53", func := "trunkline/trunklinelaw09.ConnsOrder", spec := "connsOrder", unfollowed := true, recurses := true, plainKeys := false, apart := false }
def ConnsOrderSaid : Prop := connsOrderRow.holds Try.pinned (OpenSpec.ofChange connsOrderSpec)

/-- ITS FALSE NEIGHBOUR: 'it returns false'. Refute it at one input. -/
def connsOrderWrong : ChangeSpec := { name := "connsOrder", fn := fun _ => fun
  | [d1, d2, d3, d4, d5] => { results := [.lit (.bool false)], args := [d1, d2, d3, d4, d5] }
  | _ => none }
def ConnsOrderWrongFalsely : Prop := connsOrderRow.holds Try.pinned (OpenSpec.ofChange connsOrderWrong)

/-- 'trunklinelaw09.ConnsPlay': WHATEVER THE INPUT: true; the input reads as it did. -/
def connsPlaySpec : ChangeSpec := { name := "connsPlay", fn := fun _ => fun
  | [d1, d2, d3] => { results := [.lit (.bool true)], args := [d1, d2, d3] }
  | _ => none }
def connsPlayRow : OpenClaim := { program := "ytfkahhkojlfmdaa", sum := "756d1fabe66222acd8bef817f010da403108f4fce950553ba4e5a3c230189f53", func := "trunkline/trunklinelaw09.ConnsPlay", spec := "connsPlay", unfollowed := true, recurses := true, plainKeys := false, apart := false }
def ConnsPlaySaid : Prop := connsPlayRow.holds Try.pinned (OpenSpec.ofChange connsPlaySpec)

/-- ITS FALSE NEIGHBOUR: 'it returns false'. Refute it at one input. -/
def connsPlayWrong : ChangeSpec := { name := "connsPlay", fn := fun _ => fun
  | [d1, d2, d3] => { results := [.lit (.bool false)], args := [d1, d2, d3] }
  | _ => none }
def ConnsPlayWrongFalsely : Prop := connsPlayRow.holds Try.pinned (OpenSpec.ofChange connsPlayWrong)

/-- 'trunklinelaw09.ConnsFull': WHATEVER THE INPUT: true; the input reads as it did. -/
def connsFullSpec : ChangeSpec := { name := "connsFull", fn := fun _ => fun
  | [d1, d2] => { results := [.lit (.bool true)], args := [d1, d2] }
  | _ => none }
def connsFullRow : OpenClaim := { program := "ytfkahhkojlfmdaa", sum := "756d1fabe66222acd8bef817f010da403108f4fce950553ba4e5a3c230189f53", func := "trunkline/trunklinelaw09.ConnsFull", spec := "connsFull", unfollowed := true, recurses := true, plainKeys := false, apart := false }
def ConnsFullSaid : Prop := connsFullRow.holds Try.pinned (OpenSpec.ofChange connsFullSpec)

/-- ITS FALSE NEIGHBOUR: 'it returns false'. Refute it at one input. -/
def connsFullWrong : ChangeSpec := { name := "connsFull", fn := fun _ => fun
  | [d1, d2] => { results := [.lit (.bool false)], args := [d1, d2] }
  | _ => none }
def ConnsFullWrongFalsely : Prop := connsFullRow.holds Try.pinned (OpenSpec.ofChange connsFullWrong)

/- THE SECOND FORM. 'bulk': how many values and letters a reading holds, each counted each time it is reached (what is shared counts as often as it is met; a slice's spare places count too). A statement '..UptoSaid' is the law's where the arguments, and the package variables that the reading takes, are together of bulk at most 1048576: NARROWER than '..Said'. Prove '..Said' where nothing that the law and all that it calls make is longer than what came in: it says more and counts as full. Else prove '..UptoSaid'. A law counts once. -/
mutual
def uptoBulk {H : Type} : DataW H → Nat
  | .lit (.string bytes) => bytes.length + 1
  | .lit _ => 1
  | .nil => 1
  | .ptr d => uptoBulk d + 1
  | .slice elems spare => uptoBulkAll elems + uptoBulkAll spare + 1
  | .agg parts => uptoBulkAll parts + 1
  | .iface _ d => uptoBulk d + 1
  | .map entries => uptoBulkEntries entries + 1
  | .held _ => 1
def uptoBulkAll {H : Type} : List (DataW H) → Nat
  | [] => 0
  | d :: r => uptoBulk d + uptoBulkAll r
def uptoBulkEntries {H : Type} : List (Lit × DataW H) → Nat
  | [] => 0
  | x :: r => uptoBulkEntry x + uptoBulkEntries r
def uptoBulkEntry {H : Type} : Lit × DataW H → Nat
  | (.string bytes, d) => bytes.length + uptoBulk d + 1
  | (_, d) => uptoBulk d + 1
 end
def uptoSmall : (H : Type) → List (DataW H) → Bool := fun _ ds => decide (uptoBulkAll ds ≤ 1048576)
def OpenSpec.upto (s : _root_.Go.ChangeSpec) : _root_.Go.OpenSpec := { _root_.Go.OpenSpec.ofChange s with cond := some uptoSmall }

/-- 'trunklinelaw09.ConnsFree', WHERE WHAT IT READS IS OF BULK AT MOST 1048576: true; the input reads as it did. -/
def connsFreeUptoRow : OpenClaim := { program := "ytfkahhkojlfmdaa", sum := "756d1fabe66222acd8bef817f010da403108f4fce950553ba4e5a3c230189f53", func := "trunkline/trunklinelaw09.ConnsFree", spec := "connsFree", plainKeys := false, apart := false, narrowed := true }
def ConnsFreeUptoSaid : Prop := connsFreeUptoRow.holds Try.pinned (OpenSpec.upto connsFreeSpec)

/-- 'trunklinelaw09.ConnsMap', WHERE WHAT IT READS IS OF BULK AT MOST 1048576: true; the input reads as it did. -/
def connsMapUptoRow : OpenClaim := { program := "ytfkahhkojlfmdaa", sum := "756d1fabe66222acd8bef817f010da403108f4fce950553ba4e5a3c230189f53", func := "trunkline/trunklinelaw09.ConnsMap", spec := "connsMap", plainKeys := false, apart := false, narrowed := true }
def ConnsMapUptoSaid : Prop := connsMapUptoRow.holds Try.pinned (OpenSpec.upto connsMapSpec)

/-- 'trunklinelaw09.ConnsAgain', WHERE WHAT IT READS IS OF BULK AT MOST 1048576: true; the input reads as it did. -/
def connsAgainUptoRow : OpenClaim := { program := "ytfkahhkojlfmdaa", sum := "756d1fabe66222acd8bef817f010da403108f4fce950553ba4e5a3c230189f53", func := "trunkline/trunklinelaw09.ConnsAgain", spec := "connsAgain", unfollowed := true, recurses := true, plainKeys := false, apart := false, narrowed := true }
def ConnsAgainUptoSaid : Prop := connsAgainUptoRow.holds Try.pinned (OpenSpec.upto connsAgainSpec)

/-- 'trunklinelaw09.ConnsOrder', WHERE WHAT IT READS IS OF BULK AT MOST 1048576: true; the input reads as it did. -/
def connsOrderUptoRow : OpenClaim := { program := "ytfkahhkojlfmdaa", sum := "756d1fabe66222acd8bef817f010da403108f4fce950553ba4e5a3c230189f53", func := "trunkline/trunklinelaw09.ConnsOrder", spec := "connsOrder", unfollowed := true, recurses := true, plainKeys := false, apart := false, narrowed := true }
def ConnsOrderUptoSaid : Prop := connsOrderUptoRow.holds Try.pinned (OpenSpec.upto connsOrderSpec)

/-- 'trunklinelaw09.ConnsPlay', WHERE WHAT IT READS IS OF BULK AT MOST 1048576: true; the input reads as it did. -/
def connsPlayUptoRow : OpenClaim := { program := "ytfkahhkojlfmdaa", sum := "756d1fabe66222acd8bef817f010da403108f4fce950553ba4e5a3c230189f53", func := "trunkline/trunklinelaw09.ConnsPlay", spec := "connsPlay", unfollowed := true, recurses := true, plainKeys := false, apart := false, narrowed := true }
def ConnsPlayUptoSaid : Prop := connsPlayUptoRow.holds Try.pinned (OpenSpec.upto connsPlaySpec)

/-- 'trunklinelaw09.ConnsFull', WHERE WHAT IT READS IS OF BULK AT MOST 1048576: true; the input reads as it did. -/
def connsFullUptoRow : OpenClaim := { program := "ytfkahhkojlfmdaa", sum := "756d1fabe66222acd8bef817f010da403108f4fce950553ba4e5a3c230189f53", func := "trunkline/trunklinelaw09.ConnsFull", spec := "connsFull", unfollowed := true, recurses := true, plainKeys := false, apart := false, narrowed := true }
def ConnsFullUptoSaid : Prop := connsFullUptoRow.holds Try.pinned (OpenSpec.upto connsFullSpec)

end Rows
end Go.Proofs.Ytfkahhkojlfmdaa
