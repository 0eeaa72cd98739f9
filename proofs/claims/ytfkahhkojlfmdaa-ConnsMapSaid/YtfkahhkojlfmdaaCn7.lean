/- Package conns: the table's functions, said of a list of entries. -/
import Derived.Test.YtfkahhkojlfmdaaCn3
import Derived.Test.YtfkahhkojlfmdaaCn6
set_option linter.unusedVariables false
set_option linter.unusedSimpArgs false
namespace Go.Proofs.Ytfkahhkojlfmdaa
open Go.Vc Go.RowKit
theorem get_tabL {b : Nat} {s : Nat → Slot} {len room : Int} {L : List Ent} (p v c : Int) {w : World} (ht : Own w b (encT s len room) 62) (hT : TabI s len room L) :
    CV Try.prog 14 #[.pointer (some ⟨b, 0, none⟩), .agg #[.int .i64 p, .int .i64 v, .int .i64 c]] w fun x w1 => x = .tuple #[.int .i64 ((lookE L p v c).getD 0), .bool (lookE L p v c).isSome] ∧ Step No w w1 := by
  have := get_tab p v c ht hT.inv
  rwa [hT.val] at this
theorem find_at {b : Nat} {s : Nat → Slot} {len room : Int} (p v c : Int) {w : World} (ht : Own w b (encT s len room) 62) {e : Nat} (he : e < 128) (hu : (s e).used = false) :
    CV Try.prog 27 #[.pointer (some ⟨b, 0, none⟩), .agg #[.int .i64 p, .int .i64 v, .int .i64 c]] w fun x w1 => x = .int .i64 ((findN s p v c : Nat) : Int) ∧ Step No w w1 := find_any b s len room p v c w ht e he hu
theorem atE_128 {e : Nat} (he : e < 128) : atE e 128 = e := by unfold atE; omega
theorem DropI.lt {s : Nat → Slot} {e k : Nat} (h : DropI s e k) (he : e < 128) (hk : k ≤ 128) (hu : (s (atE e k)).used = true) : k < 128 := by
  rcases Nat.lt_or_eq_of_le hk with h1 | rfl
  · exact h1
  · rw [atE_128 he, h.lin.free] at hu; cases hu
theorem delE_none {L : List Ent} {p v c : Int} (h : (lookE L p v c).isSome = false) : delE L p v c = L := by
  have h2 : lookE L p v c = none := by simpa using h
  unfold delE
  refine List.filter_eq_self.2 fun x hx => ?_
  have := lookE_none.1 h2 x hx
  unfold keyIs
  rw [decide_eq_false this]; rfl
end Go.Proofs.Ytfkahhkojlfmdaa
