/- Package conns: the table's functions, said of a table that is in order. -/
import Derived.Test.YtfkahhkojlfmdaaCn1
import Derived.Test.YtfkahhkojlfmdaaCn2
import Derived.Test.YtfkahhkojlfmdaaVc6
set_option linter.unusedVariables false
set_option linter.unusedSimpArgs false
namespace Go.Proofs.Ytfkahhkojlfmdaa
open Go.Vc Go.RowKit

theorem new_tab (m room : Int) (hr : imax 0 (imin m 64) = room) (w : World) : CV Try.prog 10 #[.int .i64 m] w fun x w1 => ∃ b, x = .pointer (some ⟨b, 0, none⟩) ∧ ¬ b < w.heap.size ∧ Own w1 b (encT noSlots 0 room) 62 ∧ Inv noSlots 0 room ∧ Step No w w1 := by
  subst hr
  refine (new_any m w).mono ?_
  rintro x w1 ⟨b, rfl, h1, h2, h3⟩
  exact ⟨b, rfl, h1, h2, Inv.new m, h3⟩
theorem get_tab {b : Nat} {s : Nat → Slot} {len room : Int} (p v c : Int) {w : World} (ht : Own w b (encT s len room) 62) (hi : Inv s len room) :
    CV Try.prog 14 #[.pointer (some ⟨b, 0, none⟩), .agg #[.int .i64 p, .int .i64 v, .int .i64 c]] w fun x w1 => x = .tuple #[.int .i64 ((val s p v c).getD 0), .bool (val s p v c).isSome] ∧ Step No w w1 := by
  obtain ⟨e, he, hu⟩ := hi.unused
  refine (get_any b s len room p v c w ht e he hu).mono ?_
  rintro x w1 ⟨rfl, hs⟩
  exact ⟨by rw [← val_n hi, ← val_there]; rfl, hs⟩
theorem put_tab {b : Nat} {s : Nat → Slot} {len room : Int} (p v c n : Int) {w : World} (ht : Own w b (encT s len room) 62) (hi : Inv s len room) :
    CV Try.prog 11 #[.pointer (some ⟨b, 0, none⟩), .agg #[.int .i64 p, .int .i64 v, .int .i64 c], .int .i64 n] w fun x w1 => x = .int .i64 (putC s len room p v c) ∧ Own w1 b (encT (putS s len room p v c n) (putL s len room p v c) room) 62 ∧ Inv (putS s len room p v c n) (putL s len room p v c) room ∧ Step (Just b) w w1 := by
  obtain ⟨e, he, hu⟩ := hi.unused
  refine (put_any b s len room p v c n w ht e he hu (by have := hi.cnt; omega) (by have := hi.fits; have := hi.cap; omega)).mono ?_
  rintro x w1 ⟨rfl, h1, h2⟩
  exact ⟨rfl, h1, hi.put p v c n, h2⟩
theorem put_new {b : Nat} {s : Nat → Slot} {len room : Int} (p v c n : Int) {w : World} (ht : Own w b (encT s len room) 62) (hi : Inv s len room) (hr : rightB p v c = true) (hv : val s p v c = none) (hl : len < room) :
    CV Try.prog 11 #[.pointer (some ⟨b, 0, none⟩), .agg #[.int .i64 p, .int .i64 v, .int .i64 c], .int .i64 n] w fun x w1 => x = .int .i64 0 ∧ ∃ s1, Own w1 b (encT s1 (len + 1) room) 62 ∧ Inv s1 (len + 1) room ∧ (∀ p' v' c', val s1 p' v' c' = if p' = p ∧ v' = v ∧ c' = c then some n else val s p' v' c') ∧ Step (Just b) w w1 := by
  have h0 := putC_ok'.2 ⟨hr, hv, hl⟩
  refine (put_tab p v c n ht hi).mono ?_
  rintro x w1 ⟨rfl, h1, h2, h3⟩
  rw [putL_ok h0] at h1 h2
  exact ⟨by rw [h0], _, h1, h2, val_put hi h0, h3⟩
theorem put_full {b : Nat} {s : Nat → Slot} {len room : Int} (p v c n : Int) {w : World} (ht : Own w b (encT s len room) 62) (hi : Inv s len room) (hr : rightB p v c = true) (hv : val s p v c = none) (hl : len ≥ room) :
    CV Try.prog 11 #[.pointer (some ⟨b, 0, none⟩), .agg #[.int .i64 p, .int .i64 v, .int .i64 c], .int .i64 n] w fun x w1 => x = .int .i64 9 ∧ Own w1 b (encT s len room) 62 ∧ Step (Just b) w w1 := by
  have h0 := putC_full hr hv hl
  have hn : putC s len room p v c ≠ 0 := by rw [h0]; decide
  refine (put_tab p v c n ht hi).mono ?_
  rintro x w1 ⟨rfl, h1, h2, h3⟩
  rw [(put_not (n := n) hn).1, (put_not (n := n) hn).2] at h1
  exact ⟨by rw [h0], h1, h3⟩
theorem free_tab {b : Nat} {s : Nat → Slot} {len room : Int} (p v fr : Int) {w : World} (ht : Own w b (encT s len room) 62) (hi : Inv s len room) :
    CV Try.prog 12 #[.pointer (some ⟨b, 0, none⟩), .int .i64 p, .int .i64 v, .int .i64 fr] w fun x w1 => ∃ r ok, x = .tuple #[.int .i64 r, .bool ok] ∧ FreeP s p v fr r ok ∧ Step No w w1 := by
  obtain ⟨e, he, hu⟩ := hi.unused
  exact free_any b s len room p v fr w ht e he hu
theorem len_tab {b : Nat} {s : Nat → Slot} {len room : Int} {w : World} (ht : Own w b (encT s len room) 62) :
    CV Try.prog 15 #[.pointer (some ⟨b, 0, none⟩)] w fun x w1 => x = .int .i64 len ∧ Step No w w1 := len_any b s len room w ht

/-- What is done: a key, a number. -/
structure Op4 where
  p : Int
  v : Int
  c : Int
  n : Int
def OpsAt (w : World) (A : Option Addr) (n : Nat) (q : Nat → Op4) : Prop := 0 < n → ∃ b o, A = some ⟨b, o, none⟩ ∧ ∀ i, i < n →
  w.cell? ⟨b, o + i * 4, none⟩ = some (.int .i64 (q i).p) ∧ w.cell? ⟨b, o + i * 4 + 1, none⟩ = some (.int .i64 (q i).v) ∧ w.cell? ⟨b, o + i * 4 + 2, none⟩ = some (.int .i64 (q i).c) ∧ w.cell? ⟨b, o + i * 4 + 3, none⟩ = some (.int .i64 (q i).n)
def OpsB (w : World) (b o n : Nat) (q : Nat → Op4) : Prop := ∀ i, i < n →
  w.cell? ⟨b, o + i * 4, none⟩ = some (.int .i64 (q i).p) ∧ w.cell? ⟨b, o + i * 4 + 1, none⟩ = some (.int .i64 (q i).v) ∧ w.cell? ⟨b, o + i * 4 + 2, none⟩ = some (.int .i64 (q i).c) ∧ w.cell? ⟨b, o + i * 4 + 3, none⟩ = some (.int .i64 (q i).n)
theorem OpsB.key {w w1 : World} {b o n : Nat} {q : Nat → Op4} (h : OpsB w b o n q) (hs : Step No w w1) {P : Program} {t : TypeId} (ht : aggB P t = some 3) (i : Nat) (hi : i < n) : Loads P t w1 ⟨b, o + i * 4, none⟩ (.agg #[.int .i64 (q i).p, .int .i64 (q i).v, .int .i64 (q i).c]) := by
  obtain ⟨h1, h2, h3, _⟩ := h i hi
  refine Loads.cells ht _ rfl fun j hj => ?_
  rw [add_none]
  match j, hj with
  | 0, _ => exact hs.cell id h1
  | 1, _ => exact hs.cell id h2
  | 2, _ => exact hs.cell id h3
theorem OpsB.num {w w1 : World} {b o n : Nat} {q : Nat → Op4} (h : OpsB w b o n q) (hs : Step No w w1) {P : Program} {t : TypeId} (ht : oneB P t = true) (i : Nat) (hi : i < n) : Loads P t w1 ⟨b, o + i * 4 + 3, none⟩ (.int .i64 (q i).n) :=
  Loads.one ht (hs.cell id (h i hi).2.2.2)
/-- What an argument of things to be done reads as. -/
theorem OpsAt.of_flat {w : World} {A : Option Addr} {n : Nat} (h : FlatSl w A n 4 [.int .i64, .int .i64, .int .i64, .int .i64]) : ∃ q, OpsAt w A n q := by
  by_cases hn : 0 < n
  · obtain ⟨b, o, rfl, hb, hc⟩ := h hn
    have hex : ∀ i, ∃ q : Op4, i < n → w.cell? ⟨b, o + i * 4, none⟩ = some (.int .i64 q.p) ∧ w.cell? ⟨b, o + i * 4 + 1, none⟩ = some (.int .i64 q.v) ∧ w.cell? ⟨b, o + i * 4 + 2, none⟩ = some (.int .i64 q.c) ∧ w.cell? ⟨b, o + i * 4 + 3, none⟩ = some (.int .i64 q.n) := by
      intro i
      by_cases hi : i < n
      · obtain ⟨cs, hw, hr⟩ := hc i hi
        have hlen := hw.length
        obtain ⟨c0, c1, c2, c3, rfl⟩ : ∃ c0 c1 c2 c3, cs = [c0, c1, c2, c3] := by
          rcases cs with _ | ⟨c0, _ | ⟨c1, _ | ⟨c2, _ | ⟨c3, _ | ⟨c4, r⟩⟩⟩⟩⟩ <;> first | exact ⟨_, _, _, _, rfl⟩ | (simp at hlen)
        obtain ⟨⟨a0, h0, u0⟩, ⟨a1, h1, u1⟩, ⟨a2, h2, u2⟩, ⟨a3, h3, u3⟩, u4⟩ := hw
        clear u0 u1 u2 u3 u4
        subst h0; subst h1; subst h2; subst h3
        exact ⟨⟨a0, a1, a2, a3⟩, fun _ => ⟨hr 0 (by decide), hr 1 (by decide), hr 2 (by decide), hr 3 (by decide)⟩⟩
      · exact ⟨⟨0, 0, 0, 0⟩, fun h => absurd h hi⟩
    obtain ⟨q, hq⟩ := Classical.axiomOfChoice hex
    exact ⟨q, fun _ => ⟨b, o, rfl, fun i hi => hq i hi⟩⟩
  · exact ⟨fun _ => ⟨0, 0, 0, 0⟩, fun h0 => absurd h0 hn⟩
end Go.Proofs.Ytfkahhkojlfmdaa
