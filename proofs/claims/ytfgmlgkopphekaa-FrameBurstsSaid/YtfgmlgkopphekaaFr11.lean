/- Layer 10: the document's contracts in our words. -/
import Derived.Test.YtfgmlgkopphekaaFr8
import Derived.Test.YtfgmlgkopphekaaFr6
set_option linter.unusedVariables false
set_option linter.unusedSimpArgs false
namespace Go.Proofs.Ytfgmlgkopphekaa
open Go.Vc
theorem unE_rng (bs : List Int) : 0 ≤ unE bs ∧ unE bs < 7 := by
  unfold unE
  dsimp only
  repeat' split
  all_goals omega
theorem unE_same (bs : List Int) : (IntKind.wrap .i64 (unE bs) == unE bs) = true := by
  have h := unE_rng bs
  rw [wrap_i64 _ (by omega) (by omega)]; simp
theorem runpack2_any (A : Option Addr) (n c Bd : Nat) (bs : List Int) (w : World) (hn : bs.length = n) (hA : Sl w Bd A (iL .u8 bs)) (hb : Bytes bs) (hBd : Bd ≤ w.heap.size) (hlen : n ≤ 10000) (hc : n ≤ c) :
    CV Try.prog 13 #[.slice A n c] w (fun x w1 => ∃ A' c', x = .tuple #[.slice A' (unT bs).length c', .int .u8 (unM bs), .int .i64 (unE bs)] ∧ Rw w1 w.heap.size 5 A' (unT bs).length c' (iL .u8 (unT bs)) ∧ Step No w w1) := by
  obtain ⟨e0, e1, e2⟩ := un_eq hb
  rw [e0, e1, e2]
  exact runpack_any A n c Bd bs w hn hA hb hBd hlen hc
theorem rpack2_yes (A : Option Addr) (n c Bd : Nat) (bs : List Int) (w : World) (hn : bs.length = n) (hA : Sl w Bd A (iL .u8 bs)) (m : Int) (hBd : Bd ≤ w.heap.size) (h0 : 0 < n) (h1 : n ≤ 1000) (hb : Bytes bs) (hm : 0 ≤ m ∧ m < 256) :
    CV Try.prog 11 #[.slice A n c, .int .u8 m] w (fun x w1 => ∃ g' c', x = .tuple #[.slice (some ⟨g', 0, none⟩) (48 * manyN n) c', .int .i64 0] ∧ w.heap.size ≤ g' ∧ Rw w1 w.heap.size 5 (some ⟨g', 0, none⟩) (48 * manyN n) c' (iL .u8 (frameF bs m)) ∧ Step No w w1) := by
  rw [frame_eq hb hm]
  exact rpack_yes A n c Bd bs w hn hA m hBd h0 h1
end Go.Proofs.Ytfgmlgkopphekaa
