/- Layer 16: what Pack, Unpack and Same answer. -/
import Derived.Test.YtejpcmjokamdcaaMe0
set_option linter.unusedVariables false
set_option linter.unusedSimpArgs false
namespace Go.Proofs.Ytejpcmjokamdcaa
open Go.Vc
theorem rightM_E {r k : Int} {L : List IeD} (h : 1 ≤ r ∧ r ≤ 8388607) (h2 : knownB k = true) : (packE L == 0) = rightM r k L := by
  simp [rightM, h, h2]
  rw [Bool.eq_iff_iff]; simp
theorem MsgR.no {w w1 : World} {eB : TypeId} {T : List Int} {E E' : Int} (h : E' = E ∧ T = []) (hs : Step No w w1) : PackR w w1 eB (.tuple #[.slice none 0 0, .int .i64 E]) T E' := by
  obtain ⟨rfl, rfl⟩ := h
  exact ⟨none, 0, rfl, Rw.nil _ _ _, hs⟩
theorem MsgR.yes {w w1 : World} {eB base n c : Nat} {A : Option Addr} {T xs : List Int} {E : Int} (hE : E = 0) (hr : Rw w1 base eB A n c (iL .u8 xs)) (hx : xs = T) (hb : w.heap.size ≤ base) (hs : Step No w w1) : PackR w w1 eB (.tuple #[.slice A n c, .int .i64 0]) T E := by
  have hn := hr.lenI
  subst hx; subst hn; subst hE
  exact ⟨A, c, rfl, hr.low hb, hs⟩
theorem msg_row {r : Nat} {back : Bool} {k : Int} {L : List IeD} {n : Nat} (h : rightM ((r : Nat) : Int) k L = true) (h2 : ¬ 1000 < 9 + (packT L).length) (hn : n = msgN r back) : hdL n k (packT L).length ++ packT L = msgT ((r : Nat) : Int) back k L := by
  rw [(msg_yes h h2).2, hn]; rfl
theorem msgN_T {r N : Nat} {back : Bool} (h : back = true) (hN : ((N : Nat) : Int) = ((r : Nat) : Int) + 8388608) : N = msgN r back := by
  subst h
  have : msgN r true = r + 8388608 := rfl
  omega
theorem msgN_F {r : Nat} {back : Bool} (h : back = false) : r = msgN r back := by subst h; rfl
theorem msgN_ex (r : Nat) : ∃ N : Nat, ((N : Nat) : Int) = ((r : Nat) : Int) + 8388608 := ⟨r + 8388608, by omega⟩
/-- What Unpack answers. -/
def MuR (w w1 : World) (eI eB : TypeId) (x : Value) (bs : List Int) : Prop := ∃ A' c' l', x = .tuple #[.agg #[.int .i64 (muR bs), .bool (muB bs), .int .i64 (muK bs), .slice A' l'.length c'], .int .i64 (muE bs)] ∧ vals l' = muL bs ∧ Ier w1 w.heap.size eI eB A' l'.length c' l' ∧ Step No w w1
theorem MuR.no {w w1 : World} {eI eB : TypeId} {bs : List Int} {E : Int} (h : muE bs = E) (hne : E ≠ 0) (hs : Step No w w1) : MuR w w1 eI eB (.tuple #[.agg #[.int .i64 0, .bool false, .int .i64 0, .slice none 0 0], .int .i64 E]) bs := by
  subst h
  obtain ⟨h1, h2, h3, h4⟩ := mu_n hne
  exact ⟨none, 0, [], by rw [h1, h2, h3]; rfl, by rw [h4]; rfl, Ier.nil _ _ _ _, hs⟩
theorem MuR.yes {w w1 : World} {eI eB base c : Nat} {A : Option Addr} {l : List IeV} {bs : List Int} (h : muE bs = 0) (hv : vals l = ieUL (bs.drop 9)) (hr : Ier w1 base eI eB A l.length c l) (hb : w.heap.size ≤ base) (hs : Step No w w1) : MuR w w1 eI eB (.tuple #[.agg #[.int .i64 ((muN bs % 8388608 : Nat) : Int), .bool (decide (((muN bs : Nat) : Int) > 8388607)), .int .i64 (bs.getD 5 0), .slice A l.length c], .int .i64 0]) bs := by
  obtain ⟨h1, h2, h3, h4⟩ := mu_y h
  exact ⟨A, c, l, by rw [h1, h2, h3, h], by rw [h4]; exact hv, hr.low hb, hs⟩
theorem mu_ref {bs : List Int} (hb : Bytes bs) : IntKind.wrap .i64 (IntKind.wrap .i64 (IntKind.wrap .i64 ((IntKind.wrap .i64 (bs.getD 2 0)).tmod 128 * 65536) + IntKind.wrap .i64 (IntKind.wrap .i64 (bs.getD 3 0) * 256)) + IntKind.wrap .i64 (bs.getD 4 0)) = ((muN bs % 8388608 : Nat) : Int) := by
  obtain ⟨a, ha, ha2⟩ := bytes_getD hb 2
  obtain ⟨b, hb1, hb2⟩ := bytes_getD hb 3
  obtain ⟨c, hc, hc2⟩ := bytes_getD hb 4
  unfold muN
  rw [ha, hb1, hc, wrap_i64 ((a : Nat) : Int) (by omega) (by omega), wrap_i64 ((b : Nat) : Int) (by omega) (by omega), wrap_i64 ((c : Nat) : Int) (by omega) (by omega), show ((a : Nat) : Int).tmod 128 = ((a % 128 : Nat) : Int) from tmod_nat a 128, wrap_i64 (((a % 128 : Nat) : Int) * 65536) (by omega) (by omega), wrap_i64 (((b : Nat) : Int) * 256) (by omega) (by omega), wrap_i64 (((a % 128 : Nat) : Int) * 65536 + ((b : Nat) : Int) * 256) (by omega) (by omega), wrap_i64 _ (by omega) (by omega)]
  omega
theorem mu_refB {bs : List Int} (hb : Bytes bs) : decide (bs.getD 2 0 > 127) = decide (((muN bs : Nat) : Int) > 8388607) := by
  have h2 := hb.get 2; have h3 := hb.get 3; have h4 := hb.get 4
  unfold muN
  rw [Bool.eq_iff_iff, decide_eq_true_eq, decide_eq_true_eq]
  omega
theorem ms_ref {bs : List Int} (hb : Bytes bs) : IntKind.wrap .i64 (IntKind.wrap .i64 (IntKind.wrap .i64 (bs.getD 7 0) * 256) + IntKind.wrap .i64 (bs.getD 8 0)) = ((muS bs : Nat) : Int) := by
  have h2 := hb.get 7; have h3 := hb.get 8
  unfold muS
  rw [wrap_i64 (bs.getD 7 0) (by omega) (by omega), wrap_i64 (bs.getD 8 0) (by omega) (by omega), wrap_i64 (bs.getD 7 0 * 256) (by omega) (by omega), wrap_i64 _ (by omega) (by omega)]
  omega
def sameM (r : Int) (b : Bool) (k : Int) (L : List IeD) (r' : Int) (b' : Bool) (k' : Int) (L' : List IeD) : Bool := (r == r') && (b == b') && (k == k') && (L == L')
theorem sameM_is {r k : Int} {b : Bool} {L : List IeD} {r' k' : Int} {b' : Bool} {L' : List IeD} (h1 : r = r') (h2 : b = b') (h3 : k = k') (h4 : L = L') : sameM r b k L r' b' k' L' = true := by simp [sameM, h1, h2, h3, h4]
end Go.Proofs.Ytejpcmjokamdcaa
