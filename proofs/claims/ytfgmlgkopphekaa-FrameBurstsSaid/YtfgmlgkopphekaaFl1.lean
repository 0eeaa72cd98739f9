/- Layer 1, the document's: Flip. -/
import Derived.Test.YtfgmlgkopphekaaProg
import Derived.Test.YtfgmlgkopphekaaFl0
set_option linter.unusedVariables false
set_option linter.unusedSimpArgs false
namespace Go.Proofs.Ytfgmlgkopphekaa
open Go.Vc Go.RowKit

set_option maxRecDepth 100000 in
set_option maxHeartbeats 4000000 in
theorem flip_any (A : Option Addr) (n c Bd : Nat) (bs : List Int) (w : World) (hn : bs.length = n) (hA : Sl w Bd A (iL .u8 bs)) (hBd : Bd ≤ w.heap.size) (t : Nat) (ht : t < 8 * n) (hlen : n < 100000) :
    CV Try.prog 17 #[.slice A n c, .int .i64 ((t : Nat) : Int)] w (fun x w1 => ∃ g' c', x = .slice (some ⟨g', 0, none⟩) n c' ∧ w.heap.size ≤ g' ∧ Rw w1 w.heap.size 5 (some ⟨g', 0, none⟩) n c' (iL .u8 (flipL bs t)) ∧ Step No w w1) := by
  have hS : Step No w w := Step.refl _ _
  refine CV_enter Try.f17 _ 23 [(0, .slice A n c), (1, .int .i64 ((t : Nat) : Int))] Try.func17 rfl rfl (by kernel_rfl) rfl ?_
  refine VC_seq ?_
  refine VC_region ?_
  refine VL_pure 1 [0, 1] [(0, .slice A n c), (1, .int .i64 ((t : Nat) : Int))] (by kernel_rfl) rfl ?_
  refine VL_end (by kernel_rfl) ?_
  refine VQ_next ?_
  refine VC_seq ?_
  refine VC_region ?_
  have hzs1 := hS.size
  refine VL_bs (d := 6) (e := 5) (c := #[]) (len := 0) (by kernel_rfl) (by kernel_rfl) ?_
  intro b1 w1 hn1
  replace hS := Step.trans hS (hn1.step No)
  replace hA := hA.no (hn1.step No)
  have ho1 := hn1.own
  have hzhn1 := hn1.size
  have hqhn1 := hn1.eqb
  refine VL_pure 2 [1, 6, 7] [(1, .int .i64 ((t : Nat) : Int)), (6, .slice (some ⟨b1, 0, none⟩) 0 0), (7, .slice A n c)] (by kernel_rfl) rfl ?_
  have hzs2 := hS.size
  have hzl1 := ho1.lt
  have hbase1 := Nat.le_of_lt ho1.lt
  refine VL_appendS (d := 8) (e := 5) (A := (some ⟨b1, 0, none⟩)) (m := 0) (c := 0) (A2 := A) (m2 := n) (c2 := c) (bytes := 1) (by kernel_rfl) (by kernel_rfl) (by kernel_rfl) b1 w1.heap.size (iL .u8 ([])) (iL .u8 bs) (Rw.of_new ho1 (Nat.le_refl _) (Nat.le_of_ble_eq_true (by kernel_rfl))) (by rw [iL_length]; exact hn) (Sl.mono hA (by first | exact Nat.le_refl _ | omega)) iL_one n (by omega) (by simp only [maxLen]; omega) (by omega) (by omega) ?_
  intro A1 c1 w2 hr1 hg1
  replace hr1 : Rw w2 b1 5 A1 n c1 (iL .u8 bs) := Rw.cast hr1 rfl (by simp only [iL, List.map_append, List.map_cons, List.map_nil, List.append_assoc, List.cons_append, List.nil_append, List.append_nil])
  have hzhg1 := hg1.size
  replace hS := Step.transNew hS hg1 (fun i hi hG => by (try simp only at hG); omega)
  replace hA := hA.step hg1 (fun k hk hG => by (try simp only at hG); omega)
  replace hbase1 := Nat.le_trans hbase1 (hg1).size
  refine VL_pure 4 [1, 5] [(1, .int .i64 ((t : Nat) : Int)), (5, .slice A1 n c1)] (by kernel_rfl) rfl ?_
  refine VL_end (by kernel_rfl) ?_
  refine VQ_next ?_
  refine VC_seq ?_
  obtain ⟨g1, cur1, rfl, hgbg1, hglg1, -⟩ := hr1.open (by omega)
  refine VC_det [[], [], [1], [], [], [4], [3, 4, 5], [3, 4, 5, 6], [], [8], [8, 9], [3, 4, 5, 6, 7, 8, 9, 10], [0, 1, 2, 3, 4, 5, 6, 7, 8, 9, 10, 11], [0, 1, 2, 3, 4, 5, 6, 7, 8, 9, 10, 11, 12]] 12 [.slice (some ⟨g1, 0, none⟩) n c1, .int .i64 ((t : Nat) : Int), .int .i64 (IntKind.wrap .i64 (((t : Nat) : Int).tdiv 8)), .slice (some ⟨g1, 0, none⟩) n c1, .int .i64 ((t : Nat) : Int), .int .i64 (IntKind.wrap .i64 (((t : Nat) : Int).tdiv 8)), .pointer (some ⟨g1, (t / 8), none⟩), .int .u8 (bs.getD (t / 8) 0), .int .i64 ((t : Nat) : Int), .int .i64 (((t : Nat) : Int).tmod 8), .int .u8 ((128 : Int).fdiv (2 ^ (t % 8))), .int .u8 (bXor .u8 (bs.getD (t / 8) 0) ((128 : Int).fdiv (2 ^ (t % 8))))] [0, 1, 2, 3, 4, 5, 8, 9, 11] [6, 7, 10] (by kernel_rfl) (by kernel_rfl) (by kernel_rfl) (by kernel_rfl) ?_ ?_
  · intro w3 hs1
    replace hS := Step.trans hS hs1
    replace hA := hA.no hs1
    replace hbase1 := Nat.le_trans hbase1 (hs1).size
    replace hr1 := hr1.no hs1
    replace hglg1 := Nat.lt_of_lt_of_le hglg1 (hs1).size
    exact ⟨Det1_index (d := 15) (b := g1) (o := 0) (len := n) (sz := 1) (m := (IntKind.wrap .i64 (((t : Nat) : Int).tdiv 8))) (by kernel_rfl) (by kernel_rfl) (t / 8) (by rw [show ((t : Nat) : Int).tdiv 8 = ((t / 8 : Nat) : Int) from tdiv_nat t 8, wrap_i64 _ (by omega) (by omega)]) (by omega) (t / 8) (by omega), Det1_load (d := 16) (t := 5) (a := ⟨g1, (t / 8), none⟩) (by kernel_rfl) (by kernel_rfl) (Rw.ldI hr1 (by kernel_rfl) (by omega)), Det1_shr (d := 19) (k := .u8) (x := 128) (y := (((t : Nat) : Int).tmod 8)) (by kernel_rfl) (by kernel_rfl) (t % 8) (tmod_nat t 8) (by simp only [IntKind.bits]; omega), trivial⟩
  intro w3 hs1
  replace hS := Step.trans hS hs1
  replace hA := hA.no hs1
  replace hbase1 := Nat.le_trans hbase1 (hs1).size
  replace hr1 := hr1.no hs1
  replace hglg1 := Nat.lt_of_lt_of_le hglg1 (hs1).size
  refine VL_keep [5, 9, 11, 20] [(5, .slice (some ⟨g1, 0, none⟩) n c1), (9, .slice (some ⟨g1, 0, none⟩) n c1), (11, .int .i64 (IntKind.wrap .i64 (((t : Nat) : Int).tdiv 8))), (20, .int .u8 (bXor .u8 (bs.getD (t / 8) 0) ((128 : Int).fdiv (2 ^ (t % 8)))))] (by kernel_rfl) ?_
  refine VL_index (d := 21) (b := g1) (o := 0) (len := n) (sz := 1) (m := (IntKind.wrap .i64 (((t : Nat) : Int).tdiv 8))) (by kernel_rfl) (by kernel_rfl) (t / 8) (by rw [show ((t : Nat) : Int).tdiv 8 = ((t / 8 : Nat) : Int) from tdiv_nat t 8, wrap_i64 _ (by omega) (by omega)]) (by omega) (t / 8) (by omega) ?_
  obtain ⟨cur2, hgbcur2, hglcur2, howcur2, hcscur2, hcncur2, hcmcur2, hctcur2⟩ := hr1.openG
  refine VL_store (b := g1) (o := (t / 8)) (vs := [.int .u8 (bXor .u8 (bs.getD (t / 8) 0) ((128 : Int).fdiv (2 ^ (t % 8))))]) (by kernel_rfl) (by kernel_rfl) howcur2 (by simp only [List.length_singleton]; omega) ?_
  intro w4 hw1
  replace hS := Step.transNew hS hw1.step (fun _ _ _ => by omega)
  replace hA := hA.step hw1.step (fun k hk (hF : k = g1) => by omega)
  replace hbase1 := Nat.le_trans hbase1 (hw1.step).size
  replace hglg1 := Nat.lt_of_lt_of_le hglg1 (hw1.step).size
  have ho2 := Rw.putI hctcur2 hw1 hgbcur2 hcscur2 hcncur2 hcmcur2 (j := (t / 8)) (by omega)
  have hzhw1 := hw1.same
  refine VL_end (by kernel_rfl) ?_
  refine VQ_next ?_
  refine VC_seq ?_
  refine VC_region ?_
  refine VL_pure 2 [4] [(4, .slice (some ⟨g1, 0, none⟩) n c1)] (by kernel_rfl) rfl ?_
  refine VL_end (by kernel_rfl) ?_
  refine VQ_next ?_
  refine VC_ret ?_
  refine VQ_ret1 (.slice (some ⟨g1, 0, none⟩) n c1) (.inr rfl) rfl rfl ?_
  exact ⟨_, _, rfl, by omega, Rw.low (Rw.cast ho2 rfl rfl) (by omega), hS⟩

end Go.Proofs.Ytfgmlgkopphekaa
