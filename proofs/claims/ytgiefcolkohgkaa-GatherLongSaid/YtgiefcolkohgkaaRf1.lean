/- Layer 1, the document's: Bits, Rest, Same, Flip. -/
import Derived.Test.YtgiefcolkohgkaaProg
import Derived.Test.YtgiefcolkohgkaaRf0
import Derived.Test.YtgiefcolkohgkaaSa1
set_option linter.unusedVariables false
set_option linter.unusedSimpArgs false
namespace Go.Proofs.Ytgiefcolkohgkaa
open Go.Vc Go.RowKit

set_option maxRecDepth 100000 in
set_option maxHeartbeats 4000000 in
theorem rbits_any (A : Option Addr) (n c Bd : Nat) (bs : List Int) (w : World) (hn : bs.length = n) (hA : Sl w Bd A (iL .u8 bs)) (hlen : n ≤ 100000) (hBd : Bd ≤ w.heap.size) :
    CV Try.prog 37 #[.slice A n c] w (fun x w1 => ∃ A' c', x = .slice A' (8 * n) c' ∧ Rw w1 w.heap.size 3 A' (8 * n) c' (iL .i64 (rbitsL bs)) ∧ Step No w w1) := by
  have hS : Step No w w := Step.refl _ _
  refine CV_enter Try.f37 _ 30 [(0, .slice A n c)] Try.func37 rfl rfl (by kernel_rfl) rfl ?_
  refine VC_seq ?_
  refine VC_region ?_
  refine VL_pure 1 [0] [(0, .slice A n c)] (by kernel_rfl) rfl ?_
  refine VL_end (by kernel_rfl) ?_
  refine VQ_next ?_
  refine VC_seq ?_
  refine VC_region ?_
  refine VL_pure 1 [0, 3] [(0, .slice A n c), (3, .slice none 0 0)] (by kernel_rfl) rfl ?_
  refine VL_end (by kernel_rfl) ?_
  refine VQ_next ?_
  refine VC_seq ?_
  refine VC_seq ?_
  refine VC_region ?_
  refine VL_pure 3 [0, 3, 8, 9] [(0, .slice A n c), (3, .slice none 0 0), (8, .int .i64 ((n : Nat) : Int)), (9, .int .i64 0)] (by kernel_rfl) rfl ?_
  refine VL_end (by kernel_rfl) ?_
  refine VQ_next ?_
  refine VC_block ?_
  obtain ⟨base1, hbase1E⟩ : ∃ x, x = w.heap.size := ⟨_, rfl⟩
  have hbase1 : base1 ≤ w.heap.size := Nat.le_of_eq hbase1E
  have hzs1 := hS.size
  have hzk1 := hbase1
  refine VC_loop (σ := Nat × (Option Addr) × Nat) (fun σs => [(0, .slice A n c), (8, .int .i64 ((n : Nat) : Int)), (9, .int .i64 ((σs.1 : Nat) : Int)), (3, .slice σs.2.1 (8 * σs.1) σs.2.2)]) (fun σs w1 => (σs.1 ≤ n) ∧ (Step No w w1) ∧ (Sl w1 Bd A (iL .u8 bs)) ∧ (base1 ≤ w1.heap.size) ∧ (Rw w1 base1 3 σs.2.1 (8 * σs.1) σs.2.2 (iL .i64 (rbitsF bs σs.1)))) (fun σs w1 => n - σs.1) ⟨0, none, 0⟩ ⟨rfl, rfl, rfl, rfl, trivial⟩ ?_ ?_
  · exact ⟨Nat.zero_le _, hS, hA, hbase1, (Rw.cast (Rw.nil w base1 3) rfl rfl)⟩
  rintro ⟨j, A1, c1⟩ w1 ⟨hj, hS, hA, hbase1, hr1⟩
  try dsimp only at hj hS hA hbase1 hr1 ⊢
  refine VC_seq ?_
  refine VC_region ?_
  refine VL_pure 1 [0, 8, 9, 3, 10] [(0, .slice A n c), (8, .int .i64 ((n : Nat) : Int)), (9, .int .i64 ((j : Nat) : Int)), (3, .slice A1 (8 * j) c1), (10, .bool (decide (((j : Nat) : Int) < ((n : Nat) : Int))))] (by kernel_rfl) rfl ?_
  refine VL_end (by kernel_rfl) ?_
  refine VQ_next ?_
  refine VC_seq ?_
  refine VC_dec (((j : Nat) : Int) < ((n : Nat) : Int)) (by kernel_rfl) (fun h1 => ?_) (fun h1 => ?_)
  · refine VC_skip ?_
    refine VQ_next ?_
    refine VC_seq ?_
    refine VC_block ?_
    refine VC_seq ?_
    refine VC_region ?_
    refine VL_pure 2 [0, 8, 9, 3, 4] [(0, .slice A n c), (8, .int .i64 ((n : Nat) : Int)), (9, .int .i64 ((j : Nat) : Int)), (3, .slice A1 (8 * j) c1), (4, .int .i64 ((j : Nat) : Int))] (by kernel_rfl) rfl ?_
    refine VL_end (by kernel_rfl) ?_
    refine VQ_next ?_
    refine VC_seq ?_
    refine VC_region ?_
    refine VL_pure 2 [0, 8, 9, 3, 12, 13] [(0, .slice A n c), (8, .int .i64 ((n : Nat) : Int)), (9, .int .i64 ((j : Nat) : Int)), (3, .slice A1 (8 * j) c1), (12, .slice A n c), (13, .int .i64 ((j : Nat) : Int))] (by kernel_rfl) rfl ?_
    obtain ⟨sb1, so1, rfl, hlbsb1⟩ := hA.open (by simp only [iL_length]; omega)
    refine VL_index (d := 14) (b := sb1) (o := so1) (len := n) (sz := 1) (m := ((j : Nat) : Int)) (by kernel_rfl) (by kernel_rfl) j (by rfl) (by omega) (so1 + j) (by omega) ?_
    refine VL_load (d := 15) (t := 5) (a := ⟨sb1, so1 + j, none⟩) (v := .int .u8 (bs.getD j 0)) (by kernel_rfl) (by kernel_rfl) (Sl.ldI hA (by kernel_rfl) j (by (try simp only [List.length_set, List.length_append, List.length_map, List.length_replicate, List.length_cons, List.length_nil, List.length_take, List.length_drop, List.length_range]) <;> omega)) ?_
    refine VL_pure 6 [0, 8, 9, 3, 5] [(0, .slice (some ⟨sb1, so1, none⟩) n c), (8, .int .i64 ((n : Nat) : Int)), (9, .int .i64 ((j : Nat) : Int)), (3, .slice A1 (8 * j) c1), (5, .int .i64 (IntKind.wrap .i64 (bs.getD j 0)))] (by kernel_rfl) rfl ?_
    refine VL_end (by kernel_rfl) ?_
    refine VQ_next ?_
    refine VC_seq ?_
    refine VC_region ?_
    refine VL_pure 1 [0, 8, 9, 3, 5, 6] [(0, .slice (some ⟨sb1, so1, none⟩) n c), (8, .int .i64 ((n : Nat) : Int)), (9, .int .i64 ((j : Nat) : Int)), (3, .slice A1 (8 * j) c1), (5, .int .i64 (IntKind.wrap .i64 (bs.getD j 0))), (6, .int .i64 128)] (by kernel_rfl) rfl ?_
    refine VL_end (by kernel_rfl) ?_
    refine VQ_next ?_
    refine VC_block ?_
    refine VC_rounds ?_
    refine VCL_round ?_
    refine VC_seq ?_
    refine VC_seq ?_
    refine VC_region ?_
    refine VL_pure 2 [0, 8, 9, 3, 5, 6, 18] [(0, .slice (some ⟨sb1, so1, none⟩) n c), (8, .int .i64 ((n : Nat) : Int)), (9, .int .i64 ((j : Nat) : Int)), (3, .slice A1 (8 * j) c1), (5, .int .i64 (IntKind.wrap .i64 (bs.getD j 0))), (6, .int .i64 128), (18, .bool true)] (by kernel_rfl) rfl ?_
    refine VL_end (by kernel_rfl) ?_
    refine VQ_next ?_
    refine VC_true (by kernel_rfl) ?_
    refine VC_skip ?_
    refine VQ_next ?_
    refine VC_seq ?_
    refine VC_block ?_
    refine VC_region ?_
    refine VL_pure 5 [0, 8, 9, 5, 6, 21, 25] [(0, .slice (some ⟨sb1, so1, none⟩) n c), (8, .int .i64 ((n : Nat) : Int)), (9, .int .i64 ((j : Nat) : Int)), (5, .int .i64 (IntKind.wrap .i64 (bs.getD j 0))), (6, .int .i64 128), (21, .slice A1 (8 * j) c1), (25, .int .i64 ((IntKind.wrap .i64 ((IntKind.wrap .i64 (bs.getD j 0)).tdiv 128)).tmod 2))] (by kernel_rfl) rfl ?_
    have hzs2 := hS.size
    have hzk2 := hbase1
    refine VL_bs (d := 26) (e := 3) (c := #[.int .i64 ((IntKind.wrap .i64 ((IntKind.wrap .i64 (bs.getD j 0)).tdiv 128)).tmod 2)]) (len := 1) (by kernel_rfl) (by kernel_rfl) ?_
    intro b1 w2 hn1
    replace hS := Step.trans hS (hn1.step No)
    replace hA := hA.no (hn1.step No)
    replace hbase1 := Nat.le_trans hbase1 (hn1.step No).size
    replace hr1 := hr1.no (hn1.step No)
    have ho1 := hn1.own
    have hzhn1 := hn1.size
    have hqhn1 := hn1.eqb
    have hzs3 := hS.size
    have hzk3 := hbase1
    have hzl1 := ho1.lt
    refine VL_appendS (d := 27) (e := 3) (A := A1) (m := (8 * j)) (c := c1) (A2 := (some ⟨b1, 0, none⟩)) (m2 := 1) (c2 := 1) (bytes := 8) (by kernel_rfl) (by kernel_rfl) (by kernel_rfl) base1 w2.heap.size (iL .i64 (rbitsF bs j)) (iL .i64 ([(IntKind.wrap .i64 ((IntKind.wrap .i64 (bs.getD j 0)).tdiv 128)).tmod 2])) hr1 (by rw [iL_length]; first | done | exact rfl) (Sl.mono (Own.sl ho1 ho1.lt) (by first | exact Nat.le_refl _ | omega)) iL_one ((8 * j) + 1) (by omega) (by simp only [maxLen]; omega) (by omega) (by omega) ?_
    intro A2 c2 w3 hr2 hg1
    replace hr2 : Rw w3 base1 3 A2 ((8 * j) + 1) c2 (iL .i64 ((rbitsF bs j) ++ ([(IntKind.wrap .i64 ((IntKind.wrap .i64 (bs.getD j 0)).tdiv 128)).tmod 2]))) := Rw.cast hr2 rfl (by simp only [iL, List.map_append, List.map_cons, List.map_nil, List.append_assoc, List.cons_append, List.nil_append, List.append_nil])
    have hzhg1 := hg1.size
    replace hS := Step.transNew hS hg1 (fun i hi hG => by (try simp only at hG); omega)
    replace hA := hA.keepB hg1 (by (try simp only); omega)
    replace hbase1 := Nat.le_trans hbase1 (hg1).size
    refine VL_pure 8 [0, 8, 9, 5, 6, 3] [(0, .slice (some ⟨sb1, so1, none⟩) n c), (8, .int .i64 ((n : Nat) : Int)), (9, .int .i64 ((j : Nat) : Int)), (5, .int .i64 (IntKind.wrap .i64 (bs.getD j 0))), (6, .int .i64 128), (3, .slice A2 ((8 * j) + 1) c2)] (by kernel_rfl) rfl ?_
    refine VL_end (by kernel_rfl) ?_
    refine VQ_block_normal ?_
    refine VQ_next ?_
    refine VC_region ?_
    refine VL_pure 3 [0, 8, 9, 5, 6, 3] [(0, .slice (some ⟨sb1, so1, none⟩) n c), (8, .int .i64 ((n : Nat) : Int)), (9, .int .i64 ((j : Nat) : Int)), (5, .int .i64 (IntKind.wrap .i64 (bs.getD j 0))), (6, .int .i64 64), (3, .slice A2 ((8 * j) + 1) c2)] (by kernel_rfl) rfl ?_
    refine VL_end (by kernel_rfl) ?_
    refine VQ_round ?_
    refine VCL_round ?_
    refine VC_seq ?_
    refine VC_seq ?_
    refine VC_region ?_
    refine VL_pure 2 [0, 8, 9, 5, 6, 3, 18] [(0, .slice (some ⟨sb1, so1, none⟩) n c), (8, .int .i64 ((n : Nat) : Int)), (9, .int .i64 ((j : Nat) : Int)), (5, .int .i64 (IntKind.wrap .i64 (bs.getD j 0))), (6, .int .i64 64), (3, .slice A2 ((8 * j) + 1) c2), (18, .bool true)] (by kernel_rfl) rfl ?_
    refine VL_end (by kernel_rfl) ?_
    refine VQ_next ?_
    refine VC_true (by kernel_rfl) ?_
    refine VC_skip ?_
    refine VQ_next ?_
    refine VC_seq ?_
    refine VC_block ?_
    refine VC_region ?_
    refine VL_pure 5 [0, 8, 9, 5, 6, 21, 25] [(0, .slice (some ⟨sb1, so1, none⟩) n c), (8, .int .i64 ((n : Nat) : Int)), (9, .int .i64 ((j : Nat) : Int)), (5, .int .i64 (IntKind.wrap .i64 (bs.getD j 0))), (6, .int .i64 64), (21, .slice A2 ((8 * j) + 1) c2), (25, .int .i64 ((IntKind.wrap .i64 ((IntKind.wrap .i64 (bs.getD j 0)).tdiv 64)).tmod 2))] (by kernel_rfl) rfl ?_
    have hzs4 := hS.size
    have hzk4 := hbase1
    refine VL_bs (d := 26) (e := 3) (c := #[.int .i64 ((IntKind.wrap .i64 ((IntKind.wrap .i64 (bs.getD j 0)).tdiv 64)).tmod 2)]) (len := 1) (by kernel_rfl) (by kernel_rfl) ?_
    intro b2 w4 hn2
    replace hS := Step.trans hS (hn2.step No)
    replace hA := hA.no (hn2.step No)
    replace hbase1 := Nat.le_trans hbase1 (hn2.step No).size
    replace hr2 := hr2.no (hn2.step No)
    have ho2 := hn2.own
    have hzhn2 := hn2.size
    have hqhn2 := hn2.eqb
    have hzs5 := hS.size
    have hzk5 := hbase1
    have hzl2 := ho2.lt
    refine VL_appendS (d := 27) (e := 3) (A := A2) (m := ((8 * j) + 1)) (c := c2) (A2 := (some ⟨b2, 0, none⟩)) (m2 := 1) (c2 := 1) (bytes := 8) (by kernel_rfl) (by kernel_rfl) (by kernel_rfl) base1 w4.heap.size (iL .i64 ((rbitsF bs j) ++ ([(IntKind.wrap .i64 ((IntKind.wrap .i64 (bs.getD j 0)).tdiv 128)).tmod 2]))) (iL .i64 ([(IntKind.wrap .i64 ((IntKind.wrap .i64 (bs.getD j 0)).tdiv 64)).tmod 2])) hr2 (by rw [iL_length]; first | done | exact rfl) (Sl.mono (Own.sl ho2 ho2.lt) (by first | exact Nat.le_refl _ | omega)) iL_one (((8 * j) + 1) + 1) (by omega) (by simp only [maxLen]; omega) (by omega) (by omega) ?_
    intro A3 c3 w5 hr3 hg2
    replace hr3 : Rw w5 base1 3 A3 (((8 * j) + 1) + 1) c3 (iL .i64 ((rbitsF bs j) ++ ([(IntKind.wrap .i64 ((IntKind.wrap .i64 (bs.getD j 0)).tdiv 128)).tmod 2]) ++ ([(IntKind.wrap .i64 ((IntKind.wrap .i64 (bs.getD j 0)).tdiv 64)).tmod 2]))) := Rw.cast hr3 rfl (by simp only [iL, List.map_append, List.map_cons, List.map_nil, List.append_assoc, List.cons_append, List.nil_append, List.append_nil])
    have hzhg2 := hg2.size
    replace hS := Step.transNew hS hg2 (fun i hi hG => by (try simp only at hG); omega)
    replace hA := hA.keepB hg2 (by (try simp only); omega)
    replace hbase1 := Nat.le_trans hbase1 (hg2).size
    refine VL_pure 8 [0, 8, 9, 5, 6, 3] [(0, .slice (some ⟨sb1, so1, none⟩) n c), (8, .int .i64 ((n : Nat) : Int)), (9, .int .i64 ((j : Nat) : Int)), (5, .int .i64 (IntKind.wrap .i64 (bs.getD j 0))), (6, .int .i64 64), (3, .slice A3 (((8 * j) + 1) + 1) c3)] (by kernel_rfl) rfl ?_
    refine VL_end (by kernel_rfl) ?_
    refine VQ_block_normal ?_
    refine VQ_next ?_
    refine VC_region ?_
    refine VL_pure 3 [0, 8, 9, 5, 6, 3] [(0, .slice (some ⟨sb1, so1, none⟩) n c), (8, .int .i64 ((n : Nat) : Int)), (9, .int .i64 ((j : Nat) : Int)), (5, .int .i64 (IntKind.wrap .i64 (bs.getD j 0))), (6, .int .i64 32), (3, .slice A3 (((8 * j) + 1) + 1) c3)] (by kernel_rfl) rfl ?_
    refine VL_end (by kernel_rfl) ?_
    refine VQ_round ?_
    refine VCL_round ?_
    refine VC_seq ?_
    refine VC_seq ?_
    refine VC_region ?_
    refine VL_pure 2 [0, 8, 9, 5, 6, 3, 18] [(0, .slice (some ⟨sb1, so1, none⟩) n c), (8, .int .i64 ((n : Nat) : Int)), (9, .int .i64 ((j : Nat) : Int)), (5, .int .i64 (IntKind.wrap .i64 (bs.getD j 0))), (6, .int .i64 32), (3, .slice A3 (((8 * j) + 1) + 1) c3), (18, .bool true)] (by kernel_rfl) rfl ?_
    refine VL_end (by kernel_rfl) ?_
    refine VQ_next ?_
    refine VC_true (by kernel_rfl) ?_
    refine VC_skip ?_
    refine VQ_next ?_
    refine VC_seq ?_
    refine VC_block ?_
    refine VC_region ?_
    refine VL_pure 5 [0, 8, 9, 5, 6, 21, 25] [(0, .slice (some ⟨sb1, so1, none⟩) n c), (8, .int .i64 ((n : Nat) : Int)), (9, .int .i64 ((j : Nat) : Int)), (5, .int .i64 (IntKind.wrap .i64 (bs.getD j 0))), (6, .int .i64 32), (21, .slice A3 (((8 * j) + 1) + 1) c3), (25, .int .i64 ((IntKind.wrap .i64 ((IntKind.wrap .i64 (bs.getD j 0)).tdiv 32)).tmod 2))] (by kernel_rfl) rfl ?_
    have hzs6 := hS.size
    have hzk6 := hbase1
    refine VL_bs (d := 26) (e := 3) (c := #[.int .i64 ((IntKind.wrap .i64 ((IntKind.wrap .i64 (bs.getD j 0)).tdiv 32)).tmod 2)]) (len := 1) (by kernel_rfl) (by kernel_rfl) ?_
    intro b3 w6 hn3
    replace hS := Step.trans hS (hn3.step No)
    replace hA := hA.no (hn3.step No)
    replace hbase1 := Nat.le_trans hbase1 (hn3.step No).size
    replace hr3 := hr3.no (hn3.step No)
    have ho3 := hn3.own
    have hzhn3 := hn3.size
    have hqhn3 := hn3.eqb
    have hzs7 := hS.size
    have hzk7 := hbase1
    have hzl3 := ho3.lt
    refine VL_appendS (d := 27) (e := 3) (A := A3) (m := (((8 * j) + 1) + 1)) (c := c3) (A2 := (some ⟨b3, 0, none⟩)) (m2 := 1) (c2 := 1) (bytes := 8) (by kernel_rfl) (by kernel_rfl) (by kernel_rfl) base1 w6.heap.size (iL .i64 ((rbitsF bs j) ++ ([(IntKind.wrap .i64 ((IntKind.wrap .i64 (bs.getD j 0)).tdiv 128)).tmod 2]) ++ ([(IntKind.wrap .i64 ((IntKind.wrap .i64 (bs.getD j 0)).tdiv 64)).tmod 2]))) (iL .i64 ([(IntKind.wrap .i64 ((IntKind.wrap .i64 (bs.getD j 0)).tdiv 32)).tmod 2])) hr3 (by rw [iL_length]; first | done | exact rfl) (Sl.mono (Own.sl ho3 ho3.lt) (by first | exact Nat.le_refl _ | omega)) iL_one ((((8 * j) + 1) + 1) + 1) (by omega) (by simp only [maxLen]; omega) (by omega) (by omega) ?_
    intro A4 c4 w7 hr4 hg3
    replace hr4 : Rw w7 base1 3 A4 ((((8 * j) + 1) + 1) + 1) c4 (iL .i64 ((rbitsF bs j) ++ ([(IntKind.wrap .i64 ((IntKind.wrap .i64 (bs.getD j 0)).tdiv 128)).tmod 2]) ++ ([(IntKind.wrap .i64 ((IntKind.wrap .i64 (bs.getD j 0)).tdiv 64)).tmod 2]) ++ ([(IntKind.wrap .i64 ((IntKind.wrap .i64 (bs.getD j 0)).tdiv 32)).tmod 2]))) := Rw.cast hr4 rfl (by simp only [iL, List.map_append, List.map_cons, List.map_nil, List.append_assoc, List.cons_append, List.nil_append, List.append_nil])
    have hzhg3 := hg3.size
    replace hS := Step.transNew hS hg3 (fun i hi hG => by (try simp only at hG); omega)
    replace hA := hA.keepB hg3 (by (try simp only); omega)
    replace hbase1 := Nat.le_trans hbase1 (hg3).size
    refine VL_pure 8 [0, 8, 9, 5, 6, 3] [(0, .slice (some ⟨sb1, so1, none⟩) n c), (8, .int .i64 ((n : Nat) : Int)), (9, .int .i64 ((j : Nat) : Int)), (5, .int .i64 (IntKind.wrap .i64 (bs.getD j 0))), (6, .int .i64 32), (3, .slice A4 ((((8 * j) + 1) + 1) + 1) c4)] (by kernel_rfl) rfl ?_
    refine VL_end (by kernel_rfl) ?_
    refine VQ_block_normal ?_
    refine VQ_next ?_
    refine VC_region ?_
    refine VL_pure 3 [0, 8, 9, 5, 6, 3] [(0, .slice (some ⟨sb1, so1, none⟩) n c), (8, .int .i64 ((n : Nat) : Int)), (9, .int .i64 ((j : Nat) : Int)), (5, .int .i64 (IntKind.wrap .i64 (bs.getD j 0))), (6, .int .i64 16), (3, .slice A4 ((((8 * j) + 1) + 1) + 1) c4)] (by kernel_rfl) rfl ?_
    refine VL_end (by kernel_rfl) ?_
    refine VQ_round ?_
    refine VCL_round ?_
    refine VC_seq ?_
    refine VC_seq ?_
    refine VC_region ?_
    refine VL_pure 2 [0, 8, 9, 5, 6, 3, 18] [(0, .slice (some ⟨sb1, so1, none⟩) n c), (8, .int .i64 ((n : Nat) : Int)), (9, .int .i64 ((j : Nat) : Int)), (5, .int .i64 (IntKind.wrap .i64 (bs.getD j 0))), (6, .int .i64 16), (3, .slice A4 ((((8 * j) + 1) + 1) + 1) c4), (18, .bool true)] (by kernel_rfl) rfl ?_
    refine VL_end (by kernel_rfl) ?_
    refine VQ_next ?_
    refine VC_true (by kernel_rfl) ?_
    refine VC_skip ?_
    refine VQ_next ?_
    refine VC_seq ?_
    refine VC_block ?_
    refine VC_region ?_
    refine VL_pure 5 [0, 8, 9, 5, 6, 21, 25] [(0, .slice (some ⟨sb1, so1, none⟩) n c), (8, .int .i64 ((n : Nat) : Int)), (9, .int .i64 ((j : Nat) : Int)), (5, .int .i64 (IntKind.wrap .i64 (bs.getD j 0))), (6, .int .i64 16), (21, .slice A4 ((((8 * j) + 1) + 1) + 1) c4), (25, .int .i64 ((IntKind.wrap .i64 ((IntKind.wrap .i64 (bs.getD j 0)).tdiv 16)).tmod 2))] (by kernel_rfl) rfl ?_
    have hzs8 := hS.size
    have hzk8 := hbase1
    refine VL_bs (d := 26) (e := 3) (c := #[.int .i64 ((IntKind.wrap .i64 ((IntKind.wrap .i64 (bs.getD j 0)).tdiv 16)).tmod 2)]) (len := 1) (by kernel_rfl) (by kernel_rfl) ?_
    intro b4 w8 hn4
    replace hS := Step.trans hS (hn4.step No)
    replace hA := hA.no (hn4.step No)
    replace hbase1 := Nat.le_trans hbase1 (hn4.step No).size
    replace hr4 := hr4.no (hn4.step No)
    have ho4 := hn4.own
    have hzhn4 := hn4.size
    have hqhn4 := hn4.eqb
    have hzs9 := hS.size
    have hzk9 := hbase1
    have hzl4 := ho4.lt
    refine VL_appendS (d := 27) (e := 3) (A := A4) (m := ((((8 * j) + 1) + 1) + 1)) (c := c4) (A2 := (some ⟨b4, 0, none⟩)) (m2 := 1) (c2 := 1) (bytes := 8) (by kernel_rfl) (by kernel_rfl) (by kernel_rfl) base1 w8.heap.size (iL .i64 ((rbitsF bs j) ++ ([(IntKind.wrap .i64 ((IntKind.wrap .i64 (bs.getD j 0)).tdiv 128)).tmod 2]) ++ ([(IntKind.wrap .i64 ((IntKind.wrap .i64 (bs.getD j 0)).tdiv 64)).tmod 2]) ++ ([(IntKind.wrap .i64 ((IntKind.wrap .i64 (bs.getD j 0)).tdiv 32)).tmod 2]))) (iL .i64 ([(IntKind.wrap .i64 ((IntKind.wrap .i64 (bs.getD j 0)).tdiv 16)).tmod 2])) hr4 (by rw [iL_length]; first | done | exact rfl) (Sl.mono (Own.sl ho4 ho4.lt) (by first | exact Nat.le_refl _ | omega)) iL_one (((((8 * j) + 1) + 1) + 1) + 1) (by omega) (by simp only [maxLen]; omega) (by omega) (by omega) ?_
    intro A5 c5 w9 hr5 hg4
    replace hr5 : Rw w9 base1 3 A5 (((((8 * j) + 1) + 1) + 1) + 1) c5 (iL .i64 ((rbitsF bs j) ++ ([(IntKind.wrap .i64 ((IntKind.wrap .i64 (bs.getD j 0)).tdiv 128)).tmod 2]) ++ ([(IntKind.wrap .i64 ((IntKind.wrap .i64 (bs.getD j 0)).tdiv 64)).tmod 2]) ++ ([(IntKind.wrap .i64 ((IntKind.wrap .i64 (bs.getD j 0)).tdiv 32)).tmod 2]) ++ ([(IntKind.wrap .i64 ((IntKind.wrap .i64 (bs.getD j 0)).tdiv 16)).tmod 2]))) := Rw.cast hr5 rfl (by simp only [iL, List.map_append, List.map_cons, List.map_nil, List.append_assoc, List.cons_append, List.nil_append, List.append_nil])
    have hzhg4 := hg4.size
    replace hS := Step.transNew hS hg4 (fun i hi hG => by (try simp only at hG); omega)
    replace hA := hA.keepB hg4 (by (try simp only); omega)
    replace hbase1 := Nat.le_trans hbase1 (hg4).size
    refine VL_pure 8 [0, 8, 9, 5, 6, 3] [(0, .slice (some ⟨sb1, so1, none⟩) n c), (8, .int .i64 ((n : Nat) : Int)), (9, .int .i64 ((j : Nat) : Int)), (5, .int .i64 (IntKind.wrap .i64 (bs.getD j 0))), (6, .int .i64 16), (3, .slice A5 (((((8 * j) + 1) + 1) + 1) + 1) c5)] (by kernel_rfl) rfl ?_
    refine VL_end (by kernel_rfl) ?_
    refine VQ_block_normal ?_
    refine VQ_next ?_
    refine VC_region ?_
    refine VL_pure 3 [0, 8, 9, 5, 6, 3] [(0, .slice (some ⟨sb1, so1, none⟩) n c), (8, .int .i64 ((n : Nat) : Int)), (9, .int .i64 ((j : Nat) : Int)), (5, .int .i64 (IntKind.wrap .i64 (bs.getD j 0))), (6, .int .i64 8), (3, .slice A5 (((((8 * j) + 1) + 1) + 1) + 1) c5)] (by kernel_rfl) rfl ?_
    refine VL_end (by kernel_rfl) ?_
    refine VQ_round ?_
    refine VCL_round ?_
    refine VC_seq ?_
    refine VC_seq ?_
    refine VC_region ?_
    refine VL_pure 2 [0, 8, 9, 5, 6, 3, 18] [(0, .slice (some ⟨sb1, so1, none⟩) n c), (8, .int .i64 ((n : Nat) : Int)), (9, .int .i64 ((j : Nat) : Int)), (5, .int .i64 (IntKind.wrap .i64 (bs.getD j 0))), (6, .int .i64 8), (3, .slice A5 (((((8 * j) + 1) + 1) + 1) + 1) c5), (18, .bool true)] (by kernel_rfl) rfl ?_
    refine VL_end (by kernel_rfl) ?_
    refine VQ_next ?_
    refine VC_true (by kernel_rfl) ?_
    refine VC_skip ?_
    refine VQ_next ?_
    refine VC_seq ?_
    refine VC_block ?_
    refine VC_region ?_
    refine VL_pure 5 [0, 8, 9, 5, 6, 21, 25] [(0, .slice (some ⟨sb1, so1, none⟩) n c), (8, .int .i64 ((n : Nat) : Int)), (9, .int .i64 ((j : Nat) : Int)), (5, .int .i64 (IntKind.wrap .i64 (bs.getD j 0))), (6, .int .i64 8), (21, .slice A5 (((((8 * j) + 1) + 1) + 1) + 1) c5), (25, .int .i64 ((IntKind.wrap .i64 ((IntKind.wrap .i64 (bs.getD j 0)).tdiv 8)).tmod 2))] (by kernel_rfl) rfl ?_
    have hzs10 := hS.size
    have hzk10 := hbase1
    refine VL_bs (d := 26) (e := 3) (c := #[.int .i64 ((IntKind.wrap .i64 ((IntKind.wrap .i64 (bs.getD j 0)).tdiv 8)).tmod 2)]) (len := 1) (by kernel_rfl) (by kernel_rfl) ?_
    intro b5 w10 hn5
    replace hS := Step.trans hS (hn5.step No)
    replace hA := hA.no (hn5.step No)
    replace hbase1 := Nat.le_trans hbase1 (hn5.step No).size
    replace hr5 := hr5.no (hn5.step No)
    have ho5 := hn5.own
    have hzhn5 := hn5.size
    have hqhn5 := hn5.eqb
    have hzs11 := hS.size
    have hzk11 := hbase1
    have hzl5 := ho5.lt
    refine VL_appendS (d := 27) (e := 3) (A := A5) (m := (((((8 * j) + 1) + 1) + 1) + 1)) (c := c5) (A2 := (some ⟨b5, 0, none⟩)) (m2 := 1) (c2 := 1) (bytes := 8) (by kernel_rfl) (by kernel_rfl) (by kernel_rfl) base1 w10.heap.size (iL .i64 ((rbitsF bs j) ++ ([(IntKind.wrap .i64 ((IntKind.wrap .i64 (bs.getD j 0)).tdiv 128)).tmod 2]) ++ ([(IntKind.wrap .i64 ((IntKind.wrap .i64 (bs.getD j 0)).tdiv 64)).tmod 2]) ++ ([(IntKind.wrap .i64 ((IntKind.wrap .i64 (bs.getD j 0)).tdiv 32)).tmod 2]) ++ ([(IntKind.wrap .i64 ((IntKind.wrap .i64 (bs.getD j 0)).tdiv 16)).tmod 2]))) (iL .i64 ([(IntKind.wrap .i64 ((IntKind.wrap .i64 (bs.getD j 0)).tdiv 8)).tmod 2])) hr5 (by rw [iL_length]; first | done | exact rfl) (Sl.mono (Own.sl ho5 ho5.lt) (by first | exact Nat.le_refl _ | omega)) iL_one ((((((8 * j) + 1) + 1) + 1) + 1) + 1) (by omega) (by simp only [maxLen]; omega) (by omega) (by omega) ?_
    intro A6 c6 w11 hr6 hg5
    replace hr6 : Rw w11 base1 3 A6 ((((((8 * j) + 1) + 1) + 1) + 1) + 1) c6 (iL .i64 ((rbitsF bs j) ++ ([(IntKind.wrap .i64 ((IntKind.wrap .i64 (bs.getD j 0)).tdiv 128)).tmod 2]) ++ ([(IntKind.wrap .i64 ((IntKind.wrap .i64 (bs.getD j 0)).tdiv 64)).tmod 2]) ++ ([(IntKind.wrap .i64 ((IntKind.wrap .i64 (bs.getD j 0)).tdiv 32)).tmod 2]) ++ ([(IntKind.wrap .i64 ((IntKind.wrap .i64 (bs.getD j 0)).tdiv 16)).tmod 2]) ++ ([(IntKind.wrap .i64 ((IntKind.wrap .i64 (bs.getD j 0)).tdiv 8)).tmod 2]))) := Rw.cast hr6 rfl (by simp only [iL, List.map_append, List.map_cons, List.map_nil, List.append_assoc, List.cons_append, List.nil_append, List.append_nil])
    have hzhg5 := hg5.size
    replace hS := Step.transNew hS hg5 (fun i hi hG => by (try simp only at hG); omega)
    replace hA := hA.keepB hg5 (by (try simp only); omega)
    replace hbase1 := Nat.le_trans hbase1 (hg5).size
    refine VL_pure 8 [0, 8, 9, 5, 6, 3] [(0, .slice (some ⟨sb1, so1, none⟩) n c), (8, .int .i64 ((n : Nat) : Int)), (9, .int .i64 ((j : Nat) : Int)), (5, .int .i64 (IntKind.wrap .i64 (bs.getD j 0))), (6, .int .i64 8), (3, .slice A6 ((((((8 * j) + 1) + 1) + 1) + 1) + 1) c6)] (by kernel_rfl) rfl ?_
    refine VL_end (by kernel_rfl) ?_
    refine VQ_block_normal ?_
    refine VQ_next ?_
    refine VC_region ?_
    refine VL_pure 3 [0, 8, 9, 5, 6, 3] [(0, .slice (some ⟨sb1, so1, none⟩) n c), (8, .int .i64 ((n : Nat) : Int)), (9, .int .i64 ((j : Nat) : Int)), (5, .int .i64 (IntKind.wrap .i64 (bs.getD j 0))), (6, .int .i64 4), (3, .slice A6 ((((((8 * j) + 1) + 1) + 1) + 1) + 1) c6)] (by kernel_rfl) rfl ?_
    refine VL_end (by kernel_rfl) ?_
    refine VQ_round ?_
    refine VCL_round ?_
    refine VC_seq ?_
    refine VC_seq ?_
    refine VC_region ?_
    refine VL_pure 2 [0, 8, 9, 5, 6, 3, 18] [(0, .slice (some ⟨sb1, so1, none⟩) n c), (8, .int .i64 ((n : Nat) : Int)), (9, .int .i64 ((j : Nat) : Int)), (5, .int .i64 (IntKind.wrap .i64 (bs.getD j 0))), (6, .int .i64 4), (3, .slice A6 ((((((8 * j) + 1) + 1) + 1) + 1) + 1) c6), (18, .bool true)] (by kernel_rfl) rfl ?_
    refine VL_end (by kernel_rfl) ?_
    refine VQ_next ?_
    refine VC_true (by kernel_rfl) ?_
    refine VC_skip ?_
    refine VQ_next ?_
    refine VC_seq ?_
    refine VC_block ?_
    refine VC_region ?_
    refine VL_pure 5 [0, 8, 9, 5, 6, 21, 25] [(0, .slice (some ⟨sb1, so1, none⟩) n c), (8, .int .i64 ((n : Nat) : Int)), (9, .int .i64 ((j : Nat) : Int)), (5, .int .i64 (IntKind.wrap .i64 (bs.getD j 0))), (6, .int .i64 4), (21, .slice A6 ((((((8 * j) + 1) + 1) + 1) + 1) + 1) c6), (25, .int .i64 ((IntKind.wrap .i64 ((IntKind.wrap .i64 (bs.getD j 0)).tdiv 4)).tmod 2))] (by kernel_rfl) rfl ?_
    have hzs12 := hS.size
    have hzk12 := hbase1
    refine VL_bs (d := 26) (e := 3) (c := #[.int .i64 ((IntKind.wrap .i64 ((IntKind.wrap .i64 (bs.getD j 0)).tdiv 4)).tmod 2)]) (len := 1) (by kernel_rfl) (by kernel_rfl) ?_
    intro b6 w12 hn6
    replace hS := Step.trans hS (hn6.step No)
    replace hA := hA.no (hn6.step No)
    replace hbase1 := Nat.le_trans hbase1 (hn6.step No).size
    replace hr6 := hr6.no (hn6.step No)
    have ho6 := hn6.own
    have hzhn6 := hn6.size
    have hqhn6 := hn6.eqb
    have hzs13 := hS.size
    have hzk13 := hbase1
    have hzl6 := ho6.lt
    refine VL_appendS (d := 27) (e := 3) (A := A6) (m := ((((((8 * j) + 1) + 1) + 1) + 1) + 1)) (c := c6) (A2 := (some ⟨b6, 0, none⟩)) (m2 := 1) (c2 := 1) (bytes := 8) (by kernel_rfl) (by kernel_rfl) (by kernel_rfl) base1 w12.heap.size (iL .i64 ((rbitsF bs j) ++ ([(IntKind.wrap .i64 ((IntKind.wrap .i64 (bs.getD j 0)).tdiv 128)).tmod 2]) ++ ([(IntKind.wrap .i64 ((IntKind.wrap .i64 (bs.getD j 0)).tdiv 64)).tmod 2]) ++ ([(IntKind.wrap .i64 ((IntKind.wrap .i64 (bs.getD j 0)).tdiv 32)).tmod 2]) ++ ([(IntKind.wrap .i64 ((IntKind.wrap .i64 (bs.getD j 0)).tdiv 16)).tmod 2]) ++ ([(IntKind.wrap .i64 ((IntKind.wrap .i64 (bs.getD j 0)).tdiv 8)).tmod 2]))) (iL .i64 ([(IntKind.wrap .i64 ((IntKind.wrap .i64 (bs.getD j 0)).tdiv 4)).tmod 2])) hr6 (by rw [iL_length]; first | done | exact rfl) (Sl.mono (Own.sl ho6 ho6.lt) (by first | exact Nat.le_refl _ | omega)) iL_one (((((((8 * j) + 1) + 1) + 1) + 1) + 1) + 1) (by omega) (by simp only [maxLen]; omega) (by omega) (by omega) ?_
    intro A7 c7 w13 hr7 hg6
    replace hr7 : Rw w13 base1 3 A7 (((((((8 * j) + 1) + 1) + 1) + 1) + 1) + 1) c7 (iL .i64 ((rbitsF bs j) ++ ([(IntKind.wrap .i64 ((IntKind.wrap .i64 (bs.getD j 0)).tdiv 128)).tmod 2]) ++ ([(IntKind.wrap .i64 ((IntKind.wrap .i64 (bs.getD j 0)).tdiv 64)).tmod 2]) ++ ([(IntKind.wrap .i64 ((IntKind.wrap .i64 (bs.getD j 0)).tdiv 32)).tmod 2]) ++ ([(IntKind.wrap .i64 ((IntKind.wrap .i64 (bs.getD j 0)).tdiv 16)).tmod 2]) ++ ([(IntKind.wrap .i64 ((IntKind.wrap .i64 (bs.getD j 0)).tdiv 8)).tmod 2]) ++ ([(IntKind.wrap .i64 ((IntKind.wrap .i64 (bs.getD j 0)).tdiv 4)).tmod 2]))) := Rw.cast hr7 rfl (by simp only [iL, List.map_append, List.map_cons, List.map_nil, List.append_assoc, List.cons_append, List.nil_append, List.append_nil])
    have hzhg6 := hg6.size
    replace hS := Step.transNew hS hg6 (fun i hi hG => by (try simp only at hG); omega)
    replace hA := hA.keepB hg6 (by (try simp only); omega)
    replace hbase1 := Nat.le_trans hbase1 (hg6).size
    refine VL_pure 8 [0, 8, 9, 5, 6, 3] [(0, .slice (some ⟨sb1, so1, none⟩) n c), (8, .int .i64 ((n : Nat) : Int)), (9, .int .i64 ((j : Nat) : Int)), (5, .int .i64 (IntKind.wrap .i64 (bs.getD j 0))), (6, .int .i64 4), (3, .slice A7 (((((((8 * j) + 1) + 1) + 1) + 1) + 1) + 1) c7)] (by kernel_rfl) rfl ?_
    refine VL_end (by kernel_rfl) ?_
    refine VQ_block_normal ?_
    refine VQ_next ?_
    refine VC_region ?_
    refine VL_pure 3 [0, 8, 9, 5, 6, 3] [(0, .slice (some ⟨sb1, so1, none⟩) n c), (8, .int .i64 ((n : Nat) : Int)), (9, .int .i64 ((j : Nat) : Int)), (5, .int .i64 (IntKind.wrap .i64 (bs.getD j 0))), (6, .int .i64 2), (3, .slice A7 (((((((8 * j) + 1) + 1) + 1) + 1) + 1) + 1) c7)] (by kernel_rfl) rfl ?_
    refine VL_end (by kernel_rfl) ?_
    refine VQ_round ?_
    refine VCL_round ?_
    refine VC_seq ?_
    refine VC_seq ?_
    refine VC_region ?_
    refine VL_pure 2 [0, 8, 9, 5, 6, 3, 18] [(0, .slice (some ⟨sb1, so1, none⟩) n c), (8, .int .i64 ((n : Nat) : Int)), (9, .int .i64 ((j : Nat) : Int)), (5, .int .i64 (IntKind.wrap .i64 (bs.getD j 0))), (6, .int .i64 2), (3, .slice A7 (((((((8 * j) + 1) + 1) + 1) + 1) + 1) + 1) c7), (18, .bool true)] (by kernel_rfl) rfl ?_
    refine VL_end (by kernel_rfl) ?_
    refine VQ_next ?_
    refine VC_true (by kernel_rfl) ?_
    refine VC_skip ?_
    refine VQ_next ?_
    refine VC_seq ?_
    refine VC_block ?_
    refine VC_region ?_
    refine VL_pure 5 [0, 8, 9, 5, 6, 21, 25] [(0, .slice (some ⟨sb1, so1, none⟩) n c), (8, .int .i64 ((n : Nat) : Int)), (9, .int .i64 ((j : Nat) : Int)), (5, .int .i64 (IntKind.wrap .i64 (bs.getD j 0))), (6, .int .i64 2), (21, .slice A7 (((((((8 * j) + 1) + 1) + 1) + 1) + 1) + 1) c7), (25, .int .i64 ((IntKind.wrap .i64 ((IntKind.wrap .i64 (bs.getD j 0)).tdiv 2)).tmod 2))] (by kernel_rfl) rfl ?_
    have hzs14 := hS.size
    have hzk14 := hbase1
    refine VL_bs (d := 26) (e := 3) (c := #[.int .i64 ((IntKind.wrap .i64 ((IntKind.wrap .i64 (bs.getD j 0)).tdiv 2)).tmod 2)]) (len := 1) (by kernel_rfl) (by kernel_rfl) ?_
    intro b7 w14 hn7
    replace hS := Step.trans hS (hn7.step No)
    replace hA := hA.no (hn7.step No)
    replace hbase1 := Nat.le_trans hbase1 (hn7.step No).size
    replace hr7 := hr7.no (hn7.step No)
    have ho7 := hn7.own
    have hzhn7 := hn7.size
    have hqhn7 := hn7.eqb
    have hzs15 := hS.size
    have hzk15 := hbase1
    have hzl7 := ho7.lt
    refine VL_appendS (d := 27) (e := 3) (A := A7) (m := (((((((8 * j) + 1) + 1) + 1) + 1) + 1) + 1)) (c := c7) (A2 := (some ⟨b7, 0, none⟩)) (m2 := 1) (c2 := 1) (bytes := 8) (by kernel_rfl) (by kernel_rfl) (by kernel_rfl) base1 w14.heap.size (iL .i64 ((rbitsF bs j) ++ ([(IntKind.wrap .i64 ((IntKind.wrap .i64 (bs.getD j 0)).tdiv 128)).tmod 2]) ++ ([(IntKind.wrap .i64 ((IntKind.wrap .i64 (bs.getD j 0)).tdiv 64)).tmod 2]) ++ ([(IntKind.wrap .i64 ((IntKind.wrap .i64 (bs.getD j 0)).tdiv 32)).tmod 2]) ++ ([(IntKind.wrap .i64 ((IntKind.wrap .i64 (bs.getD j 0)).tdiv 16)).tmod 2]) ++ ([(IntKind.wrap .i64 ((IntKind.wrap .i64 (bs.getD j 0)).tdiv 8)).tmod 2]) ++ ([(IntKind.wrap .i64 ((IntKind.wrap .i64 (bs.getD j 0)).tdiv 4)).tmod 2]))) (iL .i64 ([(IntKind.wrap .i64 ((IntKind.wrap .i64 (bs.getD j 0)).tdiv 2)).tmod 2])) hr7 (by rw [iL_length]; first | done | exact rfl) (Sl.mono (Own.sl ho7 ho7.lt) (by first | exact Nat.le_refl _ | omega)) iL_one ((((((((8 * j) + 1) + 1) + 1) + 1) + 1) + 1) + 1) (by omega) (by simp only [maxLen]; omega) (by omega) (by omega) ?_
    intro A8 c8 w15 hr8 hg7
    replace hr8 : Rw w15 base1 3 A8 ((((((((8 * j) + 1) + 1) + 1) + 1) + 1) + 1) + 1) c8 (iL .i64 ((rbitsF bs j) ++ ([(IntKind.wrap .i64 ((IntKind.wrap .i64 (bs.getD j 0)).tdiv 128)).tmod 2]) ++ ([(IntKind.wrap .i64 ((IntKind.wrap .i64 (bs.getD j 0)).tdiv 64)).tmod 2]) ++ ([(IntKind.wrap .i64 ((IntKind.wrap .i64 (bs.getD j 0)).tdiv 32)).tmod 2]) ++ ([(IntKind.wrap .i64 ((IntKind.wrap .i64 (bs.getD j 0)).tdiv 16)).tmod 2]) ++ ([(IntKind.wrap .i64 ((IntKind.wrap .i64 (bs.getD j 0)).tdiv 8)).tmod 2]) ++ ([(IntKind.wrap .i64 ((IntKind.wrap .i64 (bs.getD j 0)).tdiv 4)).tmod 2]) ++ ([(IntKind.wrap .i64 ((IntKind.wrap .i64 (bs.getD j 0)).tdiv 2)).tmod 2]))) := Rw.cast hr8 rfl (by simp only [iL, List.map_append, List.map_cons, List.map_nil, List.append_assoc, List.cons_append, List.nil_append, List.append_nil])
    have hzhg7 := hg7.size
    replace hS := Step.transNew hS hg7 (fun i hi hG => by (try simp only at hG); omega)
    replace hA := hA.keepB hg7 (by (try simp only); omega)
    replace hbase1 := Nat.le_trans hbase1 (hg7).size
    refine VL_pure 8 [0, 8, 9, 5, 6, 3] [(0, .slice (some ⟨sb1, so1, none⟩) n c), (8, .int .i64 ((n : Nat) : Int)), (9, .int .i64 ((j : Nat) : Int)), (5, .int .i64 (IntKind.wrap .i64 (bs.getD j 0))), (6, .int .i64 2), (3, .slice A8 ((((((((8 * j) + 1) + 1) + 1) + 1) + 1) + 1) + 1) c8)] (by kernel_rfl) rfl ?_
    refine VL_end (by kernel_rfl) ?_
    refine VQ_block_normal ?_
    refine VQ_next ?_
    refine VC_region ?_
    refine VL_pure 3 [0, 8, 9, 5, 6, 3] [(0, .slice (some ⟨sb1, so1, none⟩) n c), (8, .int .i64 ((n : Nat) : Int)), (9, .int .i64 ((j : Nat) : Int)), (5, .int .i64 (IntKind.wrap .i64 (bs.getD j 0))), (6, .int .i64 1), (3, .slice A8 ((((((((8 * j) + 1) + 1) + 1) + 1) + 1) + 1) + 1) c8)] (by kernel_rfl) rfl ?_
    refine VL_end (by kernel_rfl) ?_
    refine VQ_round ?_
    refine VCL_round ?_
    refine VC_seq ?_
    refine VC_seq ?_
    refine VC_region ?_
    refine VL_pure 2 [0, 8, 9, 5, 6, 3, 18] [(0, .slice (some ⟨sb1, so1, none⟩) n c), (8, .int .i64 ((n : Nat) : Int)), (9, .int .i64 ((j : Nat) : Int)), (5, .int .i64 (IntKind.wrap .i64 (bs.getD j 0))), (6, .int .i64 1), (3, .slice A8 ((((((((8 * j) + 1) + 1) + 1) + 1) + 1) + 1) + 1) c8), (18, .bool true)] (by kernel_rfl) rfl ?_
    refine VL_end (by kernel_rfl) ?_
    refine VQ_next ?_
    refine VC_true (by kernel_rfl) ?_
    refine VC_skip ?_
    refine VQ_next ?_
    refine VC_seq ?_
    refine VC_block ?_
    refine VC_region ?_
    refine VL_pure 5 [0, 8, 9, 5, 6, 21, 25] [(0, .slice (some ⟨sb1, so1, none⟩) n c), (8, .int .i64 ((n : Nat) : Int)), (9, .int .i64 ((j : Nat) : Int)), (5, .int .i64 (IntKind.wrap .i64 (bs.getD j 0))), (6, .int .i64 1), (21, .slice A8 ((((((((8 * j) + 1) + 1) + 1) + 1) + 1) + 1) + 1) c8), (25, .int .i64 ((IntKind.wrap .i64 ((IntKind.wrap .i64 (bs.getD j 0)).tdiv 1)).tmod 2))] (by kernel_rfl) rfl ?_
    have hzs16 := hS.size
    have hzk16 := hbase1
    refine VL_bs (d := 26) (e := 3) (c := #[.int .i64 ((IntKind.wrap .i64 ((IntKind.wrap .i64 (bs.getD j 0)).tdiv 1)).tmod 2)]) (len := 1) (by kernel_rfl) (by kernel_rfl) ?_
    intro b8 w16 hn8
    replace hS := Step.trans hS (hn8.step No)
    replace hA := hA.no (hn8.step No)
    replace hbase1 := Nat.le_trans hbase1 (hn8.step No).size
    replace hr8 := hr8.no (hn8.step No)
    have ho8 := hn8.own
    have hzhn8 := hn8.size
    have hqhn8 := hn8.eqb
    have hzs17 := hS.size
    have hzk17 := hbase1
    have hzl8 := ho8.lt
    refine VL_appendS (d := 27) (e := 3) (A := A8) (m := ((((((((8 * j) + 1) + 1) + 1) + 1) + 1) + 1) + 1)) (c := c8) (A2 := (some ⟨b8, 0, none⟩)) (m2 := 1) (c2 := 1) (bytes := 8) (by kernel_rfl) (by kernel_rfl) (by kernel_rfl) base1 w16.heap.size (iL .i64 ((rbitsF bs j) ++ ([(IntKind.wrap .i64 ((IntKind.wrap .i64 (bs.getD j 0)).tdiv 128)).tmod 2]) ++ ([(IntKind.wrap .i64 ((IntKind.wrap .i64 (bs.getD j 0)).tdiv 64)).tmod 2]) ++ ([(IntKind.wrap .i64 ((IntKind.wrap .i64 (bs.getD j 0)).tdiv 32)).tmod 2]) ++ ([(IntKind.wrap .i64 ((IntKind.wrap .i64 (bs.getD j 0)).tdiv 16)).tmod 2]) ++ ([(IntKind.wrap .i64 ((IntKind.wrap .i64 (bs.getD j 0)).tdiv 8)).tmod 2]) ++ ([(IntKind.wrap .i64 ((IntKind.wrap .i64 (bs.getD j 0)).tdiv 4)).tmod 2]) ++ ([(IntKind.wrap .i64 ((IntKind.wrap .i64 (bs.getD j 0)).tdiv 2)).tmod 2]))) (iL .i64 ([(IntKind.wrap .i64 ((IntKind.wrap .i64 (bs.getD j 0)).tdiv 1)).tmod 2])) hr8 (by rw [iL_length]; first | done | exact rfl) (Sl.mono (Own.sl ho8 ho8.lt) (by first | exact Nat.le_refl _ | omega)) iL_one (((((((((8 * j) + 1) + 1) + 1) + 1) + 1) + 1) + 1) + 1) (by omega) (by simp only [maxLen]; omega) (by omega) (by omega) ?_
    intro A9 c9 w17 hr9 hg8
    replace hr9 : Rw w17 base1 3 A9 (((((((((8 * j) + 1) + 1) + 1) + 1) + 1) + 1) + 1) + 1) c9 (iL .i64 ((rbitsF bs j) ++ ([(IntKind.wrap .i64 ((IntKind.wrap .i64 (bs.getD j 0)).tdiv 128)).tmod 2]) ++ ([(IntKind.wrap .i64 ((IntKind.wrap .i64 (bs.getD j 0)).tdiv 64)).tmod 2]) ++ ([(IntKind.wrap .i64 ((IntKind.wrap .i64 (bs.getD j 0)).tdiv 32)).tmod 2]) ++ ([(IntKind.wrap .i64 ((IntKind.wrap .i64 (bs.getD j 0)).tdiv 16)).tmod 2]) ++ ([(IntKind.wrap .i64 ((IntKind.wrap .i64 (bs.getD j 0)).tdiv 8)).tmod 2]) ++ ([(IntKind.wrap .i64 ((IntKind.wrap .i64 (bs.getD j 0)).tdiv 4)).tmod 2]) ++ ([(IntKind.wrap .i64 ((IntKind.wrap .i64 (bs.getD j 0)).tdiv 2)).tmod 2]) ++ ([(IntKind.wrap .i64 ((IntKind.wrap .i64 (bs.getD j 0)).tdiv 1)).tmod 2]))) := Rw.cast hr9 rfl (by simp only [iL, List.map_append, List.map_cons, List.map_nil, List.append_assoc, List.cons_append, List.nil_append, List.append_nil])
    have hzhg8 := hg8.size
    replace hS := Step.transNew hS hg8 (fun i hi hG => by (try simp only at hG); omega)
    replace hA := hA.keepB hg8 (by (try simp only); omega)
    replace hbase1 := Nat.le_trans hbase1 (hg8).size
    refine VL_pure 8 [0, 8, 9, 5, 6, 3] [(0, .slice (some ⟨sb1, so1, none⟩) n c), (8, .int .i64 ((n : Nat) : Int)), (9, .int .i64 ((j : Nat) : Int)), (5, .int .i64 (IntKind.wrap .i64 (bs.getD j 0))), (6, .int .i64 1), (3, .slice A9 (((((((((8 * j) + 1) + 1) + 1) + 1) + 1) + 1) + 1) + 1) c9)] (by kernel_rfl) rfl ?_
    refine VL_end (by kernel_rfl) ?_
    refine VQ_block_normal ?_
    refine VQ_next ?_
    refine VC_region ?_
    refine VL_pure 3 [0, 8, 9, 5, 6, 3] [(0, .slice (some ⟨sb1, so1, none⟩) n c), (8, .int .i64 ((n : Nat) : Int)), (9, .int .i64 ((j : Nat) : Int)), (5, .int .i64 (IntKind.wrap .i64 (bs.getD j 0))), (6, .int .i64 0), (3, .slice A9 (((((((((8 * j) + 1) + 1) + 1) + 1) + 1) + 1) + 1) + 1) c9)] (by kernel_rfl) rfl ?_
    refine VL_end (by kernel_rfl) ?_
    refine VQ_round ?_
    refine VCL_round ?_
    refine VC_seq ?_
    refine VC_seq ?_
    refine VC_region ?_
    refine VL_pure 2 [0, 8, 9, 5, 6, 3, 18] [(0, .slice (some ⟨sb1, so1, none⟩) n c), (8, .int .i64 ((n : Nat) : Int)), (9, .int .i64 ((j : Nat) : Int)), (5, .int .i64 (IntKind.wrap .i64 (bs.getD j 0))), (6, .int .i64 0), (3, .slice A9 (((((((((8 * j) + 1) + 1) + 1) + 1) + 1) + 1) + 1) + 1) c9), (18, .bool false)] (by kernel_rfl) rfl ?_
    refine VL_end (by kernel_rfl) ?_
    refine VQ_next ?_
    refine VC_false (by kernel_rfl) ?_
    refine VC_exit ?_
    refine VQ_then_exit ?_
    refine VQ_then_exit ?_
    refine VQ_block_hit ?_
    refine VQ_block_normal ?_
    refine VQ_next ?_
    refine VC_region ?_
    refine VL_pure 1 [0, 8, 3, 28] [(0, .slice (some ⟨sb1, so1, none⟩) n c), (8, .int .i64 ((n : Nat) : Int)), (3, .slice A9 (((((((((8 * j) + 1) + 1) + 1) + 1) + 1) + 1) + 1) + 1) c9), (28, .int .i64 (IntKind.wrap .i64 (((j : Nat) : Int) + 1)))] (by kernel_rfl) rfl ?_
    have he1 : IntKind.wrap .i64 (((j : Nat) : Int) + 1) = ((j + 1 : Nat) : Int) := (by rw [wrap_i64 _ (by omega) (by omega)]; omega)
    refine VL_eq [(0, .slice (some ⟨sb1, so1, none⟩) n c), (8, .int .i64 ((n : Nat) : Int)), (3, .slice A9 (((((((((8 * j) + 1) + 1) + 1) + 1) + 1) + 1) + 1) + 1) c9), (28, .int .i64 ((j + 1 : Nat) : Int))] (by rw [he1]) ?_
    refine VL_pure 2 [0, 8, 3, 9] [(0, .slice (some ⟨sb1, so1, none⟩) n c), (8, .int .i64 ((n : Nat) : Int)), (3, .slice A9 (((((((((8 * j) + 1) + 1) + 1) + 1) + 1) + 1) + 1) + 1) c9), (9, .int .i64 ((j + 1 : Nat) : Int))] (by kernel_rfl) rfl ?_
    refine VL_end (by kernel_rfl) ?_
    refine VQ_again ⟨j + 1, A9, c9⟩ ⟨rfl, rfl, rfl, rfl, trivial⟩ ?_ ?_
    · exact ⟨(by omega), hS, hA, hbase1, (Rw.cast hr9 (by omega) (by rw [rbitsF_succ (by omega)]; simp only [rbits8, rbit, iL, List.map_append, List.append_assoc, List.cons_append, List.nil_append]))⟩
    · (try dsimp only); omega
  · refine VC_exit ?_
    refine VQ_then_exit ?_
    refine VQ_then_exit ?_
    refine VQ_block_hit ?_
    refine VQ_next ?_
    refine VC_seq ?_
    refine VC_region ?_
    refine VL_pure 2 [2] [(2, .slice A1 (8 * j) c1)] (by kernel_rfl) rfl ?_
    refine VL_end (by kernel_rfl) ?_
    refine VQ_next ?_
    refine VC_ret ?_
    refine VQ_ret1 (.slice A1 (8 * j) c1) (.inr rfl) rfl rfl ?_
    obtain rfl : j = n := by omega
    exact ⟨_, _, rfl, Rw.low (Rw.cast hr1 rfl (by rw [← hn, rbitsF_all])) (by omega), hS⟩

end Go.Proofs.Ytgiefcolkohgkaa
