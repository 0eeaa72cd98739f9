/- Layer 10: FrameSizes. -/
import Derived.Test.YtfgmlgkopphekaaProg
import Derived.Test.YtfgmlgkopphekaaFr9
import Derived.Test.YtfgmlgkopphekaaFr12
set_option linter.unusedVariables false
set_option linter.unusedSimpArgs false
namespace Go.Proofs.Ytfgmlgkopphekaa
open Go.Vc Go.RowKit

set_option maxRecDepth 100000 in
set_option maxHeartbeats 4000000 in
theorem sizes_0 (A : Option Addr) (n c : Nat) (bs : List Int) (m : Int) (q : Nat) (w : World) (hn : bs.length = n) (hA : Sl w w.heap.size A (iL .u8 bs)) (hc : n ≤ c) (hb : Bytes bs) (hm : 0 ≤ m ∧ m < 256) (hq : q < 65536) (hlon : 0 ≤ n) (hhin : n ≤ 0) :
    CV Try.prog 7 #[.slice A n c, .int .u8 m, .int .u16 ((q : Nat) : Int)] w (fun x w1 => x = .bool true ∧ Step No w w1) := by
  have hS : Step No w w := Step.refl _ _
  refine CV_enter Try.f7 _ 103 [(0, .slice A n c), (1, .int .u8 m), (2, .int .u16 ((q : Nat) : Int))] Try.func7 rfl rfl (by kernel_rfl) rfl ?_
  refine VC_seq ?_
  refine VC_region ?_
  refine VL_pure 1 [0, 1, 2] [(0, .slice A n c), (1, .int .u8 m), (2, .int .u16 ((q : Nat) : Int))] (by kernel_rfl) rfl ?_
  refine VL_end (by kernel_rfl) ?_
  refine VQ_next ?_
  refine VC_seq ?_
  refine VC_seq ?_
  refine VC_region ?_
  have hzs1 := hS.size
  refine VL_call (d := 11) (f := 9) (args := #[]) (by kernel_rfl) (by kernel_rfl) (by kernel_rfl) Try.call9 (awake_any _) ?_
  rintro _ w1 ⟨rfl, hc1⟩
  replace hS := Step.trans hS hc1
  replace hA := hA.no hc1
  refine VL_pure 8 [0, 1, 2, 18] [(0, .slice A n c), (1, .int .u8 m), (2, .int .u16 ((q : Nat) : Int)), (18, .bool (decide (((n : Nat) : Int) > 1000)))] (by kernel_rfl) rfl ?_
  refine VL_known (decide (((n : Nat) : Int) > 1000)) (fun bV => [(0, .slice A n c), (1, .int .u8 m), (2, .int .u16 ((q : Nat) : Int)), (18, .bool bV)]) false rfl (by first | (simp; omega) | (simp; done) | simp [*]) ?_
  refine VL_pure 12 [0, 1, 2, 22] [(0, .slice A n c), (1, .int .u8 m), (2, .int .u16 ((q : Nat) : Int)), (22, .bool (((n : Nat) : Int) == 0))] (by kernel_rfl) rfl ?_
  refine VL_end (by kernel_rfl) ?_
  refine VQ_next ?_
  refine VC_is (b := ((n : Nat) : Int) == 0) true (by kernel_rfl) (by first | (simp; omega) | (simp; done) | simp [*]) ?_
  refine VC_ite_true ?_
  refine VC_seq ?_
  refine VC_region ?_
  have hzs2 := hS.size
  refine VL_call (d := 23) (f := 9) (args := #[]) (by kernel_rfl) (by kernel_rfl) (by kernel_rfl) Try.call9 (awake_any _) ?_
  rintro _ w2 ⟨rfl, hc2⟩
  replace hS := Step.trans hS hc2
  replace hA := hA.no hc2
  refine VL_pure 2 [6] [(6, .bool true)] (by kernel_rfl) rfl ?_
  refine VL_end (by kernel_rfl) ?_
  refine VQ_next ?_
  refine VC_ret ?_
  refine VQ_then_ret ?_
  refine VQ_ret1 (.bool true) (.inr rfl) rfl rfl ?_
  exact ⟨by first | rfl | (rw [many_48 (by omega)]; simp; done) | simp [*], hS⟩

set_option maxRecDepth 100000 in
set_option maxHeartbeats 4000000 in
theorem sizes_yes (A : Option Addr) (n c : Nat) (bs : List Int) (m : Int) (q : Nat) (w : World) (hn : bs.length = n) (hA : Sl w w.heap.size A (iL .u8 bs)) (hc : n ≤ c) (hb : Bytes bs) (hm : 0 ≤ m ∧ m < 256) (hq : q < 65536) (hlon : 1 ≤ n) (hhin : n ≤ 1000) :
    CV Try.prog 7 #[.slice A n c, .int .u8 m, .int .u16 ((q : Nat) : Int)] w (fun x w1 => x = .bool true ∧ Step No w w1) := by
  have hS : Step No w w := Step.refl _ _
  refine CV_enter Try.f7 _ 103 [(0, .slice A n c), (1, .int .u8 m), (2, .int .u16 ((q : Nat) : Int))] Try.func7 rfl rfl (by kernel_rfl) rfl ?_
  refine VC_seq ?_
  refine VC_region ?_
  refine VL_pure 1 [0, 1, 2] [(0, .slice A n c), (1, .int .u8 m), (2, .int .u16 ((q : Nat) : Int))] (by kernel_rfl) rfl ?_
  refine VL_end (by kernel_rfl) ?_
  refine VQ_next ?_
  refine VC_seq ?_
  refine VC_seq ?_
  refine VC_region ?_
  have hzs1 := hS.size
  refine VL_call (d := 11) (f := 9) (args := #[]) (by kernel_rfl) (by kernel_rfl) (by kernel_rfl) Try.call9 (awake_any _) ?_
  rintro _ w1 ⟨rfl, hc1⟩
  replace hS := Step.trans hS hc1
  replace hA := hA.no hc1
  refine VL_pure 8 [0, 1, 2, 18] [(0, .slice A n c), (1, .int .u8 m), (2, .int .u16 ((q : Nat) : Int)), (18, .bool (decide (((n : Nat) : Int) > 1000)))] (by kernel_rfl) rfl ?_
  refine VL_known (decide (((n : Nat) : Int) > 1000)) (fun bV => [(0, .slice A n c), (1, .int .u8 m), (2, .int .u16 ((q : Nat) : Int)), (18, .bool bV)]) false rfl (by first | (simp; omega) | (simp; done) | simp [*]) ?_
  refine VL_pure 12 [0, 1, 2, 22] [(0, .slice A n c), (1, .int .u8 m), (2, .int .u16 ((q : Nat) : Int)), (22, .bool (((n : Nat) : Int) == 0))] (by kernel_rfl) rfl ?_
  refine VL_end (by kernel_rfl) ?_
  refine VQ_next ?_
  refine VC_is (b := ((n : Nat) : Int) == 0) false (by kernel_rfl) (by first | (simp; omega) | (simp; done) | simp [*]) ?_
  refine VC_ite_false ?_
  refine VC_skip ?_
  refine VQ_next ?_
  refine VC_seq ?_
  refine VC_region ?_
  refine VL_pure 2 [0, 1, 2, 25, 26] [(0, .slice A n c), (1, .int .u8 m), (2, .int .u16 ((q : Nat) : Int)), (25, .slice A n c), (26, .int .u8 m)] (by kernel_rfl) rfl ?_
  have hzs2 := hS.size
  refine VL_call (d := 27) (f := 10) (by kernel_rfl) (by kernel_rfl) (by kernel_rfl) Try.call10 (pack_yes A n c _ bs _ hn hA m (by first | exact Nat.le_refl _ | omega) (by omega) (by omega)) ?_
  rintro _ w2 ⟨g1, c1, rfl, hggg1, hr1, hc2⟩
  replace hS := Step.trans hS hc2
  replace hA := hA.no hc2
  obtain ⟨base1, hbase1E⟩ : ∃ x, x = w1.heap.size := ⟨_, rfl⟩
  rw [← hbase1E] at hr1 hggg1
  have hbase1 : base1 ≤ w2.heap.size := by rw [hbase1E]; exact hc2.size
  have hglg1 : g1 < w2.heap.size := (Rw.openG hr1).choose_spec.2.1
  have hcapg1 := Rw.cap hr1
  have hmmq1 := (many_le n).2 (by omega)
  refine VL_pure 8 [0, 1, 2, 7, 8] [(0, .slice A n c), (1, .int .u8 m), (2, .int .u16 ((q : Nat) : Int)), (7, .slice (some ⟨g1, 0, none⟩) (48 * manyN n) c1), (8, .int .i64 0)] (by kernel_rfl) rfl ?_
  refine VL_end (by kernel_rfl) ?_
  refine VQ_next ?_
  refine VC_seq ?_
  refine VC_region ?_
  refine VL_pure 2 [0, 1, 7, 8, 31] [(0, .slice A n c), (1, .int .u8 m), (7, .slice (some ⟨g1, 0, none⟩) (48 * manyN n) c1), (8, .int .i64 0), (31, .int .i64 (IntKind.wrap .i64 ((q : Nat) : Int)))] (by kernel_rfl) rfl ?_
  have he1 : IntKind.wrap .i64 ((q : Nat) : Int) = ((q : Nat) : Int) := (by rw [wrap_i64 _ (by omega) (by omega)])
  refine VL_eq [(0, .slice A n c), (1, .int .u8 m), (7, .slice (some ⟨g1, 0, none⟩) (48 * manyN n) c1), (8, .int .i64 0), (31, .int .i64 ((q : Nat) : Int))] (by rw [he1]) ?_
  refine VL_pure 3 [0, 1, 7, 8, 9] [(0, .slice A n c), (1, .int .u8 m), (7, .slice (some ⟨g1, 0, none⟩) (48 * manyN n) c1), (8, .int .i64 0), (9, .int .i64 ((q : Nat) : Int))] (by kernel_rfl) rfl ?_
  refine VL_end (by kernel_rfl) ?_
  refine VQ_next ?_
  refine VC_seq ?_
  refine VC_seq ?_
  refine VC_region ?_
  refine VL_pure 8 [0, 1, 7, 9, 34, 36, 39] [(0, .slice A n c), (1, .int .u8 m), (7, .slice (some ⟨g1, 0, none⟩) (48 * manyN n) c1), (9, .int .i64 ((q : Nat) : Int)), (34, .bool false), (36, .int .i64 ((48 * manyN n : Nat) : Int)), (39, .int .i64 (IntKind.wrap .i64 (((n : Nat) : Int) + 8)))] (by kernel_rfl) rfl ?_
  have he2 : IntKind.wrap .i64 (((n : Nat) : Int) + 8) = ((n + 8 : Nat) : Int) := (by rw [wrap_i64 _ (by omega) (by omega)]; omega)
  refine VL_eq [(0, .slice A n c), (1, .int .u8 m), (7, .slice (some ⟨g1, 0, none⟩) (48 * manyN n) c1), (9, .int .i64 ((q : Nat) : Int)), (34, .bool false), (36, .int .i64 ((48 * manyN n : Nat) : Int)), (39, .int .i64 ((n + 8 : Nat) : Int))] (by rw [he2]) ?_
  refine VL_pure 11 [0, 1, 7, 9, 42] [(0, .slice A n c), (1, .int .u8 m), (7, .slice (some ⟨g1, 0, none⟩) (48 * manyN n) c1), (9, .int .i64 ((q : Nat) : Int)), (42, .bool (decide (((48 * manyN n : Nat) : Int) < ((n + 8 : Nat) : Int))))] (by kernel_rfl) rfl ?_
  refine VL_known (decide (((48 * manyN n : Nat) : Int) < ((n + 8 : Nat) : Int))) (fun bV => [(0, .slice A n c), (1, .int .u8 m), (7, .slice (some ⟨g1, 0, none⟩) (48 * manyN n) c1), (9, .int .i64 ((q : Nat) : Int)), (42, .bool bV)]) false rfl (decide_eq_false (by omega)) ?_
  refine VL_pure 16 [0, 1, 7, 9, 42, 44, 47] [(0, .slice A n c), (1, .int .u8 m), (7, .slice (some ⟨g1, 0, none⟩) (48 * manyN n) c1), (9, .int .i64 ((q : Nat) : Int)), (42, .bool false), (44, .int .i64 ((48 * manyN n : Nat) : Int)), (47, .int .i64 (IntKind.wrap .i64 (((n : Nat) : Int) + 8)))] (by kernel_rfl) rfl ?_
  have he3 : IntKind.wrap .i64 (((n : Nat) : Int) + 8) = ((n + 8 : Nat) : Int) := (by rw [wrap_i64 _ (by omega) (by omega)]; omega)
  refine VL_eq [(0, .slice A n c), (1, .int .u8 m), (7, .slice (some ⟨g1, 0, none⟩) (48 * manyN n) c1), (9, .int .i64 ((q : Nat) : Int)), (42, .bool false), (44, .int .i64 ((48 * manyN n : Nat) : Int)), (47, .int .i64 ((n + 8 : Nat) : Int))] (by rw [he3]) ?_
  refine VL_pure 17 [0, 1, 7, 9, 42, 44, 48] [(0, .slice A n c), (1, .int .u8 m), (7, .slice (some ⟨g1, 0, none⟩) (48 * manyN n) c1), (9, .int .i64 ((q : Nat) : Int)), (42, .bool false), (44, .int .i64 ((48 * manyN n : Nat) : Int)), (48, .int .i64 (IntKind.wrap .i64 (((n + 8 : Nat) : Int) + 48)))] (by kernel_rfl) rfl ?_
  have he4 : IntKind.wrap .i64 (((n + 8 : Nat) : Int) + 48) = ((n + 8 + 48 : Nat) : Int) := (by rw [wrap_i64 _ (by omega) (by omega)]; omega)
  refine VL_eq [(0, .slice A n c), (1, .int .u8 m), (7, .slice (some ⟨g1, 0, none⟩) (48 * manyN n) c1), (9, .int .i64 ((q : Nat) : Int)), (42, .bool false), (44, .int .i64 ((48 * manyN n : Nat) : Int)), (48, .int .i64 ((n + 8 + 48 : Nat) : Int))] (by rw [he4]) ?_
  refine VL_pure 20 [0, 1, 7, 9, 51] [(0, .slice A n c), (1, .int .u8 m), (7, .slice (some ⟨g1, 0, none⟩) (48 * manyN n) c1), (9, .int .i64 ((q : Nat) : Int)), (51, .bool (decide (((48 * manyN n : Nat) : Int) ≥ ((n + 8 + 48 : Nat) : Int))))] (by kernel_rfl) rfl ?_
  refine VL_known (decide (((48 * manyN n : Nat) : Int) ≥ ((n + 8 + 48 : Nat) : Int))) (fun bV => [(0, .slice A n c), (1, .int .u8 m), (7, .slice (some ⟨g1, 0, none⟩) (48 * manyN n) c1), (9, .int .i64 ((q : Nat) : Int)), (51, .bool bV)]) false rfl (decide_eq_false (by omega)) ?_
  refine VL_pure 24 [0, 1, 7, 9, 51, 52, 55] [(0, .slice A n c), (1, .int .u8 m), (7, .slice (some ⟨g1, 0, none⟩) (48 * manyN n) c1), (9, .int .i64 ((q : Nat) : Int)), (51, .bool false), (52, .slice (some ⟨g1, 0, none⟩) (48 * manyN n) c1), (55, .int .i64 (IntKind.wrap .i64 (((48 * manyN n : Nat) : Int) - 8)))] (by kernel_rfl) rfl ?_
  have he5 : IntKind.wrap .i64 (((48 * manyN n : Nat) : Int) - 8) = (((48 * manyN n) - 8 : Nat) : Int) := (by rw [wrap_i64 _ (by omega) (by omega)]; omega)
  refine VL_eq [(0, .slice A n c), (1, .int .u8 m), (7, .slice (some ⟨g1, 0, none⟩) (48 * manyN n) c1), (9, .int .i64 ((q : Nat) : Int)), (51, .bool false), (52, .slice (some ⟨g1, 0, none⟩) (48 * manyN n) c1), (55, .int .i64 (((48 * manyN n) - 8 : Nat) : Int))] (by rw [he5]) ?_
  refine VL_index (d := 56) (b := g1) (o := 0) (len := (48 * manyN n)) (sz := 1) (m := (((48 * manyN n) - 8 : Nat) : Int)) (by kernel_rfl) (by kernel_rfl) ((48 * manyN n) - 8) (by rfl) (by omega) ((48 * manyN n) - 8) (by omega) ?_
  refine VL_load (d := 57) (t := 5) (a := ⟨g1, ((48 * manyN n) - 8), none⟩) (v := .int .u8 ((frameF bs m).getD ((48 * manyN n) - 8) 0)) (by kernel_rfl) (by kernel_rfl) (Rw.ldI hr1 (by kernel_rfl) (by omega)) ?_
  refine VL_pure 30 [0, 7, 9, 61] [(0, .slice A n c), (7, .slice (some ⟨g1, 0, none⟩) (48 * manyN n) c1), (9, .int .i64 ((q : Nat) : Int)), (61, .bool (((frameF bs m).getD ((48 * manyN n) - 8) 0) != m))] (by kernel_rfl) rfl ?_
  refine VL_known (((frameF bs m).getD ((48 * manyN n) - 8) 0) != m) (fun bV => [(0, .slice A n c), (7, .slice (some ⟨g1, 0, none⟩) (48 * manyN n) c1), (9, .int .i64 ((q : Nat) : Int)), (61, .bool bV)]) false rfl (by rw [frame_mark hn (by omega)]; simp) ?_
  refine VL_pure 33 [0, 7, 9, 61, 62, 64] [(0, .slice A n c), (7, .slice (some ⟨g1, 0, none⟩) (48 * manyN n) c1), (9, .int .i64 ((q : Nat) : Int)), (61, .bool false), (62, .slice (some ⟨g1, 0, none⟩) (48 * manyN n) c1), (64, .int .i64 ((n : Nat) : Int))] (by kernel_rfl) rfl ?_
  have hcap1 := Rw.cap hr1
  have hln1 := Rw.lenI hr1
  refine VL_slice (d := 65) (b := g1) (o := 0) (sz := 1) (len := (48 * manyN n)) (cap := c1) (lo := none) (hi := (some ((n : Nat) : Int))) (mx := none) (by kernel_rfl) (by kernel_rfl) (fun h => by first | exact absurd rfl h | exact (fun h => by cases h)) 0 n c1 rfl rfl rfl (by omega) (by omega) (by omega) 0 (by split <;> omega) n (by omega) c1 (by omega) ?_
  have hsl1 := Sl.takeI (Rw.slI hr1) n
  refine VL_pure 35 [0, 7, 9, 61, 65, 66] [(0, .slice A n c), (7, .slice (some ⟨g1, 0, none⟩) (48 * manyN n) c1), (9, .int .i64 ((q : Nat) : Int)), (61, .bool false), (65, .slice (some ⟨g1, 0, none⟩) n c1), (66, .slice A n c)] (by kernel_rfl) rfl ?_
  have hzs3 := hS.size
  refine VL_call (d := 67) (f := 14) (args := #[.slice (some ⟨g1, 0, none⟩) n c1, .slice A n c]) (by kernel_rfl) (by kernel_rfl) (by kernel_rfl) Try.call14 (same_any (some ⟨g1, 0, none⟩) n c1 _ ((frameF bs m).take n) A n c _ bs _ (by simp only [List.length_take, List.length_drop]; omega) hsl1 hn hA (by omega) (by omega) (by first | exact Nat.le_refl _ | omega) (by first | exact Nat.le_refl _ | omega)) ?_
  rintro _ w3 ⟨rfl, hc3⟩
  replace hS := Step.trans hS hc3
  replace hA := hA.no hc3
  replace hbase1 := Nat.le_trans hbase1 (hc3).size
  replace hglg1 := Nat.lt_of_lt_of_le hglg1 (hc3).size
  replace hr1 := hr1.no hc3
  replace hsl1 := hsl1.no hc3
  refine VL_pure 38 [0, 7, 9, 69] [(0, .slice A n c), (7, .slice (some ⟨g1, 0, none⟩) (48 * manyN n) c1), (9, .int .i64 ((q : Nat) : Int)), (69, .bool (!(((frameF bs m).take n) == bs)))] (by kernel_rfl) rfl ?_
  refine VL_end (by kernel_rfl) ?_
  refine VQ_next ?_
  refine VC_is (b := !(((frameF bs m).take n) == bs)) false (by kernel_rfl) (by rw [show (((frameF bs m).take n) == bs) = true from (frame_take' m hn)]; rfl) ?_
  refine VC_ite_false ?_
  refine VC_skip ?_
  refine VQ_next ?_
  refine VC_seq ?_
  refine VC_seq ?_
  refine VC_region ?_
  refine VL_pure 3 [7, 9, 10] [(7, .slice (some ⟨g1, 0, none⟩) (48 * manyN n) c1), (9, .int .i64 ((q : Nat) : Int)), (10, .int .i64 ((n : Nat) : Int))] (by kernel_rfl) rfl ?_
  refine VL_end (by kernel_rfl) ?_
  refine VQ_next ?_
  refine VC_block ?_
  refine VC_loop (σ := Nat) (fun σs => [(7, .slice (some ⟨g1, 0, none⟩) (48 * manyN n) c1), (9, .int .i64 ((q : Nat) : Int)), (10, .int .i64 ((σs : Nat) : Int))]) (fun σs w4 => (n ≤ σs) ∧ (σs ≤ 48 * manyN n - 8) ∧ (Step No w w4) ∧ (Sl w4 (w.heap.size) A (iL .u8 bs)) ∧ (base1 ≤ w4.heap.size) ∧ (g1 < w4.heap.size) ∧ (Rw w4 base1 5 (some ⟨g1, 0, none⟩) (48 * manyN n) c1 (iL .u8 (frameF bs m))) ∧ (Sl w4 w2.heap.size (some ⟨g1, 0, none⟩) (iL .u8 ((frameF bs m).take n)))) (fun σs w4 => 48 * manyN n - σs) n ⟨rfl, rfl, rfl, trivial⟩ ?_ ?_
  · exact ⟨Nat.le_refl _, (by omega), hS, hA, hbase1, hglg1, hr1, hsl1⟩
  rintro i w4 ⟨hi0, hi1, hS, hA, hbase1, hglg1, hr1, hsl1⟩
  try dsimp only at hi0 hi1 hS hA hbase1 hglg1 hr1 hsl1 ⊢
  refine VC_seq ?_
  refine VC_seq ?_
  refine VC_region ?_
  refine VL_pure 4 [7, 9, 10, 72, 75] [(7, .slice (some ⟨g1, 0, none⟩) (48 * manyN n) c1), (9, .int .i64 ((q : Nat) : Int)), (10, .int .i64 ((i : Nat) : Int)), (72, .int .i64 ((i : Nat) : Int)), (75, .int .i64 (IntKind.wrap .i64 (((48 * manyN n : Nat) : Int) - 8)))] (by kernel_rfl) rfl ?_
  have he6 : IntKind.wrap .i64 (((48 * manyN n : Nat) : Int) - 8) = (((48 * manyN n) - 8 : Nat) : Int) := (by rw [wrap_i64 _ (by omega) (by omega)]; omega)
  refine VL_eq [(7, .slice (some ⟨g1, 0, none⟩) (48 * manyN n) c1), (9, .int .i64 ((q : Nat) : Int)), (10, .int .i64 ((i : Nat) : Int)), (72, .int .i64 ((i : Nat) : Int)), (75, .int .i64 (((48 * manyN n) - 8 : Nat) : Int))] (by rw [he6]) ?_
  refine VL_pure 5 [7, 9, 10, 76] [(7, .slice (some ⟨g1, 0, none⟩) (48 * manyN n) c1), (9, .int .i64 ((q : Nat) : Int)), (10, .int .i64 ((i : Nat) : Int)), (76, .bool (decide (((i : Nat) : Int) < (((48 * manyN n) - 8 : Nat) : Int))))] (by kernel_rfl) rfl ?_
  refine VL_end (by kernel_rfl) ?_
  refine VQ_next ?_
  refine VC_dec (((i : Nat) : Int) < (((48 * manyN n) - 8 : Nat) : Int)) (by kernel_rfl) (fun h1 => ?_) (fun h1 => ?_)
  · refine VC_skip ?_
    refine VQ_next ?_
    refine VC_seq ?_
    refine VC_block ?_
    refine VC_seq ?_
    refine VC_region ?_
    refine VL_pure 2 [7, 9, 10, 79, 80] [(7, .slice (some ⟨g1, 0, none⟩) (48 * manyN n) c1), (9, .int .i64 ((q : Nat) : Int)), (10, .int .i64 ((i : Nat) : Int)), (79, .slice (some ⟨g1, 0, none⟩) (48 * manyN n) c1), (80, .int .i64 ((i : Nat) : Int))] (by kernel_rfl) rfl ?_
    refine VL_index (d := 81) (b := g1) (o := 0) (len := (48 * manyN n)) (sz := 1) (m := ((i : Nat) : Int)) (by kernel_rfl) (by kernel_rfl) i (by rfl) (by omega) i (by omega) ?_
    refine VL_load (d := 82) (t := 5) (a := ⟨g1, i, none⟩) (v := .int .u8 ((frameF bs m).getD i 0)) (by kernel_rfl) (by kernel_rfl) (Rw.ldI hr1 (by kernel_rfl) (by omega)) ?_
    refine VL_pure 5 [7, 9, 10, 83] [(7, .slice (some ⟨g1, 0, none⟩) (48 * manyN n) c1), (9, .int .i64 ((q : Nat) : Int)), (10, .int .i64 ((i : Nat) : Int)), (83, .bool (((frameF bs m).getD i 0) != 0))] (by kernel_rfl) rfl ?_
    refine VL_end (by kernel_rfl) ?_
    refine VQ_next ?_
    refine VC_is (b := ((frameF bs m).getD i 0) != 0) false (by kernel_rfl) (by rw [frame_pad hn (by omega) (by omega) (by omega)]; rfl) ?_
    refine VC_ite_false ?_
    refine VC_skip ?_
    refine VQ_block_normal ?_
    refine VQ_next ?_
    refine VC_region ?_
    refine VL_pure 2 [7, 9, 78] [(7, .slice (some ⟨g1, 0, none⟩) (48 * manyN n) c1), (9, .int .i64 ((q : Nat) : Int)), (78, .int .i64 (IntKind.wrap .i64 (((i : Nat) : Int) + 1)))] (by kernel_rfl) rfl ?_
    have he7 : IntKind.wrap .i64 (((i : Nat) : Int) + 1) = ((i + 1 : Nat) : Int) := (by rw [wrap_i64 _ (by omega) (by omega)]; omega)
    refine VL_eq [(7, .slice (some ⟨g1, 0, none⟩) (48 * manyN n) c1), (9, .int .i64 ((q : Nat) : Int)), (78, .int .i64 ((i + 1 : Nat) : Int))] (by rw [he7]) ?_
    refine VL_pure 3 [7, 9, 10] [(7, .slice (some ⟨g1, 0, none⟩) (48 * manyN n) c1), (9, .int .i64 ((q : Nat) : Int)), (10, .int .i64 ((i + 1 : Nat) : Int))] (by kernel_rfl) rfl ?_
    refine VL_end (by kernel_rfl) ?_
    refine VQ_again (i + 1) ⟨rfl, rfl, rfl, trivial⟩ ?_ ?_
    · exact ⟨(by omega), (by omega), hS, hA, hbase1, hglg1, hr1, hsl1⟩
    · (try dsimp only); omega
  · refine VC_exit ?_
    refine VQ_then_exit ?_
    refine VQ_then_exit ?_
    refine VQ_block_hit ?_
    refine VQ_next ?_
    refine VC_seq ?_
    refine VC_region ?_
    refine VL_pure 1 [9, 84] [(9, .int .i64 ((q : Nat) : Int)), (84, .int .i64 ((q : Nat) : Int))] (by kernel_rfl) rfl ?_
    have hzs4 := hS.size
    refine VL_call (d := 85) (f := 16) (args := #[.int .i64 ((q : Nat) : Int)]) (by kernel_rfl) (by kernel_rfl) (by kernel_rfl) Try.call16 (many_nat q _ (by omega)) ?_
    rintro _ w5 ⟨rfl, hc4⟩
    replace hS := Step.trans hS hc4
    replace hA := hA.no hc4
    replace hbase1 := Nat.le_trans hbase1 (hc4).size
    replace hglg1 := Nat.lt_of_lt_of_le hglg1 (hc4).size
    replace hr1 := hr1.no hc4
    replace hsl1 := hsl1.no hc4
    have hmnq2 := many_le q
    refine VL_pure 4 [9, 85, 87] [(9, .int .i64 ((q : Nat) : Int)), (85, .int .i64 ((manyN q : Nat) : Int)), (87, .int .i64 (IntKind.wrap .i64 (((q : Nat) : Int) + 1)))] (by kernel_rfl) rfl ?_
    have he8 : IntKind.wrap .i64 (((q : Nat) : Int) + 1) = ((q + 1 : Nat) : Int) := (by rw [wrap_i64 _ (by omega) (by omega)]; omega)
    refine VL_eq [(9, .int .i64 ((q : Nat) : Int)), (85, .int .i64 ((manyN q : Nat) : Int)), (87, .int .i64 ((q + 1 : Nat) : Int))] (by rw [he8]) ?_
    have hzs5 := hS.size
    refine VL_call (d := 88) (f := 16) (args := #[.int .i64 ((q + 1 : Nat) : Int)]) (by kernel_rfl) (by kernel_rfl) (by kernel_rfl) Try.call16 (many_nat (q + 1) _ (by omega)) ?_
    rintro _ w6 ⟨rfl, hc5⟩
    replace hS := Step.trans hS hc5
    replace hA := hA.no hc5
    replace hbase1 := Nat.le_trans hbase1 (hc5).size
    replace hglg1 := Nat.lt_of_lt_of_le hglg1 (hc5).size
    replace hr1 := hr1.no hc5
    replace hsl1 := hsl1.no hc5
    have hmnq3 := many_le (q + 1)
    refine VL_pure 7 [9, 90] [(9, .int .i64 ((q : Nat) : Int)), (90, .bool (decide (((manyN q : Nat) : Int) ≤ ((manyN (q + 1) : Nat) : Int))))] (by kernel_rfl) rfl ?_
    refine VL_known (decide (((manyN q : Nat) : Int) ≤ ((manyN (q + 1) : Nat) : Int))) (fun bV => [(9, .int .i64 ((q : Nat) : Int)), (90, .bool bV)]) true rfl (decide_eq_true (by have := many_mono q; omega)) ?_
    refine VL_pure 10 [9, 90, 93] [(9, .int .i64 ((q : Nat) : Int)), (90, .bool true), (93, .bool (decide (((q : Nat) : Int) < 1)))] (by kernel_rfl) rfl ?_
    refine VL_dec (((q : Nat) : Int) < 1) (fun bV => [(9, .int .i64 ((q : Nat) : Int)), (90, .bool true), (93, .bool bV)]) rfl (fun hg1 => ?_) (fun hg1 => ?_)
    · refine VL_pure 20 [6] [(6, .bool true)] (by kernel_rfl) rfl ?_
      refine VL_end (by kernel_rfl) ?_
      refine VQ_next ?_
      refine VC_ret ?_
      refine VQ_ret1 (.bool true) (.inr rfl) rfl rfl ?_
      exact ⟨by first | rfl | (rw [many_48 (by omega)]; simp; done) | simp [*], hS⟩
    · refine VL_pure 12 [9, 90, 93, 95] [(9, .int .i64 ((q : Nat) : Int)), (90, .bool true), (93, .bool false), (95, .int .i64 (IntKind.wrap .i64 (((q : Nat) : Int) + 48)))] (by kernel_rfl) rfl ?_
      have he9 : IntKind.wrap .i64 (((q : Nat) : Int) + 48) = ((q + 48 : Nat) : Int) := (by rw [wrap_i64 _ (by omega) (by omega)]; omega)
      refine VL_eq [(9, .int .i64 ((q : Nat) : Int)), (90, .bool true), (93, .bool false), (95, .int .i64 ((q + 48 : Nat) : Int))] (by rw [he9]) ?_
      have hzs6 := hS.size
      refine VL_call (d := 96) (f := 16) (args := #[.int .i64 ((q + 48 : Nat) : Int)]) (by kernel_rfl) (by kernel_rfl) (by kernel_rfl) Try.call16 (many_nat (q + 48) _ (by omega)) ?_
      rintro _ w7 ⟨rfl, hc6⟩
      replace hS := Step.trans hS hc6
      replace hA := hA.no hc6
      replace hbase1 := Nat.le_trans hbase1 (hc6).size
      replace hglg1 := Nat.lt_of_lt_of_le hglg1 (hc6).size
      replace hr1 := hr1.no hc6
      replace hsl1 := hsl1.no hc6
      have hmnq4 := many_le (q + 48)
      refine VL_pure 14 [90, 93, 96, 97] [(90, .bool true), (93, .bool false), (96, .int .i64 ((manyN (q + 48) : Nat) : Int)), (97, .int .i64 ((q : Nat) : Int))] (by kernel_rfl) rfl ?_
      have hzs7 := hS.size
      refine VL_call (d := 98) (f := 16) (args := #[.int .i64 ((q : Nat) : Int)]) (by kernel_rfl) (by kernel_rfl) (by kernel_rfl) Try.call16 (many_nat q _ (by omega)) ?_
      rintro _ w8 ⟨rfl, hc7⟩
      replace hS := Step.trans hS hc7
      replace hA := hA.no hc7
      replace hbase1 := Nat.le_trans hbase1 (hc7).size
      replace hglg1 := Nat.lt_of_lt_of_le hglg1 (hc7).size
      replace hr1 := hr1.no hc7
      replace hsl1 := hsl1.no hc7
      have hmnq5 := many_le q
      refine VL_pure 16 [90, 93, 96, 99] [(90, .bool true), (93, .bool false), (96, .int .i64 ((manyN (q + 48) : Nat) : Int)), (99, .int .i64 (IntKind.wrap .i64 (((manyN q : Nat) : Int) + 1)))] (by kernel_rfl) rfl ?_
      have he10 : IntKind.wrap .i64 (((manyN q : Nat) : Int) + 1) = ((manyN q + 1 : Nat) : Int) := (by rw [wrap_i64 _ (by omega) (by omega)]; omega)
      refine VL_eq [(90, .bool true), (93, .bool false), (96, .int .i64 ((manyN (q + 48) : Nat) : Int)), (99, .int .i64 ((manyN q + 1 : Nat) : Int))] (by rw [he10]) ?_
      refine VL_pure 20 [6] [(6, .bool (((manyN (q + 48) : Nat) : Int) == ((manyN q + 1 : Nat) : Int)))] (by kernel_rfl) rfl ?_
      refine VL_end (by kernel_rfl) ?_
      refine VQ_next ?_
      refine VC_ret ?_
      refine VQ_ret1 (.bool (((manyN (q + 48) : Nat) : Int) == ((manyN q + 1 : Nat) : Int))) (.inr rfl) rfl rfl ?_
      exact ⟨by first | rfl | (rw [many_48 (by omega)]; simp; done) | simp [*], hS⟩

set_option maxRecDepth 100000 in
set_option maxHeartbeats 4000000 in
theorem sizes_o (A : Option Addr) (n c : Nat) (bs : List Int) (m : Int) (q : Nat) (w : World) (hn : bs.length = n) (hA : Sl w w.heap.size A (iL .u8 bs)) (hc : n ≤ c) (hb : Bytes bs) (hm : 0 ≤ m ∧ m < 256) (hq : q < 65536) (hlon : 1001 ≤ n) :
    CV Try.prog 7 #[.slice A n c, .int .u8 m, .int .u16 ((q : Nat) : Int)] w (fun x w1 => x = .bool true ∧ Step No w w1) := by
  have hS : Step No w w := Step.refl _ _
  refine CV_enter Try.f7 _ 103 [(0, .slice A n c), (1, .int .u8 m), (2, .int .u16 ((q : Nat) : Int))] Try.func7 rfl rfl (by kernel_rfl) rfl ?_
  refine VC_seq ?_
  refine VC_region ?_
  refine VL_pure 1 [0, 1, 2] [(0, .slice A n c), (1, .int .u8 m), (2, .int .u16 ((q : Nat) : Int))] (by kernel_rfl) rfl ?_
  refine VL_end (by kernel_rfl) ?_
  refine VQ_next ?_
  refine VC_seq ?_
  refine VC_seq ?_
  refine VC_region ?_
  have hzs1 := hS.size
  refine VL_call (d := 11) (f := 9) (args := #[]) (by kernel_rfl) (by kernel_rfl) (by kernel_rfl) Try.call9 (awake_any _) ?_
  rintro _ w1 ⟨rfl, hc1⟩
  replace hS := Step.trans hS hc1
  replace hA := hA.no hc1
  refine VL_pure 8 [0, 1, 2, 18] [(0, .slice A n c), (1, .int .u8 m), (2, .int .u16 ((q : Nat) : Int)), (18, .bool (decide (((n : Nat) : Int) > 1000)))] (by kernel_rfl) rfl ?_
  refine VL_known (decide (((n : Nat) : Int) > 1000)) (fun bV => [(0, .slice A n c), (1, .int .u8 m), (2, .int .u16 ((q : Nat) : Int)), (18, .bool bV)]) true rfl (by first | (simp; omega) | (simp; done) | simp [*]) ?_
  refine VL_pure 12 [0, 1, 2, 22] [(0, .slice A n c), (1, .int .u8 m), (2, .int .u16 ((q : Nat) : Int)), (22, .bool true)] (by kernel_rfl) rfl ?_
  refine VL_end (by kernel_rfl) ?_
  refine VQ_next ?_
  refine VC_true (by kernel_rfl) ?_
  refine VC_seq ?_
  refine VC_region ?_
  have hzs2 := hS.size
  refine VL_call (d := 23) (f := 9) (args := #[]) (by kernel_rfl) (by kernel_rfl) (by kernel_rfl) Try.call9 (awake_any _) ?_
  rintro _ w2 ⟨rfl, hc2⟩
  replace hS := Step.trans hS hc2
  replace hA := hA.no hc2
  refine VL_pure 2 [6] [(6, .bool true)] (by kernel_rfl) rfl ?_
  refine VL_end (by kernel_rfl) ?_
  refine VQ_next ?_
  refine VC_ret ?_
  refine VQ_then_ret ?_
  refine VQ_ret1 (.bool true) (.inr rfl) rfl rfl ?_
  exact ⟨by first | rfl | (rw [many_48 (by omega)]; simp; done) | simp [*], hS⟩

end Go.Proofs.Ytfgmlgkopphekaa
