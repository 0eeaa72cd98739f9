/- Layer 10: FrameBack. -/
import Derived.Test.YtfgmlgkopphekaaProg
import Derived.Test.YtfgmlgkopphekaaFr9
set_option linter.unusedVariables false
set_option linter.unusedSimpArgs false
namespace Go.Proofs.Ytfgmlgkopphekaa
open Go.Vc Go.RowKit

set_option maxRecDepth 100000 in
set_option maxHeartbeats 4000000 in
theorem back_0 (A : Option Addr) (n c : Nat) (bs : List Int) (m : Int) (w : World) (hn : bs.length = n) (hA : Sl w w.heap.size A (iL .u8 bs)) (hc : n ≤ c) (hb : Bytes bs) (hm : 0 ≤ m ∧ m < 256) (h0 : n = 0) :
    CV Try.prog 5 #[.slice A n c, .int .u8 m] w (fun x w1 => x = .bool true ∧ Step No w w1) := by
  have hS : Step No w w := Step.refl _ _
  refine CV_enter Try.f5 _ 87 [(0, .slice A n c), (1, .int .u8 m)] Try.func5 rfl rfl (by kernel_rfl) rfl ?_
  refine VC_seq ?_
  refine VC_region ?_
  refine VL_pure 1 [0, 1] [(0, .slice A n c), (1, .int .u8 m)] (by kernel_rfl) rfl ?_
  refine VL_end (by kernel_rfl) ?_
  refine VQ_next ?_
  refine VC_seq ?_
  refine VC_seq ?_
  refine VC_region ?_
  have hzs1 := hS.size
  refine VL_call (d := 10) (f := 9) (args := #[]) (by kernel_rfl) (by kernel_rfl) (by kernel_rfl) Try.call9 (awake_any _) ?_
  rintro _ w1 ⟨rfl, hc1⟩
  replace hS := Step.trans hS hc1
  replace hA := hA.no hc1
  refine VL_pure 7 [0, 1, 16] [(0, .slice A n c), (1, .int .u8 m), (16, .bool (decide (((n : Nat) : Int) > 2000)))] (by kernel_rfl) rfl ?_
  refine VL_end (by kernel_rfl) ?_
  refine VQ_next ?_
  refine VC_is (b := decide (((n : Nat) : Int) > 2000)) false (by kernel_rfl) (by simp; omega) ?_
  refine VC_ite_false ?_
  refine VC_skip ?_
  refine VQ_next ?_
  refine VC_seq ?_
  refine VC_region ?_
  refine VL_pure 2 [0, 1, 19, 20] [(0, .slice A n c), (1, .int .u8 m), (19, .slice A n c), (20, .int .u8 m)] (by kernel_rfl) rfl ?_
  have hzs2 := hS.size
  refine VL_call (d := 21) (f := 10) (by kernel_rfl) (by kernel_rfl) (by kernel_rfl) Try.call10 (pack_0 A n c _ bs _ hn hA m (by first | exact Nat.le_refl _ | omega) (by omega)) ?_
  rintro _ w2 ⟨rfl, hc2⟩
  replace hS := Step.trans hS hc2
  replace hA := hA.no hc2
  refine VL_pure 8 [0, 1, 5, 6] [(0, .slice A n c), (1, .int .u8 m), (5, .slice none 0 0), (6, .int .i64 1)] (by kernel_rfl) rfl ?_
  refine VL_end (by kernel_rfl) ?_
  refine VQ_next ?_
  refine VC_seq ?_
  refine VC_seq ?_
  refine VC_region ?_
  refine VL_pure 4 [0, 1, 5, 6, 27] [(0, .slice A n c), (1, .int .u8 m), (5, .slice none 0 0), (6, .int .i64 1), (27, .bool (((n : Nat) : Int) == 0))] (by kernel_rfl) rfl ?_
  refine VL_known (((n : Nat) : Int) == 0) (fun bV => [(0, .slice A n c), (1, .int .u8 m), (5, .slice none 0 0), (6, .int .i64 1), (27, .bool bV)]) true rfl (by simp; omega) ?_
  refine VL_pure 8 [0, 1, 5, 6, 31] [(0, .slice A n c), (1, .int .u8 m), (5, .slice none 0 0), (6, .int .i64 1), (31, .bool true)] (by kernel_rfl) rfl ?_
  refine VL_end (by kernel_rfl) ?_
  refine VQ_next ?_
  refine VC_true (by kernel_rfl) ?_
  refine VC_seq ?_
  refine VC_region ?_
  refine VL_pure 8 [4] [(4, .bool true)] (by kernel_rfl) rfl ?_
  refine VL_end (by kernel_rfl) ?_
  refine VQ_next ?_
  refine VC_ret ?_
  refine VQ_then_ret ?_
  refine VQ_ret1 (.bool true) (.inr rfl) rfl rfl ?_
  exact ⟨by first | rfl | simp [*], hS⟩

set_option maxRecDepth 100000 in
set_option maxHeartbeats 4000000 in
theorem back_long (A : Option Addr) (n c : Nat) (bs : List Int) (m : Int) (w : World) (hn : bs.length = n) (hA : Sl w w.heap.size A (iL .u8 bs)) (hc : n ≤ c) (hb : Bytes bs) (hm : 0 ≤ m ∧ m < 256) (h0 : 1000 < n) (h1 : n ≤ 2000) :
    CV Try.prog 5 #[.slice A n c, .int .u8 m] w (fun x w1 => x = .bool true ∧ Step No w w1) := by
  have hS : Step No w w := Step.refl _ _
  refine CV_enter Try.f5 _ 87 [(0, .slice A n c), (1, .int .u8 m)] Try.func5 rfl rfl (by kernel_rfl) rfl ?_
  refine VC_seq ?_
  refine VC_region ?_
  refine VL_pure 1 [0, 1] [(0, .slice A n c), (1, .int .u8 m)] (by kernel_rfl) rfl ?_
  refine VL_end (by kernel_rfl) ?_
  refine VQ_next ?_
  refine VC_seq ?_
  refine VC_seq ?_
  refine VC_region ?_
  have hzs1 := hS.size
  refine VL_call (d := 10) (f := 9) (args := #[]) (by kernel_rfl) (by kernel_rfl) (by kernel_rfl) Try.call9 (awake_any _) ?_
  rintro _ w1 ⟨rfl, hc1⟩
  replace hS := Step.trans hS hc1
  replace hA := hA.no hc1
  refine VL_pure 7 [0, 1, 16] [(0, .slice A n c), (1, .int .u8 m), (16, .bool (decide (((n : Nat) : Int) > 2000)))] (by kernel_rfl) rfl ?_
  refine VL_end (by kernel_rfl) ?_
  refine VQ_next ?_
  refine VC_is (b := decide (((n : Nat) : Int) > 2000)) false (by kernel_rfl) (by simp; omega) ?_
  refine VC_ite_false ?_
  refine VC_skip ?_
  refine VQ_next ?_
  refine VC_seq ?_
  refine VC_region ?_
  refine VL_pure 2 [0, 1, 19, 20] [(0, .slice A n c), (1, .int .u8 m), (19, .slice A n c), (20, .int .u8 m)] (by kernel_rfl) rfl ?_
  have hzs2 := hS.size
  refine VL_call (d := 21) (f := 10) (by kernel_rfl) (by kernel_rfl) (by kernel_rfl) Try.call10 (pack_long A n c _ bs _ hn hA m (by first | exact Nat.le_refl _ | omega) (by omega)) ?_
  rintro _ w2 ⟨rfl, hc2⟩
  replace hS := Step.trans hS hc2
  replace hA := hA.no hc2
  refine VL_pure 8 [0, 1, 5, 6] [(0, .slice A n c), (1, .int .u8 m), (5, .slice none 0 0), (6, .int .i64 6)] (by kernel_rfl) rfl ?_
  refine VL_end (by kernel_rfl) ?_
  refine VQ_next ?_
  refine VC_seq ?_
  refine VC_seq ?_
  refine VC_region ?_
  refine VL_pure 4 [0, 1, 5, 6, 27] [(0, .slice A n c), (1, .int .u8 m), (5, .slice none 0 0), (6, .int .i64 6), (27, .bool (((n : Nat) : Int) == 0))] (by kernel_rfl) rfl ?_
  refine VL_known (((n : Nat) : Int) == 0) (fun bV => [(0, .slice A n c), (1, .int .u8 m), (5, .slice none 0 0), (6, .int .i64 6), (27, .bool bV)]) false rfl (by simp; omega) ?_
  refine VL_pure 8 [0, 1, 5, 6, 31] [(0, .slice A n c), (1, .int .u8 m), (5, .slice none 0 0), (6, .int .i64 6), (31, .bool (decide (((n : Nat) : Int) > 1000)))] (by kernel_rfl) rfl ?_
  refine VL_end (by kernel_rfl) ?_
  refine VQ_next ?_
  refine VC_is (b := decide (((n : Nat) : Int) > 1000)) true (by kernel_rfl) (by simp; omega) ?_
  refine VC_ite_true ?_
  refine VC_seq ?_
  refine VC_region ?_
  refine VL_pure 8 [4] [(4, .bool true)] (by kernel_rfl) rfl ?_
  refine VL_end (by kernel_rfl) ?_
  refine VQ_next ?_
  refine VC_ret ?_
  refine VQ_then_ret ?_
  refine VQ_ret1 (.bool true) (.inr rfl) rfl rfl ?_
  exact ⟨by first | rfl | simp [*], hS⟩

set_option maxRecDepth 100000 in
set_option maxHeartbeats 4000000 in
theorem back_yes (A : Option Addr) (n c : Nat) (bs : List Int) (m : Int) (w : World) (hn : bs.length = n) (hA : Sl w w.heap.size A (iL .u8 bs)) (hc : n ≤ c) (hb : Bytes bs) (hm : 0 ≤ m ∧ m < 256) (h0 : 0 < n) (h1 : n ≤ 1000) :
    CV Try.prog 5 #[.slice A n c, .int .u8 m] w (fun x w1 => x = .bool true ∧ Step No w w1) := by
  have hS : Step No w w := Step.refl _ _
  refine CV_enter Try.f5 _ 87 [(0, .slice A n c), (1, .int .u8 m)] Try.func5 rfl rfl (by kernel_rfl) rfl ?_
  refine VC_seq ?_
  refine VC_region ?_
  refine VL_pure 1 [0, 1] [(0, .slice A n c), (1, .int .u8 m)] (by kernel_rfl) rfl ?_
  refine VL_end (by kernel_rfl) ?_
  refine VQ_next ?_
  refine VC_seq ?_
  refine VC_seq ?_
  refine VC_region ?_
  have hzs1 := hS.size
  refine VL_call (d := 10) (f := 9) (args := #[]) (by kernel_rfl) (by kernel_rfl) (by kernel_rfl) Try.call9 (awake_any _) ?_
  rintro _ w1 ⟨rfl, hc1⟩
  replace hS := Step.trans hS hc1
  replace hA := hA.no hc1
  refine VL_pure 7 [0, 1, 16] [(0, .slice A n c), (1, .int .u8 m), (16, .bool (decide (((n : Nat) : Int) > 2000)))] (by kernel_rfl) rfl ?_
  refine VL_end (by kernel_rfl) ?_
  refine VQ_next ?_
  refine VC_is (b := decide (((n : Nat) : Int) > 2000)) false (by kernel_rfl) (by simp; omega) ?_
  refine VC_ite_false ?_
  refine VC_skip ?_
  refine VQ_next ?_
  refine VC_seq ?_
  refine VC_region ?_
  refine VL_pure 2 [0, 1, 19, 20] [(0, .slice A n c), (1, .int .u8 m), (19, .slice A n c), (20, .int .u8 m)] (by kernel_rfl) rfl ?_
  have hzs2 := hS.size
  refine VL_call (d := 21) (f := 10) (by kernel_rfl) (by kernel_rfl) (by kernel_rfl) Try.call10 (pack_yes A n c _ bs _ hn hA m (by first | exact Nat.le_refl _ | omega) (by omega) (by omega)) ?_
  rintro _ w2 ⟨g1, c1, rfl, hggg1, hr1, hc2⟩
  replace hS := Step.trans hS hc2
  replace hA := hA.no hc2
  obtain ⟨base1, hbase1E⟩ : ∃ x, x = w1.heap.size := ⟨_, rfl⟩
  rw [← hbase1E] at hr1 hggg1
  have hbase1 : base1 ≤ w2.heap.size := by rw [hbase1E]; exact hc2.size
  have hglg1 : g1 < w2.heap.size := (Rw.openG hr1).choose_spec.2.1
  have hcapg1 := Rw.cap hr1
  have hmmq1 := (many_le n).2 (by omega)
  refine VL_pure 8 [0, 1, 5, 6] [(0, .slice A n c), (1, .int .u8 m), (5, .slice (some ⟨g1, 0, none⟩) (48 * manyN n) c1), (6, .int .i64 0)] (by kernel_rfl) rfl ?_
  refine VL_end (by kernel_rfl) ?_
  refine VQ_next ?_
  refine VC_seq ?_
  refine VC_seq ?_
  refine VC_region ?_
  refine VL_pure 4 [0, 1, 5, 6, 27] [(0, .slice A n c), (1, .int .u8 m), (5, .slice (some ⟨g1, 0, none⟩) (48 * manyN n) c1), (6, .int .i64 0), (27, .bool (((n : Nat) : Int) == 0))] (by kernel_rfl) rfl ?_
  refine VL_known (((n : Nat) : Int) == 0) (fun bV => [(0, .slice A n c), (1, .int .u8 m), (5, .slice (some ⟨g1, 0, none⟩) (48 * manyN n) c1), (6, .int .i64 0), (27, .bool bV)]) false rfl (by simp; omega) ?_
  refine VL_pure 8 [0, 1, 5, 6, 31] [(0, .slice A n c), (1, .int .u8 m), (5, .slice (some ⟨g1, 0, none⟩) (48 * manyN n) c1), (6, .int .i64 0), (31, .bool (decide (((n : Nat) : Int) > 1000)))] (by kernel_rfl) rfl ?_
  refine VL_end (by kernel_rfl) ?_
  refine VQ_next ?_
  refine VC_is (b := decide (((n : Nat) : Int) > 1000)) false (by kernel_rfl) (by simp; omega) ?_
  refine VC_ite_false ?_
  refine VC_skip ?_
  refine VQ_next ?_
  refine VC_seq ?_
  refine VC_region ?_
  refine VL_pure 1 [0, 1, 5, 6, 40] [(0, .slice A n c), (1, .int .u8 m), (5, .slice (some ⟨g1, 0, none⟩) (48 * manyN n) c1), (6, .int .i64 0), (40, .slice (some ⟨g1, 0, none⟩) (48 * manyN n) c1)] (by kernel_rfl) rfl ?_
  have hzs3 := hS.size
  refine VL_call (d := 41) (f := 12) (by kernel_rfl) (by kernel_rfl) (by kernel_rfl) Try.call12 (unpack_frame (some ⟨g1, 0, none⟩) (48 * manyN n) c1 _ bs m n _ (Rw.lenI hr1) (Rw.slI hr1) hn (by omega) (by omega) hb hm (by first | exact Nat.le_refl _ | omega) (by omega) (by omega)) ?_
  rintro _ w3 ⟨A1, c2, rfl, hr2, hc3⟩
  replace hS := Step.trans hS hc3
  replace hA := hA.no hc3
  replace hbase1 := Nat.le_trans hbase1 (hc3).size
  replace hglg1 := Nat.lt_of_lt_of_le hglg1 (hc3).size
  replace hr1 := hr1.no hc3
  obtain ⟨base2, hbase2E⟩ : ∃ x, x = w2.heap.size := ⟨_, rfl⟩
  rw [← hbase2E] at hr2
  have hbase2 : base2 ≤ w3.heap.size := by rw [hbase2E]; exact hc3.size
  refine VL_pure 9 [0, 1, 5, 6, 7, 8, 9] [(0, .slice A n c), (1, .int .u8 m), (5, .slice (some ⟨g1, 0, none⟩) (48 * manyN n) c1), (6, .int .i64 0), (7, .slice A1 n c2), (8, .int .u8 m), (9, .int .i64 0)] (by kernel_rfl) rfl ?_
  refine VL_end (by kernel_rfl) ?_
  refine VQ_next ?_
  refine VC_seq ?_
  refine VC_region ?_
  refine VL_pure 9 [0, 1, 5, 8, 51, 52, 53] [(0, .slice A n c), (1, .int .u8 m), (5, .slice (some ⟨g1, 0, none⟩) (48 * manyN n) c1), (8, .int .u8 m), (51, .bool true), (52, .slice A1 n c2), (53, .slice A n c)] (by kernel_rfl) rfl ?_
  have hzs4 := hS.size
  refine VL_call (d := 54) (f := 14) (args := #[.slice A1 n c2, .slice A n c]) (by kernel_rfl) (by kernel_rfl) (by kernel_rfl) Try.call14 (same_any A1 n c2 _ bs A n c _ bs _ (Rw.lenI hr2) (Rw.slI hr2) hn hA (by omega) (by omega) (by first | exact Nat.le_refl _ | omega) (by first | exact Nat.le_refl _ | omega)) ?_
  rintro _ w4 ⟨rfl, hc4⟩
  replace hS := Step.trans hS hc4
  replace hA := hA.no hc4
  replace hbase1 := Nat.le_trans hbase1 (hc4).size
  replace hglg1 := Nat.lt_of_lt_of_le hglg1 (hc4).size
  replace hr1 := hr1.no hc4
  replace hbase2 := Nat.le_trans hbase2 (hc4).size
  replace hr2 := hr2.no hc4
  refine VL_pure 12 [0, 1, 5, 8, 56] [(0, .slice A n c), (1, .int .u8 m), (5, .slice (some ⟨g1, 0, none⟩) (48 * manyN n) c1), (8, .int .u8 m), (56, .bool (bs == bs))] (by kernel_rfl) rfl ?_
  refine VL_known (bs == bs) (fun bV => [(0, .slice A n c), (1, .int .u8 m), (5, .slice (some ⟨g1, 0, none⟩) (48 * manyN n) c1), (8, .int .u8 m), (56, .bool bV)]) true rfl (by simp) ?_
  refine VL_pure 17 [0, 5, 61] [(0, .slice A n c), (5, .slice (some ⟨g1, 0, none⟩) (48 * manyN n) c1), (61, .bool (m == m))] (by kernel_rfl) rfl ?_
  refine VL_known (m == m) (fun bV => [(0, .slice A n c), (5, .slice (some ⟨g1, 0, none⟩) (48 * manyN n) c1), (61, .bool bV)]) true rfl (by simp) ?_
  refine VL_pure 21 [0, 61, 63, 65] [(0, .slice A n c), (61, .bool true), (63, .int .i64 ((48 * manyN n : Nat) : Int)), (65, .int .i64 ((n : Nat) : Int))] (by kernel_rfl) rfl ?_
  have hzs5 := hS.size
  refine VL_call (d := 66) (f := 16) (args := #[.int .i64 ((n : Nat) : Int)]) (by kernel_rfl) (by kernel_rfl) (by kernel_rfl) Try.call16 (many_nat n _ (by omega)) ?_
  rintro _ w5 ⟨rfl, hc5⟩
  replace hS := Step.trans hS hc5
  replace hA := hA.no hc5
  replace hbase1 := Nat.le_trans hbase1 (hc5).size
  replace hglg1 := Nat.lt_of_lt_of_le hglg1 (hc5).size
  replace hr1 := hr1.no hc5
  replace hbase2 := Nat.le_trans hbase2 (hc5).size
  replace hr2 := hr2.no hc5
  have hmnq2 := many_le n
  refine VL_pure 23 [0, 61, 63, 67] [(0, .slice A n c), (61, .bool true), (63, .int .i64 ((48 * manyN n : Nat) : Int)), (67, .int .i64 (IntKind.wrap .i64 (48 * ((manyN n : Nat) : Int))))] (by kernel_rfl) rfl ?_
  have he1 : IntKind.wrap .i64 (48 * ((manyN n : Nat) : Int)) = ((48 * (manyN n) : Nat) : Int) := (by rw [wrap_i64 _ (by omega) (by omega)]; omega)
  refine VL_eq [(0, .slice A n c), (61, .bool true), (63, .int .i64 ((48 * manyN n : Nat) : Int)), (67, .int .i64 ((48 * (manyN n) : Nat) : Int))] (by rw [he1]) ?_
  refine VL_pure 26 [0, 70] [(0, .slice A n c), (70, .bool (((48 * manyN n : Nat) : Int) == ((48 * (manyN n) : Nat) : Int)))] (by kernel_rfl) rfl ?_
  refine VL_known (((48 * manyN n : Nat) : Int) == ((48 * (manyN n) : Nat) : Int)) (fun bV => [(0, .slice A n c), (70, .bool bV)]) true rfl (by first | (simp; done) | exact decide_eq_true (by omega) | (rw [beq_iff_eq]; unfold manyN; rw [if_neg (by omega)])) ?_
  refine VL_pure 28 [0, 70, 72] [(0, .slice A n c), (70, .bool true), (72, .int .i64 ((n : Nat) : Int))] (by kernel_rfl) rfl ?_
  have hzs6 := hS.size
  refine VL_call (d := 73) (f := 16) (args := #[.int .i64 ((n : Nat) : Int)]) (by kernel_rfl) (by kernel_rfl) (by kernel_rfl) Try.call16 (many_nat n _ (by omega)) ?_
  rintro _ w6 ⟨rfl, hc6⟩
  replace hS := Step.trans hS hc6
  replace hA := hA.no hc6
  replace hbase1 := Nat.le_trans hbase1 (hc6).size
  replace hglg1 := Nat.lt_of_lt_of_le hglg1 (hc6).size
  replace hr1 := hr1.no hc6
  replace hbase2 := Nat.le_trans hbase2 (hc6).size
  replace hr2 := hr2.no hc6
  have hmnq3 := many_le n
  refine VL_pure 32 [0, 70, 73, 76] [(0, .slice A n c), (70, .bool true), (73, .int .i64 ((manyN n : Nat) : Int)), (76, .int .i64 (IntKind.wrap .i64 (((n : Nat) : Int) + 55)))] (by kernel_rfl) rfl ?_
  have he2 : IntKind.wrap .i64 (((n : Nat) : Int) + 55) = ((n + 55 : Nat) : Int) := (by rw [wrap_i64 _ (by omega) (by omega)]; omega)
  refine VL_eq [(0, .slice A n c), (70, .bool true), (73, .int .i64 ((manyN n : Nat) : Int)), (76, .int .i64 ((n + 55 : Nat) : Int))] (by rw [he2]) ?_
  refine VL_pure 33 [0, 70, 73, 77] [(0, .slice A n c), (70, .bool true), (73, .int .i64 ((manyN n : Nat) : Int)), (77, .int .i64 (IntKind.wrap .i64 (((n + 55 : Nat) : Int).tdiv 48)))] (by kernel_rfl) rfl ?_
  have he3 : IntKind.wrap .i64 (((n + 55 : Nat) : Int).tdiv 48) = (((n + 55) / 48 : Nat) : Int) := (by rw [show ((n + 55 : Nat) : Int).tdiv 48 = (((n + 55) / 48 : Nat) : Int) from tdiv_nat (n + 55) 48, wrap_i64 _ (by omega) (by omega)])
  refine VL_eq [(0, .slice A n c), (70, .bool true), (73, .int .i64 ((manyN n : Nat) : Int)), (77, .int .i64 (((n + 55) / 48 : Nat) : Int))] (by rw [he3]) ?_
  refine VL_pure 36 [0, 80] [(0, .slice A n c), (80, .bool (((manyN n : Nat) : Int) == (((n + 55) / 48 : Nat) : Int)))] (by kernel_rfl) rfl ?_
  refine VL_known (((manyN n : Nat) : Int) == (((n + 55) / 48 : Nat) : Int)) (fun bV => [(0, .slice A n c), (80, .bool bV)]) true rfl (by first | (simp; done) | exact decide_eq_true (by omega) | (rw [beq_iff_eq]; unfold manyN; rw [if_neg (by omega)])) ?_
  refine VL_pure 39 [80, 83] [(80, .bool true), (83, .int .i64 (IntKind.wrap .i64 (0 - ((n : Nat) : Int))))] (by kernel_rfl) rfl ?_
  have hzs7 := hS.size
  refine VL_call (d := 84) (f := 16) (args := #[.int .i64 (IntKind.wrap .i64 (0 - ((n : Nat) : Int)))]) (by kernel_rfl) (by kernel_rfl) (by kernel_rfl) Try.call16 (many_neg (IntKind.wrap .i64 (0 - ((n : Nat) : Int))) _ (by first | omega | (rw [wrap_i64 _ (by omega) (by omega)]; omega))) ?_
  rintro _ w7 ⟨rfl, hc7⟩
  replace hS := Step.trans hS hc7
  replace hA := hA.no hc7
  replace hbase1 := Nat.le_trans hbase1 (hc7).size
  replace hglg1 := Nat.lt_of_lt_of_le hglg1 (hc7).size
  replace hr1 := hr1.no hc7
  replace hbase2 := Nat.le_trans hbase2 (hc7).size
  replace hr2 := hr2.no hc7
  refine VL_pure 43 [4] [(4, .bool true)] (by kernel_rfl) rfl ?_
  refine VL_end (by kernel_rfl) ?_
  refine VQ_next ?_
  refine VC_ret ?_
  refine VQ_ret1 (.bool true) (.inr rfl) rfl rfl ?_
  exact ⟨by first | rfl | simp [*], hS⟩

set_option maxRecDepth 100000 in
set_option maxHeartbeats 4000000 in
theorem back_out (A : Option Addr) (n c : Nat) (bs : List Int) (m : Int) (w : World) (hn : bs.length = n) (hA : Sl w w.heap.size A (iL .u8 bs)) (hc : n ≤ c) (hb : Bytes bs) (hm : 0 ≤ m ∧ m < 256) (h0 : 2000 < n) :
    CV Try.prog 5 #[.slice A n c, .int .u8 m] w (fun x w1 => x = .bool true ∧ Step No w w1) := by
  have hS : Step No w w := Step.refl _ _
  refine CV_enter Try.f5 _ 87 [(0, .slice A n c), (1, .int .u8 m)] Try.func5 rfl rfl (by kernel_rfl) rfl ?_
  refine VC_seq ?_
  refine VC_region ?_
  refine VL_pure 1 [0, 1] [(0, .slice A n c), (1, .int .u8 m)] (by kernel_rfl) rfl ?_
  refine VL_end (by kernel_rfl) ?_
  refine VQ_next ?_
  refine VC_seq ?_
  refine VC_seq ?_
  refine VC_region ?_
  have hzs1 := hS.size
  refine VL_call (d := 10) (f := 9) (args := #[]) (by kernel_rfl) (by kernel_rfl) (by kernel_rfl) Try.call9 (awake_any _) ?_
  rintro _ w1 ⟨rfl, hc1⟩
  replace hS := Step.trans hS hc1
  replace hA := hA.no hc1
  refine VL_pure 7 [0, 1, 16] [(0, .slice A n c), (1, .int .u8 m), (16, .bool (decide (((n : Nat) : Int) > 2000)))] (by kernel_rfl) rfl ?_
  refine VL_end (by kernel_rfl) ?_
  refine VQ_next ?_
  refine VC_is (b := decide (((n : Nat) : Int) > 2000)) true (by kernel_rfl) (by simp; omega) ?_
  refine VC_ite_true ?_
  refine VC_seq ?_
  refine VC_region ?_
  have hzs2 := hS.size
  refine VL_call (d := 17) (f := 9) (args := #[]) (by kernel_rfl) (by kernel_rfl) (by kernel_rfl) Try.call9 (awake_any _) ?_
  rintro _ w2 ⟨rfl, hc2⟩
  replace hS := Step.trans hS hc2
  replace hA := hA.no hc2
  refine VL_pure 2 [4] [(4, .bool true)] (by kernel_rfl) rfl ?_
  refine VL_end (by kernel_rfl) ?_
  refine VQ_next ?_
  refine VC_ret ?_
  refine VQ_then_ret ?_
  refine VQ_ret1 (.bool true) (.inr rfl) rfl rfl ?_
  exact ⟨by first | rfl | simp [*], hS⟩

end Go.Proofs.Ytfgmlgkopphekaa
