/- Layer 10: FramePacks. -/
import Derived.Test.YtfgmlgkopphekaaProg
import Derived.Test.YtfgmlgkopphekaaFr9
import Derived.Test.YtfgmlgkopphekaaFr11
set_option linter.unusedVariables false
set_option linter.unusedSimpArgs false
namespace Go.Proofs.Ytfgmlgkopphekaa
open Go.Vc Go.RowKit

set_option maxRecDepth 100000 in
set_option maxHeartbeats 4000000 in
theorem packs_0 (A : Option Addr) (n c : Nat) (bs : List Int) (m : Int) (D : Option Addr) (nD cD : Nat) (bt : List Int) (w : World) (hn : bs.length = n) (hA : Sl w w.heap.size A (iL .u8 bs)) (hc : n ≤ c) (hb : Bytes bs) (hm : 0 ≤ m ∧ m < 256) (hnD : bt.length = nD) (hD : Sl w w.heap.size D (iL .u8 bt)) (hcD : nD ≤ cD) (hbD : Bytes bt) (hlon : 0 ≤ n) (hhin : n ≤ 0) (hlonD : 0 ≤ nD) (hhinD : nD ≤ 400) :
    CV Try.prog 3 #[.slice A n c, .int .u8 m, .slice D nD cD] w (fun x w1 => x = .bool true ∧ Step No w w1) := by
  have hS : Step No w w := Step.refl _ _
  refine CV_enter Try.f3 _ 87 [(0, .slice A n c), (1, .int .u8 m), (2, .slice D nD cD)] Try.func3 rfl rfl (by kernel_rfl) rfl ?_
  refine VC_seq ?_
  refine VC_region ?_
  refine VL_pure 1 [0, 1, 2] [(0, .slice A n c), (1, .int .u8 m), (2, .slice D nD cD)] (by kernel_rfl) rfl ?_
  refine VL_end (by kernel_rfl) ?_
  refine VQ_next ?_
  refine VC_seq ?_
  refine VC_seq ?_
  refine VC_region ?_
  have hzs1 := hS.size
  refine VL_call (d := 17) (f := 9) (args := #[]) (by kernel_rfl) (by kernel_rfl) (by kernel_rfl) Try.call9 (awake_any _) ?_
  rintro _ w1 ⟨rfl, hc1⟩
  replace hS := Step.trans hS hc1
  replace hA := hA.no hc1
  replace hD := hD.no hc1
  refine VL_pure 7 [0, 1, 2, 19, 23] [(0, .slice A n c), (1, .int .u8 m), (2, .slice D nD cD), (19, .bool false), (23, .bool (decide (((n : Nat) : Int) > 400)))] (by kernel_rfl) rfl ?_
  refine VL_known (decide (((n : Nat) : Int) > 400)) (fun bV => [(0, .slice A n c), (1, .int .u8 m), (2, .slice D nD cD), (19, .bool false), (23, .bool bV)]) false rfl (by first | (simp; omega) | (simp; done) | simp [*]) ?_
  refine VL_pure 18 [0, 1, 2, 34] [(0, .slice A n c), (1, .int .u8 m), (2, .slice D nD cD), (34, .bool (decide (((n : Nat) : Int) > 2000)))] (by kernel_rfl) rfl ?_
  refine VL_known (decide (((n : Nat) : Int) > 2000)) (fun bV => [(0, .slice A n c), (1, .int .u8 m), (2, .slice D nD cD), (34, .bool bV)]) false rfl (by first | (simp; omega) | (simp; done) | simp [*]) ?_
  refine VL_pure 22 [0, 1, 2, 38] [(0, .slice A n c), (1, .int .u8 m), (2, .slice D nD cD), (38, .bool (decide (((nD : Nat) : Int) > 400)))] (by kernel_rfl) rfl ?_
  refine VL_end (by kernel_rfl) ?_
  refine VQ_next ?_
  refine VC_is (b := decide (((nD : Nat) : Int) > 400)) false (by kernel_rfl) (by first | (simp; omega) | (simp; done) | simp [*]) ?_
  refine VC_ite_false ?_
  refine VC_skip ?_
  refine VQ_next ?_
  refine VC_seq ?_
  refine VC_region ?_
  refine VL_pure 2 [0, 1, 2, 41, 42] [(0, .slice A n c), (1, .int .u8 m), (2, .slice D nD cD), (41, .slice A n c), (42, .int .u8 m)] (by kernel_rfl) rfl ?_
  have hzs2 := hS.size
  refine VL_call (d := 43) (f := 10) (by kernel_rfl) (by kernel_rfl) (by kernel_rfl) Try.call10 (pack_0 A n c _ bs _ hn hA m (by first | exact Nat.le_refl _ | omega) (by omega)) ?_
  rintro _ w2 ⟨rfl, hc2⟩
  replace hS := Step.trans hS hc2
  replace hA := hA.no hc2
  replace hD := hD.no hc2
  refine VL_pure 8 [0, 1, 2, 7, 8] [(0, .slice A n c), (1, .int .u8 m), (2, .slice D nD cD), (7, .slice none 0 0), (8, .int .i64 1)] (by kernel_rfl) rfl ?_
  refine VL_end (by kernel_rfl) ?_
  refine VQ_next ?_
  refine VC_seq ?_
  refine VC_region ?_
  refine VL_pure 2 [2, 7, 8, 47, 48] [(2, .slice D nD cD), (7, .slice none 0 0), (8, .int .i64 1), (47, .slice A n c), (48, .int .u8 m)] (by kernel_rfl) rfl ?_
  have hzs3 := hS.size
  refine VL_call (d := 49) (f := 11) (by kernel_rfl) (by kernel_rfl) (by kernel_rfl) Try.call11 (rpack_0 A n c _ bs _ hn hA m (by first | exact Nat.le_refl _ | omega) (by omega)) ?_
  rintro _ w3 ⟨rfl, hc3⟩
  replace hS := Step.trans hS hc3
  replace hA := hA.no hc3
  replace hD := hD.no hc3
  refine VL_pure 8 [2, 7, 8, 9, 10] [(2, .slice D nD cD), (7, .slice none 0 0), (8, .int .i64 1), (9, .slice none 0 0), (10, .int .i64 1)] (by kernel_rfl) rfl ?_
  refine VL_end (by kernel_rfl) ?_
  refine VQ_next ?_
  refine VC_seq ?_
  refine VC_region ?_
  refine VL_pure 1 [2, 7, 8, 9, 10, 53] [(2, .slice D nD cD), (7, .slice none 0 0), (8, .int .i64 1), (9, .slice none 0 0), (10, .int .i64 1), (53, .slice D nD cD)] (by kernel_rfl) rfl ?_
  have hzs4 := hS.size
  refine VL_call (d := 54) (f := 12) (by kernel_rfl) (by kernel_rfl) (by kernel_rfl) Try.call12 (unpack_any D nD cD _ bt _ hnD hD hbD (by first | exact Nat.le_refl _ | omega) (by omega) (by omega)) ?_
  rintro _ w4 ⟨A1, c1, rfl, hr1, hc4⟩
  replace hS := Step.trans hS hc4
  replace hA := hA.no hc4
  replace hD := hD.no hc4
  obtain ⟨base1, hbase1E⟩ : ∃ x, x = w3.heap.size := ⟨_, rfl⟩
  rw [← hbase1E] at hr1
  have hbase1 : base1 ≤ w4.heap.size := by rw [hbase1E]; exact hc4.size
  have hutq1 := unT_le bt
  refine VL_pure 9 [2, 7, 8, 9, 10, 11, 12, 13] [(2, .slice D nD cD), (7, .slice none 0 0), (8, .int .i64 1), (9, .slice none 0 0), (10, .int .i64 1), (11, .slice A1 ((unT bt).length) c1), (12, .int .u8 (unM bt)), (13, .int .i64 (unE bt))] (by kernel_rfl) rfl ?_
  refine VL_end (by kernel_rfl) ?_
  refine VQ_next ?_
  refine VC_seq ?_
  refine VC_region ?_
  refine VL_pure 1 [7, 8, 9, 10, 11, 12, 13, 59] [(7, .slice none 0 0), (8, .int .i64 1), (9, .slice none 0 0), (10, .int .i64 1), (11, .slice A1 ((unT bt).length) c1), (12, .int .u8 (unM bt)), (13, .int .i64 (unE bt)), (59, .slice D nD cD)] (by kernel_rfl) rfl ?_
  have hzs5 := hS.size
  refine VL_call (d := 60) (f := 13) (by kernel_rfl) (by kernel_rfl) (by kernel_rfl) Try.call13 (runpack2_any D nD cD _ bt _ hnD hD hbD (by first | exact Nat.le_refl _ | omega) (by omega) (by omega)) ?_
  rintro _ w5 ⟨A2, c2, rfl, hr2, hc5⟩
  replace hS := Step.trans hS hc5
  replace hA := hA.no hc5
  replace hD := hD.no hc5
  replace hbase1 := Nat.le_trans hbase1 (hc5).size
  replace hr1 := hr1.no hc5
  obtain ⟨base2, hbase2E⟩ : ∃ x, x = w4.heap.size := ⟨_, rfl⟩
  rw [← hbase2E] at hr2
  have hbase2 : base2 ≤ w5.heap.size := by rw [hbase2E]; exact hc5.size
  refine VL_pure 9 [7, 8, 9, 10, 11, 12, 13, 14, 15, 16] [(7, .slice none 0 0), (8, .int .i64 1), (9, .slice none 0 0), (10, .int .i64 1), (11, .slice A1 ((unT bt).length) c1), (12, .int .u8 (unM bt)), (13, .int .i64 (unE bt)), (14, .slice A2 ((unT bt).length) c2), (15, .int .u8 (unM bt)), (16, .int .i64 (unE bt))] (by kernel_rfl) rfl ?_
  refine VL_end (by kernel_rfl) ?_
  refine VQ_next ?_
  refine VC_seq ?_
  refine VC_region ?_
  refine VL_pure 2 [8, 10, 11, 12, 13, 14, 15, 16, 64, 65] [(8, .int .i64 1), (10, .int .i64 1), (11, .slice A1 ((unT bt).length) c1), (12, .int .u8 (unM bt)), (13, .int .i64 (unE bt)), (14, .slice A2 ((unT bt).length) c2), (15, .int .u8 (unM bt)), (16, .int .i64 (unE bt)), (64, .slice none 0 0), (65, .slice none 0 0)] (by kernel_rfl) rfl ?_
  have hzs6 := hS.size
  refine VL_call (d := 66) (f := 14) (args := #[.slice none 0 0, .slice none 0 0]) (by kernel_rfl) (by kernel_rfl) (by kernel_rfl) Try.call14 (same_any none 0 0 _ ([] : List Int) none 0 0 _ ([] : List Int) _ rfl (Sl.nil (B := 0)) rfl (Sl.nil (B := 0)) (by omega) (by omega) (by first | exact Nat.le_refl _ | omega) (by first | exact Nat.le_refl _ | omega)) ?_
  rintro _ w6 ⟨rfl, hc6⟩
  replace hS := Step.trans hS hc6
  replace hA := hA.no hc6
  replace hD := hD.no hc6
  replace hbase1 := Nat.le_trans hbase1 (hc6).size
  replace hr1 := hr1.no hc6
  replace hbase2 := Nat.le_trans hbase2 (hc6).size
  replace hr2 := hr2.no hc6
  refine VL_pure 4 [8, 10, 11, 12, 13, 14, 15, 16, 67] [(8, .int .i64 1), (10, .int .i64 1), (11, .slice A1 ((unT bt).length) c1), (12, .int .u8 (unM bt)), (13, .int .i64 (unE bt)), (14, .slice A2 ((unT bt).length) c2), (15, .int .u8 (unM bt)), (16, .int .i64 (unE bt)), (67, .bool (([] : List Int) == ([] : List Int)))] (by kernel_rfl) rfl ?_
  refine VL_known (([] : List Int) == ([] : List Int)) (fun bV => [(8, .int .i64 1), (10, .int .i64 1), (11, .slice A1 ((unT bt).length) c1), (12, .int .u8 (unM bt)), (13, .int .i64 (unE bt)), (14, .slice A2 ((unT bt).length) c2), (15, .int .u8 (unM bt)), (16, .int .i64 (unE bt)), (67, .bool bV)]) true rfl (by simp) ?_
  refine VL_pure 11 [12, 13, 15, 16, 72, 73, 74] [(12, .int .u8 (unM bt)), (13, .int .i64 (unE bt)), (15, .int .u8 (unM bt)), (16, .int .i64 (unE bt)), (72, .bool true), (73, .slice A1 ((unT bt).length) c1), (74, .slice A2 ((unT bt).length) c2)] (by kernel_rfl) rfl ?_
  have hzs7 := hS.size
  refine VL_call (d := 75) (f := 14) (args := #[.slice A1 ((unT bt).length) c1, .slice A2 ((unT bt).length) c2]) (by kernel_rfl) (by kernel_rfl) (by kernel_rfl) Try.call14 (same_any A1 ((unT bt).length) c1 _ (unT bt) A2 ((unT bt).length) c2 _ (unT bt) _ (Rw.lenI hr1) (Rw.slI hr1) (Rw.lenI hr2) (Rw.slI hr2) (by omega) (by omega) (by first | exact Nat.le_refl _ | omega) (by first | exact Nat.le_refl _ | omega)) ?_
  rintro _ w7 ⟨rfl, hc7⟩
  replace hS := Step.trans hS hc7
  replace hA := hA.no hc7
  replace hD := hD.no hc7
  replace hbase1 := Nat.le_trans hbase1 (hc7).size
  replace hr1 := hr1.no hc7
  replace hbase2 := Nat.le_trans hbase2 (hc7).size
  replace hr2 := hr2.no hc7
  refine VL_pure 14 [12, 13, 15, 16, 77] [(12, .int .u8 (unM bt)), (13, .int .i64 (unE bt)), (15, .int .u8 (unM bt)), (16, .int .i64 (unE bt)), (77, .bool ((unT bt) == (unT bt)))] (by kernel_rfl) rfl ?_
  refine VL_known ((unT bt) == (unT bt)) (fun bV => [(12, .int .u8 (unM bt)), (13, .int .i64 (unE bt)), (15, .int .u8 (unM bt)), (16, .int .i64 (unE bt)), (77, .bool bV)]) true rfl (by simp) ?_
  refine VL_pure 19 [13, 16, 82] [(13, .int .i64 (unE bt)), (16, .int .i64 (unE bt)), (82, .bool ((unM bt) == (unM bt)))] (by kernel_rfl) rfl ?_
  refine VL_known ((unM bt) == (unM bt)) (fun bV => [(13, .int .i64 (unE bt)), (16, .int .i64 (unE bt)), (82, .bool bV)]) true rfl (by simp) ?_
  refine VL_pure 24 [6] [(6, .bool ((unE bt) == (unE bt)))] (by kernel_rfl) rfl ?_
  refine VL_end (by kernel_rfl) ?_
  refine VQ_next ?_
  refine VC_ret ?_
  refine VQ_ret1 (.bool ((unE bt) == (unE bt))) (.inr rfl) rfl rfl ?_
  exact ⟨by first | rfl | simp [*], hS⟩

set_option maxRecDepth 100000 in
set_option maxHeartbeats 4000000 in
theorem packs_yes (A : Option Addr) (n c : Nat) (bs : List Int) (m : Int) (D : Option Addr) (nD cD : Nat) (bt : List Int) (w : World) (hn : bs.length = n) (hA : Sl w w.heap.size A (iL .u8 bs)) (hc : n ≤ c) (hb : Bytes bs) (hm : 0 ≤ m ∧ m < 256) (hnD : bt.length = nD) (hD : Sl w w.heap.size D (iL .u8 bt)) (hcD : nD ≤ cD) (hbD : Bytes bt) (hlon : 1 ≤ n) (hhin : n ≤ 400) (hlonD : 0 ≤ nD) (hhinD : nD ≤ 400) :
    CV Try.prog 3 #[.slice A n c, .int .u8 m, .slice D nD cD] w (fun x w1 => x = .bool true ∧ Step No w w1) := by
  have hS : Step No w w := Step.refl _ _
  refine CV_enter Try.f3 _ 87 [(0, .slice A n c), (1, .int .u8 m), (2, .slice D nD cD)] Try.func3 rfl rfl (by kernel_rfl) rfl ?_
  refine VC_seq ?_
  refine VC_region ?_
  refine VL_pure 1 [0, 1, 2] [(0, .slice A n c), (1, .int .u8 m), (2, .slice D nD cD)] (by kernel_rfl) rfl ?_
  refine VL_end (by kernel_rfl) ?_
  refine VQ_next ?_
  refine VC_seq ?_
  refine VC_seq ?_
  refine VC_region ?_
  have hzs1 := hS.size
  refine VL_call (d := 17) (f := 9) (args := #[]) (by kernel_rfl) (by kernel_rfl) (by kernel_rfl) Try.call9 (awake_any _) ?_
  rintro _ w1 ⟨rfl, hc1⟩
  replace hS := Step.trans hS hc1
  replace hA := hA.no hc1
  replace hD := hD.no hc1
  refine VL_pure 7 [0, 1, 2, 19, 23] [(0, .slice A n c), (1, .int .u8 m), (2, .slice D nD cD), (19, .bool false), (23, .bool (decide (((n : Nat) : Int) > 400)))] (by kernel_rfl) rfl ?_
  refine VL_known (decide (((n : Nat) : Int) > 400)) (fun bV => [(0, .slice A n c), (1, .int .u8 m), (2, .slice D nD cD), (19, .bool false), (23, .bool bV)]) false rfl (by first | (simp; omega) | (simp; done) | simp [*]) ?_
  refine VL_pure 18 [0, 1, 2, 34] [(0, .slice A n c), (1, .int .u8 m), (2, .slice D nD cD), (34, .bool (decide (((n : Nat) : Int) > 2000)))] (by kernel_rfl) rfl ?_
  refine VL_known (decide (((n : Nat) : Int) > 2000)) (fun bV => [(0, .slice A n c), (1, .int .u8 m), (2, .slice D nD cD), (34, .bool bV)]) false rfl (by first | (simp; omega) | (simp; done) | simp [*]) ?_
  refine VL_pure 22 [0, 1, 2, 38] [(0, .slice A n c), (1, .int .u8 m), (2, .slice D nD cD), (38, .bool (decide (((nD : Nat) : Int) > 400)))] (by kernel_rfl) rfl ?_
  refine VL_end (by kernel_rfl) ?_
  refine VQ_next ?_
  refine VC_is (b := decide (((nD : Nat) : Int) > 400)) false (by kernel_rfl) (by first | (simp; omega) | (simp; done) | simp [*]) ?_
  refine VC_ite_false ?_
  refine VC_skip ?_
  refine VQ_next ?_
  refine VC_seq ?_
  refine VC_region ?_
  refine VL_pure 2 [0, 1, 2, 41, 42] [(0, .slice A n c), (1, .int .u8 m), (2, .slice D nD cD), (41, .slice A n c), (42, .int .u8 m)] (by kernel_rfl) rfl ?_
  have hzs2 := hS.size
  refine VL_call (d := 43) (f := 10) (by kernel_rfl) (by kernel_rfl) (by kernel_rfl) Try.call10 (pack_yes A n c _ bs _ hn hA m (by first | exact Nat.le_refl _ | omega) (by omega) (by omega)) ?_
  rintro _ w2 ⟨g1, c1, rfl, hggg1, hr1, hc2⟩
  replace hS := Step.trans hS hc2
  replace hA := hA.no hc2
  replace hD := hD.no hc2
  obtain ⟨base1, hbase1E⟩ : ∃ x, x = w1.heap.size := ⟨_, rfl⟩
  rw [← hbase1E] at hr1 hggg1
  have hbase1 : base1 ≤ w2.heap.size := by rw [hbase1E]; exact hc2.size
  have hglg1 : g1 < w2.heap.size := (Rw.openG hr1).choose_spec.2.1
  have hcapg1 := Rw.cap hr1
  have hmmq1 := (many_le n).2 (by omega)
  refine VL_pure 8 [0, 1, 2, 7, 8] [(0, .slice A n c), (1, .int .u8 m), (2, .slice D nD cD), (7, .slice (some ⟨g1, 0, none⟩) (48 * manyN n) c1), (8, .int .i64 0)] (by kernel_rfl) rfl ?_
  refine VL_end (by kernel_rfl) ?_
  refine VQ_next ?_
  refine VC_seq ?_
  refine VC_region ?_
  refine VL_pure 2 [2, 7, 8, 47, 48] [(2, .slice D nD cD), (7, .slice (some ⟨g1, 0, none⟩) (48 * manyN n) c1), (8, .int .i64 0), (47, .slice A n c), (48, .int .u8 m)] (by kernel_rfl) rfl ?_
  have hzs3 := hS.size
  refine VL_call (d := 49) (f := 11) (by kernel_rfl) (by kernel_rfl) (by kernel_rfl) Try.call11 (rpack2_yes A n c _ bs _ hn hA m (by first | exact Nat.le_refl _ | omega) (by omega) (by omega) hb hm) ?_
  rintro _ w3 ⟨g2, c2, rfl, hggg2, hr2, hc3⟩
  replace hS := Step.trans hS hc3
  replace hA := hA.no hc3
  replace hD := hD.no hc3
  replace hbase1 := Nat.le_trans hbase1 (hc3).size
  replace hglg1 := Nat.lt_of_lt_of_le hglg1 (hc3).size
  replace hr1 := hr1.no hc3
  obtain ⟨base2, hbase2E⟩ : ∃ x, x = w2.heap.size := ⟨_, rfl⟩
  rw [← hbase2E] at hr2 hggg2
  have hbase2 : base2 ≤ w3.heap.size := by rw [hbase2E]; exact hc3.size
  have hglg2 : g2 < w3.heap.size := (Rw.openG hr2).choose_spec.2.1
  have hcapg2 := Rw.cap hr2
  have hmmq2 := (many_le n).2 (by omega)
  refine VL_pure 8 [2, 7, 8, 9, 10] [(2, .slice D nD cD), (7, .slice (some ⟨g1, 0, none⟩) (48 * manyN n) c1), (8, .int .i64 0), (9, .slice (some ⟨g2, 0, none⟩) (48 * manyN n) c2), (10, .int .i64 0)] (by kernel_rfl) rfl ?_
  refine VL_end (by kernel_rfl) ?_
  refine VQ_next ?_
  refine VC_seq ?_
  refine VC_region ?_
  refine VL_pure 1 [2, 7, 8, 9, 10, 53] [(2, .slice D nD cD), (7, .slice (some ⟨g1, 0, none⟩) (48 * manyN n) c1), (8, .int .i64 0), (9, .slice (some ⟨g2, 0, none⟩) (48 * manyN n) c2), (10, .int .i64 0), (53, .slice D nD cD)] (by kernel_rfl) rfl ?_
  have hzs4 := hS.size
  refine VL_call (d := 54) (f := 12) (by kernel_rfl) (by kernel_rfl) (by kernel_rfl) Try.call12 (unpack_any D nD cD _ bt _ hnD hD hbD (by first | exact Nat.le_refl _ | omega) (by omega) (by omega)) ?_
  rintro _ w4 ⟨A1, c3, rfl, hr3, hc4⟩
  replace hS := Step.trans hS hc4
  replace hA := hA.no hc4
  replace hD := hD.no hc4
  replace hbase1 := Nat.le_trans hbase1 (hc4).size
  replace hglg1 := Nat.lt_of_lt_of_le hglg1 (hc4).size
  replace hr1 := hr1.no hc4
  replace hbase2 := Nat.le_trans hbase2 (hc4).size
  replace hglg2 := Nat.lt_of_lt_of_le hglg2 (hc4).size
  replace hr2 := hr2.no hc4
  obtain ⟨base3, hbase3E⟩ : ∃ x, x = w3.heap.size := ⟨_, rfl⟩
  rw [← hbase3E] at hr3
  have hbase3 : base3 ≤ w4.heap.size := by rw [hbase3E]; exact hc4.size
  have hutq3 := unT_le bt
  refine VL_pure 9 [2, 7, 8, 9, 10, 11, 12, 13] [(2, .slice D nD cD), (7, .slice (some ⟨g1, 0, none⟩) (48 * manyN n) c1), (8, .int .i64 0), (9, .slice (some ⟨g2, 0, none⟩) (48 * manyN n) c2), (10, .int .i64 0), (11, .slice A1 ((unT bt).length) c3), (12, .int .u8 (unM bt)), (13, .int .i64 (unE bt))] (by kernel_rfl) rfl ?_
  refine VL_end (by kernel_rfl) ?_
  refine VQ_next ?_
  refine VC_seq ?_
  refine VC_region ?_
  refine VL_pure 1 [7, 8, 9, 10, 11, 12, 13, 59] [(7, .slice (some ⟨g1, 0, none⟩) (48 * manyN n) c1), (8, .int .i64 0), (9, .slice (some ⟨g2, 0, none⟩) (48 * manyN n) c2), (10, .int .i64 0), (11, .slice A1 ((unT bt).length) c3), (12, .int .u8 (unM bt)), (13, .int .i64 (unE bt)), (59, .slice D nD cD)] (by kernel_rfl) rfl ?_
  have hzs5 := hS.size
  refine VL_call (d := 60) (f := 13) (by kernel_rfl) (by kernel_rfl) (by kernel_rfl) Try.call13 (runpack2_any D nD cD _ bt _ hnD hD hbD (by first | exact Nat.le_refl _ | omega) (by omega) (by omega)) ?_
  rintro _ w5 ⟨A2, c4, rfl, hr4, hc5⟩
  replace hS := Step.trans hS hc5
  replace hA := hA.no hc5
  replace hD := hD.no hc5
  replace hbase1 := Nat.le_trans hbase1 (hc5).size
  replace hglg1 := Nat.lt_of_lt_of_le hglg1 (hc5).size
  replace hr1 := hr1.no hc5
  replace hbase2 := Nat.le_trans hbase2 (hc5).size
  replace hglg2 := Nat.lt_of_lt_of_le hglg2 (hc5).size
  replace hr2 := hr2.no hc5
  replace hbase3 := Nat.le_trans hbase3 (hc5).size
  replace hr3 := hr3.no hc5
  obtain ⟨base4, hbase4E⟩ : ∃ x, x = w4.heap.size := ⟨_, rfl⟩
  rw [← hbase4E] at hr4
  have hbase4 : base4 ≤ w5.heap.size := by rw [hbase4E]; exact hc5.size
  refine VL_pure 9 [7, 8, 9, 10, 11, 12, 13, 14, 15, 16] [(7, .slice (some ⟨g1, 0, none⟩) (48 * manyN n) c1), (8, .int .i64 0), (9, .slice (some ⟨g2, 0, none⟩) (48 * manyN n) c2), (10, .int .i64 0), (11, .slice A1 ((unT bt).length) c3), (12, .int .u8 (unM bt)), (13, .int .i64 (unE bt)), (14, .slice A2 ((unT bt).length) c4), (15, .int .u8 (unM bt)), (16, .int .i64 (unE bt))] (by kernel_rfl) rfl ?_
  refine VL_end (by kernel_rfl) ?_
  refine VQ_next ?_
  refine VC_seq ?_
  refine VC_region ?_
  refine VL_pure 2 [8, 10, 11, 12, 13, 14, 15, 16, 64, 65] [(8, .int .i64 0), (10, .int .i64 0), (11, .slice A1 ((unT bt).length) c3), (12, .int .u8 (unM bt)), (13, .int .i64 (unE bt)), (14, .slice A2 ((unT bt).length) c4), (15, .int .u8 (unM bt)), (16, .int .i64 (unE bt)), (64, .slice (some ⟨g1, 0, none⟩) (48 * manyN n) c1), (65, .slice (some ⟨g2, 0, none⟩) (48 * manyN n) c2)] (by kernel_rfl) rfl ?_
  have hzs6 := hS.size
  refine VL_call (d := 66) (f := 14) (args := #[.slice (some ⟨g1, 0, none⟩) (48 * manyN n) c1, .slice (some ⟨g2, 0, none⟩) (48 * manyN n) c2]) (by kernel_rfl) (by kernel_rfl) (by kernel_rfl) Try.call14 (same_any (some ⟨g1, 0, none⟩) (48 * manyN n) c1 _ (frameF bs m) (some ⟨g2, 0, none⟩) (48 * manyN n) c2 _ (frameF bs m) _ (Rw.lenI hr1) (Rw.slI hr1) (Rw.lenI hr2) (Rw.slI hr2) (by omega) (by omega) (by first | exact Nat.le_refl _ | omega) (by first | exact Nat.le_refl _ | omega)) ?_
  rintro _ w6 ⟨rfl, hc6⟩
  replace hS := Step.trans hS hc6
  replace hA := hA.no hc6
  replace hD := hD.no hc6
  replace hbase1 := Nat.le_trans hbase1 (hc6).size
  replace hglg1 := Nat.lt_of_lt_of_le hglg1 (hc6).size
  replace hr1 := hr1.no hc6
  replace hbase2 := Nat.le_trans hbase2 (hc6).size
  replace hglg2 := Nat.lt_of_lt_of_le hglg2 (hc6).size
  replace hr2 := hr2.no hc6
  replace hbase3 := Nat.le_trans hbase3 (hc6).size
  replace hr3 := hr3.no hc6
  replace hbase4 := Nat.le_trans hbase4 (hc6).size
  replace hr4 := hr4.no hc6
  refine VL_pure 4 [8, 10, 11, 12, 13, 14, 15, 16, 67] [(8, .int .i64 0), (10, .int .i64 0), (11, .slice A1 ((unT bt).length) c3), (12, .int .u8 (unM bt)), (13, .int .i64 (unE bt)), (14, .slice A2 ((unT bt).length) c4), (15, .int .u8 (unM bt)), (16, .int .i64 (unE bt)), (67, .bool ((frameF bs m) == (frameF bs m)))] (by kernel_rfl) rfl ?_
  refine VL_known ((frameF bs m) == (frameF bs m)) (fun bV => [(8, .int .i64 0), (10, .int .i64 0), (11, .slice A1 ((unT bt).length) c3), (12, .int .u8 (unM bt)), (13, .int .i64 (unE bt)), (14, .slice A2 ((unT bt).length) c4), (15, .int .u8 (unM bt)), (16, .int .i64 (unE bt)), (67, .bool bV)]) true rfl (by simp) ?_
  refine VL_pure 11 [12, 13, 15, 16, 72, 73, 74] [(12, .int .u8 (unM bt)), (13, .int .i64 (unE bt)), (15, .int .u8 (unM bt)), (16, .int .i64 (unE bt)), (72, .bool true), (73, .slice A1 ((unT bt).length) c3), (74, .slice A2 ((unT bt).length) c4)] (by kernel_rfl) rfl ?_
  have hzs7 := hS.size
  refine VL_call (d := 75) (f := 14) (args := #[.slice A1 ((unT bt).length) c3, .slice A2 ((unT bt).length) c4]) (by kernel_rfl) (by kernel_rfl) (by kernel_rfl) Try.call14 (same_any A1 ((unT bt).length) c3 _ (unT bt) A2 ((unT bt).length) c4 _ (unT bt) _ (Rw.lenI hr3) (Rw.slI hr3) (Rw.lenI hr4) (Rw.slI hr4) (by omega) (by omega) (by first | exact Nat.le_refl _ | omega) (by first | exact Nat.le_refl _ | omega)) ?_
  rintro _ w7 ⟨rfl, hc7⟩
  replace hS := Step.trans hS hc7
  replace hA := hA.no hc7
  replace hD := hD.no hc7
  replace hbase1 := Nat.le_trans hbase1 (hc7).size
  replace hglg1 := Nat.lt_of_lt_of_le hglg1 (hc7).size
  replace hr1 := hr1.no hc7
  replace hbase2 := Nat.le_trans hbase2 (hc7).size
  replace hglg2 := Nat.lt_of_lt_of_le hglg2 (hc7).size
  replace hr2 := hr2.no hc7
  replace hbase3 := Nat.le_trans hbase3 (hc7).size
  replace hr3 := hr3.no hc7
  replace hbase4 := Nat.le_trans hbase4 (hc7).size
  replace hr4 := hr4.no hc7
  refine VL_pure 14 [12, 13, 15, 16, 77] [(12, .int .u8 (unM bt)), (13, .int .i64 (unE bt)), (15, .int .u8 (unM bt)), (16, .int .i64 (unE bt)), (77, .bool ((unT bt) == (unT bt)))] (by kernel_rfl) rfl ?_
  refine VL_known ((unT bt) == (unT bt)) (fun bV => [(12, .int .u8 (unM bt)), (13, .int .i64 (unE bt)), (15, .int .u8 (unM bt)), (16, .int .i64 (unE bt)), (77, .bool bV)]) true rfl (by simp) ?_
  refine VL_pure 19 [13, 16, 82] [(13, .int .i64 (unE bt)), (16, .int .i64 (unE bt)), (82, .bool ((unM bt) == (unM bt)))] (by kernel_rfl) rfl ?_
  refine VL_known ((unM bt) == (unM bt)) (fun bV => [(13, .int .i64 (unE bt)), (16, .int .i64 (unE bt)), (82, .bool bV)]) true rfl (by simp) ?_
  refine VL_pure 24 [6] [(6, .bool ((unE bt) == (unE bt)))] (by kernel_rfl) rfl ?_
  refine VL_end (by kernel_rfl) ?_
  refine VQ_next ?_
  refine VC_ret ?_
  refine VQ_ret1 (.bool ((unE bt) == (unE bt))) (.inr rfl) rfl rfl ?_
  exact ⟨by first | rfl | simp [*], hS⟩

set_option maxRecDepth 100000 in
set_option maxHeartbeats 4000000 in
theorem packs_long (A : Option Addr) (n c : Nat) (bs : List Int) (m : Int) (D : Option Addr) (nD cD : Nat) (bt : List Int) (w : World) (hn : bs.length = n) (hA : Sl w w.heap.size A (iL .u8 bs)) (hc : n ≤ c) (hb : Bytes bs) (hm : 0 ≤ m ∧ m < 256) (hnD : bt.length = nD) (hD : Sl w w.heap.size D (iL .u8 bt)) (hcD : nD ≤ cD) (hbD : Bytes bt) (hlon : 1001 ≤ n) (hhin : n ≤ 2000) (hlonD : 0 ≤ nD) (hhinD : nD ≤ 400) :
    CV Try.prog 3 #[.slice A n c, .int .u8 m, .slice D nD cD] w (fun x w1 => x = .bool true ∧ Step No w w1) := by
  have hS : Step No w w := Step.refl _ _
  refine CV_enter Try.f3 _ 87 [(0, .slice A n c), (1, .int .u8 m), (2, .slice D nD cD)] Try.func3 rfl rfl (by kernel_rfl) rfl ?_
  refine VC_seq ?_
  refine VC_region ?_
  refine VL_pure 1 [0, 1, 2] [(0, .slice A n c), (1, .int .u8 m), (2, .slice D nD cD)] (by kernel_rfl) rfl ?_
  refine VL_end (by kernel_rfl) ?_
  refine VQ_next ?_
  refine VC_seq ?_
  refine VC_seq ?_
  refine VC_region ?_
  have hzs1 := hS.size
  refine VL_call (d := 17) (f := 9) (args := #[]) (by kernel_rfl) (by kernel_rfl) (by kernel_rfl) Try.call9 (awake_any _) ?_
  rintro _ w1 ⟨rfl, hc1⟩
  replace hS := Step.trans hS hc1
  replace hA := hA.no hc1
  replace hD := hD.no hc1
  refine VL_pure 7 [0, 1, 2, 19, 23] [(0, .slice A n c), (1, .int .u8 m), (2, .slice D nD cD), (19, .bool false), (23, .bool (decide (((n : Nat) : Int) > 400)))] (by kernel_rfl) rfl ?_
  refine VL_known (decide (((n : Nat) : Int) > 400)) (fun bV => [(0, .slice A n c), (1, .int .u8 m), (2, .slice D nD cD), (19, .bool false), (23, .bool bV)]) true rfl (by first | (simp; omega) | (simp; done) | simp [*]) ?_
  refine VL_pure 13 [0, 1, 2, 29] [(0, .slice A n c), (1, .int .u8 m), (2, .slice D nD cD), (29, .bool (decide (((n : Nat) : Int) ≤ 1000)))] (by kernel_rfl) rfl ?_
  refine VL_known (decide (((n : Nat) : Int) ≤ 1000)) (fun bV => [(0, .slice A n c), (1, .int .u8 m), (2, .slice D nD cD), (29, .bool bV)]) false rfl (by first | (simp; omega) | (simp; done) | simp [*]) ?_
  refine VL_pure 18 [0, 1, 2, 34] [(0, .slice A n c), (1, .int .u8 m), (2, .slice D nD cD), (34, .bool (decide (((n : Nat) : Int) > 2000)))] (by kernel_rfl) rfl ?_
  refine VL_known (decide (((n : Nat) : Int) > 2000)) (fun bV => [(0, .slice A n c), (1, .int .u8 m), (2, .slice D nD cD), (34, .bool bV)]) false rfl (by first | (simp; omega) | (simp; done) | simp [*]) ?_
  refine VL_pure 22 [0, 1, 2, 38] [(0, .slice A n c), (1, .int .u8 m), (2, .slice D nD cD), (38, .bool (decide (((nD : Nat) : Int) > 400)))] (by kernel_rfl) rfl ?_
  refine VL_end (by kernel_rfl) ?_
  refine VQ_next ?_
  refine VC_is (b := decide (((nD : Nat) : Int) > 400)) false (by kernel_rfl) (by first | (simp; omega) | (simp; done) | simp [*]) ?_
  refine VC_ite_false ?_
  refine VC_skip ?_
  refine VQ_next ?_
  refine VC_seq ?_
  refine VC_region ?_
  refine VL_pure 2 [0, 1, 2, 41, 42] [(0, .slice A n c), (1, .int .u8 m), (2, .slice D nD cD), (41, .slice A n c), (42, .int .u8 m)] (by kernel_rfl) rfl ?_
  have hzs2 := hS.size
  refine VL_call (d := 43) (f := 10) (by kernel_rfl) (by kernel_rfl) (by kernel_rfl) Try.call10 (pack_long A n c _ bs _ hn hA m (by first | exact Nat.le_refl _ | omega) (by omega)) ?_
  rintro _ w2 ⟨rfl, hc2⟩
  replace hS := Step.trans hS hc2
  replace hA := hA.no hc2
  replace hD := hD.no hc2
  refine VL_pure 8 [0, 1, 2, 7, 8] [(0, .slice A n c), (1, .int .u8 m), (2, .slice D nD cD), (7, .slice none 0 0), (8, .int .i64 6)] (by kernel_rfl) rfl ?_
  refine VL_end (by kernel_rfl) ?_
  refine VQ_next ?_
  refine VC_seq ?_
  refine VC_region ?_
  refine VL_pure 2 [2, 7, 8, 47, 48] [(2, .slice D nD cD), (7, .slice none 0 0), (8, .int .i64 6), (47, .slice A n c), (48, .int .u8 m)] (by kernel_rfl) rfl ?_
  have hzs3 := hS.size
  refine VL_call (d := 49) (f := 11) (by kernel_rfl) (by kernel_rfl) (by kernel_rfl) Try.call11 (rpack_long A n c _ bs _ hn hA m (by first | exact Nat.le_refl _ | omega) (by omega)) ?_
  rintro _ w3 ⟨rfl, hc3⟩
  replace hS := Step.trans hS hc3
  replace hA := hA.no hc3
  replace hD := hD.no hc3
  refine VL_pure 8 [2, 7, 8, 9, 10] [(2, .slice D nD cD), (7, .slice none 0 0), (8, .int .i64 6), (9, .slice none 0 0), (10, .int .i64 6)] (by kernel_rfl) rfl ?_
  refine VL_end (by kernel_rfl) ?_
  refine VQ_next ?_
  refine VC_seq ?_
  refine VC_region ?_
  refine VL_pure 1 [2, 7, 8, 9, 10, 53] [(2, .slice D nD cD), (7, .slice none 0 0), (8, .int .i64 6), (9, .slice none 0 0), (10, .int .i64 6), (53, .slice D nD cD)] (by kernel_rfl) rfl ?_
  have hzs4 := hS.size
  refine VL_call (d := 54) (f := 12) (by kernel_rfl) (by kernel_rfl) (by kernel_rfl) Try.call12 (unpack_any D nD cD _ bt _ hnD hD hbD (by first | exact Nat.le_refl _ | omega) (by omega) (by omega)) ?_
  rintro _ w4 ⟨A1, c1, rfl, hr1, hc4⟩
  replace hS := Step.trans hS hc4
  replace hA := hA.no hc4
  replace hD := hD.no hc4
  obtain ⟨base1, hbase1E⟩ : ∃ x, x = w3.heap.size := ⟨_, rfl⟩
  rw [← hbase1E] at hr1
  have hbase1 : base1 ≤ w4.heap.size := by rw [hbase1E]; exact hc4.size
  have hutq1 := unT_le bt
  refine VL_pure 9 [2, 7, 8, 9, 10, 11, 12, 13] [(2, .slice D nD cD), (7, .slice none 0 0), (8, .int .i64 6), (9, .slice none 0 0), (10, .int .i64 6), (11, .slice A1 ((unT bt).length) c1), (12, .int .u8 (unM bt)), (13, .int .i64 (unE bt))] (by kernel_rfl) rfl ?_
  refine VL_end (by kernel_rfl) ?_
  refine VQ_next ?_
  refine VC_seq ?_
  refine VC_region ?_
  refine VL_pure 1 [7, 8, 9, 10, 11, 12, 13, 59] [(7, .slice none 0 0), (8, .int .i64 6), (9, .slice none 0 0), (10, .int .i64 6), (11, .slice A1 ((unT bt).length) c1), (12, .int .u8 (unM bt)), (13, .int .i64 (unE bt)), (59, .slice D nD cD)] (by kernel_rfl) rfl ?_
  have hzs5 := hS.size
  refine VL_call (d := 60) (f := 13) (by kernel_rfl) (by kernel_rfl) (by kernel_rfl) Try.call13 (runpack2_any D nD cD _ bt _ hnD hD hbD (by first | exact Nat.le_refl _ | omega) (by omega) (by omega)) ?_
  rintro _ w5 ⟨A2, c2, rfl, hr2, hc5⟩
  replace hS := Step.trans hS hc5
  replace hA := hA.no hc5
  replace hD := hD.no hc5
  replace hbase1 := Nat.le_trans hbase1 (hc5).size
  replace hr1 := hr1.no hc5
  obtain ⟨base2, hbase2E⟩ : ∃ x, x = w4.heap.size := ⟨_, rfl⟩
  rw [← hbase2E] at hr2
  have hbase2 : base2 ≤ w5.heap.size := by rw [hbase2E]; exact hc5.size
  refine VL_pure 9 [7, 8, 9, 10, 11, 12, 13, 14, 15, 16] [(7, .slice none 0 0), (8, .int .i64 6), (9, .slice none 0 0), (10, .int .i64 6), (11, .slice A1 ((unT bt).length) c1), (12, .int .u8 (unM bt)), (13, .int .i64 (unE bt)), (14, .slice A2 ((unT bt).length) c2), (15, .int .u8 (unM bt)), (16, .int .i64 (unE bt))] (by kernel_rfl) rfl ?_
  refine VL_end (by kernel_rfl) ?_
  refine VQ_next ?_
  refine VC_seq ?_
  refine VC_region ?_
  refine VL_pure 2 [8, 10, 11, 12, 13, 14, 15, 16, 64, 65] [(8, .int .i64 6), (10, .int .i64 6), (11, .slice A1 ((unT bt).length) c1), (12, .int .u8 (unM bt)), (13, .int .i64 (unE bt)), (14, .slice A2 ((unT bt).length) c2), (15, .int .u8 (unM bt)), (16, .int .i64 (unE bt)), (64, .slice none 0 0), (65, .slice none 0 0)] (by kernel_rfl) rfl ?_
  have hzs6 := hS.size
  refine VL_call (d := 66) (f := 14) (args := #[.slice none 0 0, .slice none 0 0]) (by kernel_rfl) (by kernel_rfl) (by kernel_rfl) Try.call14 (same_any none 0 0 _ ([] : List Int) none 0 0 _ ([] : List Int) _ rfl (Sl.nil (B := 0)) rfl (Sl.nil (B := 0)) (by omega) (by omega) (by first | exact Nat.le_refl _ | omega) (by first | exact Nat.le_refl _ | omega)) ?_
  rintro _ w6 ⟨rfl, hc6⟩
  replace hS := Step.trans hS hc6
  replace hA := hA.no hc6
  replace hD := hD.no hc6
  replace hbase1 := Nat.le_trans hbase1 (hc6).size
  replace hr1 := hr1.no hc6
  replace hbase2 := Nat.le_trans hbase2 (hc6).size
  replace hr2 := hr2.no hc6
  refine VL_pure 4 [8, 10, 11, 12, 13, 14, 15, 16, 67] [(8, .int .i64 6), (10, .int .i64 6), (11, .slice A1 ((unT bt).length) c1), (12, .int .u8 (unM bt)), (13, .int .i64 (unE bt)), (14, .slice A2 ((unT bt).length) c2), (15, .int .u8 (unM bt)), (16, .int .i64 (unE bt)), (67, .bool (([] : List Int) == ([] : List Int)))] (by kernel_rfl) rfl ?_
  refine VL_known (([] : List Int) == ([] : List Int)) (fun bV => [(8, .int .i64 6), (10, .int .i64 6), (11, .slice A1 ((unT bt).length) c1), (12, .int .u8 (unM bt)), (13, .int .i64 (unE bt)), (14, .slice A2 ((unT bt).length) c2), (15, .int .u8 (unM bt)), (16, .int .i64 (unE bt)), (67, .bool bV)]) true rfl (by simp) ?_
  refine VL_pure 11 [12, 13, 15, 16, 72, 73, 74] [(12, .int .u8 (unM bt)), (13, .int .i64 (unE bt)), (15, .int .u8 (unM bt)), (16, .int .i64 (unE bt)), (72, .bool true), (73, .slice A1 ((unT bt).length) c1), (74, .slice A2 ((unT bt).length) c2)] (by kernel_rfl) rfl ?_
  have hzs7 := hS.size
  refine VL_call (d := 75) (f := 14) (args := #[.slice A1 ((unT bt).length) c1, .slice A2 ((unT bt).length) c2]) (by kernel_rfl) (by kernel_rfl) (by kernel_rfl) Try.call14 (same_any A1 ((unT bt).length) c1 _ (unT bt) A2 ((unT bt).length) c2 _ (unT bt) _ (Rw.lenI hr1) (Rw.slI hr1) (Rw.lenI hr2) (Rw.slI hr2) (by omega) (by omega) (by first | exact Nat.le_refl _ | omega) (by first | exact Nat.le_refl _ | omega)) ?_
  rintro _ w7 ⟨rfl, hc7⟩
  replace hS := Step.trans hS hc7
  replace hA := hA.no hc7
  replace hD := hD.no hc7
  replace hbase1 := Nat.le_trans hbase1 (hc7).size
  replace hr1 := hr1.no hc7
  replace hbase2 := Nat.le_trans hbase2 (hc7).size
  replace hr2 := hr2.no hc7
  refine VL_pure 14 [12, 13, 15, 16, 77] [(12, .int .u8 (unM bt)), (13, .int .i64 (unE bt)), (15, .int .u8 (unM bt)), (16, .int .i64 (unE bt)), (77, .bool ((unT bt) == (unT bt)))] (by kernel_rfl) rfl ?_
  refine VL_known ((unT bt) == (unT bt)) (fun bV => [(12, .int .u8 (unM bt)), (13, .int .i64 (unE bt)), (15, .int .u8 (unM bt)), (16, .int .i64 (unE bt)), (77, .bool bV)]) true rfl (by simp) ?_
  refine VL_pure 19 [13, 16, 82] [(13, .int .i64 (unE bt)), (16, .int .i64 (unE bt)), (82, .bool ((unM bt) == (unM bt)))] (by kernel_rfl) rfl ?_
  refine VL_known ((unM bt) == (unM bt)) (fun bV => [(13, .int .i64 (unE bt)), (16, .int .i64 (unE bt)), (82, .bool bV)]) true rfl (by simp) ?_
  refine VL_pure 24 [6] [(6, .bool ((unE bt) == (unE bt)))] (by kernel_rfl) rfl ?_
  refine VL_end (by kernel_rfl) ?_
  refine VQ_next ?_
  refine VC_ret ?_
  refine VQ_ret1 (.bool ((unE bt) == (unE bt))) (.inr rfl) rfl rfl ?_
  exact ⟨by first | rfl | simp [*], hS⟩

set_option maxRecDepth 100000 in
set_option maxHeartbeats 4000000 in
theorem packs_o1 (A : Option Addr) (n c : Nat) (bs : List Int) (m : Int) (D : Option Addr) (nD cD : Nat) (bt : List Int) (w : World) (hn : bs.length = n) (hA : Sl w w.heap.size A (iL .u8 bs)) (hc : n ≤ c) (hb : Bytes bs) (hm : 0 ≤ m ∧ m < 256) (hnD : bt.length = nD) (hD : Sl w w.heap.size D (iL .u8 bt)) (hcD : nD ≤ cD) (hbD : Bytes bt) (hlon : 401 ≤ n) (hhin : n ≤ 1000) :
    CV Try.prog 3 #[.slice A n c, .int .u8 m, .slice D nD cD] w (fun x w1 => x = .bool true ∧ Step No w w1) := by
  have hS : Step No w w := Step.refl _ _
  refine CV_enter Try.f3 _ 87 [(0, .slice A n c), (1, .int .u8 m), (2, .slice D nD cD)] Try.func3 rfl rfl (by kernel_rfl) rfl ?_
  refine VC_seq ?_
  refine VC_region ?_
  refine VL_pure 1 [0, 1, 2] [(0, .slice A n c), (1, .int .u8 m), (2, .slice D nD cD)] (by kernel_rfl) rfl ?_
  refine VL_end (by kernel_rfl) ?_
  refine VQ_next ?_
  refine VC_seq ?_
  refine VC_seq ?_
  refine VC_region ?_
  have hzs1 := hS.size
  refine VL_call (d := 17) (f := 9) (args := #[]) (by kernel_rfl) (by kernel_rfl) (by kernel_rfl) Try.call9 (awake_any _) ?_
  rintro _ w1 ⟨rfl, hc1⟩
  replace hS := Step.trans hS hc1
  replace hA := hA.no hc1
  replace hD := hD.no hc1
  refine VL_pure 7 [0, 1, 2, 19, 23] [(0, .slice A n c), (1, .int .u8 m), (2, .slice D nD cD), (19, .bool false), (23, .bool (decide (((n : Nat) : Int) > 400)))] (by kernel_rfl) rfl ?_
  refine VL_known (decide (((n : Nat) : Int) > 400)) (fun bV => [(0, .slice A n c), (1, .int .u8 m), (2, .slice D nD cD), (19, .bool false), (23, .bool bV)]) true rfl (by first | (simp; omega) | (simp; done) | simp [*]) ?_
  refine VL_pure 13 [0, 1, 2, 29] [(0, .slice A n c), (1, .int .u8 m), (2, .slice D nD cD), (29, .bool (decide (((n : Nat) : Int) ≤ 1000)))] (by kernel_rfl) rfl ?_
  refine VL_known (decide (((n : Nat) : Int) ≤ 1000)) (fun bV => [(0, .slice A n c), (1, .int .u8 m), (2, .slice D nD cD), (29, .bool bV)]) true rfl (by first | (simp; omega) | (simp; done) | simp [*]) ?_
  refine VL_pure 22 [0, 1, 2, 38] [(0, .slice A n c), (1, .int .u8 m), (2, .slice D nD cD), (38, .bool true)] (by kernel_rfl) rfl ?_
  refine VL_end (by kernel_rfl) ?_
  refine VQ_next ?_
  refine VC_true (by kernel_rfl) ?_
  refine VC_seq ?_
  refine VC_region ?_
  have hzs2 := hS.size
  refine VL_call (d := 39) (f := 9) (args := #[]) (by kernel_rfl) (by kernel_rfl) (by kernel_rfl) Try.call9 (awake_any _) ?_
  rintro _ w2 ⟨rfl, hc2⟩
  replace hS := Step.trans hS hc2
  replace hA := hA.no hc2
  replace hD := hD.no hc2
  refine VL_pure 2 [6] [(6, .bool true)] (by kernel_rfl) rfl ?_
  refine VL_end (by kernel_rfl) ?_
  refine VQ_next ?_
  refine VC_ret ?_
  refine VQ_then_ret ?_
  refine VQ_ret1 (.bool true) (.inr rfl) rfl rfl ?_
  exact ⟨by first | rfl | simp [*], hS⟩

set_option maxRecDepth 100000 in
set_option maxHeartbeats 4000000 in
theorem packs_o2 (A : Option Addr) (n c : Nat) (bs : List Int) (m : Int) (D : Option Addr) (nD cD : Nat) (bt : List Int) (w : World) (hn : bs.length = n) (hA : Sl w w.heap.size A (iL .u8 bs)) (hc : n ≤ c) (hb : Bytes bs) (hm : 0 ≤ m ∧ m < 256) (hnD : bt.length = nD) (hD : Sl w w.heap.size D (iL .u8 bt)) (hcD : nD ≤ cD) (hbD : Bytes bt) (hlon : 2001 ≤ n) :
    CV Try.prog 3 #[.slice A n c, .int .u8 m, .slice D nD cD] w (fun x w1 => x = .bool true ∧ Step No w w1) := by
  have hS : Step No w w := Step.refl _ _
  refine CV_enter Try.f3 _ 87 [(0, .slice A n c), (1, .int .u8 m), (2, .slice D nD cD)] Try.func3 rfl rfl (by kernel_rfl) rfl ?_
  refine VC_seq ?_
  refine VC_region ?_
  refine VL_pure 1 [0, 1, 2] [(0, .slice A n c), (1, .int .u8 m), (2, .slice D nD cD)] (by kernel_rfl) rfl ?_
  refine VL_end (by kernel_rfl) ?_
  refine VQ_next ?_
  refine VC_seq ?_
  refine VC_seq ?_
  refine VC_region ?_
  have hzs1 := hS.size
  refine VL_call (d := 17) (f := 9) (args := #[]) (by kernel_rfl) (by kernel_rfl) (by kernel_rfl) Try.call9 (awake_any _) ?_
  rintro _ w1 ⟨rfl, hc1⟩
  replace hS := Step.trans hS hc1
  replace hA := hA.no hc1
  replace hD := hD.no hc1
  refine VL_pure 7 [0, 1, 2, 19, 23] [(0, .slice A n c), (1, .int .u8 m), (2, .slice D nD cD), (19, .bool false), (23, .bool (decide (((n : Nat) : Int) > 400)))] (by kernel_rfl) rfl ?_
  refine VL_known (decide (((n : Nat) : Int) > 400)) (fun bV => [(0, .slice A n c), (1, .int .u8 m), (2, .slice D nD cD), (19, .bool false), (23, .bool bV)]) true rfl (by first | (simp; omega) | (simp; done) | simp [*]) ?_
  refine VL_pure 13 [0, 1, 2, 29] [(0, .slice A n c), (1, .int .u8 m), (2, .slice D nD cD), (29, .bool (decide (((n : Nat) : Int) ≤ 1000)))] (by kernel_rfl) rfl ?_
  refine VL_known (decide (((n : Nat) : Int) ≤ 1000)) (fun bV => [(0, .slice A n c), (1, .int .u8 m), (2, .slice D nD cD), (29, .bool bV)]) false rfl (by first | (simp; omega) | (simp; done) | simp [*]) ?_
  refine VL_pure 18 [0, 1, 2, 34] [(0, .slice A n c), (1, .int .u8 m), (2, .slice D nD cD), (34, .bool (decide (((n : Nat) : Int) > 2000)))] (by kernel_rfl) rfl ?_
  refine VL_known (decide (((n : Nat) : Int) > 2000)) (fun bV => [(0, .slice A n c), (1, .int .u8 m), (2, .slice D nD cD), (34, .bool bV)]) true rfl (by first | (simp; omega) | (simp; done) | simp [*]) ?_
  refine VL_pure 22 [0, 1, 2, 38] [(0, .slice A n c), (1, .int .u8 m), (2, .slice D nD cD), (38, .bool true)] (by kernel_rfl) rfl ?_
  refine VL_end (by kernel_rfl) ?_
  refine VQ_next ?_
  refine VC_true (by kernel_rfl) ?_
  refine VC_seq ?_
  refine VC_region ?_
  have hzs2 := hS.size
  refine VL_call (d := 39) (f := 9) (args := #[]) (by kernel_rfl) (by kernel_rfl) (by kernel_rfl) Try.call9 (awake_any _) ?_
  rintro _ w2 ⟨rfl, hc2⟩
  replace hS := Step.trans hS hc2
  replace hA := hA.no hc2
  replace hD := hD.no hc2
  refine VL_pure 2 [6] [(6, .bool true)] (by kernel_rfl) rfl ?_
  refine VL_end (by kernel_rfl) ?_
  refine VQ_next ?_
  refine VC_ret ?_
  refine VQ_then_ret ?_
  refine VQ_ret1 (.bool true) (.inr rfl) rfl rfl ?_
  exact ⟨by first | rfl | simp [*], hS⟩

set_option maxRecDepth 100000 in
set_option maxHeartbeats 4000000 in
theorem packs_o3 (A : Option Addr) (n c : Nat) (bs : List Int) (m : Int) (D : Option Addr) (nD cD : Nat) (bt : List Int) (w : World) (hn : bs.length = n) (hA : Sl w w.heap.size A (iL .u8 bs)) (hc : n ≤ c) (hb : Bytes bs) (hm : 0 ≤ m ∧ m < 256) (hnD : bt.length = nD) (hD : Sl w w.heap.size D (iL .u8 bt)) (hcD : nD ≤ cD) (hbD : Bytes bt) (hlon : 0 ≤ n) (hhin : n ≤ 400) (hlonD : 401 ≤ nD) :
    CV Try.prog 3 #[.slice A n c, .int .u8 m, .slice D nD cD] w (fun x w1 => x = .bool true ∧ Step No w w1) := by
  have hS : Step No w w := Step.refl _ _
  refine CV_enter Try.f3 _ 87 [(0, .slice A n c), (1, .int .u8 m), (2, .slice D nD cD)] Try.func3 rfl rfl (by kernel_rfl) rfl ?_
  refine VC_seq ?_
  refine VC_region ?_
  refine VL_pure 1 [0, 1, 2] [(0, .slice A n c), (1, .int .u8 m), (2, .slice D nD cD)] (by kernel_rfl) rfl ?_
  refine VL_end (by kernel_rfl) ?_
  refine VQ_next ?_
  refine VC_seq ?_
  refine VC_seq ?_
  refine VC_region ?_
  have hzs1 := hS.size
  refine VL_call (d := 17) (f := 9) (args := #[]) (by kernel_rfl) (by kernel_rfl) (by kernel_rfl) Try.call9 (awake_any _) ?_
  rintro _ w1 ⟨rfl, hc1⟩
  replace hS := Step.trans hS hc1
  replace hA := hA.no hc1
  replace hD := hD.no hc1
  refine VL_pure 7 [0, 1, 2, 19, 23] [(0, .slice A n c), (1, .int .u8 m), (2, .slice D nD cD), (19, .bool false), (23, .bool (decide (((n : Nat) : Int) > 400)))] (by kernel_rfl) rfl ?_
  refine VL_known (decide (((n : Nat) : Int) > 400)) (fun bV => [(0, .slice A n c), (1, .int .u8 m), (2, .slice D nD cD), (19, .bool false), (23, .bool bV)]) false rfl (by first | (simp; omega) | (simp; done) | simp [*]) ?_
  refine VL_pure 18 [0, 1, 2, 34] [(0, .slice A n c), (1, .int .u8 m), (2, .slice D nD cD), (34, .bool (decide (((n : Nat) : Int) > 2000)))] (by kernel_rfl) rfl ?_
  refine VL_known (decide (((n : Nat) : Int) > 2000)) (fun bV => [(0, .slice A n c), (1, .int .u8 m), (2, .slice D nD cD), (34, .bool bV)]) false rfl (by first | (simp; omega) | (simp; done) | simp [*]) ?_
  refine VL_pure 22 [0, 1, 2, 38] [(0, .slice A n c), (1, .int .u8 m), (2, .slice D nD cD), (38, .bool (decide (((nD : Nat) : Int) > 400)))] (by kernel_rfl) rfl ?_
  refine VL_end (by kernel_rfl) ?_
  refine VQ_next ?_
  refine VC_is (b := decide (((nD : Nat) : Int) > 400)) true (by kernel_rfl) (by first | (simp; omega) | (simp; done) | simp [*]) ?_
  refine VC_ite_true ?_
  refine VC_seq ?_
  refine VC_region ?_
  have hzs2 := hS.size
  refine VL_call (d := 39) (f := 9) (args := #[]) (by kernel_rfl) (by kernel_rfl) (by kernel_rfl) Try.call9 (awake_any _) ?_
  rintro _ w2 ⟨rfl, hc2⟩
  replace hS := Step.trans hS hc2
  replace hA := hA.no hc2
  replace hD := hD.no hc2
  refine VL_pure 2 [6] [(6, .bool true)] (by kernel_rfl) rfl ?_
  refine VL_end (by kernel_rfl) ?_
  refine VQ_next ?_
  refine VC_ret ?_
  refine VQ_then_ret ?_
  refine VQ_ret1 (.bool true) (.inr rfl) rfl rfl ?_
  exact ⟨by first | rfl | simp [*], hS⟩

set_option maxRecDepth 100000 in
set_option maxHeartbeats 4000000 in
theorem packs_o4 (A : Option Addr) (n c : Nat) (bs : List Int) (m : Int) (D : Option Addr) (nD cD : Nat) (bt : List Int) (w : World) (hn : bs.length = n) (hA : Sl w w.heap.size A (iL .u8 bs)) (hc : n ≤ c) (hb : Bytes bs) (hm : 0 ≤ m ∧ m < 256) (hnD : bt.length = nD) (hD : Sl w w.heap.size D (iL .u8 bt)) (hcD : nD ≤ cD) (hbD : Bytes bt) (hlon : 1001 ≤ n) (hhin : n ≤ 2000) (hlonD : 401 ≤ nD) :
    CV Try.prog 3 #[.slice A n c, .int .u8 m, .slice D nD cD] w (fun x w1 => x = .bool true ∧ Step No w w1) := by
  have hS : Step No w w := Step.refl _ _
  refine CV_enter Try.f3 _ 87 [(0, .slice A n c), (1, .int .u8 m), (2, .slice D nD cD)] Try.func3 rfl rfl (by kernel_rfl) rfl ?_
  refine VC_seq ?_
  refine VC_region ?_
  refine VL_pure 1 [0, 1, 2] [(0, .slice A n c), (1, .int .u8 m), (2, .slice D nD cD)] (by kernel_rfl) rfl ?_
  refine VL_end (by kernel_rfl) ?_
  refine VQ_next ?_
  refine VC_seq ?_
  refine VC_seq ?_
  refine VC_region ?_
  have hzs1 := hS.size
  refine VL_call (d := 17) (f := 9) (args := #[]) (by kernel_rfl) (by kernel_rfl) (by kernel_rfl) Try.call9 (awake_any _) ?_
  rintro _ w1 ⟨rfl, hc1⟩
  replace hS := Step.trans hS hc1
  replace hA := hA.no hc1
  replace hD := hD.no hc1
  refine VL_pure 7 [0, 1, 2, 19, 23] [(0, .slice A n c), (1, .int .u8 m), (2, .slice D nD cD), (19, .bool false), (23, .bool (decide (((n : Nat) : Int) > 400)))] (by kernel_rfl) rfl ?_
  refine VL_known (decide (((n : Nat) : Int) > 400)) (fun bV => [(0, .slice A n c), (1, .int .u8 m), (2, .slice D nD cD), (19, .bool false), (23, .bool bV)]) true rfl (by first | (simp; omega) | (simp; done) | simp [*]) ?_
  refine VL_pure 13 [0, 1, 2, 29] [(0, .slice A n c), (1, .int .u8 m), (2, .slice D nD cD), (29, .bool (decide (((n : Nat) : Int) ≤ 1000)))] (by kernel_rfl) rfl ?_
  refine VL_known (decide (((n : Nat) : Int) ≤ 1000)) (fun bV => [(0, .slice A n c), (1, .int .u8 m), (2, .slice D nD cD), (29, .bool bV)]) false rfl (by first | (simp; omega) | (simp; done) | simp [*]) ?_
  refine VL_pure 18 [0, 1, 2, 34] [(0, .slice A n c), (1, .int .u8 m), (2, .slice D nD cD), (34, .bool (decide (((n : Nat) : Int) > 2000)))] (by kernel_rfl) rfl ?_
  refine VL_known (decide (((n : Nat) : Int) > 2000)) (fun bV => [(0, .slice A n c), (1, .int .u8 m), (2, .slice D nD cD), (34, .bool bV)]) false rfl (by first | (simp; omega) | (simp; done) | simp [*]) ?_
  refine VL_pure 22 [0, 1, 2, 38] [(0, .slice A n c), (1, .int .u8 m), (2, .slice D nD cD), (38, .bool (decide (((nD : Nat) : Int) > 400)))] (by kernel_rfl) rfl ?_
  refine VL_end (by kernel_rfl) ?_
  refine VQ_next ?_
  refine VC_is (b := decide (((nD : Nat) : Int) > 400)) true (by kernel_rfl) (by first | (simp; omega) | (simp; done) | simp [*]) ?_
  refine VC_ite_true ?_
  refine VC_seq ?_
  refine VC_region ?_
  have hzs2 := hS.size
  refine VL_call (d := 39) (f := 9) (args := #[]) (by kernel_rfl) (by kernel_rfl) (by kernel_rfl) Try.call9 (awake_any _) ?_
  rintro _ w2 ⟨rfl, hc2⟩
  replace hS := Step.trans hS hc2
  replace hA := hA.no hc2
  replace hD := hD.no hc2
  refine VL_pure 2 [6] [(6, .bool true)] (by kernel_rfl) rfl ?_
  refine VL_end (by kernel_rfl) ?_
  refine VQ_next ?_
  refine VC_ret ?_
  refine VQ_then_ret ?_
  refine VQ_ret1 (.bool true) (.inr rfl) rfl rfl ?_
  exact ⟨by first | rfl | simp [*], hS⟩

end Go.Proofs.Ytfgmlgkopphekaa
