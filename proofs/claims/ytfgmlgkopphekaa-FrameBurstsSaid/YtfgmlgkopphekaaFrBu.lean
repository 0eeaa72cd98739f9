/- Layer 10: FrameBursts. -/
import Derived.Test.YtfgmlgkopphekaaProg
import Derived.Test.YtfgmlgkopphekaaFr9
import Derived.Test.YtfgmlgkopphekaaFr11
import Derived.Test.YtfgmlgkopphekaaFr17
import Derived.Test.YtfgmlgkopphekaaFl1
set_option linter.unusedVariables false
set_option linter.unusedSimpArgs false
namespace Go.Proofs.Ytfgmlgkopphekaa
open Go.Vc Go.RowKit

set_option maxRecDepth 100000 in
set_option maxHeartbeats 4000000 in
theorem bursts_0 (A : Option Addr) (n c : Nat) (bs : List Int) (m : Int) (q y : Nat) (mo : List Int) (w : World) (hn : bs.length = n) (hA : Sl w w.heap.size A (iL .u8 bs)) (hc : n ≤ c) (hb : Bytes bs) (hm : 0 ≤ m ∧ m < 256) (hq : q < 18446744073709551616) (hy : y < 4294967296) (hmo : mo.length = 48) (hbm : Bytes mo) (hlon : 0 ≤ n) (hhin : n ≤ 0) :
    CV Try.prog 6 #[.slice A n c, .int .u8 m, .int .u64 ((q : Nat) : Int), .int .u32 ((y : Nat) : Int), .agg (iA .u8 mo)] w (fun x w1 => x = .bool true ∧ Step No w w1) := by
  have hS : Step No w w := Step.refl _ _
  refine CV_enter Try.f6 _ 168 [(0, .slice A n c), (1, .int .u8 m), (2, .int .u64 ((q : Nat) : Int)), (3, .int .u32 ((y : Nat) : Int)), (4, .agg (iA .u8 mo))] Try.func6 rfl rfl (by kernel_rfl) rfl ?_
  refine VC_seq ?_
  refine VC_region ?_
  have hzs1 := hS.size
  have hzs2 := hS.size
  refine VL_box (d := 9) (t := 40) (c := iA .u8 mo) (by kernel_rfl) (by kernel_rfl) ?_
  intro b1 w1 hn1
  replace hS := Step.trans hS (hn1.step No)
  replace hA := hA.no (hn1.step No)
  have ho1 := hn1.own
  have hzhn1 := hn1.size
  have hqhn1 := hn1.eqb
  refine VL_pure 2 [0, 1, 2, 3, 9] [(0, .slice A n c), (1, .int .u8 m), (2, .int .u64 ((q : Nat) : Int)), (3, .int .u32 ((y : Nat) : Int)), (9, .pointer (some ⟨b1, 0, none⟩))] (by kernel_rfl) rfl ?_
  refine VL_end (by kernel_rfl) ?_
  refine VQ_next ?_
  refine VC_seq ?_
  refine VC_seq ?_
  refine VC_region ?_
  have hzs3 := hS.size
  have hzl1 := ho1.lt
  refine VL_call (d := 29) (f := 9) (args := #[]) (by kernel_rfl) (by kernel_rfl) (by kernel_rfl) Try.call9 (awake_any _) ?_
  rintro _ w2 ⟨rfl, hc1⟩
  replace hS := Step.trans hS hc1
  replace hA := hA.no hc1
  replace ho1 := ho1.no hc1
  refine VL_pure 8 [0, 1, 2, 3, 9, 36] [(0, .slice A n c), (1, .int .u8 m), (2, .int .u64 ((q : Nat) : Int)), (3, .int .u32 ((y : Nat) : Int)), (9, .pointer (some ⟨b1, 0, none⟩)), (36, .bool (decide (((n : Nat) : Int) > 400)))] (by kernel_rfl) rfl ?_
  refine VL_known (decide (((n : Nat) : Int) > 400)) (fun bV => [(0, .slice A n c), (1, .int .u8 m), (2, .int .u64 ((q : Nat) : Int)), (3, .int .u32 ((y : Nat) : Int)), (9, .pointer (some ⟨b1, 0, none⟩)), (36, .bool bV)]) false rfl (by first | (simp; omega) | (simp; done) | simp [*]) ?_
  refine VL_pure 12 [0, 1, 2, 3, 9, 40] [(0, .slice A n c), (1, .int .u8 m), (2, .int .u64 ((q : Nat) : Int)), (3, .int .u32 ((y : Nat) : Int)), (9, .pointer (some ⟨b1, 0, none⟩)), (40, .bool (((n : Nat) : Int) == 0))] (by kernel_rfl) rfl ?_
  refine VL_end (by kernel_rfl) ?_
  refine VQ_next ?_
  refine VC_is (b := ((n : Nat) : Int) == 0) true (by kernel_rfl) (by first | (simp; omega) | (simp; done) | simp [*]) ?_
  refine VC_ite_true ?_
  refine VC_seq ?_
  refine VC_region ?_
  have hzs4 := hS.size
  have hzl2 := ho1.lt
  refine VL_call (d := 41) (f := 9) (args := #[]) (by kernel_rfl) (by kernel_rfl) (by kernel_rfl) Try.call9 (awake_any _) ?_
  rintro _ w3 ⟨rfl, hc2⟩
  replace hS := Step.trans hS hc2
  replace hA := hA.no hc2
  replace ho1 := ho1.no hc2
  refine VL_pure 2 [10] [(10, .bool true)] (by kernel_rfl) rfl ?_
  refine VL_end (by kernel_rfl) ?_
  refine VQ_next ?_
  refine VC_ret ?_
  refine VQ_then_ret ?_
  refine VQ_ret1 (.bool true) (.inr rfl) rfl rfl ?_
  exact ⟨by first | rfl | simp [*], hS⟩

set_option maxRecDepth 100000 in
set_option maxHeartbeats 4000000 in
theorem bursts_yes (A : Option Addr) (n c : Nat) (bs : List Int) (m : Int) (q y : Nat) (mo : List Int) (w : World) (hn : bs.length = n) (hA : Sl w w.heap.size A (iL .u8 bs)) (hc : n ≤ c) (hb : Bytes bs) (hm : 0 ≤ m ∧ m < 256) (hq : q < 18446744073709551616) (hy : y < 4294967296) (hmo : mo.length = 48) (hbm : Bytes mo) (hlon : 1 ≤ n) (hhin : n ≤ 400) :
    CV Try.prog 6 #[.slice A n c, .int .u8 m, .int .u64 ((q : Nat) : Int), .int .u32 ((y : Nat) : Int), .agg (iA .u8 mo)] w (fun x w1 => x = .bool true ∧ Step No w w1) := by
  have hS : Step No w w := Step.refl _ _
  refine CV_enter Try.f6 _ 168 [(0, .slice A n c), (1, .int .u8 m), (2, .int .u64 ((q : Nat) : Int)), (3, .int .u32 ((y : Nat) : Int)), (4, .agg (iA .u8 mo))] Try.func6 rfl rfl (by kernel_rfl) rfl ?_
  refine VC_seq ?_
  refine VC_region ?_
  have hzs1 := hS.size
  have hzs2 := hS.size
  refine VL_box (d := 9) (t := 40) (c := iA .u8 mo) (by kernel_rfl) (by kernel_rfl) ?_
  intro b1 w1 hn1
  replace hS := Step.trans hS (hn1.step No)
  replace hA := hA.no (hn1.step No)
  have ho1 := hn1.own
  have hzhn1 := hn1.size
  have hqhn1 := hn1.eqb
  refine VL_pure 2 [0, 1, 2, 3, 9] [(0, .slice A n c), (1, .int .u8 m), (2, .int .u64 ((q : Nat) : Int)), (3, .int .u32 ((y : Nat) : Int)), (9, .pointer (some ⟨b1, 0, none⟩))] (by kernel_rfl) rfl ?_
  refine VL_end (by kernel_rfl) ?_
  refine VQ_next ?_
  refine VC_seq ?_
  refine VC_seq ?_
  refine VC_region ?_
  have hzs3 := hS.size
  have hzl1 := ho1.lt
  refine VL_call (d := 29) (f := 9) (args := #[]) (by kernel_rfl) (by kernel_rfl) (by kernel_rfl) Try.call9 (awake_any _) ?_
  rintro _ w2 ⟨rfl, hc1⟩
  replace hS := Step.trans hS hc1
  replace hA := hA.no hc1
  replace ho1 := ho1.no hc1
  refine VL_pure 8 [0, 1, 2, 3, 9, 36] [(0, .slice A n c), (1, .int .u8 m), (2, .int .u64 ((q : Nat) : Int)), (3, .int .u32 ((y : Nat) : Int)), (9, .pointer (some ⟨b1, 0, none⟩)), (36, .bool (decide (((n : Nat) : Int) > 400)))] (by kernel_rfl) rfl ?_
  refine VL_known (decide (((n : Nat) : Int) > 400)) (fun bV => [(0, .slice A n c), (1, .int .u8 m), (2, .int .u64 ((q : Nat) : Int)), (3, .int .u32 ((y : Nat) : Int)), (9, .pointer (some ⟨b1, 0, none⟩)), (36, .bool bV)]) false rfl (by first | (simp; omega) | (simp; done) | simp [*]) ?_
  refine VL_pure 12 [0, 1, 2, 3, 9, 40] [(0, .slice A n c), (1, .int .u8 m), (2, .int .u64 ((q : Nat) : Int)), (3, .int .u32 ((y : Nat) : Int)), (9, .pointer (some ⟨b1, 0, none⟩)), (40, .bool (((n : Nat) : Int) == 0))] (by kernel_rfl) rfl ?_
  refine VL_end (by kernel_rfl) ?_
  refine VQ_next ?_
  refine VC_is (b := ((n : Nat) : Int) == 0) false (by kernel_rfl) (by first | (simp; omega) | (simp; done) | simp [*]) ?_
  refine VC_ite_false ?_
  refine VC_skip ?_
  refine VQ_next ?_
  refine VC_seq ?_
  refine VC_region ?_
  refine VL_pure 2 [0, 2, 3, 9, 43, 44] [(0, .slice A n c), (2, .int .u64 ((q : Nat) : Int)), (3, .int .u32 ((y : Nat) : Int)), (9, .pointer (some ⟨b1, 0, none⟩)), (43, .slice A n c), (44, .int .u8 m)] (by kernel_rfl) rfl ?_
  have hzs4 := hS.size
  have hzl2 := ho1.lt
  refine VL_call (d := 45) (f := 10) (by kernel_rfl) (by kernel_rfl) (by kernel_rfl) Try.call10 (pack_yes A n c _ bs _ hn hA m (by first | exact Nat.le_refl _ | omega) (by omega) (by omega)) ?_
  rintro _ w3 ⟨g1, c1, rfl, hggg1, hr1, hc2⟩
  replace hS := Step.trans hS hc2
  replace hA := hA.no hc2
  replace ho1 := ho1.no hc2
  obtain ⟨base1, hbase1E⟩ : ∃ x, x = w2.heap.size := ⟨_, rfl⟩
  rw [← hbase1E] at hr1 hggg1
  have hbase1 : base1 ≤ w3.heap.size := by rw [hbase1E]; exact hc2.size
  have hglg1 : g1 < w3.heap.size := (Rw.openG hr1).choose_spec.2.1
  have hcapg1 := Rw.cap hr1
  have hmmq1 := (many_le n).2 (by omega)
  refine VL_pure 8 [0, 2, 3, 9, 11] [(0, .slice A n c), (2, .int .u64 ((q : Nat) : Int)), (3, .int .u32 ((y : Nat) : Int)), (9, .pointer (some ⟨b1, 0, none⟩)), (11, .slice (some ⟨g1, 0, none⟩) (48 * manyN n) c1)] (by kernel_rfl) rfl ?_
  refine VL_end (by kernel_rfl) ?_
  refine VQ_next ?_
  refine VC_seq ?_
  refine VC_seq ?_
  refine VC_region ?_
  refine VL_pure 3 [0, 2, 3, 9, 11, 50] [(0, .slice A n c), (2, .int .u64 ((q : Nat) : Int)), (3, .int .u32 ((y : Nat) : Int)), (9, .pointer (some ⟨b1, 0, none⟩)), (11, .slice (some ⟨g1, 0, none⟩) (48 * manyN n) c1), (50, .bool (decide (((48 * manyN n : Nat) : Int) < 48)))] (by kernel_rfl) rfl ?_
  refine VL_end (by kernel_rfl) ?_
  refine VQ_next ?_
  refine VC_is (b := decide (((48 * manyN n : Nat) : Int) < 48)) false (by kernel_rfl) (decide_eq_false (by omega)) ?_
  refine VC_ite_false ?_
  refine VC_skip ?_
  refine VQ_next ?_
  refine VC_seq ?_
  refine VC_region ?_
  have hzs5 := hS.size
  have hzl3 := ho1.lt
  have hzk1 := hbase1
  have hzk2 := hglg1
  refine VL_bs (d := 51) (e := 5) (c := #[]) (len := 0) (by kernel_rfl) (by kernel_rfl) ?_
  intro b2 w4 hn2
  replace hS := Step.trans hS (hn2.step No)
  replace hA := hA.no (hn2.step No)
  replace ho1 := ho1.no (hn2.step No)
  replace hbase1 := Nat.le_trans hbase1 (hn2.step No).size
  replace hglg1 := Nat.lt_of_lt_of_le hglg1 (hn2.step No).size
  replace hr1 := hr1.no (hn2.step No)
  have ho2 := hn2.own
  have hzhn2 := hn2.size
  have hqhn2 := hn2.eqb
  refine VL_pure 2 [0, 2, 3, 9, 11, 51, 52] [(0, .slice A n c), (2, .int .u64 ((q : Nat) : Int)), (3, .int .u32 ((y : Nat) : Int)), (9, .pointer (some ⟨b1, 0, none⟩)), (11, .slice (some ⟨g1, 0, none⟩) (48 * manyN n) c1), (51, .slice (some ⟨b2, 0, none⟩) 0 0), (52, .slice (some ⟨g1, 0, none⟩) (48 * manyN n) c1)] (by kernel_rfl) rfl ?_
  have hzs6 := hS.size
  have hzl4 := ho1.lt
  have hzk3 := hbase1
  have hzk4 := hglg1
  have hzl5 := ho2.lt
  have hbase2 := Nat.le_of_lt ho2.lt
  refine VL_appendS (d := 53) (e := 5) (A := (some ⟨b2, 0, none⟩)) (m := 0) (c := 0) (A2 := (some ⟨g1, 0, none⟩)) (m2 := (48 * manyN n)) (c2 := c1) (bytes := 1) (by kernel_rfl) (by kernel_rfl) (by kernel_rfl) b2 w4.heap.size (iL .u8 ([])) (iL .u8 (frameF bs m)) (Rw.of_new ho2 (Nat.le_refl _) (Nat.le_of_ble_eq_true (by kernel_rfl))) (by rw [iL_length]; exact (Rw.lenI hr1)) (Sl.mono (Rw.slI hr1) (by first | exact Nat.le_refl _ | omega)) iL_one (48 * manyN n) (by omega) (by simp only [maxLen]; omega) (by omega) (by omega) ?_
  intro A1 c2 w5 hr2 hg1
  replace hr2 : Rw w5 b2 5 A1 (48 * manyN n) c2 (iL .u8 (frameF bs m)) := Rw.cast hr2 rfl (by simp only [iL, List.map_append, List.map_cons, List.map_nil, List.append_assoc, List.cons_append, List.nil_append, List.append_nil])
  have hzhg1 := hg1.size
  replace hS := Step.transNew hS hg1 (fun i hi hG => by (try simp only at hG); omega)
  replace hA := hA.step hg1 (fun k hk hG => by (try simp only at hG); omega)
  replace ho1 := ho1.step hg1 (by (try simp only); omega)
  replace hbase1 := Nat.le_trans hbase1 (hg1).size
  replace hglg1 := Nat.lt_of_lt_of_le hglg1 (hg1).size
  replace hr1 := hr1.keepG hg1 (by (try simp only); omega)
  replace hbase2 := Nat.le_trans hbase2 (hg1).size
  refine VL_pure 4 [0, 2, 3, 9, 11, 13] [(0, .slice A n c), (2, .int .u64 ((q : Nat) : Int)), (3, .int .u32 ((y : Nat) : Int)), (9, .pointer (some ⟨b1, 0, none⟩)), (11, .slice (some ⟨g1, 0, none⟩) (48 * manyN n) c1), (13, .slice A1 (48 * manyN n) c2)] (by kernel_rfl) rfl ?_
  refine VL_end (by kernel_rfl) ?_
  refine VQ_next ?_
  refine VC_seq ?_
  refine VC_region ?_
  refine VL_pure 1 [0, 2, 3, 9, 11, 13, 14] [(0, .slice A n c), (2, .int .u64 ((q : Nat) : Int)), (3, .int .u32 ((y : Nat) : Int)), (9, .pointer (some ⟨b1, 0, none⟩)), (11, .slice (some ⟨g1, 0, none⟩) (48 * manyN n) c1), (13, .slice A1 (48 * manyN n) c2), (14, .bool false)] (by kernel_rfl) rfl ?_
  refine VL_end (by kernel_rfl) ?_
  refine VQ_next ?_
  refine VC_seq ?_
  refine VC_seq ?_
  have hFL : (frameF bs m).length = (48 * manyN n) := by rw [← hn]; exact frameF_len (by omega)
  have hsq := Nat.mod_lt q (show 0 < 8 * (48 * manyN n) by omega)
  refine VC_region ?_
  refine VL_pure 1 [0, 2, 3, 9, 11, 13, 14, 54] [(0, .slice A n c), (2, .int .u64 ((q : Nat) : Int)), (3, .int .u32 ((y : Nat) : Int)), (9, .pointer (some ⟨b1, 0, none⟩)), (11, .slice (some ⟨g1, 0, none⟩) (48 * manyN n) c1), (13, .slice A1 (48 * manyN n) c2), (14, .bool false), (54, .int .i64 0)] (by kernel_rfl) rfl ?_
  refine VL_end (by kernel_rfl) ?_
  refine VQ_next ?_
  refine VC_block ?_
  refine VC_loop (σ := Nat × (Option Addr) × Nat) (fun σs => [(0, .slice A n c), (2, .int .u64 ((q : Nat) : Int)), (3, .int .u32 ((y : Nat) : Int)), (9, .pointer (some ⟨b1, 0, none⟩)), (11, .slice (some ⟨g1, 0, none⟩) (48 * manyN n) c1), (54, .int .i64 ((σs.1 : Nat) : Int)), (14, .bool (turnC (8 * (48 * manyN n)) (q % (8 * (48 * manyN n))) y σs.1)), (13, .slice σs.2.1 (48 * manyN n) σs.2.2)]) (fun σs w6 => (σs.1 ≤ 32) ∧ (Step No w w6) ∧ (Sl w6 (w.heap.size) A (iL .u8 bs)) ∧ (Own w6 b1 (iA .u8 mo) 40) ∧ (base1 ≤ w6.heap.size) ∧ (g1 < w6.heap.size) ∧ (Rw w6 base1 5 (some ⟨g1, 0, none⟩) (48 * manyN n) c1 (iL .u8 (frameF bs m))) ∧ (b2 ≤ w6.heap.size) ∧ (Rw w6 b2 5 σs.2.1 (48 * manyN n) σs.2.2 (iL .u8 (turnO (frameF bs m) (q % (8 * (48 * manyN n))) y σs.1)))) (fun σs w6 => 32 - σs.1) ⟨0, A1, c2⟩ ⟨rfl, rfl, rfl, rfl, rfl, rfl, rfl, rfl, trivial⟩ ?_ ?_
  · exact ⟨(by omega), hS, hA, ho1, hbase1, hglg1, hr1, hbase2, (Rw.cast hr2 rfl rfl)⟩
  rintro ⟨i, A2, c3⟩ w6 ⟨hi, hS, hA, ho1, hbase1, hglg1, hr1, hbase2, hr3⟩
  try dsimp only at hi hS hA ho1 hbase1 hglg1 hr1 hbase2 hr3 ⊢
  refine VC_seq ?_
  refine VC_region ?_
  refine VL_pure 1 [0, 2, 3, 9, 11, 54, 14, 13, 55] [(0, .slice A n c), (2, .int .u64 ((q : Nat) : Int)), (3, .int .u32 ((y : Nat) : Int)), (9, .pointer (some ⟨b1, 0, none⟩)), (11, .slice (some ⟨g1, 0, none⟩) (48 * manyN n) c1), (54, .int .i64 ((i : Nat) : Int)), (14, .bool (turnC (8 * (48 * manyN n)) (q % (8 * (48 * manyN n))) y i)), (13, .slice A2 (48 * manyN n) c3), (55, .bool (decide (((i : Nat) : Int) < 32)))] (by kernel_rfl) rfl ?_
  refine VL_end (by kernel_rfl) ?_
  refine VQ_next ?_
  refine VC_seq ?_
  refine VC_dec (((i : Nat) : Int) < 32) (by kernel_rfl) (fun h1 => ?_) (fun h1 => ?_)
  · refine VC_skip ?_
    refine VQ_next ?_
    refine VC_seq ?_
    refine VC_block ?_
    refine VC_seq ?_
    refine VC_region ?_
    refine VL_pure 2 [0, 2, 3, 9, 11, 54, 14, 13, 15] [(0, .slice A n c), (2, .int .u64 ((q : Nat) : Int)), (3, .int .u32 ((y : Nat) : Int)), (9, .pointer (some ⟨b1, 0, none⟩)), (11, .slice (some ⟨g1, 0, none⟩) (48 * manyN n) c1), (54, .int .i64 ((i : Nat) : Int)), (14, .bool (turnC (8 * (48 * manyN n)) (q % (8 * (48 * manyN n))) y i)), (13, .slice A2 (48 * manyN n) c3), (15, .int .i64 ((i : Nat) : Int))] (by kernel_rfl) rfl ?_
    refine VL_end (by kernel_rfl) ?_
    refine VQ_next ?_
    refine VC_seq ?_
    refine VC_region ?_
    refine VL_pure 4 [0, 2, 3, 9, 11, 54, 14, 13, 15, 57, 60] [(0, .slice A n c), (2, .int .u64 ((q : Nat) : Int)), (3, .int .u32 ((y : Nat) : Int)), (9, .pointer (some ⟨b1, 0, none⟩)), (11, .slice (some ⟨g1, 0, none⟩) (48 * manyN n) c1), (54, .int .i64 ((i : Nat) : Int)), (14, .bool (turnC (8 * (48 * manyN n)) (q % (8 * (48 * manyN n))) y i)), (13, .slice A2 (48 * manyN n) c3), (15, .int .i64 ((i : Nat) : Int)), (57, .int .u64 ((q : Nat) : Int)), (60, .int .i64 (IntKind.wrap .i64 (8 * ((48 * manyN n : Nat) : Int))))] (by kernel_rfl) rfl ?_
    have he1 : IntKind.wrap .i64 (8 * ((48 * manyN n : Nat) : Int)) = ((8 * (48 * manyN n) : Nat) : Int) := (by rw [wrap_i64 _ (by omega) (by omega)]; omega)
    refine VL_eq [(0, .slice A n c), (2, .int .u64 ((q : Nat) : Int)), (3, .int .u32 ((y : Nat) : Int)), (9, .pointer (some ⟨b1, 0, none⟩)), (11, .slice (some ⟨g1, 0, none⟩) (48 * manyN n) c1), (54, .int .i64 ((i : Nat) : Int)), (14, .bool (turnC (8 * (48 * manyN n)) (q % (8 * (48 * manyN n))) y i)), (13, .slice A2 (48 * manyN n) c3), (15, .int .i64 ((i : Nat) : Int)), (57, .int .u64 ((q : Nat) : Int)), (60, .int .i64 ((8 * (48 * manyN n) : Nat) : Int))] (by rw [he1]) ?_
    refine VL_pure 5 [0, 2, 3, 9, 11, 54, 14, 13, 15, 57, 61] [(0, .slice A n c), (2, .int .u64 ((q : Nat) : Int)), (3, .int .u32 ((y : Nat) : Int)), (9, .pointer (some ⟨b1, 0, none⟩)), (11, .slice (some ⟨g1, 0, none⟩) (48 * manyN n) c1), (54, .int .i64 ((i : Nat) : Int)), (14, .bool (turnC (8 * (48 * manyN n)) (q % (8 * (48 * manyN n))) y i)), (13, .slice A2 (48 * manyN n) c3), (15, .int .i64 ((i : Nat) : Int)), (57, .int .u64 ((q : Nat) : Int)), (61, .int .u64 (IntKind.wrap .u64 ((8 * (48 * manyN n) : Nat) : Int)))] (by kernel_rfl) rfl ?_
    refine VL_eq [(0, .slice A n c), (2, .int .u64 ((q : Nat) : Int)), (3, .int .u32 ((y : Nat) : Int)), (9, .pointer (some ⟨b1, 0, none⟩)), (11, .slice (some ⟨g1, 0, none⟩) (48 * manyN n) c1), (54, .int .i64 ((i : Nat) : Int)), (14, .bool (turnC (8 * (48 * manyN n)) (q % (8 * (48 * manyN n))) y i)), (13, .slice A2 (48 * manyN n) c3), (15, .int .i64 ((i : Nat) : Int)), (57, .int .u64 ((q : Nat) : Int)), (61, .int .u64 ((8 * (48 * manyN n) : Nat) : Int))] (by rw [wrap_u64n _ (by omega)]) ?_
    refine VL_rem (d := 62) (k := .u64) (x := ((q : Nat) : Int)) (y := ((8 * (48 * manyN n) : Nat) : Int)) (by kernel_rfl) (by kernel_rfl) (by omega) ?_
    refine VL_pure 7 [0, 2, 3, 9, 11, 54, 14, 13, 15, 63] [(0, .slice A n c), (2, .int .u64 ((q : Nat) : Int)), (3, .int .u32 ((y : Nat) : Int)), (9, .pointer (some ⟨b1, 0, none⟩)), (11, .slice (some ⟨g1, 0, none⟩) (48 * manyN n) c1), (54, .int .i64 ((i : Nat) : Int)), (14, .bool (turnC (8 * (48 * manyN n)) (q % (8 * (48 * manyN n))) y i)), (13, .slice A2 (48 * manyN n) c3), (15, .int .i64 ((i : Nat) : Int)), (63, .int .i64 (IntKind.wrap .i64 (((q : Nat) : Int).tmod ((8 * (48 * manyN n) : Nat) : Int))))] (by kernel_rfl) rfl ?_
    refine VL_eq [(0, .slice A n c), (2, .int .u64 ((q : Nat) : Int)), (3, .int .u32 ((y : Nat) : Int)), (9, .pointer (some ⟨b1, 0, none⟩)), (11, .slice (some ⟨g1, 0, none⟩) (48 * manyN n) c1), (54, .int .i64 ((i : Nat) : Int)), (14, .bool (turnC (8 * (48 * manyN n)) (q % (8 * (48 * manyN n))) y i)), (13, .slice A2 (48 * manyN n) c3), (15, .int .i64 ((i : Nat) : Int)), (63, .int .i64 ((q % (8 * (48 * manyN n)) : Nat) : Int))] (by rw [rem_nat64 _ _ (by omega) (by omega)]) ?_
    refine VL_pure 9 [0, 2, 3, 9, 11, 54, 14, 13, 15, 65] [(0, .slice A n c), (2, .int .u64 ((q : Nat) : Int)), (3, .int .u32 ((y : Nat) : Int)), (9, .pointer (some ⟨b1, 0, none⟩)), (11, .slice (some ⟨g1, 0, none⟩) (48 * manyN n) c1), (54, .int .i64 ((i : Nat) : Int)), (14, .bool (turnC (8 * (48 * manyN n)) (q % (8 * (48 * manyN n))) y i)), (13, .slice A2 (48 * manyN n) c3), (15, .int .i64 ((i : Nat) : Int)), (65, .int .i64 (IntKind.wrap .i64 (((q % (8 * (48 * manyN n)) : Nat) : Int) + ((i : Nat) : Int))))] (by kernel_rfl) rfl ?_
    have he2 : IntKind.wrap .i64 (((q % (8 * (48 * manyN n)) : Nat) : Int) + ((i : Nat) : Int)) = (((q % (8 * (48 * manyN n))) + i : Nat) : Int) := (by rw [wrap_i64 _ (by omega) (by omega)]; omega)
    refine VL_eq [(0, .slice A n c), (2, .int .u64 ((q : Nat) : Int)), (3, .int .u32 ((y : Nat) : Int)), (9, .pointer (some ⟨b1, 0, none⟩)), (11, .slice (some ⟨g1, 0, none⟩) (48 * manyN n) c1), (54, .int .i64 ((i : Nat) : Int)), (14, .bool (turnC (8 * (48 * manyN n)) (q % (8 * (48 * manyN n))) y i)), (13, .slice A2 (48 * manyN n) c3), (15, .int .i64 ((i : Nat) : Int)), (65, .int .i64 (((q % (8 * (48 * manyN n))) + i : Nat) : Int))] (by rw [he2]) ?_
    refine VL_pure 10 [0, 2, 3, 9, 11, 54, 14, 13, 15, 16] [(0, .slice A n c), (2, .int .u64 ((q : Nat) : Int)), (3, .int .u32 ((y : Nat) : Int)), (9, .pointer (some ⟨b1, 0, none⟩)), (11, .slice (some ⟨g1, 0, none⟩) (48 * manyN n) c1), (54, .int .i64 ((i : Nat) : Int)), (14, .bool (turnC (8 * (48 * manyN n)) (q % (8 * (48 * manyN n))) y i)), (13, .slice A2 (48 * manyN n) c3), (15, .int .i64 ((i : Nat) : Int)), (16, .int .i64 (((q % (8 * (48 * manyN n))) + i : Nat) : Int))] (by kernel_rfl) rfl ?_
    refine VL_end (by kernel_rfl) ?_
    refine VQ_next ?_
    refine VC_seq ?_
    refine VC_region ?_
    refine VL_pure 2 [0, 2, 3, 9, 11, 54, 14, 13, 16, 66, 67] [(0, .slice A n c), (2, .int .u64 ((q : Nat) : Int)), (3, .int .u32 ((y : Nat) : Int)), (9, .pointer (some ⟨b1, 0, none⟩)), (11, .slice (some ⟨g1, 0, none⟩) (48 * manyN n) c1), (54, .int .i64 ((i : Nat) : Int)), (14, .bool (turnC (8 * (48 * manyN n)) (q % (8 * (48 * manyN n))) y i)), (13, .slice A2 (48 * manyN n) c3), (16, .int .i64 (((q % (8 * (48 * manyN n))) + i : Nat) : Int)), (66, .int .u32 ((y : Nat) : Int)), (67, .int .i64 ((i : Nat) : Int))] (by kernel_rfl) rfl ?_
    refine VL_shr (d := 68) (k := .u32) (x := ((y : Nat) : Int)) (y := ((i : Nat) : Int)) (by kernel_rfl) (by kernel_rfl) i rfl (by simp only [IntKind.bits]; omega) ?_
    refine VL_pure 6 [0, 2, 3, 9, 11, 54, 14, 13, 16, 71] [(0, .slice A n c), (2, .int .u64 ((q : Nat) : Int)), (3, .int .u32 ((y : Nat) : Int)), (9, .pointer (some ⟨b1, 0, none⟩)), (11, .slice (some ⟨g1, 0, none⟩) (48 * manyN n) c1), (54, .int .i64 ((i : Nat) : Int)), (14, .bool (turnC (8 * (48 * manyN n)) (q % (8 * (48 * manyN n))) y i)), (13, .slice A2 (48 * manyN n) c3), (16, .int .i64 (((q % (8 * (48 * manyN n))) + i : Nat) : Int)), (71, .bool ((bAnd .u32 (((y : Nat) : Int).fdiv (2 ^ i)) 1) == 1))] (by kernel_rfl) rfl ?_
    refine VL_beq (bAnd .u32 (((y : Nat) : Int).fdiv (2 ^ i)) 1) 1 (fun bV => [(0, .slice A n c), (2, .int .u64 ((q : Nat) : Int)), (3, .int .u32 ((y : Nat) : Int)), (9, .pointer (some ⟨b1, 0, none⟩)), (11, .slice (some ⟨g1, 0, none⟩) (48 * manyN n) c1), (54, .int .i64 ((i : Nat) : Int)), (14, .bool (turnC (8 * (48 * manyN n)) (q % (8 * (48 * manyN n))) y i)), (13, .slice A2 (48 * manyN n) c3), (16, .int .i64 (((q % (8 * (48 * manyN n))) + i : Nat) : Int)), (71, .bool bV)]) rfl (fun hg2 => ?_) (fun hg2 => ?_)
    · refine VL_pure 10 [0, 2, 3, 9, 11, 54, 14, 13, 16, 71, 72, 75] [(0, .slice A n c), (2, .int .u64 ((q : Nat) : Int)), (3, .int .u32 ((y : Nat) : Int)), (9, .pointer (some ⟨b1, 0, none⟩)), (11, .slice (some ⟨g1, 0, none⟩) (48 * manyN n) c1), (54, .int .i64 ((i : Nat) : Int)), (14, .bool (turnC (8 * (48 * manyN n)) (q % (8 * (48 * manyN n))) y i)), (13, .slice A2 (48 * manyN n) c3), (16, .int .i64 (((q % (8 * (48 * manyN n))) + i : Nat) : Int)), (71, .bool true), (72, .int .i64 (((q % (8 * (48 * manyN n))) + i : Nat) : Int)), (75, .int .i64 (IntKind.wrap .i64 (8 * ((48 * manyN n : Nat) : Int))))] (by kernel_rfl) rfl ?_
      have he3 : IntKind.wrap .i64 (8 * ((48 * manyN n : Nat) : Int)) = ((8 * (48 * manyN n) : Nat) : Int) := (by rw [wrap_i64 _ (by omega) (by omega)]; omega)
      refine VL_eq [(0, .slice A n c), (2, .int .u64 ((q : Nat) : Int)), (3, .int .u32 ((y : Nat) : Int)), (9, .pointer (some ⟨b1, 0, none⟩)), (11, .slice (some ⟨g1, 0, none⟩) (48 * manyN n) c1), (54, .int .i64 ((i : Nat) : Int)), (14, .bool (turnC (8 * (48 * manyN n)) (q % (8 * (48 * manyN n))) y i)), (13, .slice A2 (48 * manyN n) c3), (16, .int .i64 (((q % (8 * (48 * manyN n))) + i : Nat) : Int)), (71, .bool true), (72, .int .i64 (((q % (8 * (48 * manyN n))) + i : Nat) : Int)), (75, .int .i64 ((8 * (48 * manyN n) : Nat) : Int))] (by rw [he3]) ?_
      refine VL_pure 12 [0, 2, 3, 9, 11, 54, 14, 13, 16, 77] [(0, .slice A n c), (2, .int .u64 ((q : Nat) : Int)), (3, .int .u32 ((y : Nat) : Int)), (9, .pointer (some ⟨b1, 0, none⟩)), (11, .slice (some ⟨g1, 0, none⟩) (48 * manyN n) c1), (54, .int .i64 ((i : Nat) : Int)), (14, .bool (turnC (8 * (48 * manyN n)) (q % (8 * (48 * manyN n))) y i)), (13, .slice A2 (48 * manyN n) c3), (16, .int .i64 (((q % (8 * (48 * manyN n))) + i : Nat) : Int)), (77, .bool (decide ((((q % (8 * (48 * manyN n))) + i : Nat) : Int) < ((8 * (48 * manyN n) : Nat) : Int))))] (by kernel_rfl) rfl ?_
      refine VL_end (by kernel_rfl) ?_
      refine VQ_next ?_
      refine VC_dec ((((q % (8 * (48 * manyN n))) + i : Nat) : Int) < ((8 * (48 * manyN n) : Nat) : Int)) (by kernel_rfl) (fun h2 => ?_) (fun h2 => ?_)
      · refine VC_seq ?_
        have hbase1_k := hbase1
        have hbase2_k := hbase2
        refine VC_region ?_
        refine VL_pure 2 [0, 2, 3, 9, 11, 54, 78, 79] [(0, .slice A n c), (2, .int .u64 ((q : Nat) : Int)), (3, .int .u32 ((y : Nat) : Int)), (9, .pointer (some ⟨b1, 0, none⟩)), (11, .slice (some ⟨g1, 0, none⟩) (48 * manyN n) c1), (54, .int .i64 ((i : Nat) : Int)), (78, .slice A2 (48 * manyN n) c3), (79, .int .i64 (((q % (8 * (48 * manyN n))) + i : Nat) : Int))] (by kernel_rfl) rfl ?_
        have hzs7 := hS.size
        have hzl6 := ho1.lt
        refine VL_call (d := 80) (f := 17) (by kernel_rfl) (by kernel_rfl) (by kernel_rfl) Try.call17 (flip_any A2 (48 * manyN n) c3 _ (turnO (frameF bs m) (q % (8 * (48 * manyN n))) y i) _ (Rw.lenI hr3) (Rw.slI hr3) (by first | exact Nat.le_refl _ | omega) ((q % (8 * (48 * manyN n))) + i) (by omega) (by omega)) ?_
        rintro _ w7 ⟨fg1, fc1, rfl, fhg1, fh1, hc3⟩
        replace hS := Step.trans hS hc3
        replace hA := hA.no hc3
        replace ho1 := ho1.no hc3
        replace hbase1 := Nat.le_trans hbase1 (hc3).size
        replace hglg1 := Nat.lt_of_lt_of_le hglg1 (hc3).size
        replace hr1 := hr1.no hc3
        replace hbase2 := Nat.le_trans hbase2 (hc3).size
        replace hr3 := hr3.no hc3
        obtain ⟨fb1, fhb1E⟩ : ∃ x, x = w6.heap.size := ⟨_, rfl⟩
        rw [← fhb1E] at fh1 fhg1
        have fhb1 : fb1 ≤ w7.heap.size := by rw [fhb1E]; exact hc3.size
        have hglfg1 : fg1 < w7.heap.size := (Rw.openG fh1).choose_spec.2.1
        refine VL_pure 4 [0, 2, 3, 9, 11, 54, 13] [(0, .slice A n c), (2, .int .u64 ((q : Nat) : Int)), (3, .int .u32 ((y : Nat) : Int)), (9, .pointer (some ⟨b1, 0, none⟩)), (11, .slice (some ⟨g1, 0, none⟩) (48 * manyN n) c1), (54, .int .i64 ((i : Nat) : Int)), (13, .slice (some ⟨fg1, 0, none⟩) (48 * manyN n) fc1)] (by kernel_rfl) rfl ?_
        refine VL_end (by kernel_rfl) ?_
        refine VQ_next ?_
        refine VC_region ?_
        refine VL_pure 1 [0, 2, 3, 9, 11, 54, 13, 14] [(0, .slice A n c), (2, .int .u64 ((q : Nat) : Int)), (3, .int .u32 ((y : Nat) : Int)), (9, .pointer (some ⟨b1, 0, none⟩)), (11, .slice (some ⟨g1, 0, none⟩) (48 * manyN n) c1), (54, .int .i64 ((i : Nat) : Int)), (13, .slice (some ⟨fg1, 0, none⟩) (48 * manyN n) fc1), (14, .bool true)] (by kernel_rfl) rfl ?_
        refine VL_end (by kernel_rfl) ?_
        refine VQ_block_normal ?_
        refine VQ_next ?_
        refine VC_region ?_
        refine VL_eq [(0, .slice A n c), (2, .int .u64 ((q : Nat) : Int)), (3, .int .u32 ((y : Nat) : Int)), (9, .pointer (some ⟨b1, 0, none⟩)), (11, .slice (some ⟨g1, 0, none⟩) (48 * manyN n) c1), (54, .int .i64 ((i : Nat) : Int)), (13, .slice (some ⟨fg1, 0, none⟩) (48 * manyN n) fc1), (14, .bool (turnC (8 * (48 * manyN n)) (q % (8 * (48 * manyN n))) y (i + 1)))] (by rw [turnC_y (by assumption) hy (by omega)]) ?_
        refine VL_pure 1 [0, 2, 3, 9, 11, 13, 14, 81] [(0, .slice A n c), (2, .int .u64 ((q : Nat) : Int)), (3, .int .u32 ((y : Nat) : Int)), (9, .pointer (some ⟨b1, 0, none⟩)), (11, .slice (some ⟨g1, 0, none⟩) (48 * manyN n) c1), (13, .slice (some ⟨fg1, 0, none⟩) (48 * manyN n) fc1), (14, .bool (turnC (8 * (48 * manyN n)) (q % (8 * (48 * manyN n))) y (i + 1))), (81, .int .i64 (IntKind.wrap .i64 (((i : Nat) : Int) + 1)))] (by kernel_rfl) rfl ?_
        have he4 : IntKind.wrap .i64 (((i : Nat) : Int) + 1) = ((i + 1 : Nat) : Int) := (by rw [wrap_i64 _ (by omega) (by omega)]; omega)
        refine VL_eq [(0, .slice A n c), (2, .int .u64 ((q : Nat) : Int)), (3, .int .u32 ((y : Nat) : Int)), (9, .pointer (some ⟨b1, 0, none⟩)), (11, .slice (some ⟨g1, 0, none⟩) (48 * manyN n) c1), (13, .slice (some ⟨fg1, 0, none⟩) (48 * manyN n) fc1), (14, .bool (turnC (8 * (48 * manyN n)) (q % (8 * (48 * manyN n))) y (i + 1))), (81, .int .i64 ((i + 1 : Nat) : Int))] (by rw [he4]) ?_
        refine VL_pure 2 [0, 2, 3, 9, 11, 13, 14, 54] [(0, .slice A n c), (2, .int .u64 ((q : Nat) : Int)), (3, .int .u32 ((y : Nat) : Int)), (9, .pointer (some ⟨b1, 0, none⟩)), (11, .slice (some ⟨g1, 0, none⟩) (48 * manyN n) c1), (13, .slice (some ⟨fg1, 0, none⟩) (48 * manyN n) fc1), (14, .bool (turnC (8 * (48 * manyN n)) (q % (8 * (48 * manyN n))) y (i + 1))), (54, .int .i64 ((i + 1 : Nat) : Int))] (by kernel_rfl) rfl ?_
        refine VL_end (by kernel_rfl) ?_
        refine VQ_again (⟨i + 1, (some ⟨fg1, 0, none⟩), fc1⟩) ⟨rfl, rfl, rfl, rfl, rfl, rfl, rfl, rfl, trivial⟩ ?_ ?_
        · exact ⟨(by omega), hS, hA, ho1, hbase1, hglg1, hr1, hbase2, (Rw.low (Rw.cast fh1 rfl (by first | rw [turnO_y hFL (by assumption) hy (by omega)] | rw [(turn_n hFL hy (by first | exact .inl ‹_› | (right; omega))).1])) (by omega))⟩
        · (try dsimp only); omega
      · refine VC_skip ?_
        refine VQ_block_normal ?_
        refine VQ_next ?_
        refine VC_region ?_
        refine VL_eq [(0, .slice A n c), (2, .int .u64 ((q : Nat) : Int)), (3, .int .u32 ((y : Nat) : Int)), (9, .pointer (some ⟨b1, 0, none⟩)), (11, .slice (some ⟨g1, 0, none⟩) (48 * manyN n) c1), (54, .int .i64 ((i : Nat) : Int)), (14, .bool (turnC (8 * (48 * manyN n)) (q % (8 * (48 * manyN n))) y (i + 1))), (13, .slice A2 (48 * manyN n) c3), (16, .int .i64 (((q % (8 * (48 * manyN n))) + i : Nat) : Int)), (77, .bool (decide ((((q % (8 * (48 * manyN n))) + i : Nat) : Int) < ((8 * (48 * manyN n) : Nat) : Int))))] (by rw [(turn_n hFL hy (by first | exact .inl ‹_› | (right; omega))).2]) ?_
        refine VL_pure 1 [0, 2, 3, 9, 11, 14, 13, 81] [(0, .slice A n c), (2, .int .u64 ((q : Nat) : Int)), (3, .int .u32 ((y : Nat) : Int)), (9, .pointer (some ⟨b1, 0, none⟩)), (11, .slice (some ⟨g1, 0, none⟩) (48 * manyN n) c1), (14, .bool (turnC (8 * (48 * manyN n)) (q % (8 * (48 * manyN n))) y (i + 1))), (13, .slice A2 (48 * manyN n) c3), (81, .int .i64 (IntKind.wrap .i64 (((i : Nat) : Int) + 1)))] (by kernel_rfl) rfl ?_
        have he5 : IntKind.wrap .i64 (((i : Nat) : Int) + 1) = ((i + 1 : Nat) : Int) := (by rw [wrap_i64 _ (by omega) (by omega)]; omega)
        refine VL_eq [(0, .slice A n c), (2, .int .u64 ((q : Nat) : Int)), (3, .int .u32 ((y : Nat) : Int)), (9, .pointer (some ⟨b1, 0, none⟩)), (11, .slice (some ⟨g1, 0, none⟩) (48 * manyN n) c1), (14, .bool (turnC (8 * (48 * manyN n)) (q % (8 * (48 * manyN n))) y (i + 1))), (13, .slice A2 (48 * manyN n) c3), (81, .int .i64 ((i + 1 : Nat) : Int))] (by rw [he5]) ?_
        refine VL_pure 2 [0, 2, 3, 9, 11, 14, 13, 54] [(0, .slice A n c), (2, .int .u64 ((q : Nat) : Int)), (3, .int .u32 ((y : Nat) : Int)), (9, .pointer (some ⟨b1, 0, none⟩)), (11, .slice (some ⟨g1, 0, none⟩) (48 * manyN n) c1), (14, .bool (turnC (8 * (48 * manyN n)) (q % (8 * (48 * manyN n))) y (i + 1))), (13, .slice A2 (48 * manyN n) c3), (54, .int .i64 ((i + 1 : Nat) : Int))] (by kernel_rfl) rfl ?_
        refine VL_end (by kernel_rfl) ?_
        refine VQ_again ⟨i + 1, A2, c3⟩ ⟨rfl, rfl, rfl, rfl, rfl, rfl, rfl, rfl, trivial⟩ ?_ ?_
        · exact ⟨(by omega), hS, hA, ho1, hbase1, hglg1, hr1, hbase2, (Rw.low (Rw.cast hr3 rfl (by first | rw [turnO_y hFL (by assumption) hy (by omega)] | rw [(turn_n hFL hy (by first | exact .inl ‹_› | (right; omega))).1])) (by omega))⟩
        · (try dsimp only); omega
    · refine VL_pure 12 [0, 2, 3, 9, 11, 54, 14, 13, 16, 77] [(0, .slice A n c), (2, .int .u64 ((q : Nat) : Int)), (3, .int .u32 ((y : Nat) : Int)), (9, .pointer (some ⟨b1, 0, none⟩)), (11, .slice (some ⟨g1, 0, none⟩) (48 * manyN n) c1), (54, .int .i64 ((i : Nat) : Int)), (14, .bool (turnC (8 * (48 * manyN n)) (q % (8 * (48 * manyN n))) y i)), (13, .slice A2 (48 * manyN n) c3), (16, .int .i64 (((q % (8 * (48 * manyN n))) + i : Nat) : Int)), (77, .bool false)] (by kernel_rfl) rfl ?_
      refine VL_end (by kernel_rfl) ?_
      refine VQ_next ?_
      refine VC_false (by kernel_rfl) ?_
      refine VC_skip ?_
      refine VQ_block_normal ?_
      refine VQ_next ?_
      refine VC_region ?_
      refine VL_eq [(0, .slice A n c), (2, .int .u64 ((q : Nat) : Int)), (3, .int .u32 ((y : Nat) : Int)), (9, .pointer (some ⟨b1, 0, none⟩)), (11, .slice (some ⟨g1, 0, none⟩) (48 * manyN n) c1), (54, .int .i64 ((i : Nat) : Int)), (14, .bool (turnC (8 * (48 * manyN n)) (q % (8 * (48 * manyN n))) y (i + 1))), (13, .slice A2 (48 * manyN n) c3), (16, .int .i64 (((q % (8 * (48 * manyN n))) + i : Nat) : Int)), (77, .bool false)] (by rw [(turn_n hFL hy (by first | exact .inl ‹_› | (right; omega))).2]) ?_
      refine VL_pure 1 [0, 2, 3, 9, 11, 14, 13, 81] [(0, .slice A n c), (2, .int .u64 ((q : Nat) : Int)), (3, .int .u32 ((y : Nat) : Int)), (9, .pointer (some ⟨b1, 0, none⟩)), (11, .slice (some ⟨g1, 0, none⟩) (48 * manyN n) c1), (14, .bool (turnC (8 * (48 * manyN n)) (q % (8 * (48 * manyN n))) y (i + 1))), (13, .slice A2 (48 * manyN n) c3), (81, .int .i64 (IntKind.wrap .i64 (((i : Nat) : Int) + 1)))] (by kernel_rfl) rfl ?_
      have he6 : IntKind.wrap .i64 (((i : Nat) : Int) + 1) = ((i + 1 : Nat) : Int) := (by rw [wrap_i64 _ (by omega) (by omega)]; omega)
      refine VL_eq [(0, .slice A n c), (2, .int .u64 ((q : Nat) : Int)), (3, .int .u32 ((y : Nat) : Int)), (9, .pointer (some ⟨b1, 0, none⟩)), (11, .slice (some ⟨g1, 0, none⟩) (48 * manyN n) c1), (14, .bool (turnC (8 * (48 * manyN n)) (q % (8 * (48 * manyN n))) y (i + 1))), (13, .slice A2 (48 * manyN n) c3), (81, .int .i64 ((i + 1 : Nat) : Int))] (by rw [he6]) ?_
      refine VL_pure 2 [0, 2, 3, 9, 11, 14, 13, 54] [(0, .slice A n c), (2, .int .u64 ((q : Nat) : Int)), (3, .int .u32 ((y : Nat) : Int)), (9, .pointer (some ⟨b1, 0, none⟩)), (11, .slice (some ⟨g1, 0, none⟩) (48 * manyN n) c1), (14, .bool (turnC (8 * (48 * manyN n)) (q % (8 * (48 * manyN n))) y (i + 1))), (13, .slice A2 (48 * manyN n) c3), (54, .int .i64 ((i + 1 : Nat) : Int))] (by kernel_rfl) rfl ?_
      refine VL_end (by kernel_rfl) ?_
      refine VQ_again ⟨i + 1, A2, c3⟩ ⟨rfl, rfl, rfl, rfl, rfl, rfl, rfl, rfl, trivial⟩ ?_ ?_
      · exact ⟨(by omega), hS, hA, ho1, hbase1, hglg1, hr1, hbase2, (Rw.low (Rw.cast hr3 rfl (by first | rw [turnO_y hFL (by assumption) hy (by omega)] | rw [(turn_n hFL hy (by first | exact .inl ‹_› | (right; omega))).1])) (by omega))⟩
      · (try dsimp only); omega
  · refine VC_exit ?_
    refine VQ_then_exit ?_
    refine VQ_then_exit ?_
    refine VQ_block_hit ?_
    refine VQ_next ?_
    refine VC_seq ?_
    obtain rfl : i = 32 := by omega
    refine VC_region ?_
    refine VL_pure 1 [0, 9, 11, 14, 83] [(0, .slice A n c), (9, .pointer (some ⟨b1, 0, none⟩)), (11, .slice (some ⟨g1, 0, none⟩) (48 * manyN n) c1), (14, .bool (turnC (8 * (48 * manyN n)) (q % (8 * (48 * manyN n))) y 32)), (83, .slice A2 (48 * manyN n) c3)] (by kernel_rfl) rfl ?_
    have hzs8 := hS.size
    have hzl7 := ho1.lt
    refine VL_call (d := 84) (f := 12) (by kernel_rfl) (by kernel_rfl) (by kernel_rfl) Try.call12 (unpack_any A2 (48 * manyN n) c3 _ (turnO (frameF bs m) (q % (8 * (48 * manyN n))) y 32) _ (Rw.lenI hr3) (Rw.slI hr3) (turnO_bytes (frame_bytes hb hm) _ _ _) (by first | exact Nat.le_refl _ | omega) (by omega) (by have hq9 := Rw.cap hr3; omega)) ?_
    rintro _ w8 ⟨A3, c4, rfl, hr4, hc4⟩
    replace hS := Step.trans hS hc4
    replace hA := hA.no hc4
    replace ho1 := ho1.no hc4
    replace hbase1 := Nat.le_trans hbase1 (hc4).size
    replace hglg1 := Nat.lt_of_lt_of_le hglg1 (hc4).size
    replace hr1 := hr1.no hc4
    replace hbase2 := Nat.le_trans hbase2 (hc4).size
    replace hr3 := hr3.no hc4
    obtain ⟨base2, hbase3E⟩ : ∃ x, x = w6.heap.size := ⟨_, rfl⟩
    rw [← hbase3E] at hr4
    have hbase3 : base2 ≤ w8.heap.size := by rw [hbase3E]; exact hc4.size
    have hutq2 := unT_le (turnO (frameF bs m) (q % (8 * (48 * manyN n))) y 32)
    refine VL_pure 9 [0, 9, 11, 14, 17, 18, 19] [(0, .slice A n c), (9, .pointer (some ⟨b1, 0, none⟩)), (11, .slice (some ⟨g1, 0, none⟩) (48 * manyN n) c1), (14, .bool (turnC (8 * (48 * manyN n)) (q % (8 * (48 * manyN n))) y 32)), (17, .slice A3 ((unT (turnO (frameF bs m) (q % (8 * (48 * manyN n))) y 32)).length) c4), (18, .int .u8 (unM (turnO (frameF bs m) (q % (8 * (48 * manyN n))) y 32))), (19, .int .i64 (unE (turnO (frameF bs m) (q % (8 * (48 * manyN n))) y 32)))] (by kernel_rfl) rfl ?_
    refine VL_end (by kernel_rfl) ?_
    refine VQ_next ?_
    refine VC_seq ?_
    refine VC_seq ?_
    refine VC_region ?_
    refine VL_pure 1 [0, 9, 11, 17, 18, 19, 88] [(0, .slice A n c), (9, .pointer (some ⟨b1, 0, none⟩)), (11, .slice (some ⟨g1, 0, none⟩) (48 * manyN n) c1), (17, .slice A3 ((unT (turnO (frameF bs m) (q % (8 * (48 * manyN n))) y 32)).length) c4), (18, .int .u8 (unM (turnO (frameF bs m) (q % (8 * (48 * manyN n))) y 32))), (19, .int .i64 (unE (turnO (frameF bs m) (q % (8 * (48 * manyN n))) y 32))), (88, .bool (turnC (8 * (48 * manyN n)) (q % (8 * (48 * manyN n))) y 32))] (by kernel_rfl) rfl ?_
    refine VL_end (by kernel_rfl) ?_
    refine VQ_next ?_
    refine VC_cond (turnC (8 * (48 * manyN n)) (q % (8 * (48 * manyN n))) y 32) (by kernel_rfl) (fun h3 => ?_) (fun h3 => ?_)
    · try simp only [Bool.and_eq_true, Bool.or_eq_true, decide_eq_true_eq, Bool.not_eq_true', decide_eq_false_iff_not, Bool.and_eq_false_iff, Bool.or_eq_false_iff, beq_iff_eq, bne_iff_ne, beq_eq_false_iff_ne, bne_eq_false_iff_eq, Bool.not_eq_eq_eq_not, Bool.not_true, Bool.not_false] at h3
      refine VC_seq ?_
      refine VC_region ?_
      refine VL_pure 3 [17, 18, 91] [(17, .slice A3 ((unT (turnO (frameF bs m) (q % (8 * (48 * manyN n))) y 32)).length) c4), (18, .int .u8 (unM (turnO (frameF bs m) (q % (8 * (48 * manyN n))) y 32))), (91, .bool ((unE (turnO (frameF bs m) (q % (8 * (48 * manyN n))) y 32)) == 4))] (by kernel_rfl) rfl ?_
      refine VL_known ((unE (turnO (frameF bs m) (q % (8 * (48 * manyN n))) y 32)) == 4) (fun bV => [(17, .slice A3 ((unT (turnO (frameF bs m) (q % (8 * (48 * manyN n))) y 32)).length) c4), (18, .int .u8 (unM (turnO (frameF bs m) (q % (8 * (48 * manyN n))) y 32))), (91, .bool bV)]) true rfl (beq_iff_eq.2 (un_turnO hn (by omega) hb hm _ _ ‹_›)) ?_
      refine VL_pure 8 [18, 96] [(18, .int .u8 (unM (turnO (frameF bs m) (q % (8 * (48 * manyN n))) y 32))), (96, .bool ((((unT (turnO (frameF bs m) (q % (8 * (48 * manyN n))) y 32)).length : Nat) : Int) == 0))] (by kernel_rfl) rfl ?_
      refine VL_known ((((unT (turnO (frameF bs m) (q % (8 * (48 * manyN n))) y 32)).length : Nat) : Int) == 0) (fun bV => [(18, .int .u8 (unM (turnO (frameF bs m) (q % (8 * (48 * manyN n))) y 32))), (96, .bool bV)]) true rfl (by rw [(un_err (un_turnO hn (by omega) hb hm _ _ ‹_›) (by decide)).1]; rfl) ?_
      refine VL_pure 12 [10] [(10, .bool ((unM (turnO (frameF bs m) (q % (8 * (48 * manyN n))) y 32)) == 0))] (by kernel_rfl) rfl ?_
      refine VL_end (by kernel_rfl) ?_
      refine VQ_next ?_
      refine VC_ret ?_
      refine VQ_then_ret ?_
      refine VQ_ret1 (.bool ((unM (turnO (frameF bs m) (q % (8 * (48 * manyN n))) y 32)) == 0)) (.inr rfl) rfl rfl ?_
      exact ⟨congrArg Value.bool (by rw [(un_err (un_turnO hn (by omega) hb hm _ _ ‹_›) (by decide)).2]; rfl), hS⟩
    · try simp only [Bool.and_eq_true, Bool.or_eq_true, decide_eq_true_eq, Bool.not_eq_true', decide_eq_false_iff_not, Bool.and_eq_false_iff, Bool.or_eq_false_iff, beq_iff_eq, bne_iff_ne, beq_eq_false_iff_ne, bne_eq_false_iff_eq, Bool.not_eq_eq_eq_not, Bool.not_true, Bool.not_false] at h3
      refine VC_skip ?_
      refine VQ_next ?_
      refine VC_seq ?_
      have hv17 := Rw.slI hr4
      have hl17 := Rw.lenI hr4
      have hO32 := turnO_len (frameF bs m) (q % (8 * (48 * manyN n))) y 32
      have hF32 : turnO (frameF bs m) (q % (8 * (48 * manyN n))) y 32 = frameF bs m := turnC_no (frameF bs m) (q % (8 * (48 * manyN n))) y 32 (by rw [hFL]; assumption)
      refine VC_region ?_
      refine VL_pure 4 [0, 9, 11, 17, 19, 101, 104] [(0, .slice A n c), (9, .pointer (some ⟨b1, 0, none⟩)), (11, .slice (some ⟨g1, 0, none⟩) (48 * manyN n) c1), (17, .slice A3 ((unT (turnO (frameF bs m) (q % (8 * (48 * manyN n))) y 32)).length) c4), (19, .int .i64 (unE (turnO (frameF bs m) (q % (8 * (48 * manyN n))) y 32))), (101, .slice (some ⟨g1, 0, none⟩) (48 * manyN n) c1), (104, .int .i64 (IntKind.wrap .i64 (((48 * manyN n : Nat) : Int) - 48)))] (by kernel_rfl) rfl ?_
      have he7 : IntKind.wrap .i64 (((48 * manyN n : Nat) : Int) - 48) = (((48 * manyN n) - 48 : Nat) : Int) := (by rw [wrap_i64 _ (by omega) (by omega)]; omega)
      refine VL_eq [(0, .slice A n c), (9, .pointer (some ⟨b1, 0, none⟩)), (11, .slice (some ⟨g1, 0, none⟩) (48 * manyN n) c1), (17, .slice A3 ((unT (turnO (frameF bs m) (q % (8 * (48 * manyN n))) y 32)).length) c4), (19, .int .i64 (unE (turnO (frameF bs m) (q % (8 * (48 * manyN n))) y 32))), (101, .slice (some ⟨g1, 0, none⟩) (48 * manyN n) c1), (104, .int .i64 (((48 * manyN n) - 48 : Nat) : Int))] (by rw [he7]) ?_
      have hcap1 := Rw.cap hr1
      have hln1 := Rw.lenI hr1
      refine VL_slice (d := 105) (b := g1) (o := 0) (sz := 1) (len := (48 * manyN n)) (cap := c1) (lo := none) (hi := (some (((48 * manyN n) - 48 : Nat) : Int))) (mx := none) (by kernel_rfl) (by kernel_rfl) (fun h => by first | exact absurd rfl h | exact (fun h => by cases h)) 0 ((48 * manyN n) - 48) c1 rfl rfl rfl (by omega) (by omega) (by omega) 0 (by split <;> omega) ((48 * manyN n) - 48) (by omega) c1 (by omega) ?_
      have hsl1 := Sl.takeI (Rw.slI hr1) ((48 * manyN n) - 48)
      have hzs9 := hS.size
      have hzl8 := ho1.lt
      refine VL_call (d := 106) (f := 12) (by kernel_rfl) (by kernel_rfl) (by kernel_rfl) Try.call12 (unpack_any (some ⟨g1, 0, none⟩) ((48 * manyN n) - 48) c1 _ ((frameF bs m).take ((48 * manyN n) - 48)) _ (by simp only [List.length_take, List.length_drop]; omega) hsl1 (by first | exact (frame_bytes hb hm).app hbm | exact hbm.app (frame_bytes hb hm) | exact (frame_bytes hb hm).take _) (by first | exact Nat.le_refl _ | omega) (by omega) (by omega)) ?_
      rintro _ w9 ⟨A4, c5, rfl, hr5, hc5⟩
      replace hS := Step.trans hS hc5
      replace hA := hA.no hc5
      replace ho1 := ho1.no hc5
      replace hbase1 := Nat.le_trans hbase1 (hc5).size
      replace hglg1 := Nat.lt_of_lt_of_le hglg1 (hc5).size
      replace hr1 := hr1.no hc5
      replace hbase2 := Nat.le_trans hbase2 (hc5).size
      replace hbase3 := Nat.le_trans hbase3 (hc5).size
      replace hv17 := hv17.no hc5
      replace hsl1 := hsl1.no hc5
      obtain ⟨base3, hbase4E⟩ : ∃ x, x = w8.heap.size := ⟨_, rfl⟩
      rw [← hbase4E] at hr5
      have hbase4 : base3 ≤ w9.heap.size := by rw [hbase4E]; exact hc5.size
      have hutq3 := unT_le ((frameF bs m).take ((48 * manyN n) - 48))
      refine VL_pure 13 [0, 9, 11, 17, 19, 22] [(0, .slice A n c), (9, .pointer (some ⟨b1, 0, none⟩)), (11, .slice (some ⟨g1, 0, none⟩) (48 * manyN n) c1), (17, .slice A3 ((unT (turnO (frameF bs m) (q % (8 * (48 * manyN n))) y 32)).length) c4), (19, .int .i64 (unE (turnO (frameF bs m) (q % (8 * (48 * manyN n))) y 32))), (22, .int .i64 (unE ((frameF bs m).take ((48 * manyN n) - 48))))] (by kernel_rfl) rfl ?_
      refine VL_end (by kernel_rfl) ?_
      refine VQ_next ?_
      refine VC_seq ?_
      have hs1 := drew_step w9
      have hs1z : w9.heap.size = w9.drew.heap.size := rfl
      refine VC_text [[], [], [0, 1], [], [0, 1, 2, 3], [0, 1, 2, 3, 4], [0, 1, 2, 3, 4, 5], [0, 1, 2, 3, 4, 5, 6], [0, 1, 2, 3, 4, 5, 6], [0, 1, 2, 3, 4, 5, 6], [0, 1, 2, 3, 4, 5, 6, 7], [0, 1, 2, 3, 4, 5, 6, 7, 8, 10], [0, 1, 2, 3, 4, 5, 6, 7, 8, 9, 10, 11]] 12 (fun x y => Step (fun k => w9.heap.size ≤ k) x y) [0, 2, 4, 5] [1, 3, 0, 2, 4, 5, 6, 7, 8, 9, 10, 11] (by kernel_rfl) (by kernel_rfl) (by kernel_rfl) (by kernel_rfl) (fun x => Step.refl _ x) (fun h k => Step.trans h k) Step.weak ?_
      have hzs10 := hS.size
      have hzl9 := ho1.lt
      generalize w9.drew = w10 at hs1 hs1z ⊢
      replace hS := Step.trans hS hs1
      replace hA := hA.no hs1
      replace ho1 := ho1.no hs1
      replace hbase1 := Nat.le_trans hbase1 (hs1).size
      replace hglg1 := Nat.lt_of_lt_of_le hglg1 (hs1).size
      replace hr1 := hr1.no hs1
      replace hbase2 := Nat.le_trans hbase2 (hs1).size
      replace hbase3 := Nat.le_trans hbase3 (hs1).size
      replace hv17 := hv17.no hs1
      replace hsl1 := hsl1.no hs1
      replace hbase4 := Nat.le_trans hbase4 (hs1).size
      refine VT_pures 2 (kn' := [(3, .slice (some ⟨b1, 0, none⟩) 48 48), (1, .slice (some ⟨g1, 0, none⟩) (48 * manyN n) c1)]) (by kernel_rfl) ?_
      refine VT_chain (by kernel_rfl) ?_
      intro w11 hs2
      have hzhs2 := hs2.size
      replace hS := Step.trans hS hs2
      replace hA := hA.no hs2
      replace ho1 := ho1.no hs2
      replace hbase1 := Nat.le_trans hbase1 (hs2).size
      replace hglg1 := Nat.lt_of_lt_of_le hglg1 (hs2).size
      replace hr1 := hr1.no hs2
      replace hbase2 := Nat.le_trans hbase2 (hs2).size
      replace hbase3 := Nat.le_trans hbase3 (hs2).size
      replace hv17 := hv17.no hs2
      replace hsl1 := hsl1.no hs2
      replace hbase4 := Nat.le_trans hbase4 (hs2).size
      have hzs11 := hS.size
      have hzl10 := ho1.lt
      have hzk5 := hbase1
      have hzk6 := hglg1
      have hzk7 := hbase2
      have hzk8 := hbase3
      have hzk9 := hbase4
      refine VTc_bs (d := 111) (e := 5) (c := #[]) (len := 0) (by kernel_rfl) (by kernel_rfl) (fun b w1 hn => hn.step _) ?_
      intro b3 w12 hn3
      replace hS := Step.trans hS (hn3.step No)
      replace hA := hA.no (hn3.step No)
      replace ho1 := ho1.no (hn3.step No)
      replace hbase1 := Nat.le_trans hbase1 (hn3.step No).size
      replace hglg1 := Nat.lt_of_lt_of_le hglg1 (hn3.step No).size
      replace hr1 := hr1.no (hn3.step No)
      replace hbase2 := Nat.le_trans hbase2 (hn3.step No).size
      replace hbase3 := Nat.le_trans hbase3 (hn3.step No).size
      replace hv17 := hv17.no (hn3.step No)
      replace hsl1 := hsl1.no (hn3.step No)
      replace hbase4 := Nat.le_trans hbase4 (hn3.step No).size
      have ho3 := hn3.own
      have hzhn3 := hn3.size
      have hqhn3 := hn3.eqb
      refine VT_chain (by kernel_rfl) ?_
      intro w13 hs3
      have hzhs3 := hs3.size
      replace hS := Step.trans hS hs3
      replace hA := hA.no hs3
      replace ho1 := ho1.no hs3
      replace hbase1 := Nat.le_trans hbase1 (hs3).size
      replace hglg1 := Nat.lt_of_lt_of_le hglg1 (hs3).size
      replace hr1 := hr1.no hs3
      replace hbase2 := Nat.le_trans hbase2 (hs3).size
      replace hbase3 := Nat.le_trans hbase3 (hs3).size
      replace hv17 := hv17.no hs3
      replace hsl1 := hsl1.no hs3
      replace hbase4 := Nat.le_trans hbase4 (hs3).size
      replace ho3 := ho3.no hs3
      have hzs12 := hS.size
      have hzl11 := ho1.lt
      have hzk10 := hbase1
      have hzk11 := hglg1
      have hzk12 := hbase2
      have hzk13 := hbase3
      have hzk14 := hbase4
      have hzl12 := ho3.lt
      have hbase5 := Nat.le_of_lt ho3.lt
      refine VTc_appendS (d := 113) (e := 5) (A := (some ⟨b3, 0, none⟩)) (mm := 0) (c := 0) (A2 := (some ⟨g1, 0, none⟩)) (m2 := (48 * manyN n)) (c2 := c1) (bytes := 1) (by kernel_rfl) (by kernel_rfl) (by kernel_rfl) b3 w13.heap.size (iL .u8 ([])) (iL .u8 (frameF bs m)) (Rw.of_new ho3 (Nat.le_refl _) (Nat.le_of_ble_eq_true (by kernel_rfl))) (by rw [iL_length]; exact (Rw.lenI hr1)) (Sl.mono (Rw.slI hr1) (by first | exact Nat.le_refl _ | omega)) iL_one (48 * manyN n) (by omega) (by simp only [maxLen]; omega) (by omega) (by omega) ?_ ?_
      · intro w1 hs1; exact Step.mono hs1 (by intro i hi; (try simp only at hi ⊢); omega)
      intro A5 c6 w14 hr6 hg3
      replace hr6 : Rw w14 b3 5 A5 (48 * manyN n) c6 (iL .u8 (frameF bs m)) := Rw.cast hr6 rfl (by simp only [iL, List.map_append, List.map_cons, List.map_nil, List.append_assoc, List.cons_append, List.nil_append, List.append_nil])
      have hzhg3 := hg3.size
      replace hS := Step.transNew hS hg3 (fun i hi hG => by (try simp only at hG); omega)
      replace hA := hA.step hg3 (fun k hk hG => by (try simp only at hG); omega)
      replace ho1 := ho1.step hg3 (by (try simp only); omega)
      replace hbase1 := Nat.le_trans hbase1 (hg3).size
      replace hglg1 := Nat.lt_of_lt_of_le hglg1 (hg3).size
      replace hr1 := hr1.keepG hg3 (by (try simp only); omega)
      replace hbase2 := Nat.le_trans hbase2 (hg3).size
      replace hbase3 := Nat.le_trans hbase3 (hg3).size
      replace hv17 := hv17.step hg3 (fun k hk hG => by (try simp only at hG); omega)
      replace hsl1 := hsl1.keepB hg3 (by (try simp only); omega)
      replace hbase4 := Nat.le_trans hbase4 (hg3).size
      replace hbase5 := Nat.le_trans hbase5 (hg3).size
      refine VT_chain (by kernel_rfl) ?_
      intro w15 hs4
      have hzhs4 := hs4.size
      replace hS := Step.trans hS hs4
      replace hA := hA.no hs4
      replace ho1 := ho1.no hs4
      replace hbase1 := Nat.le_trans hbase1 (hs4).size
      replace hglg1 := Nat.lt_of_lt_of_le hglg1 (hs4).size
      replace hr1 := hr1.no hs4
      replace hbase2 := Nat.le_trans hbase2 (hs4).size
      replace hbase3 := Nat.le_trans hbase3 (hs4).size
      replace hv17 := hv17.no hs4
      replace hsl1 := hsl1.no hs4
      replace hbase4 := Nat.le_trans hbase4 (hs4).size
      replace hbase5 := Nat.le_trans hbase5 (hs4).size
      replace hr6 := hr6.no hs4
      have hzs13 := hS.size
      have hzl13 := ho1.lt
      have hzk15 := hbase1
      have hzk16 := hglg1
      have hzk17 := hbase2
      have hzk18 := hbase3
      have hzk19 := hbase4
      have hzk20 := hbase5
      refine VTc_appendS (d := 115) (e := 5) (A := A5) (mm := (48 * manyN n)) (c := c6) (A2 := (some ⟨b1, 0, none⟩)) (m2 := 48) (c2 := 48) (bytes := 1) (by kernel_rfl) (by kernel_rfl) (by kernel_rfl) b3 w15.heap.size (iL .u8 (frameF bs m)) (iL .u8 mo) hr6 (by rw [iL_length]; exact (by (try simp only [List.length_set, List.length_append, List.length_map, List.length_replicate, List.length_cons, List.length_nil, List.length_take, List.length_drop, List.length_range]) <;> omega)) (Sl.mono (Own.slI ho1 ho1.lt) (by first | exact Nat.le_refl _ | omega)) iL_one ((48 * manyN n) + 48) (by omega) (by simp only [maxLen]; omega) (by omega) (by omega) ?_ ?_
      · intro w1 hs1; exact Step.mono hs1 (by intro i hi; (try simp only at hi ⊢); omega)
      intro A6 c7 w16 hr7 hg4
      replace hr7 : Rw w16 b3 5 A6 ((48 * manyN n) + 48) c7 (iL .u8 ((frameF bs m) ++ mo)) := Rw.cast hr7 rfl (by simp only [iL, List.map_append, List.map_cons, List.map_nil, List.append_assoc, List.cons_append, List.nil_append, List.append_nil])
      have hzhg4 := hg4.size
      replace hS := Step.transNew hS hg4 (fun i hi hG => by (try simp only at hG); omega)
      replace hA := hA.step hg4 (fun k hk hG => by (try simp only at hG); omega)
      replace ho1 := ho1.step hg4 (by (try simp only); omega)
      replace hbase1 := Nat.le_trans hbase1 (hg4).size
      replace hglg1 := Nat.lt_of_lt_of_le hglg1 (hg4).size
      replace hr1 := hr1.keepG hg4 (by (try simp only); omega)
      replace hbase2 := Nat.le_trans hbase2 (hg4).size
      replace hbase3 := Nat.le_trans hbase3 (hg4).size
      replace hv17 := hv17.step hg4 (fun k hk hG => by (try simp only at hG); omega)
      replace hsl1 := hsl1.keepB hg4 (by (try simp only); omega)
      replace hbase4 := Nat.le_trans hbase4 (hg4).size
      replace hbase5 := Nat.le_trans hbase5 (hg4).size
      refine VT_chain (by kernel_rfl) ?_
      intro w17 hs5
      have hzhs5 := hs5.size
      replace hS := Step.trans hS hs5
      replace hA := hA.no hs5
      replace ho1 := ho1.no hs5
      replace hbase1 := Nat.le_trans hbase1 (hs5).size
      replace hglg1 := Nat.lt_of_lt_of_le hglg1 (hs5).size
      replace hr1 := hr1.no hs5
      replace hbase2 := Nat.le_trans hbase2 (hs5).size
      replace hbase3 := Nat.le_trans hbase3 (hs5).size
      replace hv17 := hv17.no hs5
      replace hsl1 := hsl1.no hs5
      replace hbase4 := Nat.le_trans hbase4 (hs5).size
      replace hbase5 := Nat.le_trans hbase5 (hs5).size
      replace hr7 := hr7.no hs5
      have hzs14 := hS.size
      have hzl14 := ho1.lt
      refine VTc_call (d := 116) (f := 12) (by kernel_rfl) (by kernel_rfl) (by kernel_rfl) Try.call12 (unpack_any A6 ((48 * manyN n) + 48) c7 _ ((frameF bs m) ++ mo) _ (Rw.lenI hr7) (Rw.slI hr7) (by first | exact (frame_bytes hb hm).app hbm | exact hbm.app (frame_bytes hb hm) | exact (frame_bytes hb hm).take _) (by first | exact Nat.le_refl _ | omega) (by omega) (by have hq9 := Rw.cap hr7; omega)) ?_ ?_
      · rintro _ w18 ⟨A7, c8, rfl, hr8, hc6⟩
        exact Step.mono hc6 (by intro i hi; first | exact hi.elim | ((try simp only at hi ⊢); omega))
      rintro _ w18 ⟨A7, c8, rfl, hr8, hc6⟩
      have hzhc6 := (hc6).size
      replace hS := Step.trans hS hc6
      replace hA := hA.no hc6
      replace ho1 := ho1.no hc6
      replace hbase1 := Nat.le_trans hbase1 (hc6).size
      replace hglg1 := Nat.lt_of_lt_of_le hglg1 (hc6).size
      replace hr1 := hr1.no hc6
      replace hbase2 := Nat.le_trans hbase2 (hc6).size
      replace hbase3 := Nat.le_trans hbase3 (hc6).size
      replace hv17 := hv17.no hc6
      replace hsl1 := hsl1.no hc6
      replace hbase4 := Nat.le_trans hbase4 (hc6).size
      replace hbase5 := Nat.le_trans hbase5 (hc6).size
      replace hr7 := hr7.no hc6
      obtain ⟨base4, hbase6E⟩ : ∃ x, x = w17.heap.size := ⟨_, rfl⟩
      rw [← hbase6E] at hr8
      have hbase6 : base4 ≤ w18.heap.size := by rw [hbase6E]; exact hc6.size
      have hutq4 := unT_le ((frameF bs m) ++ mo)
      refine VT_pures 6 (kn' := [(11, .int .u8 (unM ((frameF bs m) ++ mo))), (10, .slice A7 ((unT ((frameF bs m) ++ mo)).length) c8), (9, .int .i64 (unE ((frameF bs m) ++ mo))), (8, .int .u8 (unM ((frameF bs m) ++ mo))), (7, .slice A7 ((unT ((frameF bs m) ++ mo)).length) c8), (6, .tuple #[.slice A7 ((unT ((frameF bs m) ++ mo)).length) c8, .int .u8 (unM ((frameF bs m) ++ mo)), .int .i64 (unE ((frameF bs m) ++ mo))]), (5, .tuple #[.slice A7 ((unT ((frameF bs m) ++ mo)).length) c8, .int .u8 (unM ((frameF bs m) ++ mo)), .int .i64 (unE ((frameF bs m) ++ mo))]), (4, .slice A6 ((48 * manyN n) + 48) c7), (2, .slice A5 (48 * manyN n) c6), (0, .slice (some ⟨b3, 0, none⟩) 0 0), (3, .slice (some ⟨b1, 0, none⟩) 48 48), (1, .slice (some ⟨g1, 0, none⟩) (48 * manyN n) c1)]) (by kernel_rfl) ?_
      refine VT_end ?_
      intro w19 hs6
      replace hS := Step.trans hS hs6
      replace hA := hA.no hs6
      replace ho1 := ho1.no hs6
      replace hbase1 := Nat.le_trans hbase1 (hs6).size
      replace hglg1 := Nat.lt_of_lt_of_le hglg1 (hs6).size
      replace hr1 := hr1.no hs6
      replace hbase2 := Nat.le_trans hbase2 (hs6).size
      replace hbase3 := Nat.le_trans hbase3 (hs6).size
      replace hv17 := hv17.no hs6
      replace hsl1 := hsl1.no hs6
      replace hbase4 := Nat.le_trans hbase4 (hs6).size
      replace hbase5 := Nat.le_trans hbase5 (hs6).size
      replace hr7 := hr7.no hs6
      replace hbase6 := Nat.le_trans hbase6 (hs6).size
      replace hr8 := hr8.no hs6
      refine VL_keep [0, 9, 11, 17, 19, 22, 119] [(0, .slice A n c), (9, .pointer (some ⟨b1, 0, none⟩)), (11, .slice (some ⟨g1, 0, none⟩) (48 * manyN n) c1), (17, .slice A3 ((unT (turnO (frameF bs m) (q % (8 * (48 * manyN n))) y 32)).length) c4), (19, .int .i64 (unE (turnO (frameF bs m) (q % (8 * (48 * manyN n))) y 32))), (22, .int .i64 (unE ((frameF bs m).take ((48 * manyN n) - 48)))), (119, .int .i64 (unE ((frameF bs m) ++ mo)))] (by kernel_rfl) ?_
      refine VL_pure 13 [0, 9, 11, 17, 19, 22, 25] [(0, .slice A n c), (9, .pointer (some ⟨b1, 0, none⟩)), (11, .slice (some ⟨g1, 0, none⟩) (48 * manyN n) c1), (17, .slice A3 ((unT (turnO (frameF bs m) (q % (8 * (48 * manyN n))) y 32)).length) c4), (19, .int .i64 (unE (turnO (frameF bs m) (q % (8 * (48 * manyN n))) y 32))), (22, .int .i64 (unE ((frameF bs m).take ((48 * manyN n) - 48)))), (25, .int .i64 (unE ((frameF bs m) ++ mo)))] (by kernel_rfl) rfl ?_
      refine VL_end (by kernel_rfl) ?_
      refine VQ_next ?_
      refine VC_seq ?_
      refine VC_region ?_
      have hzs15 := hS.size
      have hzl15 := ho1.lt
      have hzk21 := hbase1
      have hzk22 := hglg1
      have hzk23 := hbase2
      have hzk24 := hbase3
      have hzk25 := hbase4
      have hzk26 := hbase5
      have hzk27 := hbase6
      refine VL_bs (d := 121) (e := 5) (c := #[]) (len := 0) (by kernel_rfl) (by kernel_rfl) ?_
      intro b4 w20 hn4
      replace hS := Step.trans hS (hn4.step No)
      replace hA := hA.no (hn4.step No)
      replace ho1 := ho1.no (hn4.step No)
      replace hbase1 := Nat.le_trans hbase1 (hn4.step No).size
      replace hglg1 := Nat.lt_of_lt_of_le hglg1 (hn4.step No).size
      replace hr1 := hr1.no (hn4.step No)
      replace hbase2 := Nat.le_trans hbase2 (hn4.step No).size
      replace hbase3 := Nat.le_trans hbase3 (hn4.step No).size
      replace hv17 := hv17.no (hn4.step No)
      replace hsl1 := hsl1.no (hn4.step No)
      replace hbase4 := Nat.le_trans hbase4 (hn4.step No).size
      replace hbase5 := Nat.le_trans hbase5 (hn4.step No).size
      replace hbase6 := Nat.le_trans hbase6 (hn4.step No).size
      have ho4 := hn4.own
      have hzhn4 := hn4.size
      have hqhn4 := hn4.eqb
      refine VL_pure 2 [0, 11, 17, 19, 22, 25, 121, 122] [(0, .slice A n c), (11, .slice (some ⟨g1, 0, none⟩) (48 * manyN n) c1), (17, .slice A3 ((unT (turnO (frameF bs m) (q % (8 * (48 * manyN n))) y 32)).length) c4), (19, .int .i64 (unE (turnO (frameF bs m) (q % (8 * (48 * manyN n))) y 32))), (22, .int .i64 (unE ((frameF bs m).take ((48 * manyN n) - 48)))), (25, .int .i64 (unE ((frameF bs m) ++ mo))), (121, .slice (some ⟨b4, 0, none⟩) 0 0), (122, .slice (some ⟨b1, 0, none⟩) 48 48)] (by kernel_rfl) rfl ?_
      have hzs16 := hS.size
      have hzl16 := ho1.lt
      have hzk28 := hbase1
      have hzk29 := hglg1
      have hzk30 := hbase2
      have hzk31 := hbase3
      have hzk32 := hbase4
      have hzk33 := hbase5
      have hzk34 := hbase6
      have hzl17 := ho4.lt
      have hbase7 := Nat.le_of_lt ho4.lt
      refine VL_appendS (d := 123) (e := 5) (A := (some ⟨b4, 0, none⟩)) (m := 0) (c := 0) (A2 := (some ⟨b1, 0, none⟩)) (m2 := 48) (c2 := 48) (bytes := 1) (by kernel_rfl) (by kernel_rfl) (by kernel_rfl) b4 w20.heap.size (iL .u8 ([])) (iL .u8 mo) (Rw.of_new ho4 (Nat.le_refl _) (Nat.le_of_ble_eq_true (by kernel_rfl))) (by rw [iL_length]; exact (by (try simp only [List.length_set, List.length_append, List.length_map, List.length_replicate, List.length_cons, List.length_nil, List.length_take, List.length_drop, List.length_range]) <;> omega)) (Sl.mono (Own.slI ho1 ho1.lt) (by first | exact Nat.le_refl _ | omega)) iL_one 48 (by omega) (by simp only [maxLen]; omega) (by omega) (by omega) ?_
      intro A8 c9 w21 hr9 hg5
      replace hr9 : Rw w21 b4 5 A8 48 c9 (iL .u8 mo) := Rw.cast hr9 rfl (by simp only [iL, List.map_append, List.map_cons, List.map_nil, List.append_assoc, List.cons_append, List.nil_append, List.append_nil])
      have hzhg5 := hg5.size
      replace hS := Step.transNew hS hg5 (fun i hi hG => by (try simp only at hG); omega)
      replace hA := hA.step hg5 (fun k hk hG => by (try simp only at hG); omega)
      replace ho1 := ho1.step hg5 (by (try simp only); omega)
      replace hbase1 := Nat.le_trans hbase1 (hg5).size
      replace hglg1 := Nat.lt_of_lt_of_le hglg1 (hg5).size
      replace hr1 := hr1.keepG hg5 (by (try simp only); omega)
      replace hbase2 := Nat.le_trans hbase2 (hg5).size
      replace hbase3 := Nat.le_trans hbase3 (hg5).size
      replace hv17 := hv17.step hg5 (fun k hk hG => by (try simp only at hG); omega)
      replace hsl1 := hsl1.keepB hg5 (by (try simp only); omega)
      replace hbase4 := Nat.le_trans hbase4 (hg5).size
      replace hbase5 := Nat.le_trans hbase5 (hg5).size
      replace hbase6 := Nat.le_trans hbase6 (hg5).size
      replace hbase7 := Nat.le_trans hbase7 (hg5).size
      refine VL_pure 4 [0, 11, 17, 19, 22, 25, 123, 124] [(0, .slice A n c), (11, .slice (some ⟨g1, 0, none⟩) (48 * manyN n) c1), (17, .slice A3 ((unT (turnO (frameF bs m) (q % (8 * (48 * manyN n))) y 32)).length) c4), (19, .int .i64 (unE (turnO (frameF bs m) (q % (8 * (48 * manyN n))) y 32))), (22, .int .i64 (unE ((frameF bs m).take ((48 * manyN n) - 48)))), (25, .int .i64 (unE ((frameF bs m) ++ mo))), (123, .slice A8 48 c9), (124, .slice (some ⟨g1, 0, none⟩) (48 * manyN n) c1)] (by kernel_rfl) rfl ?_
      have hzs17 := hS.size
      have hzl18 := ho1.lt
      have hzk35 := hbase1
      have hzk36 := hglg1
      have hzk37 := hbase2
      have hzk38 := hbase3
      have hzk39 := hbase4
      have hzk40 := hbase5
      have hzk41 := hbase6
      have hzk42 := hbase7
      refine VL_appendS (d := 125) (e := 5) (A := A8) (m := 48) (c := c9) (A2 := (some ⟨g1, 0, none⟩)) (m2 := (48 * manyN n)) (c2 := c1) (bytes := 1) (by kernel_rfl) (by kernel_rfl) (by kernel_rfl) b4 w21.heap.size (iL .u8 mo) (iL .u8 (frameF bs m)) hr9 (by rw [iL_length]; exact (Rw.lenI hr1)) (Sl.mono (Rw.slI hr1) (by first | exact Nat.le_refl _ | omega)) iL_one ((48 * manyN n) + 48) (by omega) (by simp only [maxLen]; omega) (by omega) (by omega) ?_
      intro A9 c10 w22 hr10 hg6
      replace hr10 : Rw w22 b4 5 A9 ((48 * manyN n) + 48) c10 (iL .u8 (mo ++ (frameF bs m))) := Rw.cast hr10 rfl (by simp only [iL, List.map_append, List.map_cons, List.map_nil, List.append_assoc, List.cons_append, List.nil_append, List.append_nil])
      have hzhg6 := hg6.size
      replace hS := Step.transNew hS hg6 (fun i hi hG => by (try simp only at hG); omega)
      replace hA := hA.step hg6 (fun k hk hG => by (try simp only at hG); omega)
      replace ho1 := ho1.step hg6 (by (try simp only); omega)
      replace hbase1 := Nat.le_trans hbase1 (hg6).size
      replace hglg1 := Nat.lt_of_lt_of_le hglg1 (hg6).size
      replace hr1 := hr1.keepG hg6 (by (try simp only); omega)
      replace hbase2 := Nat.le_trans hbase2 (hg6).size
      replace hbase3 := Nat.le_trans hbase3 (hg6).size
      replace hv17 := hv17.step hg6 (fun k hk hG => by (try simp only at hG); omega)
      replace hsl1 := hsl1.keepB hg6 (by (try simp only); omega)
      replace hbase4 := Nat.le_trans hbase4 (hg6).size
      replace hbase5 := Nat.le_trans hbase5 (hg6).size
      replace hbase6 := Nat.le_trans hbase6 (hg6).size
      replace hbase7 := Nat.le_trans hbase7 (hg6).size
      have hzs18 := hS.size
      have hzl19 := ho1.lt
      refine VL_call (d := 126) (f := 12) (by kernel_rfl) (by kernel_rfl) (by kernel_rfl) Try.call12 (unpack_any A9 ((48 * manyN n) + 48) c10 _ (mo ++ (frameF bs m)) _ (Rw.lenI hr10) (Rw.slI hr10) (by first | exact (frame_bytes hb hm).app hbm | exact hbm.app (frame_bytes hb hm) | exact (frame_bytes hb hm).take _) (by first | exact Nat.le_refl _ | omega) (by omega) (by have hq9 := Rw.cap hr10; omega)) ?_
      rintro _ w23 ⟨A10, c11, rfl, hr11, hc7⟩
      replace hS := Step.trans hS hc7
      replace hA := hA.no hc7
      replace ho1 := ho1.no hc7
      replace hbase1 := Nat.le_trans hbase1 (hc7).size
      replace hglg1 := Nat.lt_of_lt_of_le hglg1 (hc7).size
      replace hr1 := hr1.no hc7
      replace hbase2 := Nat.le_trans hbase2 (hc7).size
      replace hbase3 := Nat.le_trans hbase3 (hc7).size
      replace hv17 := hv17.no hc7
      replace hsl1 := hsl1.no hc7
      replace hbase4 := Nat.le_trans hbase4 (hc7).size
      replace hbase5 := Nat.le_trans hbase5 (hc7).size
      replace hbase6 := Nat.le_trans hbase6 (hc7).size
      replace hbase7 := Nat.le_trans hbase7 (hc7).size
      replace hr10 := hr10.no hc7
      obtain ⟨base5, hbase8E⟩ : ∃ x, x = w22.heap.size := ⟨_, rfl⟩
      rw [← hbase8E] at hr11
      have hbase8 : base5 ≤ w23.heap.size := by rw [hbase8E]; exact hc7.size
      have hutq5 := unT_le (mo ++ (frameF bs m))
      refine VL_pure 13 [0, 11, 17, 19, 22, 25, 26, 28] [(0, .slice A n c), (11, .slice (some ⟨g1, 0, none⟩) (48 * manyN n) c1), (17, .slice A3 ((unT (turnO (frameF bs m) (q % (8 * (48 * manyN n))) y 32)).length) c4), (19, .int .i64 (unE (turnO (frameF bs m) (q % (8 * (48 * manyN n))) y 32))), (22, .int .i64 (unE ((frameF bs m).take ((48 * manyN n) - 48)))), (25, .int .i64 (unE ((frameF bs m) ++ mo))), (26, .slice A10 ((unT (mo ++ (frameF bs m))).length) c11), (28, .int .i64 (unE (mo ++ (frameF bs m))))] (by kernel_rfl) rfl ?_
      refine VL_end (by kernel_rfl) ?_
      refine VQ_next ?_
      refine VC_seq ?_
      have hH22 := @List.length_append _ mo (frameF bs m)
      refine VC_region ?_
      refine VL_pure 3 [0, 11, 17, 22, 25, 26, 28, 132] [(0, .slice A n c), (11, .slice (some ⟨g1, 0, none⟩) (48 * manyN n) c1), (17, .slice A3 ((unT (turnO (frameF bs m) (q % (8 * (48 * manyN n))) y 32)).length) c4), (22, .int .i64 (unE ((frameF bs m).take ((48 * manyN n) - 48)))), (25, .int .i64 (unE ((frameF bs m) ++ mo))), (26, .slice A10 ((unT (mo ++ (frameF bs m))).length) c11), (28, .int .i64 (unE (mo ++ (frameF bs m)))), (132, .bool ((unE (turnO (frameF bs m) (q % (8 * (48 * manyN n))) y 32)) == 0))] (by kernel_rfl) rfl ?_
      refine VL_known ((unE (turnO (frameF bs m) (q % (8 * (48 * manyN n))) y 32)) == 0) (fun bV => [(0, .slice A n c), (11, .slice (some ⟨g1, 0, none⟩) (48 * manyN n) c1), (17, .slice A3 ((unT (turnO (frameF bs m) (q % (8 * (48 * manyN n))) y 32)).length) c4), (22, .int .i64 (unE ((frameF bs m).take ((48 * manyN n) - 48)))), (25, .int .i64 (unE ((frameF bs m) ++ mo))), (26, .slice A10 ((unT (mo ++ (frameF bs m))).length) c11), (28, .int .i64 (unE (mo ++ (frameF bs m)))), (132, .bool bV)]) true rfl (by rw [hF32, (frame_un (m := m) (show 0 < bs.length by omega) (by omega) hb hm).1]; rfl) ?_
      refine VL_pure 5 [0, 11, 22, 25, 26, 28, 132, 133, 134] [(0, .slice A n c), (11, .slice (some ⟨g1, 0, none⟩) (48 * manyN n) c1), (22, .int .i64 (unE ((frameF bs m).take ((48 * manyN n) - 48)))), (25, .int .i64 (unE ((frameF bs m) ++ mo))), (26, .slice A10 ((unT (mo ++ (frameF bs m))).length) c11), (28, .int .i64 (unE (mo ++ (frameF bs m)))), (132, .bool true), (133, .slice A3 ((unT (turnO (frameF bs m) (q % (8 * (48 * manyN n))) y 32)).length) c4), (134, .slice A n c)] (by kernel_rfl) rfl ?_
      have hzs19 := hS.size
      have hzl20 := ho1.lt
      refine VL_call (d := 135) (f := 14) (args := #[.slice A3 ((unT (turnO (frameF bs m) (q % (8 * (48 * manyN n))) y 32)).length) c4, .slice A n c]) (by kernel_rfl) (by kernel_rfl) (by kernel_rfl) Try.call14 (same_any A3 ((unT (turnO (frameF bs m) (q % (8 * (48 * manyN n))) y 32)).length) c4 _ (unT (turnO (frameF bs m) (q % (8 * (48 * manyN n))) y 32)) A n c _ bs _ hl17 hv17 hn hA (by omega) (by omega) (by first | exact Nat.le_refl _ | omega) (by first | exact Nat.le_refl _ | omega)) ?_
      rintro _ w24 ⟨rfl, hc8⟩
      replace hS := Step.trans hS hc8
      replace hA := hA.no hc8
      replace ho1 := ho1.no hc8
      replace hbase1 := Nat.le_trans hbase1 (hc8).size
      replace hglg1 := Nat.lt_of_lt_of_le hglg1 (hc8).size
      replace hr1 := hr1.no hc8
      replace hbase2 := Nat.le_trans hbase2 (hc8).size
      replace hbase3 := Nat.le_trans hbase3 (hc8).size
      replace hv17 := hv17.no hc8
      replace hsl1 := hsl1.no hc8
      replace hbase4 := Nat.le_trans hbase4 (hc8).size
      replace hbase5 := Nat.le_trans hbase5 (hc8).size
      replace hbase6 := Nat.le_trans hbase6 (hc8).size
      replace hbase7 := Nat.le_trans hbase7 (hc8).size
      replace hr10 := hr10.no hc8
      replace hbase8 := Nat.le_trans hbase8 (hc8).size
      replace hr11 := hr11.no hc8
      refine VL_pure 8 [0, 11, 22, 25, 26, 28, 137] [(0, .slice A n c), (11, .slice (some ⟨g1, 0, none⟩) (48 * manyN n) c1), (22, .int .i64 (unE ((frameF bs m).take ((48 * manyN n) - 48)))), (25, .int .i64 (unE ((frameF bs m) ++ mo))), (26, .slice A10 ((unT (mo ++ (frameF bs m))).length) c11), (28, .int .i64 (unE (mo ++ (frameF bs m)))), (137, .bool ((unT (turnO (frameF bs m) (q % (8 * (48 * manyN n))) y 32)) == bs))] (by kernel_rfl) rfl ?_
      refine VL_known ((unT (turnO (frameF bs m) (q % (8 * (48 * manyN n))) y 32)) == bs) (fun bV => [(0, .slice A n c), (11, .slice (some ⟨g1, 0, none⟩) (48 * manyN n) c1), (22, .int .i64 (unE ((frameF bs m).take ((48 * manyN n) - 48)))), (25, .int .i64 (unE ((frameF bs m) ++ mo))), (26, .slice A10 ((unT (mo ++ (frameF bs m))).length) c11), (28, .int .i64 (unE (mo ++ (frameF bs m)))), (137, .bool bV)]) true rfl (by rw [hF32, (frame_un (m := m) (show 0 < bs.length by omega) (by omega) hb hm).2.1]; simp) ?_
      refine VL_pure 11 [0, 11, 25, 26, 28, 137, 140] [(0, .slice A n c), (11, .slice (some ⟨g1, 0, none⟩) (48 * manyN n) c1), (25, .int .i64 (unE ((frameF bs m) ++ mo))), (26, .slice A10 ((unT (mo ++ (frameF bs m))).length) c11), (28, .int .i64 (unE (mo ++ (frameF bs m)))), (137, .bool true), (140, .bool ((unE ((frameF bs m).take ((48 * manyN n) - 48))) != 0))] (by kernel_rfl) rfl ?_
      refine VL_bne (unE ((frameF bs m).take ((48 * manyN n) - 48))) 0 (fun bV => [(0, .slice A n c), (11, .slice (some ⟨g1, 0, none⟩) (48 * manyN n) c1), (25, .int .i64 (unE ((frameF bs m) ++ mo))), (26, .slice A10 ((unT (mo ++ (frameF bs m))).length) c11), (28, .int .i64 (unE (mo ++ (frameF bs m)))), (137, .bool true), (140, .bool bV)]) rfl (fun hg7 => ?_) (fun hg7 => ?_)
      · refine VL_pure 20 [0, 25, 26, 28, 146, 149] [(0, .slice A n c), (25, .int .i64 (unE ((frameF bs m) ++ mo))), (26, .slice A10 ((unT (mo ++ (frameF bs m))).length) c11), (28, .int .i64 (unE (mo ++ (frameF bs m)))), (146, .bool true), (149, .bool ((unE ((frameF bs m) ++ mo)) == 0))] (by kernel_rfl) rfl ?_
        refine VL_beq (unE ((frameF bs m) ++ mo)) 0 (fun bV => [(0, .slice A n c), (25, .int .i64 (unE ((frameF bs m) ++ mo))), (26, .slice A10 ((unT (mo ++ (frameF bs m))).length) c11), (28, .int .i64 (unE (mo ++ (frameF bs m)))), (146, .bool true), (149, .bool bV)]) rfl (fun hg8 => ?_) (fun hg8 => ?_)
        · refine VL_pure 32 [0, 26, 158, 161] [(0, .slice A n c), (26, .slice A10 ((unT (mo ++ (frameF bs m))).length) c11), (158, .bool true), (161, .bool ((unE (mo ++ (frameF bs m))) != 0))] (by kernel_rfl) rfl ?_
          refine VL_bne (unE (mo ++ (frameF bs m))) 0 (fun bV => [(0, .slice A n c), (26, .slice A10 ((unT (mo ++ (frameF bs m))).length) c11), (158, .bool true), (161, .bool bV)]) rfl (fun hg9 => ?_) (fun hg9 => ?_)
          · refine VL_pure 39 [10] [(10, .bool true)] (by kernel_rfl) rfl ?_
            refine VL_end (by kernel_rfl) ?_
            refine VQ_next ?_
            refine VC_ret ?_
            refine VQ_ret1 (.bool true) (.inr rfl) rfl rfl ?_
            exact ⟨by first | rfl | simp [*], hS⟩
          · refine VL_pure 34 [158, 161, 162, 163] [(158, .bool true), (161, .bool false), (162, .slice A10 ((unT (mo ++ (frameF bs m))).length) c11), (163, .slice A n c)] (by kernel_rfl) rfl ?_
            have hzs20 := hS.size
            have hzl21 := ho1.lt
            refine VL_call (d := 164) (f := 14) (args := #[.slice A10 ((unT (mo ++ (frameF bs m))).length) c11, .slice A n c]) (by kernel_rfl) (by kernel_rfl) (by kernel_rfl) Try.call14 (same_any A10 ((unT (mo ++ (frameF bs m))).length) c11 _ (unT (mo ++ (frameF bs m))) A n c _ bs _ (Rw.lenI hr11) (Rw.slI hr11) hn hA (by omega) (by omega) (by first | exact Nat.le_refl _ | omega) (by first | exact Nat.le_refl _ | omega)) ?_
            rintro _ w25 ⟨rfl, hc9⟩
            replace hS := Step.trans hS hc9
            replace hA := hA.no hc9
            replace ho1 := ho1.no hc9
            replace hbase1 := Nat.le_trans hbase1 (hc9).size
            replace hglg1 := Nat.lt_of_lt_of_le hglg1 (hc9).size
            replace hr1 := hr1.no hc9
            replace hbase2 := Nat.le_trans hbase2 (hc9).size
            replace hbase3 := Nat.le_trans hbase3 (hc9).size
            replace hv17 := hv17.no hc9
            replace hsl1 := hsl1.no hc9
            replace hbase4 := Nat.le_trans hbase4 (hc9).size
            replace hbase5 := Nat.le_trans hbase5 (hc9).size
            replace hbase6 := Nat.le_trans hbase6 (hc9).size
            replace hbase7 := Nat.le_trans hbase7 (hc9).size
            replace hr10 := hr10.no hc9
            replace hbase8 := Nat.le_trans hbase8 (hc9).size
            replace hr11 := hr11.no hc9
            refine VL_pure 39 [10] [(10, .bool (!((unT (mo ++ (frameF bs m))) == bs)))] (by kernel_rfl) rfl ?_
            refine VL_end (by kernel_rfl) ?_
            refine VQ_next ?_
            refine VC_ret ?_
            refine VQ_ret1 (.bool (!((unT (mo ++ (frameF bs m))) == bs))) (.inr rfl) rfl rfl ?_
            exact ⟨congrArg Value.bool (by rw [show ((unT (mo ++ (frameF bs m))) == bs) = false from (beq_eq_false_iff_ne.2 (un_ahead (ys := mo ++ frameF bs m) (by rw [List.length_append]; omega) hn (by omega) (by assumption)))]; rfl), hS⟩
        · refine VL_pure 24 [0, 25, 26, 28, 146, 153] [(0, .slice A n c), (25, .int .i64 (unE ((frameF bs m) ++ mo))), (26, .slice A10 ((unT (mo ++ (frameF bs m))).length) c11), (28, .int .i64 (unE (mo ++ (frameF bs m)))), (146, .bool true), (153, .bool ((unE ((frameF bs m) ++ mo)) == 4))] (by kernel_rfl) rfl ?_
          refine VL_beq (unE ((frameF bs m) ++ mo)) 4 (fun bV => [(0, .slice A n c), (25, .int .i64 (unE ((frameF bs m) ++ mo))), (26, .slice A10 ((unT (mo ++ (frameF bs m))).length) c11), (28, .int .i64 (unE (mo ++ (frameF bs m)))), (146, .bool true), (153, .bool bV)]) rfl (fun hg10 => ?_) (fun hg10 => ?_)
          · refine VL_pure 32 [0, 26, 158, 161] [(0, .slice A n c), (26, .slice A10 ((unT (mo ++ (frameF bs m))).length) c11), (158, .bool true), (161, .bool ((unE (mo ++ (frameF bs m))) != 0))] (by kernel_rfl) rfl ?_
            refine VL_bne (unE (mo ++ (frameF bs m))) 0 (fun bV => [(0, .slice A n c), (26, .slice A10 ((unT (mo ++ (frameF bs m))).length) c11), (158, .bool true), (161, .bool bV)]) rfl (fun hg11 => ?_) (fun hg11 => ?_)
            · refine VL_pure 39 [10] [(10, .bool true)] (by kernel_rfl) rfl ?_
              refine VL_end (by kernel_rfl) ?_
              refine VQ_next ?_
              refine VC_ret ?_
              refine VQ_ret1 (.bool true) (.inr rfl) rfl rfl ?_
              exact ⟨by first | rfl | simp [*], hS⟩
            · refine VL_pure 34 [158, 161, 162, 163] [(158, .bool true), (161, .bool false), (162, .slice A10 ((unT (mo ++ (frameF bs m))).length) c11), (163, .slice A n c)] (by kernel_rfl) rfl ?_
              have hzs21 := hS.size
              have hzl22 := ho1.lt
              refine VL_call (d := 164) (f := 14) (args := #[.slice A10 ((unT (mo ++ (frameF bs m))).length) c11, .slice A n c]) (by kernel_rfl) (by kernel_rfl) (by kernel_rfl) Try.call14 (same_any A10 ((unT (mo ++ (frameF bs m))).length) c11 _ (unT (mo ++ (frameF bs m))) A n c _ bs _ (Rw.lenI hr11) (Rw.slI hr11) hn hA (by omega) (by omega) (by first | exact Nat.le_refl _ | omega) (by first | exact Nat.le_refl _ | omega)) ?_
              rintro _ w26 ⟨rfl, hc10⟩
              replace hS := Step.trans hS hc10
              replace hA := hA.no hc10
              replace ho1 := ho1.no hc10
              replace hbase1 := Nat.le_trans hbase1 (hc10).size
              replace hglg1 := Nat.lt_of_lt_of_le hglg1 (hc10).size
              replace hr1 := hr1.no hc10
              replace hbase2 := Nat.le_trans hbase2 (hc10).size
              replace hbase3 := Nat.le_trans hbase3 (hc10).size
              replace hv17 := hv17.no hc10
              replace hsl1 := hsl1.no hc10
              replace hbase4 := Nat.le_trans hbase4 (hc10).size
              replace hbase5 := Nat.le_trans hbase5 (hc10).size
              replace hbase6 := Nat.le_trans hbase6 (hc10).size
              replace hbase7 := Nat.le_trans hbase7 (hc10).size
              replace hr10 := hr10.no hc10
              replace hbase8 := Nat.le_trans hbase8 (hc10).size
              replace hr11 := hr11.no hc10
              refine VL_pure 39 [10] [(10, .bool (!((unT (mo ++ (frameF bs m))) == bs)))] (by kernel_rfl) rfl ?_
              refine VL_end (by kernel_rfl) ?_
              refine VQ_next ?_
              refine VC_ret ?_
              refine VQ_ret1 (.bool (!((unT (mo ++ (frameF bs m))) == bs))) (.inr rfl) rfl rfl ?_
              exact ⟨congrArg Value.bool (by rw [show ((unT (mo ++ (frameF bs m))) == bs) = false from (beq_eq_false_iff_ne.2 (un_ahead (ys := mo ++ frameF bs m) (by rw [List.length_append]; omega) hn (by omega) (by assumption)))]; rfl), hS⟩
          · refine VL_pure 29 [0, 26, 28, 158] [(0, .slice A n c), (26, .slice A10 ((unT (mo ++ (frameF bs m))).length) c11), (28, .int .i64 (unE (mo ++ (frameF bs m)))), (158, .bool ((unE ((frameF bs m) ++ mo)) == 5))] (by kernel_rfl) rfl ?_
            refine VL_known ((unE ((frameF bs m) ++ mo)) == 5) (fun bV => [(0, .slice A n c), (26, .slice A10 ((unT (mo ++ (frameF bs m))).length) c11), (28, .int .i64 (unE (mo ++ (frameF bs m)))), (158, .bool bV)]) true rfl (by rcases un_few (bs := frameF bs m ++ mo) (by rw [List.length_append]; omega) with h9 | h9 | h9 <;> first | exact beq_iff_eq.2 h9 | exact absurd h9 ‹_›) ?_
            refine VL_pure 32 [0, 26, 158, 161] [(0, .slice A n c), (26, .slice A10 ((unT (mo ++ (frameF bs m))).length) c11), (158, .bool true), (161, .bool ((unE (mo ++ (frameF bs m))) != 0))] (by kernel_rfl) rfl ?_
            refine VL_bne (unE (mo ++ (frameF bs m))) 0 (fun bV => [(0, .slice A n c), (26, .slice A10 ((unT (mo ++ (frameF bs m))).length) c11), (158, .bool true), (161, .bool bV)]) rfl (fun hg12 => ?_) (fun hg12 => ?_)
            · refine VL_pure 39 [10] [(10, .bool true)] (by kernel_rfl) rfl ?_
              refine VL_end (by kernel_rfl) ?_
              refine VQ_next ?_
              refine VC_ret ?_
              refine VQ_ret1 (.bool true) (.inr rfl) rfl rfl ?_
              exact ⟨by first | rfl | simp [*], hS⟩
            · refine VL_pure 34 [158, 161, 162, 163] [(158, .bool true), (161, .bool false), (162, .slice A10 ((unT (mo ++ (frameF bs m))).length) c11), (163, .slice A n c)] (by kernel_rfl) rfl ?_
              have hzs22 := hS.size
              have hzl23 := ho1.lt
              refine VL_call (d := 164) (f := 14) (args := #[.slice A10 ((unT (mo ++ (frameF bs m))).length) c11, .slice A n c]) (by kernel_rfl) (by kernel_rfl) (by kernel_rfl) Try.call14 (same_any A10 ((unT (mo ++ (frameF bs m))).length) c11 _ (unT (mo ++ (frameF bs m))) A n c _ bs _ (Rw.lenI hr11) (Rw.slI hr11) hn hA (by omega) (by omega) (by first | exact Nat.le_refl _ | omega) (by first | exact Nat.le_refl _ | omega)) ?_
              rintro _ w27 ⟨rfl, hc11⟩
              replace hS := Step.trans hS hc11
              replace hA := hA.no hc11
              replace ho1 := ho1.no hc11
              replace hbase1 := Nat.le_trans hbase1 (hc11).size
              replace hglg1 := Nat.lt_of_lt_of_le hglg1 (hc11).size
              replace hr1 := hr1.no hc11
              replace hbase2 := Nat.le_trans hbase2 (hc11).size
              replace hbase3 := Nat.le_trans hbase3 (hc11).size
              replace hv17 := hv17.no hc11
              replace hsl1 := hsl1.no hc11
              replace hbase4 := Nat.le_trans hbase4 (hc11).size
              replace hbase5 := Nat.le_trans hbase5 (hc11).size
              replace hbase6 := Nat.le_trans hbase6 (hc11).size
              replace hbase7 := Nat.le_trans hbase7 (hc11).size
              replace hr10 := hr10.no hc11
              replace hbase8 := Nat.le_trans hbase8 (hc11).size
              replace hr11 := hr11.no hc11
              refine VL_pure 39 [10] [(10, .bool (!((unT (mo ++ (frameF bs m))) == bs)))] (by kernel_rfl) rfl ?_
              refine VL_end (by kernel_rfl) ?_
              refine VQ_next ?_
              refine VC_ret ?_
              refine VQ_ret1 (.bool (!((unT (mo ++ (frameF bs m))) == bs))) (.inr rfl) rfl rfl ?_
              exact ⟨congrArg Value.bool (by rw [show ((unT (mo ++ (frameF bs m))) == bs) = false from (beq_eq_false_iff_ne.2 (un_ahead (ys := mo ++ frameF bs m) (by rw [List.length_append]; omega) hn (by omega) (by assumption)))]; rfl), hS⟩
      · refine VL_pure 17 [0, 25, 26, 28, 146] [(0, .slice A n c), (25, .int .i64 (unE ((frameF bs m) ++ mo))), (26, .slice A10 ((unT (mo ++ (frameF bs m))).length) c11), (28, .int .i64 (unE (mo ++ (frameF bs m)))), (146, .bool (decide (((48 * manyN n : Nat) : Int) > 48)))] (by kernel_rfl) rfl ?_
        refine VL_known (decide (((48 * manyN n : Nat) : Int) > 48)) (fun bV => [(0, .slice A n c), (25, .int .i64 (unE ((frameF bs m) ++ mo))), (26, .slice A10 ((unT (mo ++ (frameF bs m))).length) c11), (28, .int .i64 (unE (mo ++ (frameF bs m)))), (146, .bool bV)]) true rfl (decide_eq_true (by have h9 := un_short (L := (48 * manyN n)) hFL (by omega) (by assumption); omega)) ?_
        refine VL_pure 20 [0, 25, 26, 28, 146, 149] [(0, .slice A n c), (25, .int .i64 (unE ((frameF bs m) ++ mo))), (26, .slice A10 ((unT (mo ++ (frameF bs m))).length) c11), (28, .int .i64 (unE (mo ++ (frameF bs m)))), (146, .bool true), (149, .bool ((unE ((frameF bs m) ++ mo)) == 0))] (by kernel_rfl) rfl ?_
        refine VL_beq (unE ((frameF bs m) ++ mo)) 0 (fun bV => [(0, .slice A n c), (25, .int .i64 (unE ((frameF bs m) ++ mo))), (26, .slice A10 ((unT (mo ++ (frameF bs m))).length) c11), (28, .int .i64 (unE (mo ++ (frameF bs m)))), (146, .bool true), (149, .bool bV)]) rfl (fun hg13 => ?_) (fun hg13 => ?_)
        · refine VL_pure 32 [0, 26, 158, 161] [(0, .slice A n c), (26, .slice A10 ((unT (mo ++ (frameF bs m))).length) c11), (158, .bool true), (161, .bool ((unE (mo ++ (frameF bs m))) != 0))] (by kernel_rfl) rfl ?_
          refine VL_bne (unE (mo ++ (frameF bs m))) 0 (fun bV => [(0, .slice A n c), (26, .slice A10 ((unT (mo ++ (frameF bs m))).length) c11), (158, .bool true), (161, .bool bV)]) rfl (fun hg14 => ?_) (fun hg14 => ?_)
          · refine VL_pure 39 [10] [(10, .bool true)] (by kernel_rfl) rfl ?_
            refine VL_end (by kernel_rfl) ?_
            refine VQ_next ?_
            refine VC_ret ?_
            refine VQ_ret1 (.bool true) (.inr rfl) rfl rfl ?_
            exact ⟨by first | rfl | simp [*], hS⟩
          · refine VL_pure 34 [158, 161, 162, 163] [(158, .bool true), (161, .bool false), (162, .slice A10 ((unT (mo ++ (frameF bs m))).length) c11), (163, .slice A n c)] (by kernel_rfl) rfl ?_
            have hzs23 := hS.size
            have hzl24 := ho1.lt
            refine VL_call (d := 164) (f := 14) (args := #[.slice A10 ((unT (mo ++ (frameF bs m))).length) c11, .slice A n c]) (by kernel_rfl) (by kernel_rfl) (by kernel_rfl) Try.call14 (same_any A10 ((unT (mo ++ (frameF bs m))).length) c11 _ (unT (mo ++ (frameF bs m))) A n c _ bs _ (Rw.lenI hr11) (Rw.slI hr11) hn hA (by omega) (by omega) (by first | exact Nat.le_refl _ | omega) (by first | exact Nat.le_refl _ | omega)) ?_
            rintro _ w28 ⟨rfl, hc12⟩
            replace hS := Step.trans hS hc12
            replace hA := hA.no hc12
            replace ho1 := ho1.no hc12
            replace hbase1 := Nat.le_trans hbase1 (hc12).size
            replace hglg1 := Nat.lt_of_lt_of_le hglg1 (hc12).size
            replace hr1 := hr1.no hc12
            replace hbase2 := Nat.le_trans hbase2 (hc12).size
            replace hbase3 := Nat.le_trans hbase3 (hc12).size
            replace hv17 := hv17.no hc12
            replace hsl1 := hsl1.no hc12
            replace hbase4 := Nat.le_trans hbase4 (hc12).size
            replace hbase5 := Nat.le_trans hbase5 (hc12).size
            replace hbase6 := Nat.le_trans hbase6 (hc12).size
            replace hbase7 := Nat.le_trans hbase7 (hc12).size
            replace hr10 := hr10.no hc12
            replace hbase8 := Nat.le_trans hbase8 (hc12).size
            replace hr11 := hr11.no hc12
            refine VL_pure 39 [10] [(10, .bool (!((unT (mo ++ (frameF bs m))) == bs)))] (by kernel_rfl) rfl ?_
            refine VL_end (by kernel_rfl) ?_
            refine VQ_next ?_
            refine VC_ret ?_
            refine VQ_ret1 (.bool (!((unT (mo ++ (frameF bs m))) == bs))) (.inr rfl) rfl rfl ?_
            exact ⟨congrArg Value.bool (by rw [show ((unT (mo ++ (frameF bs m))) == bs) = false from (beq_eq_false_iff_ne.2 (un_ahead (ys := mo ++ frameF bs m) (by rw [List.length_append]; omega) hn (by omega) (by assumption)))]; rfl), hS⟩
        · refine VL_pure 24 [0, 25, 26, 28, 146, 153] [(0, .slice A n c), (25, .int .i64 (unE ((frameF bs m) ++ mo))), (26, .slice A10 ((unT (mo ++ (frameF bs m))).length) c11), (28, .int .i64 (unE (mo ++ (frameF bs m)))), (146, .bool true), (153, .bool ((unE ((frameF bs m) ++ mo)) == 4))] (by kernel_rfl) rfl ?_
          refine VL_beq (unE ((frameF bs m) ++ mo)) 4 (fun bV => [(0, .slice A n c), (25, .int .i64 (unE ((frameF bs m) ++ mo))), (26, .slice A10 ((unT (mo ++ (frameF bs m))).length) c11), (28, .int .i64 (unE (mo ++ (frameF bs m)))), (146, .bool true), (153, .bool bV)]) rfl (fun hg15 => ?_) (fun hg15 => ?_)
          · refine VL_pure 32 [0, 26, 158, 161] [(0, .slice A n c), (26, .slice A10 ((unT (mo ++ (frameF bs m))).length) c11), (158, .bool true), (161, .bool ((unE (mo ++ (frameF bs m))) != 0))] (by kernel_rfl) rfl ?_
            refine VL_bne (unE (mo ++ (frameF bs m))) 0 (fun bV => [(0, .slice A n c), (26, .slice A10 ((unT (mo ++ (frameF bs m))).length) c11), (158, .bool true), (161, .bool bV)]) rfl (fun hg16 => ?_) (fun hg16 => ?_)
            · refine VL_pure 39 [10] [(10, .bool true)] (by kernel_rfl) rfl ?_
              refine VL_end (by kernel_rfl) ?_
              refine VQ_next ?_
              refine VC_ret ?_
              refine VQ_ret1 (.bool true) (.inr rfl) rfl rfl ?_
              exact ⟨by first | rfl | simp [*], hS⟩
            · refine VL_pure 34 [158, 161, 162, 163] [(158, .bool true), (161, .bool false), (162, .slice A10 ((unT (mo ++ (frameF bs m))).length) c11), (163, .slice A n c)] (by kernel_rfl) rfl ?_
              have hzs24 := hS.size
              have hzl25 := ho1.lt
              refine VL_call (d := 164) (f := 14) (args := #[.slice A10 ((unT (mo ++ (frameF bs m))).length) c11, .slice A n c]) (by kernel_rfl) (by kernel_rfl) (by kernel_rfl) Try.call14 (same_any A10 ((unT (mo ++ (frameF bs m))).length) c11 _ (unT (mo ++ (frameF bs m))) A n c _ bs _ (Rw.lenI hr11) (Rw.slI hr11) hn hA (by omega) (by omega) (by first | exact Nat.le_refl _ | omega) (by first | exact Nat.le_refl _ | omega)) ?_
              rintro _ w29 ⟨rfl, hc13⟩
              replace hS := Step.trans hS hc13
              replace hA := hA.no hc13
              replace ho1 := ho1.no hc13
              replace hbase1 := Nat.le_trans hbase1 (hc13).size
              replace hglg1 := Nat.lt_of_lt_of_le hglg1 (hc13).size
              replace hr1 := hr1.no hc13
              replace hbase2 := Nat.le_trans hbase2 (hc13).size
              replace hbase3 := Nat.le_trans hbase3 (hc13).size
              replace hv17 := hv17.no hc13
              replace hsl1 := hsl1.no hc13
              replace hbase4 := Nat.le_trans hbase4 (hc13).size
              replace hbase5 := Nat.le_trans hbase5 (hc13).size
              replace hbase6 := Nat.le_trans hbase6 (hc13).size
              replace hbase7 := Nat.le_trans hbase7 (hc13).size
              replace hr10 := hr10.no hc13
              replace hbase8 := Nat.le_trans hbase8 (hc13).size
              replace hr11 := hr11.no hc13
              refine VL_pure 39 [10] [(10, .bool (!((unT (mo ++ (frameF bs m))) == bs)))] (by kernel_rfl) rfl ?_
              refine VL_end (by kernel_rfl) ?_
              refine VQ_next ?_
              refine VC_ret ?_
              refine VQ_ret1 (.bool (!((unT (mo ++ (frameF bs m))) == bs))) (.inr rfl) rfl rfl ?_
              exact ⟨congrArg Value.bool (by rw [show ((unT (mo ++ (frameF bs m))) == bs) = false from (beq_eq_false_iff_ne.2 (un_ahead (ys := mo ++ frameF bs m) (by rw [List.length_append]; omega) hn (by omega) (by assumption)))]; rfl), hS⟩
          · refine VL_pure 29 [0, 26, 28, 158] [(0, .slice A n c), (26, .slice A10 ((unT (mo ++ (frameF bs m))).length) c11), (28, .int .i64 (unE (mo ++ (frameF bs m)))), (158, .bool ((unE ((frameF bs m) ++ mo)) == 5))] (by kernel_rfl) rfl ?_
            refine VL_known ((unE ((frameF bs m) ++ mo)) == 5) (fun bV => [(0, .slice A n c), (26, .slice A10 ((unT (mo ++ (frameF bs m))).length) c11), (28, .int .i64 (unE (mo ++ (frameF bs m)))), (158, .bool bV)]) true rfl (by rcases un_few (bs := frameF bs m ++ mo) (by rw [List.length_append]; omega) with h9 | h9 | h9 <;> first | exact beq_iff_eq.2 h9 | exact absurd h9 ‹_›) ?_
            refine VL_pure 32 [0, 26, 158, 161] [(0, .slice A n c), (26, .slice A10 ((unT (mo ++ (frameF bs m))).length) c11), (158, .bool true), (161, .bool ((unE (mo ++ (frameF bs m))) != 0))] (by kernel_rfl) rfl ?_
            refine VL_bne (unE (mo ++ (frameF bs m))) 0 (fun bV => [(0, .slice A n c), (26, .slice A10 ((unT (mo ++ (frameF bs m))).length) c11), (158, .bool true), (161, .bool bV)]) rfl (fun hg17 => ?_) (fun hg17 => ?_)
            · refine VL_pure 39 [10] [(10, .bool true)] (by kernel_rfl) rfl ?_
              refine VL_end (by kernel_rfl) ?_
              refine VQ_next ?_
              refine VC_ret ?_
              refine VQ_ret1 (.bool true) (.inr rfl) rfl rfl ?_
              exact ⟨by first | rfl | simp [*], hS⟩
            · refine VL_pure 34 [158, 161, 162, 163] [(158, .bool true), (161, .bool false), (162, .slice A10 ((unT (mo ++ (frameF bs m))).length) c11), (163, .slice A n c)] (by kernel_rfl) rfl ?_
              have hzs25 := hS.size
              have hzl26 := ho1.lt
              refine VL_call (d := 164) (f := 14) (args := #[.slice A10 ((unT (mo ++ (frameF bs m))).length) c11, .slice A n c]) (by kernel_rfl) (by kernel_rfl) (by kernel_rfl) Try.call14 (same_any A10 ((unT (mo ++ (frameF bs m))).length) c11 _ (unT (mo ++ (frameF bs m))) A n c _ bs _ (Rw.lenI hr11) (Rw.slI hr11) hn hA (by omega) (by omega) (by first | exact Nat.le_refl _ | omega) (by first | exact Nat.le_refl _ | omega)) ?_
              rintro _ w30 ⟨rfl, hc14⟩
              replace hS := Step.trans hS hc14
              replace hA := hA.no hc14
              replace ho1 := ho1.no hc14
              replace hbase1 := Nat.le_trans hbase1 (hc14).size
              replace hglg1 := Nat.lt_of_lt_of_le hglg1 (hc14).size
              replace hr1 := hr1.no hc14
              replace hbase2 := Nat.le_trans hbase2 (hc14).size
              replace hbase3 := Nat.le_trans hbase3 (hc14).size
              replace hv17 := hv17.no hc14
              replace hsl1 := hsl1.no hc14
              replace hbase4 := Nat.le_trans hbase4 (hc14).size
              replace hbase5 := Nat.le_trans hbase5 (hc14).size
              replace hbase6 := Nat.le_trans hbase6 (hc14).size
              replace hbase7 := Nat.le_trans hbase7 (hc14).size
              replace hr10 := hr10.no hc14
              replace hbase8 := Nat.le_trans hbase8 (hc14).size
              replace hr11 := hr11.no hc14
              refine VL_pure 39 [10] [(10, .bool (!((unT (mo ++ (frameF bs m))) == bs)))] (by kernel_rfl) rfl ?_
              refine VL_end (by kernel_rfl) ?_
              refine VQ_next ?_
              refine VC_ret ?_
              refine VQ_ret1 (.bool (!((unT (mo ++ (frameF bs m))) == bs))) (.inr rfl) rfl rfl ?_
              exact ⟨congrArg Value.bool (by rw [show ((unT (mo ++ (frameF bs m))) == bs) = false from (beq_eq_false_iff_ne.2 (un_ahead (ys := mo ++ frameF bs m) (by rw [List.length_append]; omega) hn (by omega) (by assumption)))]; rfl), hS⟩

set_option maxRecDepth 100000 in
set_option maxHeartbeats 4000000 in
theorem bursts_o (A : Option Addr) (n c : Nat) (bs : List Int) (m : Int) (q y : Nat) (mo : List Int) (w : World) (hn : bs.length = n) (hA : Sl w w.heap.size A (iL .u8 bs)) (hc : n ≤ c) (hb : Bytes bs) (hm : 0 ≤ m ∧ m < 256) (hq : q < 18446744073709551616) (hy : y < 4294967296) (hmo : mo.length = 48) (hbm : Bytes mo) (hlon : 401 ≤ n) :
    CV Try.prog 6 #[.slice A n c, .int .u8 m, .int .u64 ((q : Nat) : Int), .int .u32 ((y : Nat) : Int), .agg (iA .u8 mo)] w (fun x w1 => x = .bool true ∧ Step No w w1) := by
  have hS : Step No w w := Step.refl _ _
  refine CV_enter Try.f6 _ 168 [(0, .slice A n c), (1, .int .u8 m), (2, .int .u64 ((q : Nat) : Int)), (3, .int .u32 ((y : Nat) : Int)), (4, .agg (iA .u8 mo))] Try.func6 rfl rfl (by kernel_rfl) rfl ?_
  refine VC_seq ?_
  refine VC_region ?_
  have hzs1 := hS.size
  have hzs2 := hS.size
  refine VL_box (d := 9) (t := 40) (c := iA .u8 mo) (by kernel_rfl) (by kernel_rfl) ?_
  intro b1 w1 hn1
  replace hS := Step.trans hS (hn1.step No)
  replace hA := hA.no (hn1.step No)
  have ho1 := hn1.own
  have hzhn1 := hn1.size
  have hqhn1 := hn1.eqb
  refine VL_pure 2 [0, 1, 2, 3, 9] [(0, .slice A n c), (1, .int .u8 m), (2, .int .u64 ((q : Nat) : Int)), (3, .int .u32 ((y : Nat) : Int)), (9, .pointer (some ⟨b1, 0, none⟩))] (by kernel_rfl) rfl ?_
  refine VL_end (by kernel_rfl) ?_
  refine VQ_next ?_
  refine VC_seq ?_
  refine VC_seq ?_
  refine VC_region ?_
  have hzs3 := hS.size
  have hzl1 := ho1.lt
  refine VL_call (d := 29) (f := 9) (args := #[]) (by kernel_rfl) (by kernel_rfl) (by kernel_rfl) Try.call9 (awake_any _) ?_
  rintro _ w2 ⟨rfl, hc1⟩
  replace hS := Step.trans hS hc1
  replace hA := hA.no hc1
  replace ho1 := ho1.no hc1
  refine VL_pure 8 [0, 1, 2, 3, 9, 36] [(0, .slice A n c), (1, .int .u8 m), (2, .int .u64 ((q : Nat) : Int)), (3, .int .u32 ((y : Nat) : Int)), (9, .pointer (some ⟨b1, 0, none⟩)), (36, .bool (decide (((n : Nat) : Int) > 400)))] (by kernel_rfl) rfl ?_
  refine VL_known (decide (((n : Nat) : Int) > 400)) (fun bV => [(0, .slice A n c), (1, .int .u8 m), (2, .int .u64 ((q : Nat) : Int)), (3, .int .u32 ((y : Nat) : Int)), (9, .pointer (some ⟨b1, 0, none⟩)), (36, .bool bV)]) true rfl (by first | (simp; omega) | (simp; done) | simp [*]) ?_
  refine VL_pure 12 [0, 1, 2, 3, 9, 40] [(0, .slice A n c), (1, .int .u8 m), (2, .int .u64 ((q : Nat) : Int)), (3, .int .u32 ((y : Nat) : Int)), (9, .pointer (some ⟨b1, 0, none⟩)), (40, .bool true)] (by kernel_rfl) rfl ?_
  refine VL_end (by kernel_rfl) ?_
  refine VQ_next ?_
  refine VC_true (by kernel_rfl) ?_
  refine VC_seq ?_
  refine VC_region ?_
  have hzs4 := hS.size
  have hzl2 := ho1.lt
  refine VL_call (d := 41) (f := 9) (args := #[]) (by kernel_rfl) (by kernel_rfl) (by kernel_rfl) Try.call9 (awake_any _) ?_
  rintro _ w3 ⟨rfl, hc2⟩
  replace hS := Step.trans hS hc2
  replace hA := hA.no hc2
  replace ho1 := ho1.no hc2
  refine VL_pure 2 [10] [(10, .bool true)] (by kernel_rfl) rfl ?_
  refine VL_end (by kernel_rfl) ?_
  refine VQ_next ?_
  refine VC_ret ?_
  refine VQ_then_ret ?_
  refine VQ_ret1 (.bool true) (.inr rfl) rfl rfl ?_
  exact ⟨by first | rfl | simp [*], hS⟩

end Go.Proofs.Ytfgmlgkopphekaa
