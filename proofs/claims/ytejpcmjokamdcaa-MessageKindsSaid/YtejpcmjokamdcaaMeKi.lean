/- Layer 16: MessageKinds. -/
import Derived.Test.YtejpcmjokamdcaaProg
import Derived.Test.YtejpcmjokamdcaaMe4
import Derived.Test.YtejpcmjokamdcaaMe5
set_option linter.unusedVariables false
set_option linter.unusedSimpArgs false
namespace Go.Proofs.Ytejpcmjokamdcaa
open Go.Vc Go.RowKit

set_option maxRecDepth 100000 in
set_option maxHeartbeats 4000000 in
theorem kinds_any (r k : Int) (bk : Bool) (w : World) :
    CV Try.prog 5 #[.int .i64 r, .int .i64 k, .bool bk] w (fun x w1 => x = .bool true ∧ Step No w w1) := by
  have hS : Step No w w := Step.refl _ _
  refine CV_enter Try.f5 _ 77 [(0, .int .i64 r), (1, .int .i64 k), (2, .bool bk)] Try.func5 rfl rfl (by kernel_rfl) rfl ?_
  refine VC_seq ?_
  refine VC_region ?_
  refine VL_pure 1 [0, 1, 2] [(0, .int .i64 r), (1, .int .i64 k), (2, .bool bk)] (by kernel_rfl) rfl ?_
  refine VL_end (by kernel_rfl) ?_
  refine VQ_next ?_
  refine VC_seq ?_
  refine VC_seq ?_
  refine VC_region ?_
  have hzs1 := hS.size
  refine VL_call (d := 12) (f := 9) (args := #[]) (by kernel_rfl) (by kernel_rfl) (by kernel_rfl) Try.call9 (awake_any _) ?_
  rintro _ w1 ⟨rfl, hc1⟩
  replace hS := Step.trans hS hc1
  refine VL_pure 2 [0, 1, 2, 13] [(0, .int .i64 r), (1, .int .i64 k), (2, .bool bk), (13, .bool false)] (by kernel_rfl) rfl ?_
  refine VL_end (by kernel_rfl) ?_
  refine VQ_next ?_
  refine VC_false (by kernel_rfl) ?_
  refine VC_skip ?_
  refine VQ_next ?_
  refine VC_seq ?_
  refine VC_region ?_
  refine VL_pure 3 [0, 1, 2, 16] [(0, .int .i64 r), (1, .int .i64 k), (2, .bool bk), (16, .bool (k == 2))] (by kernel_rfl) rfl ?_
  refine VL_join (k == 2) (fun bV => [(0, .int .i64 r), (1, .int .i64 k), (2, .bool bk), (16, .bool bV)]) 6 [(0, .int .i64 r), (1, .int .i64 k), (2, .bool bk), (19, .bool ((k == 2) || (k == 5)))] rfl (fun hg1 J1 => ?_) (fun hg1 J1 => ?_) ?_
  · refine VL_pure 6 [0, 1, 2, 19] [(0, .int .i64 r), (1, .int .i64 k), (2, .bool bk), (19, .bool true)] (by kernel_rfl) rfl ?_
    exact VL_eq _ (by simp only [hg1, Bool.true_and, Bool.false_and, Bool.true_or, Bool.false_or, Bool.not_true, Bool.not_false]) J1
  · refine VL_pure 6 [0, 1, 2, 19] [(0, .int .i64 r), (1, .int .i64 k), (2, .bool bk), (19, .bool (k == 5))] (by kernel_rfl) rfl ?_
    exact VL_eq _ (by simp only [hg1, Bool.true_and, Bool.false_and, Bool.true_or, Bool.false_or, Bool.not_true, Bool.not_false]) J1
  refine VL_pure 7 [0, 1, 2, 20] [(0, .int .i64 r), (1, .int .i64 k), (2, .bool bk), (20, .bool ((k == 2) || (k == 5)))] (by kernel_rfl) rfl ?_
  refine VL_join ((k == 2) || (k == 5)) (fun bV => [(0, .int .i64 r), (1, .int .i64 k), (2, .bool bk), (20, .bool bV)]) 10 [(0, .int .i64 r), (1, .int .i64 k), (2, .bool bk), (23, .bool (((k == 2) || (k == 5)) || (k == 7)))] rfl (fun hg2 J2 => ?_) (fun hg2 J2 => ?_) ?_
  · refine VL_pure 10 [0, 1, 2, 23] [(0, .int .i64 r), (1, .int .i64 k), (2, .bool bk), (23, .bool true)] (by kernel_rfl) rfl ?_
    exact VL_eq _ (by simp only [hg2, Bool.true_and, Bool.false_and, Bool.true_or, Bool.false_or, Bool.not_true, Bool.not_false]) J2
  · refine VL_pure 10 [0, 1, 2, 23] [(0, .int .i64 r), (1, .int .i64 k), (2, .bool bk), (23, .bool (k == 7))] (by kernel_rfl) rfl ?_
    exact VL_eq _ (by simp only [hg2, Bool.true_and, Bool.false_and, Bool.true_or, Bool.false_or, Bool.not_true, Bool.not_false]) J2
  refine VL_pure 11 [0, 1, 2, 24] [(0, .int .i64 r), (1, .int .i64 k), (2, .bool bk), (24, .bool (((k == 2) || (k == 5)) || (k == 7)))] (by kernel_rfl) rfl ?_
  refine VL_join (((k == 2) || (k == 5)) || (k == 7)) (fun bV => [(0, .int .i64 r), (1, .int .i64 k), (2, .bool bk), (24, .bool bV)]) 14 [(0, .int .i64 r), (1, .int .i64 k), (2, .bool bk), (27, .bool ((((k == 2) || (k == 5)) || (k == 7)) || (k == 77)))] rfl (fun hg3 J3 => ?_) (fun hg3 J3 => ?_) ?_
  · refine VL_pure 14 [0, 1, 2, 27] [(0, .int .i64 r), (1, .int .i64 k), (2, .bool bk), (27, .bool true)] (by kernel_rfl) rfl ?_
    exact VL_eq _ (by simp only [hg3, Bool.true_and, Bool.false_and, Bool.true_or, Bool.false_or, Bool.not_true, Bool.not_false]) J3
  · refine VL_pure 14 [0, 1, 2, 27] [(0, .int .i64 r), (1, .int .i64 k), (2, .bool bk), (27, .bool (k == 77))] (by kernel_rfl) rfl ?_
    exact VL_eq _ (by simp only [hg3, Bool.true_and, Bool.false_and, Bool.true_or, Bool.false_or, Bool.not_true, Bool.not_false]) J3
  refine VL_pure 15 [0, 1, 2, 28] [(0, .int .i64 r), (1, .int .i64 k), (2, .bool bk), (28, .bool ((((k == 2) || (k == 5)) || (k == 7)) || (k == 77)))] (by kernel_rfl) rfl ?_
  refine VL_join ((((k == 2) || (k == 5)) || (k == 7)) || (k == 77)) (fun bV => [(0, .int .i64 r), (1, .int .i64 k), (2, .bool bk), (28, .bool bV)]) 18 [(0, .int .i64 r), (1, .int .i64 k), (2, .bool bk), (31, .bool (((((k == 2) || (k == 5)) || (k == 7)) || (k == 77)) || (k == 90)))] rfl (fun hg4 J4 => ?_) (fun hg4 J4 => ?_) ?_
  · refine VL_pure 18 [0, 1, 2, 31] [(0, .int .i64 r), (1, .int .i64 k), (2, .bool bk), (31, .bool true)] (by kernel_rfl) rfl ?_
    exact VL_eq _ (by simp only [hg4, Bool.true_and, Bool.false_and, Bool.true_or, Bool.false_or, Bool.not_true, Bool.not_false]) J4
  · refine VL_pure 18 [0, 1, 2, 31] [(0, .int .i64 r), (1, .int .i64 k), (2, .bool bk), (31, .bool (k == 90))] (by kernel_rfl) rfl ?_
    exact VL_eq _ (by simp only [hg4, Bool.true_and, Bool.false_and, Bool.true_or, Bool.false_or, Bool.not_true, Bool.not_false]) J4
  refine VL_pure 19 [0, 1, 2, 7] [(0, .int .i64 r), (1, .int .i64 k), (2, .bool bk), (7, .bool (((((k == 2) || (k == 5)) || (k == 7)) || (k == 77)) || (k == 90)))] (by kernel_rfl) rfl ?_
  refine VL_end (by kernel_rfl) ?_
  refine VQ_next ?_
  refine VC_seq ?_
  refine VC_region ?_
  refine VL_pure 4 [0, 2, 7, 35] [(0, .int .i64 r), (2, .bool bk), (7, .bool (((((k == 2) || (k == 5)) || (k == 7)) || (k == 77)) || (k == 90))), (35, .agg #[.int .i64 r, .bool bk, .int .i64 k, .slice none 0 0])] (by kernel_rfl) rfl ?_
  have hzs2 := hS.size
  refine VL_box (d := 8) (t := 24) (c := #[.int .i64 0, .bool false, .int .i64 0, .slice none 0 0]) (by kernel_rfl) (by kernel_rfl) ?_
  intro b1 w2 hn1
  replace hS := Step.trans hS (hn1.step No)
  have ho1 := hn1.own
  have hzhn1 := hn1.size
  have hqhn1 := hn1.eqb
  refine VL_store (b := b1) (o := 0) (vs := [.int .i64 r, .bool bk, .int .i64 k, .slice none 0 0]) (by kernel_rfl) (by kernel_rfl) ho1 (Nat.le_of_ble_eq_true (by kernel_rfl)) ?_
  intro w3 hw1
  replace hS := Step.transNew hS hw1.step (fun _ _ _ => by omega)
  have ho2 : Own w3 b1 #[.int .i64 r, .bool bk, .int .i64 k, .slice none 0 0] 24 := Own.cast hw1.own (by kernel_rfl)
  have hzhw1 := hw1.same
  refine VL_end (by kernel_rfl) ?_
  refine VQ_next ?_
  refine VC_seq ?_
  refine VC_region ?_
  refine VL_pure 2 [0, 2, 8, 37] [(0, .int .i64 r), (2, .bool bk), (8, .pointer (some ⟨b1, 0, none⟩)), (37, .bool (((((k == 2) || (k == 5)) || (k == 7)) || (k == 77)) || (k == 90)))] (by kernel_rfl) rfl ?_
  refine VL_join (((((k == 2) || (k == 5)) || (k == 7)) || (k == 77)) || (k == 90)) (fun bV => [(0, .int .i64 r), (2, .bool bk), (8, .pointer (some ⟨b1, 0, none⟩)), (37, .bool bV)]) 5 [(0, .int .i64 r), (2, .bool bk), (8, .pointer (some ⟨b1, 0, none⟩)), (40, .bool ((((((k == 2) || (k == 5)) || (k == 7)) || (k == 77)) || (k == 90)) && (decide (r ≥ 1))))] rfl (fun hg5 J5 => ?_) (fun hg5 J5 => ?_) ?_
  · refine VL_pure 5 [0, 2, 8, 40] [(0, .int .i64 r), (2, .bool bk), (8, .pointer (some ⟨b1, 0, none⟩)), (40, .bool (decide (r ≥ 1)))] (by kernel_rfl) rfl ?_
    exact VL_eq _ (by simp only [hg5, Bool.true_and, Bool.false_and, Bool.true_or, Bool.false_or, Bool.not_true, Bool.not_false]) J5
  · refine VL_pure 5 [0, 2, 8, 40] [(0, .int .i64 r), (2, .bool bk), (8, .pointer (some ⟨b1, 0, none⟩)), (40, .bool false)] (by kernel_rfl) rfl ?_
    exact VL_eq _ (by simp only [hg5, Bool.true_and, Bool.false_and, Bool.true_or, Bool.false_or, Bool.not_true, Bool.not_false]) J5
  refine VL_pure 6 [0, 2, 8, 41] [(0, .int .i64 r), (2, .bool bk), (8, .pointer (some ⟨b1, 0, none⟩)), (41, .bool ((((((k == 2) || (k == 5)) || (k == 7)) || (k == 77)) || (k == 90)) && (decide (r ≥ 1))))] (by kernel_rfl) rfl ?_
  refine VL_join ((((((k == 2) || (k == 5)) || (k == 7)) || (k == 77)) || (k == 90)) && (decide (r ≥ 1))) (fun bV => [(0, .int .i64 r), (2, .bool bk), (8, .pointer (some ⟨b1, 0, none⟩)), (41, .bool bV)]) 9 [(2, .bool bk), (8, .pointer (some ⟨b1, 0, none⟩)), (44, .bool (((((((k == 2) || (k == 5)) || (k == 7)) || (k == 77)) || (k == 90)) && (decide (r ≥ 1))) && (decide (r ≤ 8388607))))] rfl (fun hg6 J6 => ?_) (fun hg6 J6 => ?_) ?_
  · refine VL_pure 9 [2, 8, 44] [(2, .bool bk), (8, .pointer (some ⟨b1, 0, none⟩)), (44, .bool (decide (r ≤ 8388607)))] (by kernel_rfl) rfl ?_
    exact VL_eq _ (by simp only [hg6, Bool.true_and, Bool.false_and, Bool.true_or, Bool.false_or, Bool.not_true, Bool.not_false]) J6
  · refine VL_pure 9 [2, 8, 44] [(2, .bool bk), (8, .pointer (some ⟨b1, 0, none⟩)), (44, .bool false)] (by kernel_rfl) rfl ?_
    exact VL_eq _ (by simp only [hg6, Bool.true_and, Bool.false_and, Bool.true_or, Bool.false_or, Bool.not_true, Bool.not_false]) J6
  refine VL_pure 10 [2, 8, 9] [(2, .bool bk), (8, .pointer (some ⟨b1, 0, none⟩)), (9, .bool (((((((k == 2) || (k == 5)) || (k == 7)) || (k == 77)) || (k == 90)) && (decide (r ≥ 1))) && (decide (r ≤ 8388607))))] (by kernel_rfl) rfl ?_
  refine VL_end (by kernel_rfl) ?_
  refine VQ_next ?_
  refine VC_seq ?_
  refine VC_region ?_
  refine VL_eq [(2, .bool bk), (8, .pointer (some ⟨b1, 0, none⟩)), (9, .bool (fineM r k))] (by rw [show (((((((k == 2) || (k == 5)) || (k == 7)) || (k == 77)) || (k == 90)) && (decide (r ≥ 1))) && (decide (r ≤ 8388607))) = fineM r k from (by rw [fineM, ← fine_is (r := r)]; rw [Bool.eq_iff_iff]; simp only [Bool.and_eq_true, decide_eq_true_eq]; exact ⟨fun h => ⟨⟨h.1.2, h.2⟩, h.1.1⟩, fun h => ⟨⟨h.2, h.1.1⟩, h.1.2⟩⟩)]) ?_
  refine VL_load (d := 46) (t := 24) (a := ⟨b1, 0, none⟩) (v := .agg #[.int .i64 r, .bool bk, .int .i64 k, .slice none 0 0]) (by kernel_rfl) (by kernel_rfl) (Loads.ownL ho2 (n := 4) (by kernel_rfl) (by kernel_rfl) (by kernel_rfl)) ?_
  have hzs3 := hS.size
  have hzl1 := ho2.lt
  refine VL_call (d := 47) (f := 11) (by kernel_rfl) (by kernel_rfl) (by kernel_rfl) Try.call11 (msgpack_any r bk k none 0 0 0 0 ([]) _ rfl Ies.nil (by omega) (by first | exact Nat.le_refl _ | omega)) ?_
  rintro _ w4 ⟨A1, c1, rfl, hr1, hc2⟩
  replace hS := Step.trans hS hc2
  replace ho2 := ho2.no hc2
  obtain ⟨base1, hbase1E⟩ : ∃ x, x = w3.heap.size := ⟨_, rfl⟩
  rw [← hbase1E] at hr1
  have hbase1 : base1 ≤ w4.heap.size := by rw [hbase1E]; exact hc2.size
  have hmlq1 := msgT_le r bk k (vals ([]))
  refine VL_pure 7 [2, 8, 9, 10, 11] [(2, .bool bk), (8, .pointer (some ⟨b1, 0, none⟩)), (9, .bool (fineM r k)), (10, .slice A1 ((msgT r bk k (vals ([]))).length) c1), (11, .int .i64 (msgE r bk k (vals ([]))))] (by kernel_rfl) rfl ?_
  refine VL_end (by kernel_rfl) ?_
  refine VQ_next ?_
  refine VC_seq ?_
  have hn9 : fineM r k = true → (msgT r bk k (vals [])).length = 9 := nil_len bk
  refine VC_region ?_
  refine VL_load (d := 50) (t := 24) (a := ⟨b1, 0, none⟩) (v := .agg #[.int .i64 r, .bool bk, .int .i64 k, .slice none 0 0]) (by kernel_rfl) (by kernel_rfl) (Loads.ownL ho2 (n := 4) (by kernel_rfl) (by kernel_rfl) (by kernel_rfl)) ?_
  have hzs4 := hS.size
  have hzl2 := ho2.lt
  refine VL_call (d := 51) (f := 17) (by kernel_rfl) (by kernel_rfl) (by kernel_rfl) Try.call17 (right16_any r bk k none 0 0 0 0 ([]) _ rfl Ies.nil (by omega) (by first | exact Nat.le_refl _ | omega)) ?_
  rintro _ w5 ⟨rfl, hc3⟩
  replace hS := Step.trans hS hc3
  replace ho2 := ho2.no hc3
  replace hbase1 := Nat.le_trans hbase1 (hc3).size
  replace hr1 := hr1.no hc3
  refine VL_pure 5 [2, 9, 10, 11, 54] [(2, .bool bk), (9, .bool (fineM r k)), (10, .slice A1 ((msgT r bk k (vals ([]))).length) c1), (11, .int .i64 (msgE r bk k (vals ([])))), (54, .bool ((rightM r k (vals ([]))) == (fineM r k)))] (by kernel_rfl) rfl ?_
  refine VL_known ((rightM r k (vals ([]))) == (fineM r k)) (fun bV => [(2, .bool bk), (9, .bool (fineM r k)), (10, .slice A1 ((msgT r bk k (vals ([]))).length) c1), (11, .int .i64 (msgE r bk k (vals ([])))), (54, .bool bV)]) true rfl (by rw [right_nil]; simp) ?_
  refine VL_pure 11 [2, 9, 10, 60] [(2, .bool bk), (9, .bool (fineM r k)), (10, .slice A1 ((msgT r bk k (vals ([]))).length) c1), (60, .bool (((msgE r bk k (vals ([]))) == 0) == (fineM r k)))] (by kernel_rfl) rfl ?_
  refine VL_known (((msgE r bk k (vals ([]))) == 0) == (fineM r k)) (fun bV => [(2, .bool bk), (9, .bool (fineM r k)), (10, .slice A1 ((msgT r bk k (vals ([]))).length) c1), (60, .bool bV)]) true rfl (by rw [msgE_nil]; simp) ?_
  refine VL_pure 14 [2, 10, 60, 63] [(2, .bool bk), (10, .slice A1 ((msgT r bk k (vals ([]))).length) c1), (60, .bool true), (63, .bool (!(fineM r k)))] (by kernel_rfl) rfl ?_
  refine VL_bool (fineM r k) (fun bV => [(2, .bool bk), (10, .slice A1 ((msgT r bk k (vals ([]))).length) c1), (60, .bool true), (63, .bool (!bV))]) rfl (fun hg7 => ?_) (fun hg7 => ?_)
  · refine VL_pure 18 [2, 10, 60, 63, 67] [(2, .bool bk), (10, .slice A1 ((msgT r bk k (vals ([]))).length) c1), (60, .bool true), (63, .bool false), (67, .bool ((((msgT r bk k (vals ([]))).length : Nat) : Int) == 9))] (by kernel_rfl) rfl ?_
    try (have hn8 := hn9 (by assumption))
    refine VL_known ((((msgT r bk k (vals ([]))).length : Nat) : Int) == 9) (fun bV => [(2, .bool bk), (10, .slice A1 ((msgT r bk k (vals ([]))).length) c1), (60, .bool true), (63, .bool false), (67, .bool bV)]) true rfl (by rw [beq_iff_eq]; have hq9 := nil_len bk (by assumption); omega) ?_
    refine VL_pure 19 [2, 60, 63, 67, 68] [(2, .bool bk), (60, .bool true), (63, .bool false), (67, .bool true), (68, .slice A1 ((msgT r bk k (vals ([]))).length) c1)] (by kernel_rfl) rfl ?_
    obtain ⟨g1, cur1, rfl, hgbg1, hglg1, -⟩ := hr1.open (by omega)
    refine VL_index (d := 69) (b := g1) (o := 0) (len := ((msgT r bk k (vals ([]))).length)) (sz := 1) (m := 2) (by kernel_rfl) (by kernel_rfl) 2 (by rfl) (by omega) 2 (by omega) ?_
    refine VL_load (d := 70) (t := 5) (a := ⟨g1, 2, none⟩) (v := .int .u8 ((msgT r bk k (vals ([]))).getD 2 0)) (by kernel_rfl) (by kernel_rfl) (Rw.ldI hr1 (by kernel_rfl) (by omega)) ?_
    refine VL_pure 28 [6] [(6, .bool ((decide (((msgT r bk k (vals ([]))).getD 2 0) > 127)) == bk))] (by kernel_rfl) rfl ?_
    refine VL_end (by kernel_rfl) ?_
    refine VQ_next ?_
    refine VC_ret ?_
    refine VQ_ret1 (.bool ((decide (((msgT r bk k (vals ([]))).getD 2 0) > 127)) == bk)) (.inr rfl) rfl rfl ?_
    exact ⟨congrArg Value.bool (nil_b2 bk (by assumption)), hS⟩
  · refine VL_pure 18 [2, 10, 60, 63, 67] [(2, .bool bk), (10, .slice A1 ((msgT r bk k (vals ([]))).length) c1), (60, .bool true), (63, .bool true), (67, undef)] (by kernel_rfl) rfl ?_
    try (have hn8 := hn9 (by assumption))
    refine VL_pure 28 [6] [(6, .bool true)] (by kernel_rfl) rfl ?_
    refine VL_end (by kernel_rfl) ?_
    refine VQ_next ?_
    refine VC_ret ?_
    refine VQ_ret1 (.bool true) (.inr rfl) rfl rfl ?_
    exact ⟨rfl, hS⟩

end Go.Proofs.Ytejpcmjokamdcaa
