/- Layer 11: what the laws share. -/
import Derived.Test.YtgiefcolkohgkaaProg
import Derived.Test.YtgiefcolkohgkaaGa5
import Derived.Test.YtgiefcolkohgkaaSa1
import Derived.Test.YtgiefcolkohgkaaFr8
set_option linter.unusedVariables false
set_option linter.unusedSimpArgs false
namespace Go.Proofs.Ytgiefcolkohgkaa
open Go.Vc Go.RowKit

def timeB (t : Int) : Bool := decide (t ≥ 0) && decide (t ≤ 1152921504606846976)
theorem time_is {t : Int} (h : timeB t = true) : 0 ≤ t ∧ t ≤ 1152921504606846976 := by
  simp only [timeB, Bool.and_eq_true, decide_eq_true_eq] at h
  exact ⟨by omega, h.2⟩
theorem rep_bytes (n : Nat) : Bytes (List.replicate n 0) := fun x hx => by have := List.eq_of_mem_replicate hx; omega
theorem time_any (t : Int) (w : World) :
    CV Try.prog 12 #[.int .i64 t] w (fun x w1 => x = .bool (timeB t) ∧ Step No w w1) := by
  have hS : Step No w w := Step.refl _ _
  refine CV_enter Try.f12 _ 9 [(0, .int .i64 t)] Try.func12 rfl rfl (by kernel_rfl) rfl ?_
  refine VC_seq ?_
  refine VC_region ?_
  refine VL_pure 1 [0] [(0, .int .i64 t)] (by kernel_rfl) rfl ?_
  refine VL_end (by kernel_rfl) ?_
  refine VQ_next ?_
  refine VC_seq ?_
  refine VC_region ?_
  refine VL_pure 3 [0, 5] [(0, .int .i64 t), (5, .bool (decide (t ≥ 0)))] (by kernel_rfl) rfl ?_
  refine VL_join (decide (t ≥ 0)) (fun bV => [(0, .int .i64 t), (5, .bool bV)]) 6 [(8, .bool ((decide (t ≥ 0)) && (decide (t ≤ 1152921504606846976))))] rfl (fun hg1 J1 => ?_) (fun hg1 J1 => ?_) ?_
  · refine VL_pure 6 [8] [(8, .bool (decide (t ≤ 1152921504606846976)))] (by kernel_rfl) rfl ?_
    exact VL_eq _ (by simp only [hg1, Bool.true_and, Bool.false_and, Bool.true_or, Bool.false_or, Bool.not_true, Bool.not_false]) J1
  · refine VL_pure 6 [8] [(8, .bool false)] (by kernel_rfl) rfl ?_
    exact VL_eq _ (by simp only [hg1, Bool.true_and, Bool.false_and, Bool.true_or, Bool.false_or, Bool.not_true, Bool.not_false]) J1
  refine VL_pure 7 [2] [(2, .bool ((decide (t ≥ 0)) && (decide (t ≤ 1152921504606846976))))] (by kernel_rfl) rfl ?_
  refine VL_end (by kernel_rfl) ?_
  refine VQ_next ?_
  refine VC_ret ?_
  refine VQ_ret1 (.bool ((decide (t ≥ 0)) && (decide (t ≤ 1152921504606846976)))) (.inr rfl) rfl rfl ?_
  exact ⟨rfl, hS⟩

set_option maxRecDepth 100000 in
set_option maxHeartbeats 4000000 in
theorem awake_any (w : World) :
    CV Try.prog 9 #[] w (fun x w1 => x = .bool true ∧ Step No w w1) := by
  have hS : Step No w w := Step.refl _ _
  refine CV_enter Try.f9 _ 73 [] Try.func9 rfl rfl (by kernel_rfl) rfl ?_
  refine VC_seq ?_
  refine VC_region ?_
  refine VL_pure 1 [] [] (by kernel_rfl) rfl ?_
  refine VL_end (by kernel_rfl) ?_
  refine VQ_next ?_
  refine VC_seq ?_
  refine VC_region ?_
  have hzs1 := hS.size
  refine VL_call (d := 11) (f := 10) (by kernel_rfl) (by kernel_rfl) (by kernel_rfl) Try.call10 (gnew_any 10 _) ?_
  rintro _ w1 ⟨gp1, rfl, hfgp1, hg1, hc1⟩
  replace hS := Step.trans hS hc1
  have hltgp1 := GaOf.lt hg1
  have hgigp1 : GaI (newG 10) 0 := GaI.new _
  have hzzgp1 := hc1.size
  refine VL_pure 2 [1] [(1, .pointer (some ⟨gp1, 0, none⟩))] (by kernel_rfl) rfl ?_
  refine VL_end (by kernel_rfl) ?_
  refine VQ_next ?_
  refine VC_seq ?_
  refine VC_region ?_
  have hzs2 := hS.size
  have hzl1 := GaOf.lt hg1
  refine VL_make (t := 32) (a := 41) (b := 41) (e := 5) (d := 13) (k := .u8) (bytes := 1) (by kernel_rfl) (by kernel_rfl) (by kernel_rfl) (by kernel_rfl) 41 rfl rfl (by omega) (by omega) ?_
  intro g1 w2 hn1
  replace hS := Step.trans hS (hn1.step No)
  replace hg1 := GaOf.no hg1 (hn1.step No)
  have hzhn1 := hn1.size
  have hqhn1 := hn1.eqb
  have hr1 := Rw.made hn1.own (by simp only [maxLen]; omega)
  have hbase1 : g1 ≤ w2.heap.size := by omega
  have hglg1 : g1 < w2.heap.size := by omega
  have hzs3 := hS.size
  have hzl2 := GaOf.lt hg1
  refine VL_call (d := 14) (f := 20) (by kernel_rfl) (by kernel_rfl) (by kernel_rfl) Try.call20 (pack_yes (some ⟨g1, 0, none⟩) 41 41 _ (List.replicate 41 0) _ (Rw.lenI hr1) (Rw.slI hr1) 7 (by first | exact Nat.le_refl _ | omega) (by omega) (by omega)) ?_
  rintro _ w3 ⟨g2, c1, rfl, hggg2, hr2, hc2⟩
  replace hS := Step.trans hS hc2
  replace hg1 := GaOf.no hg1 hc2
  replace hbase1 := Nat.le_trans hbase1 (hc2).size
  replace hglg1 := Nat.lt_of_lt_of_le hglg1 (hc2).size
  replace hr1 := hr1.no hc2
  obtain ⟨base1, hbase2E⟩ : ∃ x, x = w2.heap.size := ⟨_, rfl⟩
  rw [← hbase2E] at hr2 hggg2
  have hbase2 : base1 ≤ w3.heap.size := by rw [hbase2E]; exact hc2.size
  have hglg2 : g2 < w3.heap.size := (Rw.openG hr2).choose_spec.2.1
  have hcapg2 := Rw.cap hr2
  have hmmq1 := (many_le 41).2 (by omega)
  refine VL_pure 7 [1, 2] [(1, .pointer (some ⟨gp1, 0, none⟩)), (2, .slice (some ⟨g2, 0, none⟩) (48 * manyN 41) c1)] (by kernel_rfl) rfl ?_
  refine VL_end (by kernel_rfl) ?_
  refine VQ_next ?_
  refine VC_seq ?_
  refine VC_seq ?_
  refine VC_region ?_
  refine VL_pure 7 [1, 2, 23] [(1, .pointer (some ⟨gp1, 0, none⟩)), (2, .slice (some ⟨g2, 0, none⟩) (48 * manyN 41) c1), (23, .bool (((48 * manyN 41 : Nat) : Int) != 96))] (by kernel_rfl) rfl ?_
  refine VL_end (by kernel_rfl) ?_
  refine VQ_next ?_
  refine VC_is (b := ((48 * manyN 41 : Nat) : Int) != 96) false (by kernel_rfl) (by rfl) ?_
  refine VC_ite_false ?_
  refine VC_skip ?_
  refine VQ_next ?_
  refine VC_seq ?_
  refine VC_region ?_
  refine VL_pure 2 [1, 2, 25, 26] [(1, .pointer (some ⟨gp1, 0, none⟩)), (2, .slice (some ⟨g2, 0, none⟩) (48 * manyN 41) c1), (25, .pointer (some ⟨gp1, 0, none⟩)), (26, .slice (some ⟨g2, 0, none⟩) (48 * manyN 41) c1)] (by kernel_rfl) rfl ?_
  have hcap1 := Rw.cap hr2
  have hln1 := Rw.lenI hr2
  refine VL_slice (d := 27) (b := g2) (o := 0) (sz := 1) (len := (48 * manyN 41)) (cap := c1) (lo := none) (hi := (some 48)) (mx := none) (by kernel_rfl) (by kernel_rfl) (fun h => by first | exact absurd rfl h | exact (fun h => by cases h)) 0 48 c1 rfl rfl rfl (by omega) (by omega) (by omega) 0 (by split <;> omega) 48 (by omega) c1 (by omega) ?_
  have hsl1 := Sl.takeI (Rw.slI hr2) 48
  refine VL_stap (d := 28) (A := some ⟨g2, 0, none⟩) (len := 48) (N := 48) (by kernel_rfl) (by kernel_rfl) (by omega) ?_
  refine VL_load (d := 29) (t := 28) (a := ⟨g2, 0, none⟩) (v := .agg (iA .u8 (((frameF (List.replicate 41 0) 7).take 48).take 48))) (by kernel_rfl) (by kernel_rfl) (Loads.slArr hsl1 (by kernel_rfl) (by have hq9 : ((frameF (List.replicate 41 0) 7).take 48).length = 48 := (by simp only [List.length_take, List.length_drop]; omega); omega)) ?_
  refine VL_keep [1, 2, 25, 26, 27, 28, 29] [(1, .pointer (some ⟨gp1, 0, none⟩)), (2, .slice (some ⟨g2, 0, none⟩) (48 * manyN 41) c1), (25, .pointer (some ⟨gp1, 0, none⟩)), (26, .slice (some ⟨g2, 0, none⟩) (48 * manyN 41) c1), (27, .slice (some ⟨g2, 0, none⟩) 48 c1), (28, .pointer (some ⟨g2, 0, none⟩)), (29, .agg (iA .u8 (((frameF (List.replicate 41 0) 7).take 48).take 48)))] (by kernel_rfl) ?_
  refine VL_eq [(1, .pointer (some ⟨gp1, 0, none⟩)), (2, .slice (some ⟨g2, 0, none⟩) (48 * manyN 41) c1), (25, .pointer (some ⟨gp1, 0, none⟩)), (26, .slice (some ⟨g2, 0, none⟩) (48 * manyN 41) c1), (27, .slice (some ⟨g2, 0, none⟩) 48 c1), (28, .pointer (some ⟨g2, 0, none⟩)), (29, .agg (iA .u8 aw1))] (by rw [show ((frameF (List.replicate 41 0) 7).take 48).take 48 = aw1 from by rw [List.take_take]; rfl]) ?_
  have hzs4 := hS.size
  have hzl3 := GaOf.lt hg1
  refine VL_call (d := 30) (f := 15) (by kernel_rfl) (by kernel_rfl) (by kernel_rfl) Try.call15 (take_any gp1 (newG 10) (fun _ => True) _ (fun _ _ => trivial) hg1 _ hgigp1 (by omega) 0 (by decide) (by decide) aw1 aw1_I.1 aw1_I.2 false) ?_
  rintro _ w4 ⟨A1, c2, rfl, hr3, hg2, hc3⟩
  replace hS := Step.transNew hS hc3 (fun _ _ _ => by omega)
  replace hbase1 := Nat.le_trans hbase1 (hc3).size
  replace hglg1 := Nat.lt_of_lt_of_le hglg1 (hc3).size
  replace hbase2 := Nat.le_trans hbase2 (hc3).size
  replace hglg2 := Nat.lt_of_lt_of_le hglg2 (hc3).size
  replace hr2 := hr2.keepG hc3 (show ¬ g2 = gp1 by omega)
  replace hsl1 := hsl1.keepB hc3 (show ¬ g2 = gp1 by omega)
  have hxhr3 := SlX.of_rw (X := fun _ => True) hr3 (fun _ _ => trivial)
  have hlthg2 := GaOf.lt hg2
  have hgihg2 := GaI.take (t := 0) (p := aw1) hgigp1 false (by decide) (by decide) aw1_I.1 aw1_I.2
  have htlhg2 := takeT_le hgigp1 0 aw1 false aw1_I.1
  refine VL_pure 13 [1, 2, 6] [(1, .pointer (some ⟨gp1, 0, none⟩)), (2, .slice (some ⟨g2, 0, none⟩) (48 * manyN 41) c1), (6, .int .i64 (takeE (newG 10) 0 aw1 false))] (by kernel_rfl) rfl ?_
  refine VL_end (by kernel_rfl) ?_
  refine VQ_next ?_
  refine VC_seq ?_
  refine VC_region ?_
  refine VL_pure 1 [1, 2, 6, 34] [(1, .pointer (some ⟨gp1, 0, none⟩)), (2, .slice (some ⟨g2, 0, none⟩) (48 * manyN 41) c1), (6, .int .i64 (takeE (newG 10) 0 aw1 false)), (34, .pointer (some ⟨gp1, 0, none⟩))] (by kernel_rfl) rfl ?_
  have hzs5 := hS.size
  have hzl4 := GaOf.lt hg2
  refine VL_call (d := 35) (f := 18) (by kernel_rfl) (by kernel_rfl) (by kernel_rfl) Try.call18 (parts_any gp1 (takeF (newG 10) 0 aw1 false) (fun _ => True) _ hg2 (by have h9 := (hgihg2).len_le; omega)) ?_
  rintro _ w5 ⟨rfl, hc4⟩
  replace hS := Step.trans hS hc4
  replace hbase1 := Nat.le_trans hbase1 (hc4).size
  replace hglg1 := Nat.lt_of_lt_of_le hglg1 (hc4).size
  replace hbase2 := Nat.le_trans hbase2 (hc4).size
  replace hglg2 := Nat.lt_of_lt_of_le hglg2 (hc4).size
  replace hr2 := hr2.no hc4
  replace hsl1 := hsl1.no hc4
  replace hg2 := GaOf.no hg2 hc4
  replace hxhr3 := hxhr3.no hc4
  refine VL_pure 3 [1, 2, 6, 7] [(1, .pointer (some ⟨gp1, 0, none⟩)), (2, .slice (some ⟨g2, 0, none⟩) (48 * manyN 41) c1), (6, .int .i64 (takeE (newG 10) 0 aw1 false)), (7, .int .i64 ((((takeF (newG 10) 0 aw1 false)).bs.length / 48 : Nat) : Int))] (by kernel_rfl) rfl ?_
  refine VL_end (by kernel_rfl) ?_
  refine VQ_next ?_
  refine VC_seq ?_
  refine VC_region ?_
  refine VL_pure 2 [1, 6, 7, 37, 38] [(1, .pointer (some ⟨gp1, 0, none⟩)), (6, .int .i64 (takeE (newG 10) 0 aw1 false)), (7, .int .i64 ((((takeF (newG 10) 0 aw1 false)).bs.length / 48 : Nat) : Int)), (37, .pointer (some ⟨gp1, 0, none⟩)), (38, .slice (some ⟨g2, 0, none⟩) (48 * manyN 41) c1)] (by kernel_rfl) rfl ?_
  have hcap2 := Rw.cap hr2
  have hln2 := Rw.lenI hr2
  obtain ⟨so1, hso1⟩ : ∃ x, (if c1 = 48 then 0 else 0 + 48 * 1) = x := ⟨_, rfl⟩
  refine VL_slice (d := 39) (b := g2) (o := 0) (sz := 1) (len := (48 * manyN 41)) (cap := c1) (lo := (some 48)) (hi := none) (mx := none) (by kernel_rfl) (by kernel_rfl) (fun h => by first | exact absurd rfl h | exact (fun h => by cases h)) 48 (48 * manyN 41) c1 rfl rfl rfl (by omega) (by omega) (by omega) so1 hso1 ((48 * manyN 41) - 48) (by omega) (c1 - 48) (by omega) ?_
  have hsl2 := Sl.cutI (H := 48 * manyN 41) (Rw.slI hr2) hso1 (by omega)
  refine VL_stap (d := 40) (A := some ⟨g2, so1, none⟩) (len := ((48 * manyN 41) - 48)) (N := 48) (by kernel_rfl) (by kernel_rfl) (by omega) ?_
  refine VL_load (d := 41) (t := 28) (a := ⟨g2, so1, none⟩) (v := .agg (iA .u8 ((((frameF (List.replicate 41 0) 7).drop 48).take ((48 * manyN 41) - 48)).take 48))) (by kernel_rfl) (by kernel_rfl) (Loads.slArr hsl2 (by kernel_rfl) (by have hq9 : (((frameF (List.replicate 41 0) 7).drop 48).take ((48 * manyN 41) - 48)).length = ((48 * manyN 41) - 48) := (by simp only [List.length_take, List.length_drop]; omega); omega)) ?_
  refine VL_keep [1, 6, 7, 37, 38, 39, 40, 41] [(1, .pointer (some ⟨gp1, 0, none⟩)), (6, .int .i64 (takeE (newG 10) 0 aw1 false)), (7, .int .i64 ((((takeF (newG 10) 0 aw1 false)).bs.length / 48 : Nat) : Int)), (37, .pointer (some ⟨gp1, 0, none⟩)), (38, .slice (some ⟨g2, 0, none⟩) (48 * manyN 41) c1), (39, .slice (some ⟨g2, so1, none⟩) ((48 * manyN 41) - 48) (c1 - 48)), (40, .pointer (some ⟨g2, so1, none⟩)), (41, .agg (iA .u8 ((((frameF (List.replicate 41 0) 7).drop 48).take ((48 * manyN 41) - 48)).take 48)))] (by kernel_rfl) ?_
  refine VL_eq [(1, .pointer (some ⟨gp1, 0, none⟩)), (6, .int .i64 (takeE (newG 10) 0 aw1 false)), (7, .int .i64 ((((takeF (newG 10) 0 aw1 false)).bs.length / 48 : Nat) : Int)), (37, .pointer (some ⟨gp1, 0, none⟩)), (38, .slice (some ⟨g2, 0, none⟩) (48 * manyN 41) c1), (39, .slice (some ⟨g2, so1, none⟩) ((48 * manyN 41) - 48) (c1 - 48)), (40, .pointer (some ⟨g2, so1, none⟩)), (41, .agg (iA .u8 aw2))] (by rw [show (((frameF (List.replicate 41 0) 7).drop 48).take ((48 * manyN 41) - 48)).take 48 = aw2 from aw2_eq]) ?_
  have hzs6 := hS.size
  have hzl5 := GaOf.lt hg2
  refine VL_call (d := 42) (f := 15) (by kernel_rfl) (by kernel_rfl) (by kernel_rfl) Try.call15 (take_any gp1 (takeF (newG 10) 0 aw1 false) (fun _ => True) _ (fun _ _ => trivial) hg2 _ hgihg2 (by omega) 1 (by decide) (by decide) aw2 aw2_I.1 aw2_I.2 true) ?_
  rintro _ w6 ⟨A2, c3, rfl, hr4, hg3, hc5⟩
  replace hS := Step.transNew hS hc5 (fun _ _ _ => by omega)
  replace hbase1 := Nat.le_trans hbase1 (hc5).size
  replace hglg1 := Nat.lt_of_lt_of_le hglg1 (hc5).size
  replace hbase2 := Nat.le_trans hbase2 (hc5).size
  replace hglg2 := Nat.lt_of_lt_of_le hglg2 (hc5).size
  replace hr2 := hr2.keepG hc5 (show ¬ g2 = gp1 by omega)
  replace hsl1 := hsl1.keepB hc5 (show ¬ g2 = gp1 by omega)
  replace hxhr3 := SlX_ga hxhr3 hg2 (by decide) hc5
  replace hsl2 := hsl2.keepB hc5 (show ¬ g2 = gp1 by omega)
  have hxhr4 := SlX.of_rw (X := fun _ => True) hr4 (fun _ _ => trivial)
  have hlthg3 := GaOf.lt hg3
  have hgihg3 := GaI.take (t := 1) (p := aw2) hgihg2 true (by decide) (by decide) aw2_I.1 aw2_I.2
  have htlhg3 := takeT_le hgihg2 1 aw2 true aw2_I.1
  refine VL_pure 13 [1, 6, 7, 8, 9, 10] [(1, .pointer (some ⟨gp1, 0, none⟩)), (6, .int .i64 (takeE (newG 10) 0 aw1 false)), (7, .int .i64 ((((takeF (newG 10) 0 aw1 false)).bs.length / 48 : Nat) : Int)), (8, .slice A2 ((takeT (takeF (newG 10) 0 aw1 false) 1 aw2 true).length) c3), (9, .int .u8 (takeM (takeF (newG 10) 0 aw1 false) 1 aw2 true)), (10, .int .i64 (takeE (takeF (newG 10) 0 aw1 false) 1 aw2 true))] (by kernel_rfl) rfl ?_
  refine VL_end (by kernel_rfl) ?_
  refine VQ_next ?_
  refine VC_seq ?_
  refine VC_region ?_
  refine VL_pure 3 [1, 7, 8, 9, 10, 48] [(1, .pointer (some ⟨gp1, 0, none⟩)), (7, .int .i64 ((((takeF (newG 10) 0 aw1 false)).bs.length / 48 : Nat) : Int)), (8, .slice A2 ((takeT (takeF (newG 10) 0 aw1 false) 1 aw2 true).length) c3), (9, .int .u8 (takeM (takeF (newG 10) 0 aw1 false) 1 aw2 true)), (10, .int .i64 (takeE (takeF (newG 10) 0 aw1 false) 1 aw2 true)), (48, .bool ((takeE (newG 10) 0 aw1 false) == 2))] (by kernel_rfl) rfl ?_
  refine VL_known ((takeE (newG 10) 0 aw1 false) == 2) (fun bV => [(1, .pointer (some ⟨gp1, 0, none⟩)), (7, .int .i64 ((((takeF (newG 10) 0 aw1 false)).bs.length / 48 : Nat) : Int)), (8, .slice A2 ((takeT (takeF (newG 10) 0 aw1 false) 1 aw2 true).length) c3), (9, .int .u8 (takeM (takeF (newG 10) 0 aw1 false) 1 aw2 true)), (10, .int .i64 (takeE (takeF (newG 10) 0 aw1 false) 1 aw2 true)), (48, .bool bV)]) true rfl (by rw [aw_1.2.2.2]; rfl) ?_
  refine VL_pure 7 [1, 8, 9, 10, 52] [(1, .pointer (some ⟨gp1, 0, none⟩)), (8, .slice A2 ((takeT (takeF (newG 10) 0 aw1 false) 1 aw2 true).length) c3), (9, .int .u8 (takeM (takeF (newG 10) 0 aw1 false) 1 aw2 true)), (10, .int .i64 (takeE (takeF (newG 10) 0 aw1 false) 1 aw2 true)), (52, .bool (((((takeF (newG 10) 0 aw1 false)).bs.length / 48 : Nat) : Int) == 1))] (by kernel_rfl) rfl ?_
  refine VL_known (((((takeF (newG 10) 0 aw1 false)).bs.length / 48 : Nat) : Int) == 1) (fun bV => [(1, .pointer (some ⟨gp1, 0, none⟩)), (8, .slice A2 ((takeT (takeF (newG 10) 0 aw1 false) 1 aw2 true).length) c3), (9, .int .u8 (takeM (takeF (newG 10) 0 aw1 false) 1 aw2 true)), (10, .int .i64 (takeE (takeF (newG 10) 0 aw1 false) 1 aw2 true)), (52, .bool bV)]) true rfl (by rw [aw_3]; rfl) ?_
  refine VL_pure 12 [1, 9, 10, 57] [(1, .pointer (some ⟨gp1, 0, none⟩)), (9, .int .u8 (takeM (takeF (newG 10) 0 aw1 false) 1 aw2 true)), (10, .int .i64 (takeE (takeF (newG 10) 0 aw1 false) 1 aw2 true)), (57, .bool ((((takeT (takeF (newG 10) 0 aw1 false) 1 aw2 true).length : Nat) : Int) == 41))] (by kernel_rfl) rfl ?_
  refine VL_known ((((takeT (takeF (newG 10) 0 aw1 false) 1 aw2 true).length : Nat) : Int) == 41) (fun bV => [(1, .pointer (some ⟨gp1, 0, none⟩)), (9, .int .u8 (takeM (takeF (newG 10) 0 aw1 false) 1 aw2 true)), (10, .int .i64 (takeE (takeF (newG 10) 0 aw1 false) 1 aw2 true)), (57, .bool bV)]) true rfl (by rw [aw_2.2.1]; rfl) ?_
  refine VL_pure 16 [1, 10, 61] [(1, .pointer (some ⟨gp1, 0, none⟩)), (10, .int .i64 (takeE (takeF (newG 10) 0 aw1 false) 1 aw2 true)), (61, .bool ((takeM (takeF (newG 10) 0 aw1 false) 1 aw2 true) == 7))] (by kernel_rfl) rfl ?_
  refine VL_known ((takeM (takeF (newG 10) 0 aw1 false) 1 aw2 true) == 7) (fun bV => [(1, .pointer (some ⟨gp1, 0, none⟩)), (10, .int .i64 (takeE (takeF (newG 10) 0 aw1 false) 1 aw2 true)), (61, .bool bV)]) true rfl (by rw [aw_2.2.2.1]; rfl) ?_
  refine VL_pure 20 [1, 65] [(1, .pointer (some ⟨gp1, 0, none⟩)), (65, .bool ((takeE (takeF (newG 10) 0 aw1 false) 1 aw2 true) == 0))] (by kernel_rfl) rfl ?_
  refine VL_known ((takeE (takeF (newG 10) 0 aw1 false) 1 aw2 true) == 0) (fun bV => [(1, .pointer (some ⟨gp1, 0, none⟩)), (65, .bool bV)]) true rfl (by rw [aw_2.2.2.2]; rfl) ?_
  refine VL_pure 21 [1, 65, 66] [(1, .pointer (some ⟨gp1, 0, none⟩)), (65, .bool true), (66, .pointer (some ⟨gp1, 0, none⟩))] (by kernel_rfl) rfl ?_
  have hzs7 := hS.size
  have hzl6 := GaOf.lt hg3
  refine VL_call (d := 67) (f := 18) (by kernel_rfl) (by kernel_rfl) (by kernel_rfl) Try.call18 (parts_any gp1 (takeF (takeF (newG 10) 0 aw1 false) 1 aw2 true) (fun _ => True) _ hg3 (by have h9 := (hgihg3).len_le; omega)) ?_
  rintro _ w7 ⟨rfl, hc6⟩
  replace hS := Step.trans hS hc6
  replace hbase1 := Nat.le_trans hbase1 (hc6).size
  replace hglg1 := Nat.lt_of_lt_of_le hglg1 (hc6).size
  replace hbase2 := Nat.le_trans hbase2 (hc6).size
  replace hglg2 := Nat.lt_of_lt_of_le hglg2 (hc6).size
  replace hr2 := hr2.no hc6
  replace hsl1 := hsl1.no hc6
  replace hxhr3 := hxhr3.no hc6
  replace hsl2 := hsl2.no hc6
  replace hg3 := GaOf.no hg3 hc6
  replace hxhr4 := hxhr4.no hc6
  refine VL_pure 23 [65, 67, 68] [(65, .bool true), (67, .int .i64 ((((takeF (takeF (newG 10) 0 aw1 false) 1 aw2 true)).bs.length / 48 : Nat) : Int)), (68, .pointer (some ⟨gp1, 0, none⟩))] (by kernel_rfl) rfl ?_
  have hzs8 := hS.size
  have hzl7 := GaOf.lt hg3
  refine VL_call (d := 69) (f := 19) (by kernel_rfl) (by kernel_rfl) (by kernel_rfl) Try.call19 (lost_any gp1 (takeF (takeF (newG 10) 0 aw1 false) 1 aw2 true) (fun _ => True) _ hg3) ?_
  rintro _ w8 ⟨rfl, hc7⟩
  replace hS := Step.trans hS hc7
  replace hbase1 := Nat.le_trans hbase1 (hc7).size
  replace hglg1 := Nat.lt_of_lt_of_le hglg1 (hc7).size
  replace hbase2 := Nat.le_trans hbase2 (hc7).size
  replace hglg2 := Nat.lt_of_lt_of_le hglg2 (hc7).size
  replace hr2 := hr2.no hc7
  replace hsl1 := hsl1.no hc7
  replace hxhr3 := hxhr3.no hc7
  replace hsl2 := hsl2.no hc7
  replace hg3 := GaOf.no hg3 hc7
  replace hxhr4 := hxhr4.no hc7
  refine VL_pure 28 [0] [(0, .bool ((IntKind.wrap .i64 (((((takeF (takeF (newG 10) 0 aw1 false) 1 aw2 true)).bs.length / 48 : Nat) : Int) + (((takeF (takeF (newG 10) 0 aw1 false) 1 aw2 true)).lost))) == 0))] (by kernel_rfl) rfl ?_
  refine VL_end (by kernel_rfl) ?_
  refine VQ_next ?_
  refine VC_ret ?_
  refine VQ_ret1 (.bool ((IntKind.wrap .i64 (((((takeF (takeF (newG 10) 0 aw1 false) 1 aw2 true)).bs.length / 48 : Nat) : Int) + (((takeF (takeF (newG 10) 0 aw1 false) 1 aw2 true)).lost))) == 0)) (.inr rfl) rfl rfl ?_
  exact ⟨by rw [aw_4, aw_5]; rfl, hS⟩

end Go.Proofs.Ytgiefcolkohgkaa
