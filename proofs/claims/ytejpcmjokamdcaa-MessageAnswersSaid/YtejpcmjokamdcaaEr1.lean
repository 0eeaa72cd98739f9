/- Layer 6: what is wrong with a contract. -/
import Derived.Test.YtejpcmjokamdcaaProg
import Derived.Test.YtejpcmjokamdcaaVc18
import Derived.Test.YtejpcmjokamdcaaIe6
set_option linter.unusedVariables false
set_option linter.unusedSimpArgs false
namespace Go.Proofs.Ytejpcmjokamdcaa
open Go.Vc Go.RowKit

theorem span_any (n least : Int) (w : World) :
  CV Try.prog 66 #[.int .i64 n, .int .i64 least] w (fun x w1 => x = .bool (spanB n least) ∧ Step No w w1) := by
 have hS : Step No w w := Step.refl _ _
 refine CV_enter Try.f66 _ 12 [(0, .int .i64 n), (1, .int .i64 least)] Try.func66 rfl rfl (by kernel_rfl) rfl ?_
 refine VC_seq ?_
 refine VC_region ?_
 refine VL_pure 1 [0, 1] [(0, .int .i64 n), (1, .int .i64 least)] (by kernel_rfl) rfl ?_
 refine VL_end (by kernel_rfl) ?_
 refine VQ_next ?_
 refine VC_seq ?_
 refine VC_region ?_
 refine VL_pure 4 [0, 8] [(0, .int .i64 n), (8, .bool (decide (n ≥ least)))] (by kernel_rfl) rfl ?_
 refine VL_join (decide (n ≥ least)) (fun bV => [(0, .int .i64 n), (8, .bool bV)]) 7 [(11, .bool ((decide (n ≥ least)) && (decide (n ≤ 1099511627776))))] rfl (fun hg1 J1 => ?_) (fun hg1 J1 => ?_) ?_
 ·refine VL_pure 7 [11] [(11, .bool (decide (n ≤ 1099511627776)))] (by kernel_rfl) rfl ?_
  exact VL_eq _ (by simp only [hg1, Bool.true_and, Bool.false_and, Bool.true_or, Bool.false_or, Bool.not_true, Bool.not_false]) J1
 ·refine VL_pure 7 [11] [(11, .bool false)] (by kernel_rfl) rfl ?_
  exact VL_eq _ (by simp only [hg1, Bool.true_and, Bool.false_and, Bool.true_or, Bool.false_or, Bool.not_true, Bool.not_false]) J1
 refine VL_pure 8 [4] [(4, .bool ((decide (n ≥ least)) && (decide (n ≤ 1099511627776))))] (by kernel_rfl) rfl ?_
 refine VL_end (by kernel_rfl) ?_
 refine VQ_next ?_
 refine VC_ret ?_
 refine VQ_ret1 (.bool ((decide (n ≥ least)) && (decide (n ≤ 1099511627776)))) (.inr rfl) rfl rfl ?_
 exact ⟨rfl, hS⟩

set_option maxRecDepth 100000 in
set_option maxHeartbeats 4000000 in
theorem right_any (k p e h b t : Int) (w : World) :
  CV Try.prog 60 #[.agg #[.int .i64 k, .int .i64 p, .int .i64 e, .int .i64 h, .int .i64 b, .int .i64 t]] w (fun x w1 => x = .int .i64 (rightC k p e h b t) ∧ Step No w w1) := by
 have hS : Step No w w := Step.refl _ _
 refine CV_enter Try.f60 _ 83 [(0, .agg #[.int .i64 k, .int .i64 p, .int .i64 e, .int .i64 h, .int .i64 b, .int .i64 t])] Try.func60 rfl rfl (by kernel_rfl) rfl ?_
 refine VC_seq ?_
 refine VC_region ?_
 have hzs1 := hS.size
 refine VL_box (d := 1) (t := 52) (c := #[.int .i64 k, .int .i64 p, .int .i64 e, .int .i64 h, .int .i64 b, .int .i64 t]) (by kernel_rfl) (by kernel_rfl) ?_
 intro b1 w1 hn1
 replace hS := Step.trans hS (hn1.step No)
 have ho1 := hn1.own
 have hzhn1 := hn1.size
 have hqhn1 := hn1.eqb
 refine VL_pure 2 [1] [(1, .pointer (some ⟨b1, 0, none⟩))] (by kernel_rfl) rfl ?_
 refine VL_end (by kernel_rfl) ?_
 refine VQ_next ?_
 refine VC_seq ?_
 refine VC_region ?_
 refine VL_pure 1 [1, 4] [(1, .pointer (some ⟨b1, 0, none⟩)), (4, .pointer (some ⟨b1, 1, none⟩))] (by kernel_rfl) rfl ?_
 refine VL_load (d := 5) (t := 3) (a := ⟨b1, 1, none⟩) (v := .int .i64 p) (by kernel_rfl) (by kernel_rfl) (Loads.own1 ho1 (by kernel_rfl) (by rfl)) ?_
 have hzs2 := hS.size
 have hzl1 := ho1.lt
 refine VL_call (d := 6) (f := 66) (args := #[.int .i64 p, .int .i64 1]) (by kernel_rfl) (by kernel_rfl) (by kernel_rfl) Try.call66 (span_any p 1 _) ?_
 rintro _ w2 ⟨rfl, hc1⟩
 replace hS := Step.trans hS hc1
 replace ho1 := ho1.no hc1
 refine VL_pure 4 [1, 7] [(1, .pointer (some ⟨b1, 0, none⟩)), (7, .bool (spanB p 1))] (by kernel_rfl) rfl ?_
 refine VL_bool (spanB p 1) (fun bV => [(1, .pointer (some ⟨b1, 0, none⟩)), (7, .bool bV)]) rfl (fun hg1 => ?_) (fun hg1 => ?_)
 ·refine VL_pure 5 [1, 7, 8] [(1, .pointer (some ⟨b1, 0, none⟩)), (7, .bool true), (8, .pointer (some ⟨b1, 2, none⟩))] (by kernel_rfl) rfl ?_
  refine VL_load (d := 9) (t := 3) (a := ⟨b1, 2, none⟩) (v := .int .i64 e) (by kernel_rfl) (by kernel_rfl) (Loads.own1 ho1 (by kernel_rfl) (by rfl)) ?_
  have hzs3 := hS.size
  have hzl2 := ho1.lt
  refine VL_call (d := 10) (f := 66) (args := #[.int .i64 e, .int .i64 0]) (by kernel_rfl) (by kernel_rfl) (by kernel_rfl) Try.call66 (span_any e 0 _) ?_
  rintro _ w3 ⟨rfl, hc2⟩
  replace hS := Step.trans hS hc2
  replace ho1 := ho1.no hc2
  refine VL_pure 9 [1, 3] [(1, .pointer (some ⟨b1, 0, none⟩)), (3, .bool (spanB e 0))] (by kernel_rfl) rfl ?_
  refine VL_end (by kernel_rfl) ?_
  refine VQ_next ?_
  refine VC_seq ?_
  refine VC_seq ?_
  refine VC_region ?_
  refine VL_pure 1 [1, 3, 12] [(1, .pointer (some ⟨b1, 0, none⟩)), (3, .bool (spanB e 0)), (12, .pointer (some ⟨b1, 0, none⟩))] (by kernel_rfl) rfl ?_
  refine VL_load (d := 13) (t := 3) (a := ⟨b1, 0, none⟩) (v := .int .i64 k) (by kernel_rfl) (by kernel_rfl) (Loads.own1 ho1 (by kernel_rfl) (by rfl)) ?_
  refine VL_end (by kernel_rfl) ?_
  refine VQ_next ?_
  refine VC_block ?_
  refine VC_seq ?_
  refine VC_seq ?_
  refine VC_region ?_
  refine VL_pure 2 [1, 3, 13, 14] [(1, .pointer (some ⟨b1, 0, none⟩)), (3, .bool (spanB e 0)), (13, .int .i64 k), (14, .bool (k == 2))] (by kernel_rfl) rfl ?_
  refine VL_end (by kernel_rfl) ?_
  refine VQ_next ?_
  refine VC_eq k 2 (by kernel_rfl) (fun h1 => ?_) (fun h1 => ?_)
  ·refine VC_skip ?_
   refine VQ_next ?_
   refine VC_eq k 2 (by kernel_rfl) (fun h2 => ?_) (fun h2 => ?_)
   ·refine VC_region ?_
    refine VL_pure 2 [1, 19] [(1, .pointer (some ⟨b1, 0, none⟩)), (19, .bool (spanB e 0))] (by kernel_rfl) rfl ?_
    refine VL_bool (spanB e 0) (fun bV => [(1, .pointer (some ⟨b1, 0, none⟩)), (19, .bool bV)]) rfl (fun hg2 => ?_) (fun hg2 => ?_)
    ·refine VL_pure 3 [1, 19, 20] [(1, .pointer (some ⟨b1, 0, none⟩)), (19, .bool true), (20, .pointer (some ⟨b1, 3, none⟩))] (by kernel_rfl) rfl ?_
     refine VL_load (d := 21) (t := 3) (a := ⟨b1, 3, none⟩) (v := .int .i64 h) (by kernel_rfl) (by kernel_rfl) (Loads.own1 ho1 (by kernel_rfl) (by rfl)) ?_
     refine VL_pure 5 [1, 19, 21, 22] [(1, .pointer (some ⟨b1, 0, none⟩)), (19, .bool true), (21, .int .i64 h), (22, .pointer (some ⟨b1, 1, none⟩))] (by kernel_rfl) rfl ?_
     refine VL_load (d := 23) (t := 3) (a := ⟨b1, 1, none⟩) (v := .int .i64 p) (by kernel_rfl) (by kernel_rfl) (Loads.own1 ho1 (by kernel_rfl) (by rfl)) ?_
     have hzs4 := hS.size
     have hzl3 := ho1.lt
     refine VL_call (d := 24) (f := 66) (args := #[.int .i64 h, .int .i64 p]) (by kernel_rfl) (by kernel_rfl) (by kernel_rfl) Try.call66 (span_any h p _) ?_
     rintro _ w4 ⟨rfl, hc3⟩
     replace hS := Step.trans hS hc3
     replace ho1 := ho1.no hc3
     refine VL_pure 9 [1, 26] [(1, .pointer (some ⟨b1, 0, none⟩)), (26, .bool (spanB h p))] (by kernel_rfl) rfl ?_
     refine VL_bool (spanB h p) (fun bV => [(1, .pointer (some ⟨b1, 0, none⟩)), (26, .bool bV)]) rfl (fun hg3 => ?_) (fun hg3 => ?_)
     ·refine VL_pure 10 [1, 26, 27] [(1, .pointer (some ⟨b1, 0, none⟩)), (26, .bool true), (27, .pointer (some ⟨b1, 4, none⟩))] (by kernel_rfl) rfl ?_
      refine VL_load (d := 28) (t := 3) (a := ⟨b1, 4, none⟩) (v := .int .i64 b) (by kernel_rfl) (by kernel_rfl) (Loads.own1 ho1 (by kernel_rfl) (by rfl)) ?_
      have hzs5 := hS.size
      have hzl4 := ho1.lt
      refine VL_call (d := 29) (f := 66) (args := #[.int .i64 b, .int .i64 0]) (by kernel_rfl) (by kernel_rfl) (by kernel_rfl) Try.call66 (span_any b 0 _) ?_
      rintro _ w5 ⟨rfl, hc4⟩
      replace hS := Step.trans hS hc4
      replace ho1 := ho1.no hc4
      refine VL_pure 14 [1, 31] [(1, .pointer (some ⟨b1, 0, none⟩)), (31, .bool (spanB b 0))] (by kernel_rfl) rfl ?_
      refine VL_bool (spanB b 0) (fun bV => [(1, .pointer (some ⟨b1, 0, none⟩)), (31, .bool bV)]) rfl (fun hg4 => ?_) (fun hg4 => ?_)
      ·refine VL_pure 15 [31, 32] [(31, .bool true), (32, .pointer (some ⟨b1, 5, none⟩))] (by kernel_rfl) rfl ?_
       refine VL_load (d := 33) (t := 3) (a := ⟨b1, 5, none⟩) (v := .int .i64 t) (by kernel_rfl) (by kernel_rfl) (Loads.own1 ho1 (by kernel_rfl) (by rfl)) ?_
       refine VL_pure 19 [3] [(3, .bool (t == 0))] (by kernel_rfl) rfl ?_
       refine VL_end (by kernel_rfl) ?_
       refine VQ_block_normal ?_
       refine VQ_next ?_
       refine VC_seq ?_
       refine VC_seq ?_
       refine VC_region ?_
       refine VL_pure 2 [82] [(82, .bool (!(t == 0)))] (by kernel_rfl) rfl ?_
       refine VL_end (by kernel_rfl) ?_
       refine VQ_next ?_
       refine VC_cond (!(t == 0)) (by kernel_rfl) (fun h3 => ?_) (fun h3 => ?_)
       ·try simp only [Bool.and_eq_true, Bool.or_eq_true, decide_eq_true_eq, Bool.not_eq_true', decide_eq_false_iff_not, Bool.and_eq_false_iff, Bool.or_eq_false_iff, beq_iff_eq, bne_iff_ne, beq_eq_false_iff_ne, bne_eq_false_iff_eq, Bool.not_eq_eq_eq_not, Bool.not_true, Bool.not_false] at h3
        refine VC_seq ?_
        refine VC_region ?_
        refine VL_pure 1 [2] [(2, .int .i64 11)] (by kernel_rfl) rfl ?_
        refine VL_end (by kernel_rfl) ?_
        refine VQ_next ?_
        refine VC_ret ?_
        refine VQ_then_ret ?_
        refine VQ_ret1 (.int .i64 11) (.inr rfl) rfl rfl ?_
        exact ⟨congrArg (Value.int .i64) (rightC_11 (by first | omega | (simp [spanB, fromB] at * <;> omega)) (by unfold fineC; simp [spanB, fromB] at * <;> omega)).symm, hS⟩
       ·try simp only [Bool.and_eq_true, Bool.or_eq_true, decide_eq_true_eq, Bool.not_eq_true', decide_eq_false_iff_not, Bool.and_eq_false_iff, Bool.or_eq_false_iff, beq_iff_eq, bne_iff_ne, beq_eq_false_iff_ne, bne_eq_false_iff_eq, Bool.not_eq_eq_eq_not, Bool.not_true, Bool.not_false] at h3
        refine VC_skip ?_
        refine VQ_next ?_
        refine VC_seq ?_
        refine VC_region ?_
        refine VL_pure 1 [2] [(2, .int .i64 0)] (by kernel_rfl) rfl ?_
        refine VL_end (by kernel_rfl) ?_
        refine VQ_next ?_
        refine VC_ret ?_
        refine VQ_ret1 (.int .i64 0) (.inr rfl) rfl rfl ?_
        exact ⟨congrArg (Value.int .i64) (rightC_0 (by first | omega | (simp [spanB, fromB] at * <;> omega)) (by unfold fineC; simp [spanB, fromB] at * <;> omega)).symm, hS⟩
      ·refine VL_pure 19 [3] [(3, .bool false)] (by kernel_rfl) rfl ?_
       refine VL_end (by kernel_rfl) ?_
       refine VQ_block_normal ?_
       refine VQ_next ?_
       refine VC_seq ?_
       refine VC_seq ?_
       refine VC_region ?_
       refine VL_pure 2 [82] [(82, .bool true)] (by kernel_rfl) rfl ?_
       refine VL_end (by kernel_rfl) ?_
       refine VQ_next ?_
       refine VC_true (by kernel_rfl) ?_
       refine VC_seq ?_
       refine VC_region ?_
       refine VL_pure 1 [2] [(2, .int .i64 11)] (by kernel_rfl) rfl ?_
       refine VL_end (by kernel_rfl) ?_
       refine VQ_next ?_
       refine VC_ret ?_
       refine VQ_then_ret ?_
       refine VQ_ret1 (.int .i64 11) (.inr rfl) rfl rfl ?_
       exact ⟨congrArg (Value.int .i64) (rightC_11 (by first | omega | (simp [spanB, fromB] at * <;> omega)) (by unfold fineC; simp [spanB, fromB] at * <;> omega)).symm, hS⟩
     ·refine VL_pure 19 [3] [(3, .bool false)] (by kernel_rfl) rfl ?_
      refine VL_end (by kernel_rfl) ?_
      refine VQ_block_normal ?_
      refine VQ_next ?_
      refine VC_seq ?_
      refine VC_seq ?_
      refine VC_region ?_
      refine VL_pure 2 [82] [(82, .bool true)] (by kernel_rfl) rfl ?_
      refine VL_end (by kernel_rfl) ?_
      refine VQ_next ?_
      refine VC_true (by kernel_rfl) ?_
      refine VC_seq ?_
      refine VC_region ?_
      refine VL_pure 1 [2] [(2, .int .i64 11)] (by kernel_rfl) rfl ?_
      refine VL_end (by kernel_rfl) ?_
      refine VQ_next ?_
      refine VC_ret ?_
      refine VQ_then_ret ?_
      refine VQ_ret1 (.int .i64 11) (.inr rfl) rfl rfl ?_
      exact ⟨congrArg (Value.int .i64) (rightC_11 (by first | omega | (simp [spanB, fromB] at * <;> omega)) (by unfold fineC; simp [spanB, fromB] at * <;> omega)).symm, hS⟩
    ·refine VL_pure 19 [3] [(3, .bool false)] (by kernel_rfl) rfl ?_
     refine VL_end (by kernel_rfl) ?_
     refine VQ_block_normal ?_
     refine VQ_next ?_
     refine VC_seq ?_
     refine VC_seq ?_
     refine VC_region ?_
     refine VL_pure 2 [82] [(82, .bool true)] (by kernel_rfl) rfl ?_
     refine VL_end (by kernel_rfl) ?_
     refine VQ_next ?_
     refine VC_true (by kernel_rfl) ?_
     refine VC_seq ?_
     refine VC_region ?_
     refine VL_pure 1 [2] [(2, .int .i64 11)] (by kernel_rfl) rfl ?_
     refine VL_end (by kernel_rfl) ?_
     refine VQ_next ?_
     refine VC_ret ?_
     refine VQ_then_ret ?_
     refine VQ_ret1 (.int .i64 11) (.inr rfl) rfl rfl ?_
     exact ⟨congrArg (Value.int .i64) (rightC_11 (by first | omega | (simp [spanB, fromB] at * <;> omega)) (by unfold fineC; simp [spanB, fromB] at * <;> omega)).symm, hS⟩
   ·refine VC_seq ?_
    refine VC_region ?_
    refine VL_pure 2 [1, 3, 13, 36] [(1, .pointer (some ⟨b1, 0, none⟩)), (3, .bool (spanB e 0)), (13, .int .i64 k), (36, .bool (k == 5))] (by kernel_rfl) rfl ?_
    refine VL_end (by kernel_rfl) ?_
    refine VQ_next ?_
    refine VC_eq k 5 (by kernel_rfl) (fun h4 => ?_) (fun h4 => ?_)
    ·refine VC_region ?_
     refine VL_pure 2 [1, 39] [(1, .pointer (some ⟨b1, 0, none⟩)), (39, .bool (spanB e 0))] (by kernel_rfl) rfl ?_
     refine VL_bool (spanB e 0) (fun bV => [(1, .pointer (some ⟨b1, 0, none⟩)), (39, .bool bV)]) rfl (fun hg5 => ?_) (fun hg5 => ?_)
     ·refine VL_pure 3 [1, 39, 40] [(1, .pointer (some ⟨b1, 0, none⟩)), (39, .bool true), (40, .pointer (some ⟨b1, 3, none⟩))] (by kernel_rfl) rfl ?_
      refine VL_load (d := 41) (t := 3) (a := ⟨b1, 3, none⟩) (v := .int .i64 h) (by kernel_rfl) (by kernel_rfl) (Loads.own1 ho1 (by kernel_rfl) (by rfl)) ?_
      refine VL_pure 7 [1, 44] [(1, .pointer (some ⟨b1, 0, none⟩)), (44, .bool (h == 0))] (by kernel_rfl) rfl ?_
      refine VL_beq h 0 (fun bV => [(1, .pointer (some ⟨b1, 0, none⟩)), (44, .bool bV)]) rfl (fun hg6 => ?_) (fun hg6 => ?_)
      ·refine VL_pure 8 [1, 44, 45] [(1, .pointer (some ⟨b1, 0, none⟩)), (44, .bool true), (45, .pointer (some ⟨b1, 4, none⟩))] (by kernel_rfl) rfl ?_
       refine VL_load (d := 46) (t := 3) (a := ⟨b1, 4, none⟩) (v := .int .i64 b) (by kernel_rfl) (by kernel_rfl) (Loads.own1 ho1 (by kernel_rfl) (by rfl)) ?_
       refine VL_pure 12 [1, 49] [(1, .pointer (some ⟨b1, 0, none⟩)), (49, .bool (b == 0))] (by kernel_rfl) rfl ?_
       refine VL_beq b 0 (fun bV => [(1, .pointer (some ⟨b1, 0, none⟩)), (49, .bool bV)]) rfl (fun hg7 => ?_) (fun hg7 => ?_)
       ·refine VL_pure 13 [1, 49, 50] [(1, .pointer (some ⟨b1, 0, none⟩)), (49, .bool true), (50, .pointer (some ⟨b1, 5, none⟩))] (by kernel_rfl) rfl ?_
        refine VL_load (d := 51) (t := 3) (a := ⟨b1, 5, none⟩) (v := .int .i64 t) (by kernel_rfl) (by kernel_rfl) (Loads.own1 ho1 (by kernel_rfl) (by rfl)) ?_
        refine VL_pure 16 [1, 49, 53] [(1, .pointer (some ⟨b1, 0, none⟩)), (49, .bool true), (53, .bool (t == 0))] (by kernel_rfl) rfl ?_
        refine VL_beq t 0 (fun bV => [(1, .pointer (some ⟨b1, 0, none⟩)), (49, .bool true), (53, .bool bV)]) rfl (fun hg8 => ?_) (fun hg8 => ?_)
        ·refine VL_pure 24 [3] [(3, .bool true)] (by kernel_rfl) rfl ?_
         refine VL_end (by kernel_rfl) ?_
         refine VQ_block_normal ?_
         refine VQ_next ?_
         refine VC_seq ?_
         refine VC_seq ?_
         refine VC_region ?_
         refine VL_pure 2 [82] [(82, .bool false)] (by kernel_rfl) rfl ?_
         refine VL_end (by kernel_rfl) ?_
         refine VQ_next ?_
         refine VC_false (by kernel_rfl) ?_
         refine VC_skip ?_
         refine VQ_next ?_
         refine VC_seq ?_
         refine VC_region ?_
         refine VL_pure 1 [2] [(2, .int .i64 0)] (by kernel_rfl) rfl ?_
         refine VL_end (by kernel_rfl) ?_
         refine VQ_next ?_
         refine VC_ret ?_
         refine VQ_ret1 (.int .i64 0) (.inr rfl) rfl rfl ?_
         exact ⟨congrArg (Value.int .i64) (rightC_0 (by first | omega | (simp [spanB, fromB] at * <;> omega)) (by unfold fineC; simp [spanB, fromB] at * <;> omega)).symm, hS⟩
        ·refine VL_pure 17 [1, 49, 53, 54] [(1, .pointer (some ⟨b1, 0, none⟩)), (49, .bool true), (53, .bool false), (54, .pointer (some ⟨b1, 5, none⟩))] (by kernel_rfl) rfl ?_
         refine VL_load (d := 55) (t := 3) (a := ⟨b1, 5, none⟩) (v := .int .i64 t) (by kernel_rfl) (by kernel_rfl) (Loads.own1 ho1 (by kernel_rfl) (by rfl)) ?_
         refine VL_pure 19 [49, 53, 55, 56] [(49, .bool true), (53, .bool false), (55, .int .i64 t), (56, .pointer (some ⟨b1, 1, none⟩))] (by kernel_rfl) rfl ?_
         refine VL_load (d := 57) (t := 3) (a := ⟨b1, 1, none⟩) (v := .int .i64 p) (by kernel_rfl) (by kernel_rfl) (Loads.own1 ho1 (by kernel_rfl) (by rfl)) ?_
         have hzs6 := hS.size
         have hzl5 := ho1.lt
         refine VL_call (d := 58) (f := 66) (args := #[.int .i64 t, .int .i64 p]) (by kernel_rfl) (by kernel_rfl) (by kernel_rfl) Try.call66 (span_any t p _) ?_
         rintro _ w6 ⟨rfl, hc5⟩
         replace hS := Step.trans hS hc5
         replace ho1 := ho1.no hc5
         refine VL_pure 24 [3] [(3, .bool (spanB t p))] (by kernel_rfl) rfl ?_
         refine VL_end (by kernel_rfl) ?_
         refine VQ_block_normal ?_
         refine VQ_next ?_
         refine VC_seq ?_
         refine VC_seq ?_
         refine VC_region ?_
         refine VL_pure 2 [82] [(82, .bool (!(spanB t p)))] (by kernel_rfl) rfl ?_
         refine VL_end (by kernel_rfl) ?_
         refine VQ_next ?_
         refine VC_cond (!(spanB t p)) (by kernel_rfl) (fun h5 => ?_) (fun h5 => ?_)
         ·try simp only [Bool.and_eq_true, Bool.or_eq_true, decide_eq_true_eq, Bool.not_eq_true', decide_eq_false_iff_not, Bool.and_eq_false_iff, Bool.or_eq_false_iff, beq_iff_eq, bne_iff_ne, beq_eq_false_iff_ne, bne_eq_false_iff_eq, Bool.not_eq_eq_eq_not, Bool.not_true, Bool.not_false] at h5
          refine VC_seq ?_
          refine VC_region ?_
          refine VL_pure 1 [2] [(2, .int .i64 11)] (by kernel_rfl) rfl ?_
          refine VL_end (by kernel_rfl) ?_
          refine VQ_next ?_
          refine VC_ret ?_
          refine VQ_then_ret ?_
          refine VQ_ret1 (.int .i64 11) (.inr rfl) rfl rfl ?_
          exact ⟨congrArg (Value.int .i64) (rightC_11 (by first | omega | (simp [spanB, fromB] at * <;> omega)) (by unfold fineC; simp [spanB, fromB] at * <;> omega)).symm, hS⟩
         ·try simp only [Bool.and_eq_true, Bool.or_eq_true, decide_eq_true_eq, Bool.not_eq_true', decide_eq_false_iff_not, Bool.and_eq_false_iff, Bool.or_eq_false_iff, beq_iff_eq, bne_iff_ne, beq_eq_false_iff_ne, bne_eq_false_iff_eq, Bool.not_eq_eq_eq_not, Bool.not_true, Bool.not_false] at h5
          refine VC_skip ?_
          refine VQ_next ?_
          refine VC_seq ?_
          refine VC_region ?_
          refine VL_pure 1 [2] [(2, .int .i64 0)] (by kernel_rfl) rfl ?_
          refine VL_end (by kernel_rfl) ?_
          refine VQ_next ?_
          refine VC_ret ?_
          refine VQ_ret1 (.int .i64 0) (.inr rfl) rfl rfl ?_
          exact ⟨congrArg (Value.int .i64) (rightC_0 (by first | omega | (simp [spanB, fromB] at * <;> omega)) (by unfold fineC; simp [spanB, fromB] at * <;> omega)).symm, hS⟩
       ·refine VL_pure 24 [3] [(3, .bool false)] (by kernel_rfl) rfl ?_
        refine VL_end (by kernel_rfl) ?_
        refine VQ_block_normal ?_
        refine VQ_next ?_
        refine VC_seq ?_
        refine VC_seq ?_
        refine VC_region ?_
        refine VL_pure 2 [82] [(82, .bool true)] (by kernel_rfl) rfl ?_
        refine VL_end (by kernel_rfl) ?_
        refine VQ_next ?_
        refine VC_true (by kernel_rfl) ?_
        refine VC_seq ?_
        refine VC_region ?_
        refine VL_pure 1 [2] [(2, .int .i64 11)] (by kernel_rfl) rfl ?_
        refine VL_end (by kernel_rfl) ?_
        refine VQ_next ?_
        refine VC_ret ?_
        refine VQ_then_ret ?_
        refine VQ_ret1 (.int .i64 11) (.inr rfl) rfl rfl ?_
        exact ⟨congrArg (Value.int .i64) (rightC_11 (by first | omega | (simp [spanB, fromB] at * <;> omega)) (by unfold fineC; simp [spanB, fromB] at * <;> omega)).symm, hS⟩
      ·refine VL_pure 24 [3] [(3, .bool false)] (by kernel_rfl) rfl ?_
       refine VL_end (by kernel_rfl) ?_
       refine VQ_block_normal ?_
       refine VQ_next ?_
       refine VC_seq ?_
       refine VC_seq ?_
       refine VC_region ?_
       refine VL_pure 2 [82] [(82, .bool true)] (by kernel_rfl) rfl ?_
       refine VL_end (by kernel_rfl) ?_
       refine VQ_next ?_
       refine VC_true (by kernel_rfl) ?_
       refine VC_seq ?_
       refine VC_region ?_
       refine VL_pure 1 [2] [(2, .int .i64 11)] (by kernel_rfl) rfl ?_
       refine VL_end (by kernel_rfl) ?_
       refine VQ_next ?_
       refine VC_ret ?_
       refine VQ_then_ret ?_
       refine VQ_ret1 (.int .i64 11) (.inr rfl) rfl rfl ?_
       exact ⟨congrArg (Value.int .i64) (rightC_11 (by first | omega | (simp [spanB, fromB] at * <;> omega)) (by unfold fineC; simp [spanB, fromB] at * <;> omega)).symm, hS⟩
     ·refine VL_pure 24 [3] [(3, .bool false)] (by kernel_rfl) rfl ?_
      refine VL_end (by kernel_rfl) ?_
      refine VQ_block_normal ?_
      refine VQ_next ?_
      refine VC_seq ?_
      refine VC_seq ?_
      refine VC_region ?_
      refine VL_pure 2 [82] [(82, .bool true)] (by kernel_rfl) rfl ?_
      refine VL_end (by kernel_rfl) ?_
      refine VQ_next ?_
      refine VC_true (by kernel_rfl) ?_
      refine VC_seq ?_
      refine VC_region ?_
      refine VL_pure 1 [2] [(2, .int .i64 11)] (by kernel_rfl) rfl ?_
      refine VL_end (by kernel_rfl) ?_
      refine VQ_next ?_
      refine VC_ret ?_
      refine VQ_then_ret ?_
      refine VQ_ret1 (.int .i64 11) (.inr rfl) rfl rfl ?_
      exact ⟨congrArg (Value.int .i64) (rightC_11 (by first | omega | (simp [spanB, fromB] at * <;> omega)) (by unfold fineC; simp [spanB, fromB] at * <;> omega)).symm, hS⟩
    ·refine VC_seq ?_
     refine VC_seq ?_
     refine VC_region ?_
     refine VL_pure 2 [1, 3, 13, 61] [(1, .pointer (some ⟨b1, 0, none⟩)), (3, .bool (spanB e 0)), (13, .int .i64 k), (61, .bool (k == 1))] (by kernel_rfl) rfl ?_
     refine VL_end (by kernel_rfl) ?_
     refine VQ_next ?_
     refine VC_eq k 1 (by kernel_rfl) (fun h6 => ?_) (fun h6 => ?_)
     ·refine VC_skip ?_
      refine VQ_next ?_
      refine VC_eq k 1 (by kernel_rfl) (fun h7 => ?_) (fun h7 => ?_)
      ·refine VC_region ?_
       refine VL_pure 2 [1, 66] [(1, .pointer (some ⟨b1, 0, none⟩)), (66, .bool (spanB e 0))] (by kernel_rfl) rfl ?_
       refine VL_bool (spanB e 0) (fun bV => [(1, .pointer (some ⟨b1, 0, none⟩)), (66, .bool bV)]) rfl (fun hg9 => ?_) (fun hg9 => ?_)
       ·refine VL_pure 3 [1, 66, 67] [(1, .pointer (some ⟨b1, 0, none⟩)), (66, .bool true), (67, .pointer (some ⟨b1, 3, none⟩))] (by kernel_rfl) rfl ?_
        refine VL_load (d := 68) (t := 3) (a := ⟨b1, 3, none⟩) (v := .int .i64 h) (by kernel_rfl) (by kernel_rfl) (Loads.own1 ho1 (by kernel_rfl) (by rfl)) ?_
        refine VL_pure 7 [1, 71] [(1, .pointer (some ⟨b1, 0, none⟩)), (71, .bool (h == 0))] (by kernel_rfl) rfl ?_
        refine VL_beq h 0 (fun bV => [(1, .pointer (some ⟨b1, 0, none⟩)), (71, .bool bV)]) rfl (fun hg10 => ?_) (fun hg10 => ?_)
        ·refine VL_pure 8 [1, 71, 72] [(1, .pointer (some ⟨b1, 0, none⟩)), (71, .bool true), (72, .pointer (some ⟨b1, 4, none⟩))] (by kernel_rfl) rfl ?_
         refine VL_load (d := 73) (t := 3) (a := ⟨b1, 4, none⟩) (v := .int .i64 b) (by kernel_rfl) (by kernel_rfl) (Loads.own1 ho1 (by kernel_rfl) (by rfl)) ?_
         refine VL_pure 12 [1, 76] [(1, .pointer (some ⟨b1, 0, none⟩)), (76, .bool (b == 0))] (by kernel_rfl) rfl ?_
         refine VL_beq b 0 (fun bV => [(1, .pointer (some ⟨b1, 0, none⟩)), (76, .bool bV)]) rfl (fun hg11 => ?_) (fun hg11 => ?_)
         ·refine VL_pure 13 [76, 77] [(76, .bool true), (77, .pointer (some ⟨b1, 5, none⟩))] (by kernel_rfl) rfl ?_
          refine VL_load (d := 78) (t := 3) (a := ⟨b1, 5, none⟩) (v := .int .i64 t) (by kernel_rfl) (by kernel_rfl) (Loads.own1 ho1 (by kernel_rfl) (by rfl)) ?_
          refine VL_pure 17 [3] [(3, .bool (t == 0))] (by kernel_rfl) rfl ?_
          refine VL_end (by kernel_rfl) ?_
          refine VQ_block_normal ?_
          refine VQ_next ?_
          refine VC_seq ?_
          refine VC_seq ?_
          refine VC_region ?_
          refine VL_pure 2 [82] [(82, .bool (!(t == 0)))] (by kernel_rfl) rfl ?_
          refine VL_end (by kernel_rfl) ?_
          refine VQ_next ?_
          refine VC_cond (!(t == 0)) (by kernel_rfl) (fun h8 => ?_) (fun h8 => ?_)
          ·try simp only [Bool.and_eq_true, Bool.or_eq_true, decide_eq_true_eq, Bool.not_eq_true', decide_eq_false_iff_not, Bool.and_eq_false_iff, Bool.or_eq_false_iff, beq_iff_eq, bne_iff_ne, beq_eq_false_iff_ne, bne_eq_false_iff_eq, Bool.not_eq_eq_eq_not, Bool.not_true, Bool.not_false] at h8
           refine VC_seq ?_
           refine VC_region ?_
           refine VL_pure 1 [2] [(2, .int .i64 11)] (by kernel_rfl) rfl ?_
           refine VL_end (by kernel_rfl) ?_
           refine VQ_next ?_
           refine VC_ret ?_
           refine VQ_then_ret ?_
           refine VQ_ret1 (.int .i64 11) (.inr rfl) rfl rfl ?_
           exact ⟨congrArg (Value.int .i64) (rightC_11 (by first | omega | (simp [spanB, fromB] at * <;> omega)) (by unfold fineC; simp [spanB, fromB] at * <;> omega)).symm, hS⟩
          ·try simp only [Bool.and_eq_true, Bool.or_eq_true, decide_eq_true_eq, Bool.not_eq_true', decide_eq_false_iff_not, Bool.and_eq_false_iff, Bool.or_eq_false_iff, beq_iff_eq, bne_iff_ne, beq_eq_false_iff_ne, bne_eq_false_iff_eq, Bool.not_eq_eq_eq_not, Bool.not_true, Bool.not_false] at h8
           refine VC_skip ?_
           refine VQ_next ?_
           refine VC_seq ?_
           refine VC_region ?_
           refine VL_pure 1 [2] [(2, .int .i64 0)] (by kernel_rfl) rfl ?_
           refine VL_end (by kernel_rfl) ?_
           refine VQ_next ?_
           refine VC_ret ?_
           refine VQ_ret1 (.int .i64 0) (.inr rfl) rfl rfl ?_
           exact ⟨congrArg (Value.int .i64) (rightC_0 (by first | omega | (simp [spanB, fromB] at * <;> omega)) (by unfold fineC; simp [spanB, fromB] at * <;> omega)).symm, hS⟩
         ·refine VL_pure 17 [3] [(3, .bool false)] (by kernel_rfl) rfl ?_
          refine VL_end (by kernel_rfl) ?_
          refine VQ_block_normal ?_
          refine VQ_next ?_
          refine VC_seq ?_
          refine VC_seq ?_
          refine VC_region ?_
          refine VL_pure 2 [82] [(82, .bool true)] (by kernel_rfl) rfl ?_
          refine VL_end (by kernel_rfl) ?_
          refine VQ_next ?_
          refine VC_true (by kernel_rfl) ?_
          refine VC_seq ?_
          refine VC_region ?_
          refine VL_pure 1 [2] [(2, .int .i64 11)] (by kernel_rfl) rfl ?_
          refine VL_end (by kernel_rfl) ?_
          refine VQ_next ?_
          refine VC_ret ?_
          refine VQ_then_ret ?_
          refine VQ_ret1 (.int .i64 11) (.inr rfl) rfl rfl ?_
          exact ⟨congrArg (Value.int .i64) (rightC_11 (by first | omega | (simp [spanB, fromB] at * <;> omega)) (by unfold fineC; simp [spanB, fromB] at * <;> omega)).symm, hS⟩
        ·refine VL_pure 17 [3] [(3, .bool false)] (by kernel_rfl) rfl ?_
         refine VL_end (by kernel_rfl) ?_
         refine VQ_block_normal ?_
         refine VQ_next ?_
         refine VC_seq ?_
         refine VC_seq ?_
         refine VC_region ?_
         refine VL_pure 2 [82] [(82, .bool true)] (by kernel_rfl) rfl ?_
         refine VL_end (by kernel_rfl) ?_
         refine VQ_next ?_
         refine VC_true (by kernel_rfl) ?_
         refine VC_seq ?_
         refine VC_region ?_
         refine VL_pure 1 [2] [(2, .int .i64 11)] (by kernel_rfl) rfl ?_
         refine VL_end (by kernel_rfl) ?_
         refine VQ_next ?_
         refine VC_ret ?_
         refine VQ_then_ret ?_
         refine VQ_ret1 (.int .i64 11) (.inr rfl) rfl rfl ?_
         exact ⟨congrArg (Value.int .i64) (rightC_11 (by first | omega | (simp [spanB, fromB] at * <;> omega)) (by unfold fineC; simp [spanB, fromB] at * <;> omega)).symm, hS⟩
       ·refine VL_pure 17 [3] [(3, .bool false)] (by kernel_rfl) rfl ?_
        refine VL_end (by kernel_rfl) ?_
        refine VQ_block_normal ?_
        refine VQ_next ?_
        refine VC_seq ?_
        refine VC_seq ?_
        refine VC_region ?_
        refine VL_pure 2 [82] [(82, .bool true)] (by kernel_rfl) rfl ?_
        refine VL_end (by kernel_rfl) ?_
        refine VQ_next ?_
        refine VC_true (by kernel_rfl) ?_
        refine VC_seq ?_
        refine VC_region ?_
        refine VL_pure 1 [2] [(2, .int .i64 11)] (by kernel_rfl) rfl ?_
        refine VL_end (by kernel_rfl) ?_
        refine VQ_next ?_
        refine VC_ret ?_
        refine VQ_then_ret ?_
        refine VQ_ret1 (.int .i64 11) (.inr rfl) rfl rfl ?_
        exact ⟨congrArg (Value.int .i64) (rightC_11 (by first | omega | (simp [spanB, fromB] at * <;> omega)) (by unfold fineC; simp [spanB, fromB] at * <;> omega)).symm, hS⟩
      ·refine VC_seq ?_
       refine VC_region ?_
       refine VL_pure 1 [2] [(2, .int .i64 12)] (by kernel_rfl) rfl ?_
       refine VL_end (by kernel_rfl) ?_
       refine VQ_next ?_
       refine VC_ret ?_
       refine VQ_block_ret ?_
       refine VQ_then_ret ?_
       refine VQ_ret1 (.int .i64 12) (.inr rfl) rfl rfl ?_
       exact ⟨congrArg (Value.int .i64) (rightC_12 (by first | omega | (simp [spanB, fromB] at * <;> omega))).symm, hS⟩
     ·refine VC_seq ?_
      refine VC_region ?_
      refine VL_pure 2 [1, 3, 13, 61] [(1, .pointer (some ⟨b1, 0, none⟩)), (3, .bool (spanB e 0)), (13, .int .i64 k), (61, .bool (k == 6))] (by kernel_rfl) rfl ?_
      refine VL_end (by kernel_rfl) ?_
      refine VQ_next ?_
      refine VC_eq k 6 (by kernel_rfl) (fun h9 => ?_) (fun h9 => ?_)
      ·refine VC_skip ?_
       refine VQ_next ?_
       refine VC_eq k 6 (by kernel_rfl) (fun h10 => ?_) (fun h10 => ?_)
       ·refine VC_region ?_
        refine VL_pure 2 [1, 66] [(1, .pointer (some ⟨b1, 0, none⟩)), (66, .bool (spanB e 0))] (by kernel_rfl) rfl ?_
        refine VL_bool (spanB e 0) (fun bV => [(1, .pointer (some ⟨b1, 0, none⟩)), (66, .bool bV)]) rfl (fun hg12 => ?_) (fun hg12 => ?_)
        ·refine VL_pure 3 [1, 66, 67] [(1, .pointer (some ⟨b1, 0, none⟩)), (66, .bool true), (67, .pointer (some ⟨b1, 3, none⟩))] (by kernel_rfl) rfl ?_
         refine VL_load (d := 68) (t := 3) (a := ⟨b1, 3, none⟩) (v := .int .i64 h) (by kernel_rfl) (by kernel_rfl) (Loads.own1 ho1 (by kernel_rfl) (by rfl)) ?_
         refine VL_pure 7 [1, 71] [(1, .pointer (some ⟨b1, 0, none⟩)), (71, .bool (h == 0))] (by kernel_rfl) rfl ?_
         refine VL_beq h 0 (fun bV => [(1, .pointer (some ⟨b1, 0, none⟩)), (71, .bool bV)]) rfl (fun hg13 => ?_) (fun hg13 => ?_)
         ·refine VL_pure 8 [1, 71, 72] [(1, .pointer (some ⟨b1, 0, none⟩)), (71, .bool true), (72, .pointer (some ⟨b1, 4, none⟩))] (by kernel_rfl) rfl ?_
          refine VL_load (d := 73) (t := 3) (a := ⟨b1, 4, none⟩) (v := .int .i64 b) (by kernel_rfl) (by kernel_rfl) (Loads.own1 ho1 (by kernel_rfl) (by rfl)) ?_
          refine VL_pure 12 [1, 76] [(1, .pointer (some ⟨b1, 0, none⟩)), (76, .bool (b == 0))] (by kernel_rfl) rfl ?_
          refine VL_beq b 0 (fun bV => [(1, .pointer (some ⟨b1, 0, none⟩)), (76, .bool bV)]) rfl (fun hg14 => ?_) (fun hg14 => ?_)
          ·refine VL_pure 13 [76, 77] [(76, .bool true), (77, .pointer (some ⟨b1, 5, none⟩))] (by kernel_rfl) rfl ?_
           refine VL_load (d := 78) (t := 3) (a := ⟨b1, 5, none⟩) (v := .int .i64 t) (by kernel_rfl) (by kernel_rfl) (Loads.own1 ho1 (by kernel_rfl) (by rfl)) ?_
           refine VL_pure 17 [3] [(3, .bool (t == 0))] (by kernel_rfl) rfl ?_
           refine VL_end (by kernel_rfl) ?_
           refine VQ_block_normal ?_
           refine VQ_next ?_
           refine VC_seq ?_
           refine VC_seq ?_
           refine VC_region ?_
           refine VL_pure 2 [82] [(82, .bool (!(t == 0)))] (by kernel_rfl) rfl ?_
           refine VL_end (by kernel_rfl) ?_
           refine VQ_next ?_
           refine VC_cond (!(t == 0)) (by kernel_rfl) (fun h11 => ?_) (fun h11 => ?_)
           ·try simp only [Bool.and_eq_true, Bool.or_eq_true, decide_eq_true_eq, Bool.not_eq_true', decide_eq_false_iff_not, Bool.and_eq_false_iff, Bool.or_eq_false_iff, beq_iff_eq, bne_iff_ne, beq_eq_false_iff_ne, bne_eq_false_iff_eq, Bool.not_eq_eq_eq_not, Bool.not_true, Bool.not_false] at h11
            refine VC_seq ?_
            refine VC_region ?_
            refine VL_pure 1 [2] [(2, .int .i64 11)] (by kernel_rfl) rfl ?_
            refine VL_end (by kernel_rfl) ?_
            refine VQ_next ?_
            refine VC_ret ?_
            refine VQ_then_ret ?_
            refine VQ_ret1 (.int .i64 11) (.inr rfl) rfl rfl ?_
            exact ⟨congrArg (Value.int .i64) (rightC_11 (by first | omega | (simp [spanB, fromB] at * <;> omega)) (by unfold fineC; simp [spanB, fromB] at * <;> omega)).symm, hS⟩
           ·try simp only [Bool.and_eq_true, Bool.or_eq_true, decide_eq_true_eq, Bool.not_eq_true', decide_eq_false_iff_not, Bool.and_eq_false_iff, Bool.or_eq_false_iff, beq_iff_eq, bne_iff_ne, beq_eq_false_iff_ne, bne_eq_false_iff_eq, Bool.not_eq_eq_eq_not, Bool.not_true, Bool.not_false] at h11
            refine VC_skip ?_
            refine VQ_next ?_
            refine VC_seq ?_
            refine VC_region ?_
            refine VL_pure 1 [2] [(2, .int .i64 0)] (by kernel_rfl) rfl ?_
            refine VL_end (by kernel_rfl) ?_
            refine VQ_next ?_
            refine VC_ret ?_
            refine VQ_ret1 (.int .i64 0) (.inr rfl) rfl rfl ?_
            exact ⟨congrArg (Value.int .i64) (rightC_0 (by first | omega | (simp [spanB, fromB] at * <;> omega)) (by unfold fineC; simp [spanB, fromB] at * <;> omega)).symm, hS⟩
          ·refine VL_pure 17 [3] [(3, .bool false)] (by kernel_rfl) rfl ?_
           refine VL_end (by kernel_rfl) ?_
           refine VQ_block_normal ?_
           refine VQ_next ?_
           refine VC_seq ?_
           refine VC_seq ?_
           refine VC_region ?_
           refine VL_pure 2 [82] [(82, .bool true)] (by kernel_rfl) rfl ?_
           refine VL_end (by kernel_rfl) ?_
           refine VQ_next ?_
           refine VC_true (by kernel_rfl) ?_
           refine VC_seq ?_
           refine VC_region ?_
           refine VL_pure 1 [2] [(2, .int .i64 11)] (by kernel_rfl) rfl ?_
           refine VL_end (by kernel_rfl) ?_
           refine VQ_next ?_
           refine VC_ret ?_
           refine VQ_then_ret ?_
           refine VQ_ret1 (.int .i64 11) (.inr rfl) rfl rfl ?_
           exact ⟨congrArg (Value.int .i64) (rightC_11 (by first | omega | (simp [spanB, fromB] at * <;> omega)) (by unfold fineC; simp [spanB, fromB] at * <;> omega)).symm, hS⟩
         ·refine VL_pure 17 [3] [(3, .bool false)] (by kernel_rfl) rfl ?_
          refine VL_end (by kernel_rfl) ?_
          refine VQ_block_normal ?_
          refine VQ_next ?_
          refine VC_seq ?_
          refine VC_seq ?_
          refine VC_region ?_
          refine VL_pure 2 [82] [(82, .bool true)] (by kernel_rfl) rfl ?_
          refine VL_end (by kernel_rfl) ?_
          refine VQ_next ?_
          refine VC_true (by kernel_rfl) ?_
          refine VC_seq ?_
          refine VC_region ?_
          refine VL_pure 1 [2] [(2, .int .i64 11)] (by kernel_rfl) rfl ?_
          refine VL_end (by kernel_rfl) ?_
          refine VQ_next ?_
          refine VC_ret ?_
          refine VQ_then_ret ?_
          refine VQ_ret1 (.int .i64 11) (.inr rfl) rfl rfl ?_
          exact ⟨congrArg (Value.int .i64) (rightC_11 (by first | omega | (simp [spanB, fromB] at * <;> omega)) (by unfold fineC; simp [spanB, fromB] at * <;> omega)).symm, hS⟩
        ·refine VL_pure 17 [3] [(3, .bool false)] (by kernel_rfl) rfl ?_
         refine VL_end (by kernel_rfl) ?_
         refine VQ_block_normal ?_
         refine VQ_next ?_
         refine VC_seq ?_
         refine VC_seq ?_
         refine VC_region ?_
         refine VL_pure 2 [82] [(82, .bool true)] (by kernel_rfl) rfl ?_
         refine VL_end (by kernel_rfl) ?_
         refine VQ_next ?_
         refine VC_true (by kernel_rfl) ?_
         refine VC_seq ?_
         refine VC_region ?_
         refine VL_pure 1 [2] [(2, .int .i64 11)] (by kernel_rfl) rfl ?_
         refine VL_end (by kernel_rfl) ?_
         refine VQ_next ?_
         refine VC_ret ?_
         refine VQ_then_ret ?_
         refine VQ_ret1 (.int .i64 11) (.inr rfl) rfl rfl ?_
         exact ⟨congrArg (Value.int .i64) (rightC_11 (by first | omega | (simp [spanB, fromB] at * <;> omega)) (by unfold fineC; simp [spanB, fromB] at * <;> omega)).symm, hS⟩
       ·refine VC_seq ?_
        refine VC_region ?_
        refine VL_pure 1 [2] [(2, .int .i64 12)] (by kernel_rfl) rfl ?_
        refine VL_end (by kernel_rfl) ?_
        refine VQ_next ?_
        refine VC_ret ?_
        refine VQ_block_ret ?_
        refine VQ_then_ret ?_
        refine VQ_ret1 (.int .i64 12) (.inr rfl) rfl rfl ?_
        exact ⟨congrArg (Value.int .i64) (rightC_12 (by first | omega | (simp [spanB, fromB] at * <;> omega))).symm, hS⟩
      ·refine VC_region ?_
       refine VL_pure 2 [1, 3, 61] [(1, .pointer (some ⟨b1, 0, none⟩)), (3, .bool (spanB e 0)), (61, .bool (k == 7))] (by kernel_rfl) rfl ?_
       refine VL_end (by kernel_rfl) ?_
       refine VQ_next ?_
       refine VC_eq k 7 (by kernel_rfl) (fun h12 => ?_) (fun h12 => ?_)
       ·refine VC_region ?_
        refine VL_pure 2 [1, 66] [(1, .pointer (some ⟨b1, 0, none⟩)), (66, .bool (spanB e 0))] (by kernel_rfl) rfl ?_
        refine VL_bool (spanB e 0) (fun bV => [(1, .pointer (some ⟨b1, 0, none⟩)), (66, .bool bV)]) rfl (fun hg15 => ?_) (fun hg15 => ?_)
        ·refine VL_pure 3 [1, 66, 67] [(1, .pointer (some ⟨b1, 0, none⟩)), (66, .bool true), (67, .pointer (some ⟨b1, 3, none⟩))] (by kernel_rfl) rfl ?_
         refine VL_load (d := 68) (t := 3) (a := ⟨b1, 3, none⟩) (v := .int .i64 h) (by kernel_rfl) (by kernel_rfl) (Loads.own1 ho1 (by kernel_rfl) (by rfl)) ?_
         refine VL_pure 7 [1, 71] [(1, .pointer (some ⟨b1, 0, none⟩)), (71, .bool (h == 0))] (by kernel_rfl) rfl ?_
         refine VL_beq h 0 (fun bV => [(1, .pointer (some ⟨b1, 0, none⟩)), (71, .bool bV)]) rfl (fun hg16 => ?_) (fun hg16 => ?_)
         ·refine VL_pure 8 [1, 71, 72] [(1, .pointer (some ⟨b1, 0, none⟩)), (71, .bool true), (72, .pointer (some ⟨b1, 4, none⟩))] (by kernel_rfl) rfl ?_
          refine VL_load (d := 73) (t := 3) (a := ⟨b1, 4, none⟩) (v := .int .i64 b) (by kernel_rfl) (by kernel_rfl) (Loads.own1 ho1 (by kernel_rfl) (by rfl)) ?_
          refine VL_pure 12 [1, 76] [(1, .pointer (some ⟨b1, 0, none⟩)), (76, .bool (b == 0))] (by kernel_rfl) rfl ?_
          refine VL_beq b 0 (fun bV => [(1, .pointer (some ⟨b1, 0, none⟩)), (76, .bool bV)]) rfl (fun hg17 => ?_) (fun hg17 => ?_)
          ·refine VL_pure 13 [76, 77] [(76, .bool true), (77, .pointer (some ⟨b1, 5, none⟩))] (by kernel_rfl) rfl ?_
           refine VL_load (d := 78) (t := 3) (a := ⟨b1, 5, none⟩) (v := .int .i64 t) (by kernel_rfl) (by kernel_rfl) (Loads.own1 ho1 (by kernel_rfl) (by rfl)) ?_
           refine VL_pure 17 [3] [(3, .bool (t == 0))] (by kernel_rfl) rfl ?_
           refine VL_end (by kernel_rfl) ?_
           refine VQ_block_normal ?_
           refine VQ_next ?_
           refine VC_seq ?_
           refine VC_seq ?_
           refine VC_region ?_
           refine VL_pure 2 [82] [(82, .bool (!(t == 0)))] (by kernel_rfl) rfl ?_
           refine VL_end (by kernel_rfl) ?_
           refine VQ_next ?_
           refine VC_cond (!(t == 0)) (by kernel_rfl) (fun h13 => ?_) (fun h13 => ?_)
           ·try simp only [Bool.and_eq_true, Bool.or_eq_true, decide_eq_true_eq, Bool.not_eq_true', decide_eq_false_iff_not, Bool.and_eq_false_iff, Bool.or_eq_false_iff, beq_iff_eq, bne_iff_ne, beq_eq_false_iff_ne, bne_eq_false_iff_eq, Bool.not_eq_eq_eq_not, Bool.not_true, Bool.not_false] at h13
            refine VC_seq ?_
            refine VC_region ?_
            refine VL_pure 1 [2] [(2, .int .i64 11)] (by kernel_rfl) rfl ?_
            refine VL_end (by kernel_rfl) ?_
            refine VQ_next ?_
            refine VC_ret ?_
            refine VQ_then_ret ?_
            refine VQ_ret1 (.int .i64 11) (.inr rfl) rfl rfl ?_
            exact ⟨congrArg (Value.int .i64) (rightC_11 (by first | omega | (simp [spanB, fromB] at * <;> omega)) (by unfold fineC; simp [spanB, fromB] at * <;> omega)).symm, hS⟩
           ·try simp only [Bool.and_eq_true, Bool.or_eq_true, decide_eq_true_eq, Bool.not_eq_true', decide_eq_false_iff_not, Bool.and_eq_false_iff, Bool.or_eq_false_iff, beq_iff_eq, bne_iff_ne, beq_eq_false_iff_ne, bne_eq_false_iff_eq, Bool.not_eq_eq_eq_not, Bool.not_true, Bool.not_false] at h13
            refine VC_skip ?_
            refine VQ_next ?_
            refine VC_seq ?_
            refine VC_region ?_
            refine VL_pure 1 [2] [(2, .int .i64 0)] (by kernel_rfl) rfl ?_
            refine VL_end (by kernel_rfl) ?_
            refine VQ_next ?_
            refine VC_ret ?_
            refine VQ_ret1 (.int .i64 0) (.inr rfl) rfl rfl ?_
            exact ⟨congrArg (Value.int .i64) (rightC_0 (by first | omega | (simp [spanB, fromB] at * <;> omega)) (by unfold fineC; simp [spanB, fromB] at * <;> omega)).symm, hS⟩
          ·refine VL_pure 17 [3] [(3, .bool false)] (by kernel_rfl) rfl ?_
           refine VL_end (by kernel_rfl) ?_
           refine VQ_block_normal ?_
           refine VQ_next ?_
           refine VC_seq ?_
           refine VC_seq ?_
           refine VC_region ?_
           refine VL_pure 2 [82] [(82, .bool true)] (by kernel_rfl) rfl ?_
           refine VL_end (by kernel_rfl) ?_
           refine VQ_next ?_
           refine VC_true (by kernel_rfl) ?_
           refine VC_seq ?_
           refine VC_region ?_
           refine VL_pure 1 [2] [(2, .int .i64 11)] (by kernel_rfl) rfl ?_
           refine VL_end (by kernel_rfl) ?_
           refine VQ_next ?_
           refine VC_ret ?_
           refine VQ_then_ret ?_
           refine VQ_ret1 (.int .i64 11) (.inr rfl) rfl rfl ?_
           exact ⟨congrArg (Value.int .i64) (rightC_11 (by first | omega | (simp [spanB, fromB] at * <;> omega)) (by unfold fineC; simp [spanB, fromB] at * <;> omega)).symm, hS⟩
         ·refine VL_pure 17 [3] [(3, .bool false)] (by kernel_rfl) rfl ?_
          refine VL_end (by kernel_rfl) ?_
          refine VQ_block_normal ?_
          refine VQ_next ?_
          refine VC_seq ?_
          refine VC_seq ?_
          refine VC_region ?_
          refine VL_pure 2 [82] [(82, .bool true)] (by kernel_rfl) rfl ?_
          refine VL_end (by kernel_rfl) ?_
          refine VQ_next ?_
          refine VC_true (by kernel_rfl) ?_
          refine VC_seq ?_
          refine VC_region ?_
          refine VL_pure 1 [2] [(2, .int .i64 11)] (by kernel_rfl) rfl ?_
          refine VL_end (by kernel_rfl) ?_
          refine VQ_next ?_
          refine VC_ret ?_
          refine VQ_then_ret ?_
          refine VQ_ret1 (.int .i64 11) (.inr rfl) rfl rfl ?_
          exact ⟨congrArg (Value.int .i64) (rightC_11 (by first | omega | (simp [spanB, fromB] at * <;> omega)) (by unfold fineC; simp [spanB, fromB] at * <;> omega)).symm, hS⟩
        ·refine VL_pure 17 [3] [(3, .bool false)] (by kernel_rfl) rfl ?_
         refine VL_end (by kernel_rfl) ?_
         refine VQ_block_normal ?_
         refine VQ_next ?_
         refine VC_seq ?_
         refine VC_seq ?_
         refine VC_region ?_
         refine VL_pure 2 [82] [(82, .bool true)] (by kernel_rfl) rfl ?_
         refine VL_end (by kernel_rfl) ?_
         refine VQ_next ?_
         refine VC_true (by kernel_rfl) ?_
         refine VC_seq ?_
         refine VC_region ?_
         refine VL_pure 1 [2] [(2, .int .i64 11)] (by kernel_rfl) rfl ?_
         refine VL_end (by kernel_rfl) ?_
         refine VQ_next ?_
         refine VC_ret ?_
         refine VQ_then_ret ?_
         refine VQ_ret1 (.int .i64 11) (.inr rfl) rfl rfl ?_
         exact ⟨congrArg (Value.int .i64) (rightC_11 (by first | omega | (simp [spanB, fromB] at * <;> omega)) (by unfold fineC; simp [spanB, fromB] at * <;> omega)).symm, hS⟩
       ·refine VC_seq ?_
        refine VC_region ?_
        refine VL_pure 1 [2] [(2, .int .i64 12)] (by kernel_rfl) rfl ?_
        refine VL_end (by kernel_rfl) ?_
        refine VQ_next ?_
        refine VC_ret ?_
        refine VQ_block_ret ?_
        refine VQ_then_ret ?_
        refine VQ_ret1 (.int .i64 12) (.inr rfl) rfl rfl ?_
        exact ⟨congrArg (Value.int .i64) (rightC_12 (by first | omega | (simp [spanB, fromB] at * <;> omega))).symm, hS⟩
  ·refine VC_seq ?_
   refine VC_region ?_
   refine VL_pure 2 [1, 3, 13, 14] [(1, .pointer (some ⟨b1, 0, none⟩)), (3, .bool (spanB e 0)), (13, .int .i64 k), (14, .bool (k == 3))] (by kernel_rfl) rfl ?_
   refine VL_end (by kernel_rfl) ?_
   refine VQ_next ?_
   refine VC_eq k 3 (by kernel_rfl) (fun h14 => ?_) (fun h14 => ?_)
   ·refine VC_skip ?_
    refine VQ_next ?_
    refine VC_eq k 3 (by kernel_rfl) (fun h15 => ?_) (fun h15 => ?_)
    ·refine VC_region ?_
     refine VL_pure 2 [1, 19] [(1, .pointer (some ⟨b1, 0, none⟩)), (19, .bool (spanB e 0))] (by kernel_rfl) rfl ?_
     refine VL_bool (spanB e 0) (fun bV => [(1, .pointer (some ⟨b1, 0, none⟩)), (19, .bool bV)]) rfl (fun hg18 => ?_) (fun hg18 => ?_)
     ·refine VL_pure 3 [1, 19, 20] [(1, .pointer (some ⟨b1, 0, none⟩)), (19, .bool true), (20, .pointer (some ⟨b1, 3, none⟩))] (by kernel_rfl) rfl ?_
      refine VL_load (d := 21) (t := 3) (a := ⟨b1, 3, none⟩) (v := .int .i64 h) (by kernel_rfl) (by kernel_rfl) (Loads.own1 ho1 (by kernel_rfl) (by rfl)) ?_
      refine VL_pure 5 [1, 19, 21, 22] [(1, .pointer (some ⟨b1, 0, none⟩)), (19, .bool true), (21, .int .i64 h), (22, .pointer (some ⟨b1, 1, none⟩))] (by kernel_rfl) rfl ?_
      refine VL_load (d := 23) (t := 3) (a := ⟨b1, 1, none⟩) (v := .int .i64 p) (by kernel_rfl) (by kernel_rfl) (Loads.own1 ho1 (by kernel_rfl) (by rfl)) ?_
      have hzs7 := hS.size
      have hzl6 := ho1.lt
      refine VL_call (d := 24) (f := 66) (args := #[.int .i64 h, .int .i64 p]) (by kernel_rfl) (by kernel_rfl) (by kernel_rfl) Try.call66 (span_any h p _) ?_
      rintro _ w7 ⟨rfl, hc6⟩
      replace hS := Step.trans hS hc6
      replace ho1 := ho1.no hc6
      refine VL_pure 9 [1, 26] [(1, .pointer (some ⟨b1, 0, none⟩)), (26, .bool (spanB h p))] (by kernel_rfl) rfl ?_
      refine VL_bool (spanB h p) (fun bV => [(1, .pointer (some ⟨b1, 0, none⟩)), (26, .bool bV)]) rfl (fun hg19 => ?_) (fun hg19 => ?_)
      ·refine VL_pure 10 [1, 26, 27] [(1, .pointer (some ⟨b1, 0, none⟩)), (26, .bool true), (27, .pointer (some ⟨b1, 4, none⟩))] (by kernel_rfl) rfl ?_
       refine VL_load (d := 28) (t := 3) (a := ⟨b1, 4, none⟩) (v := .int .i64 b) (by kernel_rfl) (by kernel_rfl) (Loads.own1 ho1 (by kernel_rfl) (by rfl)) ?_
       have hzs8 := hS.size
       have hzl7 := ho1.lt
       refine VL_call (d := 29) (f := 66) (args := #[.int .i64 b, .int .i64 0]) (by kernel_rfl) (by kernel_rfl) (by kernel_rfl) Try.call66 (span_any b 0 _) ?_
       rintro _ w8 ⟨rfl, hc7⟩
       replace hS := Step.trans hS hc7
       replace ho1 := ho1.no hc7
       refine VL_pure 14 [1, 31] [(1, .pointer (some ⟨b1, 0, none⟩)), (31, .bool (spanB b 0))] (by kernel_rfl) rfl ?_
       refine VL_bool (spanB b 0) (fun bV => [(1, .pointer (some ⟨b1, 0, none⟩)), (31, .bool bV)]) rfl (fun hg20 => ?_) (fun hg20 => ?_)
       ·refine VL_pure 15 [31, 32] [(31, .bool true), (32, .pointer (some ⟨b1, 5, none⟩))] (by kernel_rfl) rfl ?_
        refine VL_load (d := 33) (t := 3) (a := ⟨b1, 5, none⟩) (v := .int .i64 t) (by kernel_rfl) (by kernel_rfl) (Loads.own1 ho1 (by kernel_rfl) (by rfl)) ?_
        refine VL_pure 19 [3] [(3, .bool (t == 0))] (by kernel_rfl) rfl ?_
        refine VL_end (by kernel_rfl) ?_
        refine VQ_block_normal ?_
        refine VQ_next ?_
        refine VC_seq ?_
        refine VC_seq ?_
        refine VC_region ?_
        refine VL_pure 2 [82] [(82, .bool (!(t == 0)))] (by kernel_rfl) rfl ?_
        refine VL_end (by kernel_rfl) ?_
        refine VQ_next ?_
        refine VC_cond (!(t == 0)) (by kernel_rfl) (fun h16 => ?_) (fun h16 => ?_)
        ·try simp only [Bool.and_eq_true, Bool.or_eq_true, decide_eq_true_eq, Bool.not_eq_true', decide_eq_false_iff_not, Bool.and_eq_false_iff, Bool.or_eq_false_iff, beq_iff_eq, bne_iff_ne, beq_eq_false_iff_ne, bne_eq_false_iff_eq, Bool.not_eq_eq_eq_not, Bool.not_true, Bool.not_false] at h16
         refine VC_seq ?_
         refine VC_region ?_
         refine VL_pure 1 [2] [(2, .int .i64 11)] (by kernel_rfl) rfl ?_
         refine VL_end (by kernel_rfl) ?_
         refine VQ_next ?_
         refine VC_ret ?_
         refine VQ_then_ret ?_
         refine VQ_ret1 (.int .i64 11) (.inr rfl) rfl rfl ?_
         exact ⟨congrArg (Value.int .i64) (rightC_11 (by first | omega | (simp [spanB, fromB] at * <;> omega)) (by unfold fineC; simp [spanB, fromB] at * <;> omega)).symm, hS⟩
        ·try simp only [Bool.and_eq_true, Bool.or_eq_true, decide_eq_true_eq, Bool.not_eq_true', decide_eq_false_iff_not, Bool.and_eq_false_iff, Bool.or_eq_false_iff, beq_iff_eq, bne_iff_ne, beq_eq_false_iff_ne, bne_eq_false_iff_eq, Bool.not_eq_eq_eq_not, Bool.not_true, Bool.not_false] at h16
         refine VC_skip ?_
         refine VQ_next ?_
         refine VC_seq ?_
         refine VC_region ?_
         refine VL_pure 1 [2] [(2, .int .i64 0)] (by kernel_rfl) rfl ?_
         refine VL_end (by kernel_rfl) ?_
         refine VQ_next ?_
         refine VC_ret ?_
         refine VQ_ret1 (.int .i64 0) (.inr rfl) rfl rfl ?_
         exact ⟨congrArg (Value.int .i64) (rightC_0 (by first | omega | (simp [spanB, fromB] at * <;> omega)) (by unfold fineC; simp [spanB, fromB] at * <;> omega)).symm, hS⟩
       ·refine VL_pure 19 [3] [(3, .bool false)] (by kernel_rfl) rfl ?_
        refine VL_end (by kernel_rfl) ?_
        refine VQ_block_normal ?_
        refine VQ_next ?_
        refine VC_seq ?_
        refine VC_seq ?_
        refine VC_region ?_
        refine VL_pure 2 [82] [(82, .bool true)] (by kernel_rfl) rfl ?_
        refine VL_end (by kernel_rfl) ?_
        refine VQ_next ?_
        refine VC_true (by kernel_rfl) ?_
        refine VC_seq ?_
        refine VC_region ?_
        refine VL_pure 1 [2] [(2, .int .i64 11)] (by kernel_rfl) rfl ?_
        refine VL_end (by kernel_rfl) ?_
        refine VQ_next ?_
        refine VC_ret ?_
        refine VQ_then_ret ?_
        refine VQ_ret1 (.int .i64 11) (.inr rfl) rfl rfl ?_
        exact ⟨congrArg (Value.int .i64) (rightC_11 (by first | omega | (simp [spanB, fromB] at * <;> omega)) (by unfold fineC; simp [spanB, fromB] at * <;> omega)).symm, hS⟩
      ·refine VL_pure 19 [3] [(3, .bool false)] (by kernel_rfl) rfl ?_
       refine VL_end (by kernel_rfl) ?_
       refine VQ_block_normal ?_
       refine VQ_next ?_
       refine VC_seq ?_
       refine VC_seq ?_
       refine VC_region ?_
       refine VL_pure 2 [82] [(82, .bool true)] (by kernel_rfl) rfl ?_
       refine VL_end (by kernel_rfl) ?_
       refine VQ_next ?_
       refine VC_true (by kernel_rfl) ?_
       refine VC_seq ?_
       refine VC_region ?_
       refine VL_pure 1 [2] [(2, .int .i64 11)] (by kernel_rfl) rfl ?_
       refine VL_end (by kernel_rfl) ?_
       refine VQ_next ?_
       refine VC_ret ?_
       refine VQ_then_ret ?_
       refine VQ_ret1 (.int .i64 11) (.inr rfl) rfl rfl ?_
       exact ⟨congrArg (Value.int .i64) (rightC_11 (by first | omega | (simp [spanB, fromB] at * <;> omega)) (by unfold fineC; simp [spanB, fromB] at * <;> omega)).symm, hS⟩
     ·refine VL_pure 19 [3] [(3, .bool false)] (by kernel_rfl) rfl ?_
      refine VL_end (by kernel_rfl) ?_
      refine VQ_block_normal ?_
      refine VQ_next ?_
      refine VC_seq ?_
      refine VC_seq ?_
      refine VC_region ?_
      refine VL_pure 2 [82] [(82, .bool true)] (by kernel_rfl) rfl ?_
      refine VL_end (by kernel_rfl) ?_
      refine VQ_next ?_
      refine VC_true (by kernel_rfl) ?_
      refine VC_seq ?_
      refine VC_region ?_
      refine VL_pure 1 [2] [(2, .int .i64 11)] (by kernel_rfl) rfl ?_
      refine VL_end (by kernel_rfl) ?_
      refine VQ_next ?_
      refine VC_ret ?_
      refine VQ_then_ret ?_
      refine VQ_ret1 (.int .i64 11) (.inr rfl) rfl rfl ?_
      exact ⟨congrArg (Value.int .i64) (rightC_11 (by first | omega | (simp [spanB, fromB] at * <;> omega)) (by unfold fineC; simp [spanB, fromB] at * <;> omega)).symm, hS⟩
    ·refine VC_seq ?_
     refine VC_region ?_
     refine VL_pure 2 [1, 3, 13, 36] [(1, .pointer (some ⟨b1, 0, none⟩)), (3, .bool (spanB e 0)), (13, .int .i64 k), (36, .bool (k == 5))] (by kernel_rfl) rfl ?_
     refine VL_end (by kernel_rfl) ?_
     refine VQ_next ?_
     refine VC_eq k 5 (by kernel_rfl) (fun h17 => ?_) (fun h17 => ?_)
     ·refine VC_region ?_
      refine VL_pure 2 [1, 39] [(1, .pointer (some ⟨b1, 0, none⟩)), (39, .bool (spanB e 0))] (by kernel_rfl) rfl ?_
      refine VL_bool (spanB e 0) (fun bV => [(1, .pointer (some ⟨b1, 0, none⟩)), (39, .bool bV)]) rfl (fun hg21 => ?_) (fun hg21 => ?_)
      ·refine VL_pure 3 [1, 39, 40] [(1, .pointer (some ⟨b1, 0, none⟩)), (39, .bool true), (40, .pointer (some ⟨b1, 3, none⟩))] (by kernel_rfl) rfl ?_
       refine VL_load (d := 41) (t := 3) (a := ⟨b1, 3, none⟩) (v := .int .i64 h) (by kernel_rfl) (by kernel_rfl) (Loads.own1 ho1 (by kernel_rfl) (by rfl)) ?_
       refine VL_pure 7 [1, 44] [(1, .pointer (some ⟨b1, 0, none⟩)), (44, .bool (h == 0))] (by kernel_rfl) rfl ?_
       refine VL_beq h 0 (fun bV => [(1, .pointer (some ⟨b1, 0, none⟩)), (44, .bool bV)]) rfl (fun hg22 => ?_) (fun hg22 => ?_)
       ·refine VL_pure 8 [1, 44, 45] [(1, .pointer (some ⟨b1, 0, none⟩)), (44, .bool true), (45, .pointer (some ⟨b1, 4, none⟩))] (by kernel_rfl) rfl ?_
        refine VL_load (d := 46) (t := 3) (a := ⟨b1, 4, none⟩) (v := .int .i64 b) (by kernel_rfl) (by kernel_rfl) (Loads.own1 ho1 (by kernel_rfl) (by rfl)) ?_
        refine VL_pure 12 [1, 49] [(1, .pointer (some ⟨b1, 0, none⟩)), (49, .bool (b == 0))] (by kernel_rfl) rfl ?_
        refine VL_beq b 0 (fun bV => [(1, .pointer (some ⟨b1, 0, none⟩)), (49, .bool bV)]) rfl (fun hg23 => ?_) (fun hg23 => ?_)
        ·refine VL_pure 13 [1, 49, 50] [(1, .pointer (some ⟨b1, 0, none⟩)), (49, .bool true), (50, .pointer (some ⟨b1, 5, none⟩))] (by kernel_rfl) rfl ?_
         refine VL_load (d := 51) (t := 3) (a := ⟨b1, 5, none⟩) (v := .int .i64 t) (by kernel_rfl) (by kernel_rfl) (Loads.own1 ho1 (by kernel_rfl) (by rfl)) ?_
         refine VL_pure 16 [1, 49, 53] [(1, .pointer (some ⟨b1, 0, none⟩)), (49, .bool true), (53, .bool (t == 0))] (by kernel_rfl) rfl ?_
         refine VL_beq t 0 (fun bV => [(1, .pointer (some ⟨b1, 0, none⟩)), (49, .bool true), (53, .bool bV)]) rfl (fun hg24 => ?_) (fun hg24 => ?_)
         ·refine VL_pure 24 [3] [(3, .bool true)] (by kernel_rfl) rfl ?_
          refine VL_end (by kernel_rfl) ?_
          refine VQ_block_normal ?_
          refine VQ_next ?_
          refine VC_seq ?_
          refine VC_seq ?_
          refine VC_region ?_
          refine VL_pure 2 [82] [(82, .bool false)] (by kernel_rfl) rfl ?_
          refine VL_end (by kernel_rfl) ?_
          refine VQ_next ?_
          refine VC_false (by kernel_rfl) ?_
          refine VC_skip ?_
          refine VQ_next ?_
          refine VC_seq ?_
          refine VC_region ?_
          refine VL_pure 1 [2] [(2, .int .i64 0)] (by kernel_rfl) rfl ?_
          refine VL_end (by kernel_rfl) ?_
          refine VQ_next ?_
          refine VC_ret ?_
          refine VQ_ret1 (.int .i64 0) (.inr rfl) rfl rfl ?_
          exact ⟨congrArg (Value.int .i64) (rightC_0 (by first | omega | (simp [spanB, fromB] at * <;> omega)) (by unfold fineC; simp [spanB, fromB] at * <;> omega)).symm, hS⟩
         ·refine VL_pure 17 [1, 49, 53, 54] [(1, .pointer (some ⟨b1, 0, none⟩)), (49, .bool true), (53, .bool false), (54, .pointer (some ⟨b1, 5, none⟩))] (by kernel_rfl) rfl ?_
          refine VL_load (d := 55) (t := 3) (a := ⟨b1, 5, none⟩) (v := .int .i64 t) (by kernel_rfl) (by kernel_rfl) (Loads.own1 ho1 (by kernel_rfl) (by rfl)) ?_
          refine VL_pure 19 [49, 53, 55, 56] [(49, .bool true), (53, .bool false), (55, .int .i64 t), (56, .pointer (some ⟨b1, 1, none⟩))] (by kernel_rfl) rfl ?_
          refine VL_load (d := 57) (t := 3) (a := ⟨b1, 1, none⟩) (v := .int .i64 p) (by kernel_rfl) (by kernel_rfl) (Loads.own1 ho1 (by kernel_rfl) (by rfl)) ?_
          have hzs9 := hS.size
          have hzl8 := ho1.lt
          refine VL_call (d := 58) (f := 66) (args := #[.int .i64 t, .int .i64 p]) (by kernel_rfl) (by kernel_rfl) (by kernel_rfl) Try.call66 (span_any t p _) ?_
          rintro _ w9 ⟨rfl, hc8⟩
          replace hS := Step.trans hS hc8
          replace ho1 := ho1.no hc8
          refine VL_pure 24 [3] [(3, .bool (spanB t p))] (by kernel_rfl) rfl ?_
          refine VL_end (by kernel_rfl) ?_
          refine VQ_block_normal ?_
          refine VQ_next ?_
          refine VC_seq ?_
          refine VC_seq ?_
          refine VC_region ?_
          refine VL_pure 2 [82] [(82, .bool (!(spanB t p)))] (by kernel_rfl) rfl ?_
          refine VL_end (by kernel_rfl) ?_
          refine VQ_next ?_
          refine VC_cond (!(spanB t p)) (by kernel_rfl) (fun h18 => ?_) (fun h18 => ?_)
          ·try simp only [Bool.and_eq_true, Bool.or_eq_true, decide_eq_true_eq, Bool.not_eq_true', decide_eq_false_iff_not, Bool.and_eq_false_iff, Bool.or_eq_false_iff, beq_iff_eq, bne_iff_ne, beq_eq_false_iff_ne, bne_eq_false_iff_eq, Bool.not_eq_eq_eq_not, Bool.not_true, Bool.not_false] at h18
           refine VC_seq ?_
           refine VC_region ?_
           refine VL_pure 1 [2] [(2, .int .i64 11)] (by kernel_rfl) rfl ?_
           refine VL_end (by kernel_rfl) ?_
           refine VQ_next ?_
           refine VC_ret ?_
           refine VQ_then_ret ?_
           refine VQ_ret1 (.int .i64 11) (.inr rfl) rfl rfl ?_
           exact ⟨congrArg (Value.int .i64) (rightC_11 (by first | omega | (simp [spanB, fromB] at * <;> omega)) (by unfold fineC; simp [spanB, fromB] at * <;> omega)).symm, hS⟩
          ·try simp only [Bool.and_eq_true, Bool.or_eq_true, decide_eq_true_eq, Bool.not_eq_true', decide_eq_false_iff_not, Bool.and_eq_false_iff, Bool.or_eq_false_iff, beq_iff_eq, bne_iff_ne, beq_eq_false_iff_ne, bne_eq_false_iff_eq, Bool.not_eq_eq_eq_not, Bool.not_true, Bool.not_false] at h18
           refine VC_skip ?_
           refine VQ_next ?_
           refine VC_seq ?_
           refine VC_region ?_
           refine VL_pure 1 [2] [(2, .int .i64 0)] (by kernel_rfl) rfl ?_
           refine VL_end (by kernel_rfl) ?_
           refine VQ_next ?_
           refine VC_ret ?_
           refine VQ_ret1 (.int .i64 0) (.inr rfl) rfl rfl ?_
           exact ⟨congrArg (Value.int .i64) (rightC_0 (by first | omega | (simp [spanB, fromB] at * <;> omega)) (by unfold fineC; simp [spanB, fromB] at * <;> omega)).symm, hS⟩
        ·refine VL_pure 24 [3] [(3, .bool false)] (by kernel_rfl) rfl ?_
         refine VL_end (by kernel_rfl) ?_
         refine VQ_block_normal ?_
         refine VQ_next ?_
         refine VC_seq ?_
         refine VC_seq ?_
         refine VC_region ?_
         refine VL_pure 2 [82] [(82, .bool true)] (by kernel_rfl) rfl ?_
         refine VL_end (by kernel_rfl) ?_
         refine VQ_next ?_
         refine VC_true (by kernel_rfl) ?_
         refine VC_seq ?_
         refine VC_region ?_
         refine VL_pure 1 [2] [(2, .int .i64 11)] (by kernel_rfl) rfl ?_
         refine VL_end (by kernel_rfl) ?_
         refine VQ_next ?_
         refine VC_ret ?_
         refine VQ_then_ret ?_
         refine VQ_ret1 (.int .i64 11) (.inr rfl) rfl rfl ?_
         exact ⟨congrArg (Value.int .i64) (rightC_11 (by first | omega | (simp [spanB, fromB] at * <;> omega)) (by unfold fineC; simp [spanB, fromB] at * <;> omega)).symm, hS⟩
       ·refine VL_pure 24 [3] [(3, .bool false)] (by kernel_rfl) rfl ?_
        refine VL_end (by kernel_rfl) ?_
        refine VQ_block_normal ?_
        refine VQ_next ?_
        refine VC_seq ?_
        refine VC_seq ?_
        refine VC_region ?_
        refine VL_pure 2 [82] [(82, .bool true)] (by kernel_rfl) rfl ?_
        refine VL_end (by kernel_rfl) ?_
        refine VQ_next ?_
        refine VC_true (by kernel_rfl) ?_
        refine VC_seq ?_
        refine VC_region ?_
        refine VL_pure 1 [2] [(2, .int .i64 11)] (by kernel_rfl) rfl ?_
        refine VL_end (by kernel_rfl) ?_
        refine VQ_next ?_
        refine VC_ret ?_
        refine VQ_then_ret ?_
        refine VQ_ret1 (.int .i64 11) (.inr rfl) rfl rfl ?_
        exact ⟨congrArg (Value.int .i64) (rightC_11 (by first | omega | (simp [spanB, fromB] at * <;> omega)) (by unfold fineC; simp [spanB, fromB] at * <;> omega)).symm, hS⟩
      ·refine VL_pure 24 [3] [(3, .bool false)] (by kernel_rfl) rfl ?_
       refine VL_end (by kernel_rfl) ?_
       refine VQ_block_normal ?_
       refine VQ_next ?_
       refine VC_seq ?_
       refine VC_seq ?_
       refine VC_region ?_
       refine VL_pure 2 [82] [(82, .bool true)] (by kernel_rfl) rfl ?_
       refine VL_end (by kernel_rfl) ?_
       refine VQ_next ?_
       refine VC_true (by kernel_rfl) ?_
       refine VC_seq ?_
       refine VC_region ?_
       refine VL_pure 1 [2] [(2, .int .i64 11)] (by kernel_rfl) rfl ?_
       refine VL_end (by kernel_rfl) ?_
       refine VQ_next ?_
       refine VC_ret ?_
       refine VQ_then_ret ?_
       refine VQ_ret1 (.int .i64 11) (.inr rfl) rfl rfl ?_
       exact ⟨congrArg (Value.int .i64) (rightC_11 (by first | omega | (simp [spanB, fromB] at * <;> omega)) (by unfold fineC; simp [spanB, fromB] at * <;> omega)).symm, hS⟩
     ·refine VC_seq ?_
      refine VC_seq ?_
      refine VC_region ?_
      refine VL_pure 2 [1, 3, 13, 61] [(1, .pointer (some ⟨b1, 0, none⟩)), (3, .bool (spanB e 0)), (13, .int .i64 k), (61, .bool (k == 1))] (by kernel_rfl) rfl ?_
      refine VL_end (by kernel_rfl) ?_
      refine VQ_next ?_
      refine VC_eq k 1 (by kernel_rfl) (fun h19 => ?_) (fun h19 => ?_)
      ·refine VC_skip ?_
       refine VQ_next ?_
       refine VC_eq k 1 (by kernel_rfl) (fun h20 => ?_) (fun h20 => ?_)
       ·refine VC_region ?_
        refine VL_pure 2 [1, 66] [(1, .pointer (some ⟨b1, 0, none⟩)), (66, .bool (spanB e 0))] (by kernel_rfl) rfl ?_
        refine VL_bool (spanB e 0) (fun bV => [(1, .pointer (some ⟨b1, 0, none⟩)), (66, .bool bV)]) rfl (fun hg25 => ?_) (fun hg25 => ?_)
        ·refine VL_pure 3 [1, 66, 67] [(1, .pointer (some ⟨b1, 0, none⟩)), (66, .bool true), (67, .pointer (some ⟨b1, 3, none⟩))] (by kernel_rfl) rfl ?_
         refine VL_load (d := 68) (t := 3) (a := ⟨b1, 3, none⟩) (v := .int .i64 h) (by kernel_rfl) (by kernel_rfl) (Loads.own1 ho1 (by kernel_rfl) (by rfl)) ?_
         refine VL_pure 7 [1, 71] [(1, .pointer (some ⟨b1, 0, none⟩)), (71, .bool (h == 0))] (by kernel_rfl) rfl ?_
         refine VL_beq h 0 (fun bV => [(1, .pointer (some ⟨b1, 0, none⟩)), (71, .bool bV)]) rfl (fun hg26 => ?_) (fun hg26 => ?_)
         ·refine VL_pure 8 [1, 71, 72] [(1, .pointer (some ⟨b1, 0, none⟩)), (71, .bool true), (72, .pointer (some ⟨b1, 4, none⟩))] (by kernel_rfl) rfl ?_
          refine VL_load (d := 73) (t := 3) (a := ⟨b1, 4, none⟩) (v := .int .i64 b) (by kernel_rfl) (by kernel_rfl) (Loads.own1 ho1 (by kernel_rfl) (by rfl)) ?_
          refine VL_pure 12 [1, 76] [(1, .pointer (some ⟨b1, 0, none⟩)), (76, .bool (b == 0))] (by kernel_rfl) rfl ?_
          refine VL_beq b 0 (fun bV => [(1, .pointer (some ⟨b1, 0, none⟩)), (76, .bool bV)]) rfl (fun hg27 => ?_) (fun hg27 => ?_)
          ·refine VL_pure 13 [76, 77] [(76, .bool true), (77, .pointer (some ⟨b1, 5, none⟩))] (by kernel_rfl) rfl ?_
           refine VL_load (d := 78) (t := 3) (a := ⟨b1, 5, none⟩) (v := .int .i64 t) (by kernel_rfl) (by kernel_rfl) (Loads.own1 ho1 (by kernel_rfl) (by rfl)) ?_
           refine VL_pure 17 [3] [(3, .bool (t == 0))] (by kernel_rfl) rfl ?_
           refine VL_end (by kernel_rfl) ?_
           refine VQ_block_normal ?_
           refine VQ_next ?_
           refine VC_seq ?_
           refine VC_seq ?_
           refine VC_region ?_
           refine VL_pure 2 [82] [(82, .bool (!(t == 0)))] (by kernel_rfl) rfl ?_
           refine VL_end (by kernel_rfl) ?_
           refine VQ_next ?_
           refine VC_cond (!(t == 0)) (by kernel_rfl) (fun h21 => ?_) (fun h21 => ?_)
           ·try simp only [Bool.and_eq_true, Bool.or_eq_true, decide_eq_true_eq, Bool.not_eq_true', decide_eq_false_iff_not, Bool.and_eq_false_iff, Bool.or_eq_false_iff, beq_iff_eq, bne_iff_ne, beq_eq_false_iff_ne, bne_eq_false_iff_eq, Bool.not_eq_eq_eq_not, Bool.not_true, Bool.not_false] at h21
            refine VC_seq ?_
            refine VC_region ?_
            refine VL_pure 1 [2] [(2, .int .i64 11)] (by kernel_rfl) rfl ?_
            refine VL_end (by kernel_rfl) ?_
            refine VQ_next ?_
            refine VC_ret ?_
            refine VQ_then_ret ?_
            refine VQ_ret1 (.int .i64 11) (.inr rfl) rfl rfl ?_
            exact ⟨congrArg (Value.int .i64) (rightC_11 (by first | omega | (simp [spanB, fromB] at * <;> omega)) (by unfold fineC; simp [spanB, fromB] at * <;> omega)).symm, hS⟩
           ·try simp only [Bool.and_eq_true, Bool.or_eq_true, decide_eq_true_eq, Bool.not_eq_true', decide_eq_false_iff_not, Bool.and_eq_false_iff, Bool.or_eq_false_iff, beq_iff_eq, bne_iff_ne, beq_eq_false_iff_ne, bne_eq_false_iff_eq, Bool.not_eq_eq_eq_not, Bool.not_true, Bool.not_false] at h21
            refine VC_skip ?_
            refine VQ_next ?_
            refine VC_seq ?_
            refine VC_region ?_
            refine VL_pure 1 [2] [(2, .int .i64 0)] (by kernel_rfl) rfl ?_
            refine VL_end (by kernel_rfl) ?_
            refine VQ_next ?_
            refine VC_ret ?_
            refine VQ_ret1 (.int .i64 0) (.inr rfl) rfl rfl ?_
            exact ⟨congrArg (Value.int .i64) (rightC_0 (by first | omega | (simp [spanB, fromB] at * <;> omega)) (by unfold fineC; simp [spanB, fromB] at * <;> omega)).symm, hS⟩
          ·refine VL_pure 17 [3] [(3, .bool false)] (by kernel_rfl) rfl ?_
           refine VL_end (by kernel_rfl) ?_
           refine VQ_block_normal ?_
           refine VQ_next ?_
           refine VC_seq ?_
           refine VC_seq ?_
           refine VC_region ?_
           refine VL_pure 2 [82] [(82, .bool true)] (by kernel_rfl) rfl ?_
           refine VL_end (by kernel_rfl) ?_
           refine VQ_next ?_
           refine VC_true (by kernel_rfl) ?_
           refine VC_seq ?_
           refine VC_region ?_
           refine VL_pure 1 [2] [(2, .int .i64 11)] (by kernel_rfl) rfl ?_
           refine VL_end (by kernel_rfl) ?_
           refine VQ_next ?_
           refine VC_ret ?_
           refine VQ_then_ret ?_
           refine VQ_ret1 (.int .i64 11) (.inr rfl) rfl rfl ?_
           exact ⟨congrArg (Value.int .i64) (rightC_11 (by first | omega | (simp [spanB, fromB] at * <;> omega)) (by unfold fineC; simp [spanB, fromB] at * <;> omega)).symm, hS⟩
         ·refine VL_pure 17 [3] [(3, .bool false)] (by kernel_rfl) rfl ?_
          refine VL_end (by kernel_rfl) ?_
          refine VQ_block_normal ?_
          refine VQ_next ?_
          refine VC_seq ?_
          refine VC_seq ?_
          refine VC_region ?_
          refine VL_pure 2 [82] [(82, .bool true)] (by kernel_rfl) rfl ?_
          refine VL_end (by kernel_rfl) ?_
          refine VQ_next ?_
          refine VC_true (by kernel_rfl) ?_
          refine VC_seq ?_
          refine VC_region ?_
          refine VL_pure 1 [2] [(2, .int .i64 11)] (by kernel_rfl) rfl ?_
          refine VL_end (by kernel_rfl) ?_
          refine VQ_next ?_
          refine VC_ret ?_
          refine VQ_then_ret ?_
          refine VQ_ret1 (.int .i64 11) (.inr rfl) rfl rfl ?_
          exact ⟨congrArg (Value.int .i64) (rightC_11 (by first | omega | (simp [spanB, fromB] at * <;> omega)) (by unfold fineC; simp [spanB, fromB] at * <;> omega)).symm, hS⟩
        ·refine VL_pure 17 [3] [(3, .bool false)] (by kernel_rfl) rfl ?_
         refine VL_end (by kernel_rfl) ?_
         refine VQ_block_normal ?_
         refine VQ_next ?_
         refine VC_seq ?_
         refine VC_seq ?_
         refine VC_region ?_
         refine VL_pure 2 [82] [(82, .bool true)] (by kernel_rfl) rfl ?_
         refine VL_end (by kernel_rfl) ?_
         refine VQ_next ?_
         refine VC_true (by kernel_rfl) ?_
         refine VC_seq ?_
         refine VC_region ?_
         refine VL_pure 1 [2] [(2, .int .i64 11)] (by kernel_rfl) rfl ?_
         refine VL_end (by kernel_rfl) ?_
         refine VQ_next ?_
         refine VC_ret ?_
         refine VQ_then_ret ?_
         refine VQ_ret1 (.int .i64 11) (.inr rfl) rfl rfl ?_
         exact ⟨congrArg (Value.int .i64) (rightC_11 (by first | omega | (simp [spanB, fromB] at * <;> omega)) (by unfold fineC; simp [spanB, fromB] at * <;> omega)).symm, hS⟩
       ·refine VC_seq ?_
        refine VC_region ?_
        refine VL_pure 1 [2] [(2, .int .i64 12)] (by kernel_rfl) rfl ?_
        refine VL_end (by kernel_rfl) ?_
        refine VQ_next ?_
        refine VC_ret ?_
        refine VQ_block_ret ?_
        refine VQ_then_ret ?_
        refine VQ_ret1 (.int .i64 12) (.inr rfl) rfl rfl ?_
        exact ⟨congrArg (Value.int .i64) (rightC_12 (by first | omega | (simp [spanB, fromB] at * <;> omega))).symm, hS⟩
      ·refine VC_seq ?_
       refine VC_region ?_
       refine VL_pure 2 [1, 3, 13, 61] [(1, .pointer (some ⟨b1, 0, none⟩)), (3, .bool (spanB e 0)), (13, .int .i64 k), (61, .bool (k == 6))] (by kernel_rfl) rfl ?_
       refine VL_end (by kernel_rfl) ?_
       refine VQ_next ?_
       refine VC_eq k 6 (by kernel_rfl) (fun h22 => ?_) (fun h22 => ?_)
       ·refine VC_skip ?_
        refine VQ_next ?_
        refine VC_eq k 6 (by kernel_rfl) (fun h23 => ?_) (fun h23 => ?_)
        ·refine VC_region ?_
         refine VL_pure 2 [1, 66] [(1, .pointer (some ⟨b1, 0, none⟩)), (66, .bool (spanB e 0))] (by kernel_rfl) rfl ?_
         refine VL_bool (spanB e 0) (fun bV => [(1, .pointer (some ⟨b1, 0, none⟩)), (66, .bool bV)]) rfl (fun hg28 => ?_) (fun hg28 => ?_)
         ·refine VL_pure 3 [1, 66, 67] [(1, .pointer (some ⟨b1, 0, none⟩)), (66, .bool true), (67, .pointer (some ⟨b1, 3, none⟩))] (by kernel_rfl) rfl ?_
          refine VL_load (d := 68) (t := 3) (a := ⟨b1, 3, none⟩) (v := .int .i64 h) (by kernel_rfl) (by kernel_rfl) (Loads.own1 ho1 (by kernel_rfl) (by rfl)) ?_
          refine VL_pure 7 [1, 71] [(1, .pointer (some ⟨b1, 0, none⟩)), (71, .bool (h == 0))] (by kernel_rfl) rfl ?_
          refine VL_beq h 0 (fun bV => [(1, .pointer (some ⟨b1, 0, none⟩)), (71, .bool bV)]) rfl (fun hg29 => ?_) (fun hg29 => ?_)
          ·refine VL_pure 8 [1, 71, 72] [(1, .pointer (some ⟨b1, 0, none⟩)), (71, .bool true), (72, .pointer (some ⟨b1, 4, none⟩))] (by kernel_rfl) rfl ?_
           refine VL_load (d := 73) (t := 3) (a := ⟨b1, 4, none⟩) (v := .int .i64 b) (by kernel_rfl) (by kernel_rfl) (Loads.own1 ho1 (by kernel_rfl) (by rfl)) ?_
           refine VL_pure 12 [1, 76] [(1, .pointer (some ⟨b1, 0, none⟩)), (76, .bool (b == 0))] (by kernel_rfl) rfl ?_
           refine VL_beq b 0 (fun bV => [(1, .pointer (some ⟨b1, 0, none⟩)), (76, .bool bV)]) rfl (fun hg30 => ?_) (fun hg30 => ?_)
           ·refine VL_pure 13 [76, 77] [(76, .bool true), (77, .pointer (some ⟨b1, 5, none⟩))] (by kernel_rfl) rfl ?_
            refine VL_load (d := 78) (t := 3) (a := ⟨b1, 5, none⟩) (v := .int .i64 t) (by kernel_rfl) (by kernel_rfl) (Loads.own1 ho1 (by kernel_rfl) (by rfl)) ?_
            refine VL_pure 17 [3] [(3, .bool (t == 0))] (by kernel_rfl) rfl ?_
            refine VL_end (by kernel_rfl) ?_
            refine VQ_block_normal ?_
            refine VQ_next ?_
            refine VC_seq ?_
            refine VC_seq ?_
            refine VC_region ?_
            refine VL_pure 2 [82] [(82, .bool (!(t == 0)))] (by kernel_rfl) rfl ?_
            refine VL_end (by kernel_rfl) ?_
            refine VQ_next ?_
            refine VC_cond (!(t == 0)) (by kernel_rfl) (fun h24 => ?_) (fun h24 => ?_)
            ·try simp only [Bool.and_eq_true, Bool.or_eq_true, decide_eq_true_eq, Bool.not_eq_true', decide_eq_false_iff_not, Bool.and_eq_false_iff, Bool.or_eq_false_iff, beq_iff_eq, bne_iff_ne, beq_eq_false_iff_ne, bne_eq_false_iff_eq, Bool.not_eq_eq_eq_not, Bool.not_true, Bool.not_false] at h24
             refine VC_seq ?_
             refine VC_region ?_
             refine VL_pure 1 [2] [(2, .int .i64 11)] (by kernel_rfl) rfl ?_
             refine VL_end (by kernel_rfl) ?_
             refine VQ_next ?_
             refine VC_ret ?_
             refine VQ_then_ret ?_
             refine VQ_ret1 (.int .i64 11) (.inr rfl) rfl rfl ?_
             exact ⟨congrArg (Value.int .i64) (rightC_11 (by first | omega | (simp [spanB, fromB] at * <;> omega)) (by unfold fineC; simp [spanB, fromB] at * <;> omega)).symm, hS⟩
            ·try simp only [Bool.and_eq_true, Bool.or_eq_true, decide_eq_true_eq, Bool.not_eq_true', decide_eq_false_iff_not, Bool.and_eq_false_iff, Bool.or_eq_false_iff, beq_iff_eq, bne_iff_ne, beq_eq_false_iff_ne, bne_eq_false_iff_eq, Bool.not_eq_eq_eq_not, Bool.not_true, Bool.not_false] at h24
             refine VC_skip ?_
             refine VQ_next ?_
             refine VC_seq ?_
             refine VC_region ?_
             refine VL_pure 1 [2] [(2, .int .i64 0)] (by kernel_rfl) rfl ?_
             refine VL_end (by kernel_rfl) ?_
             refine VQ_next ?_
             refine VC_ret ?_
             refine VQ_ret1 (.int .i64 0) (.inr rfl) rfl rfl ?_
             exact ⟨congrArg (Value.int .i64) (rightC_0 (by first | omega | (simp [spanB, fromB] at * <;> omega)) (by unfold fineC; simp [spanB, fromB] at * <;> omega)).symm, hS⟩
           ·refine VL_pure 17 [3] [(3, .bool false)] (by kernel_rfl) rfl ?_
            refine VL_end (by kernel_rfl) ?_
            refine VQ_block_normal ?_
            refine VQ_next ?_
            refine VC_seq ?_
            refine VC_seq ?_
            refine VC_region ?_
            refine VL_pure 2 [82] [(82, .bool true)] (by kernel_rfl) rfl ?_
            refine VL_end (by kernel_rfl) ?_
            refine VQ_next ?_
            refine VC_true (by kernel_rfl) ?_
            refine VC_seq ?_
            refine VC_region ?_
            refine VL_pure 1 [2] [(2, .int .i64 11)] (by kernel_rfl) rfl ?_
            refine VL_end (by kernel_rfl) ?_
            refine VQ_next ?_
            refine VC_ret ?_
            refine VQ_then_ret ?_
            refine VQ_ret1 (.int .i64 11) (.inr rfl) rfl rfl ?_
            exact ⟨congrArg (Value.int .i64) (rightC_11 (by first | omega | (simp [spanB, fromB] at * <;> omega)) (by unfold fineC; simp [spanB, fromB] at * <;> omega)).symm, hS⟩
          ·refine VL_pure 17 [3] [(3, .bool false)] (by kernel_rfl) rfl ?_
           refine VL_end (by kernel_rfl) ?_
           refine VQ_block_normal ?_
           refine VQ_next ?_
           refine VC_seq ?_
           refine VC_seq ?_
           refine VC_region ?_
           refine VL_pure 2 [82] [(82, .bool true)] (by kernel_rfl) rfl ?_
           refine VL_end (by kernel_rfl) ?_
           refine VQ_next ?_
           refine VC_true (by kernel_rfl) ?_
           refine VC_seq ?_
           refine VC_region ?_
           refine VL_pure 1 [2] [(2, .int .i64 11)] (by kernel_rfl) rfl ?_
           refine VL_end (by kernel_rfl) ?_
           refine VQ_next ?_
           refine VC_ret ?_
           refine VQ_then_ret ?_
           refine VQ_ret1 (.int .i64 11) (.inr rfl) rfl rfl ?_
           exact ⟨congrArg (Value.int .i64) (rightC_11 (by first | omega | (simp [spanB, fromB] at * <;> omega)) (by unfold fineC; simp [spanB, fromB] at * <;> omega)).symm, hS⟩
         ·refine VL_pure 17 [3] [(3, .bool false)] (by kernel_rfl) rfl ?_
          refine VL_end (by kernel_rfl) ?_
          refine VQ_block_normal ?_
          refine VQ_next ?_
          refine VC_seq ?_
          refine VC_seq ?_
          refine VC_region ?_
          refine VL_pure 2 [82] [(82, .bool true)] (by kernel_rfl) rfl ?_
          refine VL_end (by kernel_rfl) ?_
          refine VQ_next ?_
          refine VC_true (by kernel_rfl) ?_
          refine VC_seq ?_
          refine VC_region ?_
          refine VL_pure 1 [2] [(2, .int .i64 11)] (by kernel_rfl) rfl ?_
          refine VL_end (by kernel_rfl) ?_
          refine VQ_next ?_
          refine VC_ret ?_
          refine VQ_then_ret ?_
          refine VQ_ret1 (.int .i64 11) (.inr rfl) rfl rfl ?_
          exact ⟨congrArg (Value.int .i64) (rightC_11 (by first | omega | (simp [spanB, fromB] at * <;> omega)) (by unfold fineC; simp [spanB, fromB] at * <;> omega)).symm, hS⟩
        ·refine VC_seq ?_
         refine VC_region ?_
         refine VL_pure 1 [2] [(2, .int .i64 12)] (by kernel_rfl) rfl ?_
         refine VL_end (by kernel_rfl) ?_
         refine VQ_next ?_
         refine VC_ret ?_
         refine VQ_block_ret ?_
         refine VQ_then_ret ?_
         refine VQ_ret1 (.int .i64 12) (.inr rfl) rfl rfl ?_
         exact ⟨congrArg (Value.int .i64) (rightC_12 (by first | omega | (simp [spanB, fromB] at * <;> omega))).symm, hS⟩
       ·refine VC_region ?_
        refine VL_pure 2 [1, 3, 61] [(1, .pointer (some ⟨b1, 0, none⟩)), (3, .bool (spanB e 0)), (61, .bool (k == 7))] (by kernel_rfl) rfl ?_
        refine VL_end (by kernel_rfl) ?_
        refine VQ_next ?_
        refine VC_eq k 7 (by kernel_rfl) (fun h25 => ?_) (fun h25 => ?_)
        ·refine VC_region ?_
         refine VL_pure 2 [1, 66] [(1, .pointer (some ⟨b1, 0, none⟩)), (66, .bool (spanB e 0))] (by kernel_rfl) rfl ?_
         refine VL_bool (spanB e 0) (fun bV => [(1, .pointer (some ⟨b1, 0, none⟩)), (66, .bool bV)]) rfl (fun hg31 => ?_) (fun hg31 => ?_)
         ·refine VL_pure 3 [1, 66, 67] [(1, .pointer (some ⟨b1, 0, none⟩)), (66, .bool true), (67, .pointer (some ⟨b1, 3, none⟩))] (by kernel_rfl) rfl ?_
          refine VL_load (d := 68) (t := 3) (a := ⟨b1, 3, none⟩) (v := .int .i64 h) (by kernel_rfl) (by kernel_rfl) (Loads.own1 ho1 (by kernel_rfl) (by rfl)) ?_
          refine VL_pure 7 [1, 71] [(1, .pointer (some ⟨b1, 0, none⟩)), (71, .bool (h == 0))] (by kernel_rfl) rfl ?_
          refine VL_beq h 0 (fun bV => [(1, .pointer (some ⟨b1, 0, none⟩)), (71, .bool bV)]) rfl (fun hg32 => ?_) (fun hg32 => ?_)
          ·refine VL_pure 8 [1, 71, 72] [(1, .pointer (some ⟨b1, 0, none⟩)), (71, .bool true), (72, .pointer (some ⟨b1, 4, none⟩))] (by kernel_rfl) rfl ?_
           refine VL_load (d := 73) (t := 3) (a := ⟨b1, 4, none⟩) (v := .int .i64 b) (by kernel_rfl) (by kernel_rfl) (Loads.own1 ho1 (by kernel_rfl) (by rfl)) ?_
           refine VL_pure 12 [1, 76] [(1, .pointer (some ⟨b1, 0, none⟩)), (76, .bool (b == 0))] (by kernel_rfl) rfl ?_
           refine VL_beq b 0 (fun bV => [(1, .pointer (some ⟨b1, 0, none⟩)), (76, .bool bV)]) rfl (fun hg33 => ?_) (fun hg33 => ?_)
           ·refine VL_pure 13 [76, 77] [(76, .bool true), (77, .pointer (some ⟨b1, 5, none⟩))] (by kernel_rfl) rfl ?_
            refine VL_load (d := 78) (t := 3) (a := ⟨b1, 5, none⟩) (v := .int .i64 t) (by kernel_rfl) (by kernel_rfl) (Loads.own1 ho1 (by kernel_rfl) (by rfl)) ?_
            refine VL_pure 17 [3] [(3, .bool (t == 0))] (by kernel_rfl) rfl ?_
            refine VL_end (by kernel_rfl) ?_
            refine VQ_block_normal ?_
            refine VQ_next ?_
            refine VC_seq ?_
            refine VC_seq ?_
            refine VC_region ?_
            refine VL_pure 2 [82] [(82, .bool (!(t == 0)))] (by kernel_rfl) rfl ?_
            refine VL_end (by kernel_rfl) ?_
            refine VQ_next ?_
            refine VC_cond (!(t == 0)) (by kernel_rfl) (fun h26 => ?_) (fun h26 => ?_)
            ·try simp only [Bool.and_eq_true, Bool.or_eq_true, decide_eq_true_eq, Bool.not_eq_true', decide_eq_false_iff_not, Bool.and_eq_false_iff, Bool.or_eq_false_iff, beq_iff_eq, bne_iff_ne, beq_eq_false_iff_ne, bne_eq_false_iff_eq, Bool.not_eq_eq_eq_not, Bool.not_true, Bool.not_false] at h26
             refine VC_seq ?_
             refine VC_region ?_
             refine VL_pure 1 [2] [(2, .int .i64 11)] (by kernel_rfl) rfl ?_
             refine VL_end (by kernel_rfl) ?_
             refine VQ_next ?_
             refine VC_ret ?_
             refine VQ_then_ret ?_
             refine VQ_ret1 (.int .i64 11) (.inr rfl) rfl rfl ?_
             exact ⟨congrArg (Value.int .i64) (rightC_11 (by first | omega | (simp [spanB, fromB] at * <;> omega)) (by unfold fineC; simp [spanB, fromB] at * <;> omega)).symm, hS⟩
            ·try simp only [Bool.and_eq_true, Bool.or_eq_true, decide_eq_true_eq, Bool.not_eq_true', decide_eq_false_iff_not, Bool.and_eq_false_iff, Bool.or_eq_false_iff, beq_iff_eq, bne_iff_ne, beq_eq_false_iff_ne, bne_eq_false_iff_eq, Bool.not_eq_eq_eq_not, Bool.not_true, Bool.not_false] at h26
             refine VC_skip ?_
             refine VQ_next ?_
             refine VC_seq ?_
             refine VC_region ?_
             refine VL_pure 1 [2] [(2, .int .i64 0)] (by kernel_rfl) rfl ?_
             refine VL_end (by kernel_rfl) ?_
             refine VQ_next ?_
             refine VC_ret ?_
             refine VQ_ret1 (.int .i64 0) (.inr rfl) rfl rfl ?_
             exact ⟨congrArg (Value.int .i64) (rightC_0 (by first | omega | (simp [spanB, fromB] at * <;> omega)) (by unfold fineC; simp [spanB, fromB] at * <;> omega)).symm, hS⟩
           ·refine VL_pure 17 [3] [(3, .bool false)] (by kernel_rfl) rfl ?_
            refine VL_end (by kernel_rfl) ?_
            refine VQ_block_normal ?_
            refine VQ_next ?_
            refine VC_seq ?_
            refine VC_seq ?_
            refine VC_region ?_
            refine VL_pure 2 [82] [(82, .bool true)] (by kernel_rfl) rfl ?_
            refine VL_end (by kernel_rfl) ?_
            refine VQ_next ?_
            refine VC_true (by kernel_rfl) ?_
            refine VC_seq ?_
            refine VC_region ?_
            refine VL_pure 1 [2] [(2, .int .i64 11)] (by kernel_rfl) rfl ?_
            refine VL_end (by kernel_rfl) ?_
            refine VQ_next ?_
            refine VC_ret ?_
            refine VQ_then_ret ?_
            refine VQ_ret1 (.int .i64 11) (.inr rfl) rfl rfl ?_
            exact ⟨congrArg (Value.int .i64) (rightC_11 (by first | omega | (simp [spanB, fromB] at * <;> omega)) (by unfold fineC; simp [spanB, fromB] at * <;> omega)).symm, hS⟩
          ·refine VL_pure 17 [3] [(3, .bool false)] (by kernel_rfl) rfl ?_
           refine VL_end (by kernel_rfl) ?_
           refine VQ_block_normal ?_
           refine VQ_next ?_
           refine VC_seq ?_
           refine VC_seq ?_
           refine VC_region ?_
           refine VL_pure 2 [82] [(82, .bool true)] (by kernel_rfl) rfl ?_
           refine VL_end (by kernel_rfl) ?_
           refine VQ_next ?_
           refine VC_true (by kernel_rfl) ?_
           refine VC_seq ?_
           refine VC_region ?_
           refine VL_pure 1 [2] [(2, .int .i64 11)] (by kernel_rfl) rfl ?_
           refine VL_end (by kernel_rfl) ?_
           refine VQ_next ?_
           refine VC_ret ?_
           refine VQ_then_ret ?_
           refine VQ_ret1 (.int .i64 11) (.inr rfl) rfl rfl ?_
           exact ⟨congrArg (Value.int .i64) (rightC_11 (by first | omega | (simp [spanB, fromB] at * <;> omega)) (by unfold fineC; simp [spanB, fromB] at * <;> omega)).symm, hS⟩
         ·refine VL_pure 17 [3] [(3, .bool false)] (by kernel_rfl) rfl ?_
          refine VL_end (by kernel_rfl) ?_
          refine VQ_block_normal ?_
          refine VQ_next ?_
          refine VC_seq ?_
          refine VC_seq ?_
          refine VC_region ?_
          refine VL_pure 2 [82] [(82, .bool true)] (by kernel_rfl) rfl ?_
          refine VL_end (by kernel_rfl) ?_
          refine VQ_next ?_
          refine VC_true (by kernel_rfl) ?_
          refine VC_seq ?_
          refine VC_region ?_
          refine VL_pure 1 [2] [(2, .int .i64 11)] (by kernel_rfl) rfl ?_
          refine VL_end (by kernel_rfl) ?_
          refine VQ_next ?_
          refine VC_ret ?_
          refine VQ_then_ret ?_
          refine VQ_ret1 (.int .i64 11) (.inr rfl) rfl rfl ?_
          exact ⟨congrArg (Value.int .i64) (rightC_11 (by first | omega | (simp [spanB, fromB] at * <;> omega)) (by unfold fineC; simp [spanB, fromB] at * <;> omega)).symm, hS⟩
        ·refine VC_seq ?_
         refine VC_region ?_
         refine VL_pure 1 [2] [(2, .int .i64 12)] (by kernel_rfl) rfl ?_
         refine VL_end (by kernel_rfl) ?_
         refine VQ_next ?_
         refine VC_ret ?_
         refine VQ_block_ret ?_
         refine VQ_then_ret ?_
         refine VQ_ret1 (.int .i64 12) (.inr rfl) rfl rfl ?_
         exact ⟨congrArg (Value.int .i64) (rightC_12 (by first | omega | (simp [spanB, fromB] at * <;> omega))).symm, hS⟩
   ·refine VC_region ?_
    refine VL_pure 2 [1, 3, 13, 14] [(1, .pointer (some ⟨b1, 0, none⟩)), (3, .bool (spanB e 0)), (13, .int .i64 k), (14, .bool (k == 4))] (by kernel_rfl) rfl ?_
    refine VL_end (by kernel_rfl) ?_
    refine VQ_next ?_
    refine VC_eq k 4 (by kernel_rfl) (fun h27 => ?_) (fun h27 => ?_)
    ·refine VC_region ?_
     refine VL_pure 2 [1, 19] [(1, .pointer (some ⟨b1, 0, none⟩)), (19, .bool (spanB e 0))] (by kernel_rfl) rfl ?_
     refine VL_bool (spanB e 0) (fun bV => [(1, .pointer (some ⟨b1, 0, none⟩)), (19, .bool bV)]) rfl (fun hg34 => ?_) (fun hg34 => ?_)
     ·refine VL_pure 3 [1, 19, 20] [(1, .pointer (some ⟨b1, 0, none⟩)), (19, .bool true), (20, .pointer (some ⟨b1, 3, none⟩))] (by kernel_rfl) rfl ?_
      refine VL_load (d := 21) (t := 3) (a := ⟨b1, 3, none⟩) (v := .int .i64 h) (by kernel_rfl) (by kernel_rfl) (Loads.own1 ho1 (by kernel_rfl) (by rfl)) ?_
      refine VL_pure 5 [1, 19, 21, 22] [(1, .pointer (some ⟨b1, 0, none⟩)), (19, .bool true), (21, .int .i64 h), (22, .pointer (some ⟨b1, 1, none⟩))] (by kernel_rfl) rfl ?_
      refine VL_load (d := 23) (t := 3) (a := ⟨b1, 1, none⟩) (v := .int .i64 p) (by kernel_rfl) (by kernel_rfl) (Loads.own1 ho1 (by kernel_rfl) (by rfl)) ?_
      have hzs10 := hS.size
      have hzl9 := ho1.lt
      refine VL_call (d := 24) (f := 66) (args := #[.int .i64 h, .int .i64 p]) (by kernel_rfl) (by kernel_rfl) (by kernel_rfl) Try.call66 (span_any h p _) ?_
      rintro _ w10 ⟨rfl, hc9⟩
      replace hS := Step.trans hS hc9
      replace ho1 := ho1.no hc9
      refine VL_pure 9 [1, 26] [(1, .pointer (some ⟨b1, 0, none⟩)), (26, .bool (spanB h p))] (by kernel_rfl) rfl ?_
      refine VL_bool (spanB h p) (fun bV => [(1, .pointer (some ⟨b1, 0, none⟩)), (26, .bool bV)]) rfl (fun hg35 => ?_) (fun hg35 => ?_)
      ·refine VL_pure 10 [1, 26, 27] [(1, .pointer (some ⟨b1, 0, none⟩)), (26, .bool true), (27, .pointer (some ⟨b1, 4, none⟩))] (by kernel_rfl) rfl ?_
       refine VL_load (d := 28) (t := 3) (a := ⟨b1, 4, none⟩) (v := .int .i64 b) (by kernel_rfl) (by kernel_rfl) (Loads.own1 ho1 (by kernel_rfl) (by rfl)) ?_
       have hzs11 := hS.size
       have hzl10 := ho1.lt
       refine VL_call (d := 29) (f := 66) (args := #[.int .i64 b, .int .i64 0]) (by kernel_rfl) (by kernel_rfl) (by kernel_rfl) Try.call66 (span_any b 0 _) ?_
       rintro _ w11 ⟨rfl, hc10⟩
       replace hS := Step.trans hS hc10
       replace ho1 := ho1.no hc10
       refine VL_pure 14 [1, 31] [(1, .pointer (some ⟨b1, 0, none⟩)), (31, .bool (spanB b 0))] (by kernel_rfl) rfl ?_
       refine VL_bool (spanB b 0) (fun bV => [(1, .pointer (some ⟨b1, 0, none⟩)), (31, .bool bV)]) rfl (fun hg36 => ?_) (fun hg36 => ?_)
       ·refine VL_pure 15 [31, 32] [(31, .bool true), (32, .pointer (some ⟨b1, 5, none⟩))] (by kernel_rfl) rfl ?_
        refine VL_load (d := 33) (t := 3) (a := ⟨b1, 5, none⟩) (v := .int .i64 t) (by kernel_rfl) (by kernel_rfl) (Loads.own1 ho1 (by kernel_rfl) (by rfl)) ?_
        refine VL_pure 19 [3] [(3, .bool (t == 0))] (by kernel_rfl) rfl ?_
        refine VL_end (by kernel_rfl) ?_
        refine VQ_block_normal ?_
        refine VQ_next ?_
        refine VC_seq ?_
        refine VC_seq ?_
        refine VC_region ?_
        refine VL_pure 2 [82] [(82, .bool (!(t == 0)))] (by kernel_rfl) rfl ?_
        refine VL_end (by kernel_rfl) ?_
        refine VQ_next ?_
        refine VC_cond (!(t == 0)) (by kernel_rfl) (fun h28 => ?_) (fun h28 => ?_)
        ·try simp only [Bool.and_eq_true, Bool.or_eq_true, decide_eq_true_eq, Bool.not_eq_true', decide_eq_false_iff_not, Bool.and_eq_false_iff, Bool.or_eq_false_iff, beq_iff_eq, bne_iff_ne, beq_eq_false_iff_ne, bne_eq_false_iff_eq, Bool.not_eq_eq_eq_not, Bool.not_true, Bool.not_false] at h28
         refine VC_seq ?_
         refine VC_region ?_
         refine VL_pure 1 [2] [(2, .int .i64 11)] (by kernel_rfl) rfl ?_
         refine VL_end (by kernel_rfl) ?_
         refine VQ_next ?_
         refine VC_ret ?_
         refine VQ_then_ret ?_
         refine VQ_ret1 (.int .i64 11) (.inr rfl) rfl rfl ?_
         exact ⟨congrArg (Value.int .i64) (rightC_11 (by first | omega | (simp [spanB, fromB] at * <;> omega)) (by unfold fineC; simp [spanB, fromB] at * <;> omega)).symm, hS⟩
        ·try simp only [Bool.and_eq_true, Bool.or_eq_true, decide_eq_true_eq, Bool.not_eq_true', decide_eq_false_iff_not, Bool.and_eq_false_iff, Bool.or_eq_false_iff, beq_iff_eq, bne_iff_ne, beq_eq_false_iff_ne, bne_eq_false_iff_eq, Bool.not_eq_eq_eq_not, Bool.not_true, Bool.not_false] at h28
         refine VC_skip ?_
         refine VQ_next ?_
         refine VC_seq ?_
         refine VC_region ?_
         refine VL_pure 1 [2] [(2, .int .i64 0)] (by kernel_rfl) rfl ?_
         refine VL_end (by kernel_rfl) ?_
         refine VQ_next ?_
         refine VC_ret ?_
         refine VQ_ret1 (.int .i64 0) (.inr rfl) rfl rfl ?_
         exact ⟨congrArg (Value.int .i64) (rightC_0 (by first | omega | (simp [spanB, fromB] at * <;> omega)) (by unfold fineC; simp [spanB, fromB] at * <;> omega)).symm, hS⟩
       ·refine VL_pure 19 [3] [(3, .bool false)] (by kernel_rfl) rfl ?_
        refine VL_end (by kernel_rfl) ?_
        refine VQ_block_normal ?_
        refine VQ_next ?_
        refine VC_seq ?_
        refine VC_seq ?_
        refine VC_region ?_
        refine VL_pure 2 [82] [(82, .bool true)] (by kernel_rfl) rfl ?_
        refine VL_end (by kernel_rfl) ?_
        refine VQ_next ?_
        refine VC_true (by kernel_rfl) ?_
        refine VC_seq ?_
        refine VC_region ?_
        refine VL_pure 1 [2] [(2, .int .i64 11)] (by kernel_rfl) rfl ?_
        refine VL_end (by kernel_rfl) ?_
        refine VQ_next ?_
        refine VC_ret ?_
        refine VQ_then_ret ?_
        refine VQ_ret1 (.int .i64 11) (.inr rfl) rfl rfl ?_
        exact ⟨congrArg (Value.int .i64) (rightC_11 (by first | omega | (simp [spanB, fromB] at * <;> omega)) (by unfold fineC; simp [spanB, fromB] at * <;> omega)).symm, hS⟩
      ·refine VL_pure 19 [3] [(3, .bool false)] (by kernel_rfl) rfl ?_
       refine VL_end (by kernel_rfl) ?_
       refine VQ_block_normal ?_
       refine VQ_next ?_
       refine VC_seq ?_
       refine VC_seq ?_
       refine VC_region ?_
       refine VL_pure 2 [82] [(82, .bool true)] (by kernel_rfl) rfl ?_
       refine VL_end (by kernel_rfl) ?_
       refine VQ_next ?_
       refine VC_true (by kernel_rfl) ?_
       refine VC_seq ?_
       refine VC_region ?_
       refine VL_pure 1 [2] [(2, .int .i64 11)] (by kernel_rfl) rfl ?_
       refine VL_end (by kernel_rfl) ?_
       refine VQ_next ?_
       refine VC_ret ?_
       refine VQ_then_ret ?_
       refine VQ_ret1 (.int .i64 11) (.inr rfl) rfl rfl ?_
       exact ⟨congrArg (Value.int .i64) (rightC_11 (by first | omega | (simp [spanB, fromB] at * <;> omega)) (by unfold fineC; simp [spanB, fromB] at * <;> omega)).symm, hS⟩
     ·refine VL_pure 19 [3] [(3, .bool false)] (by kernel_rfl) rfl ?_
      refine VL_end (by kernel_rfl) ?_
      refine VQ_block_normal ?_
      refine VQ_next ?_
      refine VC_seq ?_
      refine VC_seq ?_
      refine VC_region ?_
      refine VL_pure 2 [82] [(82, .bool true)] (by kernel_rfl) rfl ?_
      refine VL_end (by kernel_rfl) ?_
      refine VQ_next ?_
      refine VC_true (by kernel_rfl) ?_
      refine VC_seq ?_
      refine VC_region ?_
      refine VL_pure 1 [2] [(2, .int .i64 11)] (by kernel_rfl) rfl ?_
      refine VL_end (by kernel_rfl) ?_
      refine VQ_next ?_
      refine VC_ret ?_
      refine VQ_then_ret ?_
      refine VQ_ret1 (.int .i64 11) (.inr rfl) rfl rfl ?_
      exact ⟨congrArg (Value.int .i64) (rightC_11 (by first | omega | (simp [spanB, fromB] at * <;> omega)) (by unfold fineC; simp [spanB, fromB] at * <;> omega)).symm, hS⟩
    ·refine VC_seq ?_
     refine VC_region ?_
     refine VL_pure 2 [1, 3, 13, 36] [(1, .pointer (some ⟨b1, 0, none⟩)), (3, .bool (spanB e 0)), (13, .int .i64 k), (36, .bool (k == 5))] (by kernel_rfl) rfl ?_
     refine VL_end (by kernel_rfl) ?_
     refine VQ_next ?_
     refine VC_eq k 5 (by kernel_rfl) (fun h29 => ?_) (fun h29 => ?_)
     ·refine VC_region ?_
      refine VL_pure 2 [1, 39] [(1, .pointer (some ⟨b1, 0, none⟩)), (39, .bool (spanB e 0))] (by kernel_rfl) rfl ?_
      refine VL_bool (spanB e 0) (fun bV => [(1, .pointer (some ⟨b1, 0, none⟩)), (39, .bool bV)]) rfl (fun hg37 => ?_) (fun hg37 => ?_)
      ·refine VL_pure 3 [1, 39, 40] [(1, .pointer (some ⟨b1, 0, none⟩)), (39, .bool true), (40, .pointer (some ⟨b1, 3, none⟩))] (by kernel_rfl) rfl ?_
       refine VL_load (d := 41) (t := 3) (a := ⟨b1, 3, none⟩) (v := .int .i64 h) (by kernel_rfl) (by kernel_rfl) (Loads.own1 ho1 (by kernel_rfl) (by rfl)) ?_
       refine VL_pure 7 [1, 44] [(1, .pointer (some ⟨b1, 0, none⟩)), (44, .bool (h == 0))] (by kernel_rfl) rfl ?_
       refine VL_beq h 0 (fun bV => [(1, .pointer (some ⟨b1, 0, none⟩)), (44, .bool bV)]) rfl (fun hg38 => ?_) (fun hg38 => ?_)
       ·refine VL_pure 8 [1, 44, 45] [(1, .pointer (some ⟨b1, 0, none⟩)), (44, .bool true), (45, .pointer (some ⟨b1, 4, none⟩))] (by kernel_rfl) rfl ?_
        refine VL_load (d := 46) (t := 3) (a := ⟨b1, 4, none⟩) (v := .int .i64 b) (by kernel_rfl) (by kernel_rfl) (Loads.own1 ho1 (by kernel_rfl) (by rfl)) ?_
        refine VL_pure 12 [1, 49] [(1, .pointer (some ⟨b1, 0, none⟩)), (49, .bool (b == 0))] (by kernel_rfl) rfl ?_
        refine VL_beq b 0 (fun bV => [(1, .pointer (some ⟨b1, 0, none⟩)), (49, .bool bV)]) rfl (fun hg39 => ?_) (fun hg39 => ?_)
        ·refine VL_pure 13 [1, 49, 50] [(1, .pointer (some ⟨b1, 0, none⟩)), (49, .bool true), (50, .pointer (some ⟨b1, 5, none⟩))] (by kernel_rfl) rfl ?_
         refine VL_load (d := 51) (t := 3) (a := ⟨b1, 5, none⟩) (v := .int .i64 t) (by kernel_rfl) (by kernel_rfl) (Loads.own1 ho1 (by kernel_rfl) (by rfl)) ?_
         refine VL_pure 16 [1, 49, 53] [(1, .pointer (some ⟨b1, 0, none⟩)), (49, .bool true), (53, .bool (t == 0))] (by kernel_rfl) rfl ?_
         refine VL_beq t 0 (fun bV => [(1, .pointer (some ⟨b1, 0, none⟩)), (49, .bool true), (53, .bool bV)]) rfl (fun hg40 => ?_) (fun hg40 => ?_)
         ·refine VL_pure 24 [3] [(3, .bool true)] (by kernel_rfl) rfl ?_
          refine VL_end (by kernel_rfl) ?_
          refine VQ_block_normal ?_
          refine VQ_next ?_
          refine VC_seq ?_
          refine VC_seq ?_
          refine VC_region ?_
          refine VL_pure 2 [82] [(82, .bool false)] (by kernel_rfl) rfl ?_
          refine VL_end (by kernel_rfl) ?_
          refine VQ_next ?_
          refine VC_false (by kernel_rfl) ?_
          refine VC_skip ?_
          refine VQ_next ?_
          refine VC_seq ?_
          refine VC_region ?_
          refine VL_pure 1 [2] [(2, .int .i64 0)] (by kernel_rfl) rfl ?_
          refine VL_end (by kernel_rfl) ?_
          refine VQ_next ?_
          refine VC_ret ?_
          refine VQ_ret1 (.int .i64 0) (.inr rfl) rfl rfl ?_
          exact ⟨congrArg (Value.int .i64) (rightC_0 (by first | omega | (simp [spanB, fromB] at * <;> omega)) (by unfold fineC; simp [spanB, fromB] at * <;> omega)).symm, hS⟩
         ·refine VL_pure 17 [1, 49, 53, 54] [(1, .pointer (some ⟨b1, 0, none⟩)), (49, .bool true), (53, .bool false), (54, .pointer (some ⟨b1, 5, none⟩))] (by kernel_rfl) rfl ?_
          refine VL_load (d := 55) (t := 3) (a := ⟨b1, 5, none⟩) (v := .int .i64 t) (by kernel_rfl) (by kernel_rfl) (Loads.own1 ho1 (by kernel_rfl) (by rfl)) ?_
          refine VL_pure 19 [49, 53, 55, 56] [(49, .bool true), (53, .bool false), (55, .int .i64 t), (56, .pointer (some ⟨b1, 1, none⟩))] (by kernel_rfl) rfl ?_
          refine VL_load (d := 57) (t := 3) (a := ⟨b1, 1, none⟩) (v := .int .i64 p) (by kernel_rfl) (by kernel_rfl) (Loads.own1 ho1 (by kernel_rfl) (by rfl)) ?_
          have hzs12 := hS.size
          have hzl11 := ho1.lt
          refine VL_call (d := 58) (f := 66) (args := #[.int .i64 t, .int .i64 p]) (by kernel_rfl) (by kernel_rfl) (by kernel_rfl) Try.call66 (span_any t p _) ?_
          rintro _ w12 ⟨rfl, hc11⟩
          replace hS := Step.trans hS hc11
          replace ho1 := ho1.no hc11
          refine VL_pure 24 [3] [(3, .bool (spanB t p))] (by kernel_rfl) rfl ?_
          refine VL_end (by kernel_rfl) ?_
          refine VQ_block_normal ?_
          refine VQ_next ?_
          refine VC_seq ?_
          refine VC_seq ?_
          refine VC_region ?_
          refine VL_pure 2 [82] [(82, .bool (!(spanB t p)))] (by kernel_rfl) rfl ?_
          refine VL_end (by kernel_rfl) ?_
          refine VQ_next ?_
          refine VC_cond (!(spanB t p)) (by kernel_rfl) (fun h30 => ?_) (fun h30 => ?_)
          ·try simp only [Bool.and_eq_true, Bool.or_eq_true, decide_eq_true_eq, Bool.not_eq_true', decide_eq_false_iff_not, Bool.and_eq_false_iff, Bool.or_eq_false_iff, beq_iff_eq, bne_iff_ne, beq_eq_false_iff_ne, bne_eq_false_iff_eq, Bool.not_eq_eq_eq_not, Bool.not_true, Bool.not_false] at h30
           refine VC_seq ?_
           refine VC_region ?_
           refine VL_pure 1 [2] [(2, .int .i64 11)] (by kernel_rfl) rfl ?_
           refine VL_end (by kernel_rfl) ?_
           refine VQ_next ?_
           refine VC_ret ?_
           refine VQ_then_ret ?_
           refine VQ_ret1 (.int .i64 11) (.inr rfl) rfl rfl ?_
           exact ⟨congrArg (Value.int .i64) (rightC_11 (by first | omega | (simp [spanB, fromB] at * <;> omega)) (by unfold fineC; simp [spanB, fromB] at * <;> omega)).symm, hS⟩
          ·try simp only [Bool.and_eq_true, Bool.or_eq_true, decide_eq_true_eq, Bool.not_eq_true', decide_eq_false_iff_not, Bool.and_eq_false_iff, Bool.or_eq_false_iff, beq_iff_eq, bne_iff_ne, beq_eq_false_iff_ne, bne_eq_false_iff_eq, Bool.not_eq_eq_eq_not, Bool.not_true, Bool.not_false] at h30
           refine VC_skip ?_
           refine VQ_next ?_
           refine VC_seq ?_
           refine VC_region ?_
           refine VL_pure 1 [2] [(2, .int .i64 0)] (by kernel_rfl) rfl ?_
           refine VL_end (by kernel_rfl) ?_
           refine VQ_next ?_
           refine VC_ret ?_
           refine VQ_ret1 (.int .i64 0) (.inr rfl) rfl rfl ?_
           exact ⟨congrArg (Value.int .i64) (rightC_0 (by first | omega | (simp [spanB, fromB] at * <;> omega)) (by unfold fineC; simp [spanB, fromB] at * <;> omega)).symm, hS⟩
        ·refine VL_pure 24 [3] [(3, .bool false)] (by kernel_rfl) rfl ?_
         refine VL_end (by kernel_rfl) ?_
         refine VQ_block_normal ?_
         refine VQ_next ?_
         refine VC_seq ?_
         refine VC_seq ?_
         refine VC_region ?_
         refine VL_pure 2 [82] [(82, .bool true)] (by kernel_rfl) rfl ?_
         refine VL_end (by kernel_rfl) ?_
         refine VQ_next ?_
         refine VC_true (by kernel_rfl) ?_
         refine VC_seq ?_
         refine VC_region ?_
         refine VL_pure 1 [2] [(2, .int .i64 11)] (by kernel_rfl) rfl ?_
         refine VL_end (by kernel_rfl) ?_
         refine VQ_next ?_
         refine VC_ret ?_
         refine VQ_then_ret ?_
         refine VQ_ret1 (.int .i64 11) (.inr rfl) rfl rfl ?_
         exact ⟨congrArg (Value.int .i64) (rightC_11 (by first | omega | (simp [spanB, fromB] at * <;> omega)) (by unfold fineC; simp [spanB, fromB] at * <;> omega)).symm, hS⟩
       ·refine VL_pure 24 [3] [(3, .bool false)] (by kernel_rfl) rfl ?_
        refine VL_end (by kernel_rfl) ?_
        refine VQ_block_normal ?_
        refine VQ_next ?_
        refine VC_seq ?_
        refine VC_seq ?_
        refine VC_region ?_
        refine VL_pure 2 [82] [(82, .bool true)] (by kernel_rfl) rfl ?_
        refine VL_end (by kernel_rfl) ?_
        refine VQ_next ?_
        refine VC_true (by kernel_rfl) ?_
        refine VC_seq ?_
        refine VC_region ?_
        refine VL_pure 1 [2] [(2, .int .i64 11)] (by kernel_rfl) rfl ?_
        refine VL_end (by kernel_rfl) ?_
        refine VQ_next ?_
        refine VC_ret ?_
        refine VQ_then_ret ?_
        refine VQ_ret1 (.int .i64 11) (.inr rfl) rfl rfl ?_
        exact ⟨congrArg (Value.int .i64) (rightC_11 (by first | omega | (simp [spanB, fromB] at * <;> omega)) (by unfold fineC; simp [spanB, fromB] at * <;> omega)).symm, hS⟩
      ·refine VL_pure 24 [3] [(3, .bool false)] (by kernel_rfl) rfl ?_
       refine VL_end (by kernel_rfl) ?_
       refine VQ_block_normal ?_
       refine VQ_next ?_
       refine VC_seq ?_
       refine VC_seq ?_
       refine VC_region ?_
       refine VL_pure 2 [82] [(82, .bool true)] (by kernel_rfl) rfl ?_
       refine VL_end (by kernel_rfl) ?_
       refine VQ_next ?_
       refine VC_true (by kernel_rfl) ?_
       refine VC_seq ?_
       refine VC_region ?_
       refine VL_pure 1 [2] [(2, .int .i64 11)] (by kernel_rfl) rfl ?_
       refine VL_end (by kernel_rfl) ?_
       refine VQ_next ?_
       refine VC_ret ?_
       refine VQ_then_ret ?_
       refine VQ_ret1 (.int .i64 11) (.inr rfl) rfl rfl ?_
       exact ⟨congrArg (Value.int .i64) (rightC_11 (by first | omega | (simp [spanB, fromB] at * <;> omega)) (by unfold fineC; simp [spanB, fromB] at * <;> omega)).symm, hS⟩
     ·refine VC_seq ?_
      refine VC_seq ?_
      refine VC_region ?_
      refine VL_pure 2 [1, 3, 13, 61] [(1, .pointer (some ⟨b1, 0, none⟩)), (3, .bool (spanB e 0)), (13, .int .i64 k), (61, .bool (k == 1))] (by kernel_rfl) rfl ?_
      refine VL_end (by kernel_rfl) ?_
      refine VQ_next ?_
      refine VC_eq k 1 (by kernel_rfl) (fun h31 => ?_) (fun h31 => ?_)
      ·refine VC_skip ?_
       refine VQ_next ?_
       refine VC_eq k 1 (by kernel_rfl) (fun h32 => ?_) (fun h32 => ?_)
       ·refine VC_region ?_
        refine VL_pure 2 [1, 66] [(1, .pointer (some ⟨b1, 0, none⟩)), (66, .bool (spanB e 0))] (by kernel_rfl) rfl ?_
        refine VL_bool (spanB e 0) (fun bV => [(1, .pointer (some ⟨b1, 0, none⟩)), (66, .bool bV)]) rfl (fun hg41 => ?_) (fun hg41 => ?_)
        ·refine VL_pure 3 [1, 66, 67] [(1, .pointer (some ⟨b1, 0, none⟩)), (66, .bool true), (67, .pointer (some ⟨b1, 3, none⟩))] (by kernel_rfl) rfl ?_
         refine VL_load (d := 68) (t := 3) (a := ⟨b1, 3, none⟩) (v := .int .i64 h) (by kernel_rfl) (by kernel_rfl) (Loads.own1 ho1 (by kernel_rfl) (by rfl)) ?_
         refine VL_pure 7 [1, 71] [(1, .pointer (some ⟨b1, 0, none⟩)), (71, .bool (h == 0))] (by kernel_rfl) rfl ?_
         refine VL_beq h 0 (fun bV => [(1, .pointer (some ⟨b1, 0, none⟩)), (71, .bool bV)]) rfl (fun hg42 => ?_) (fun hg42 => ?_)
         ·refine VL_pure 8 [1, 71, 72] [(1, .pointer (some ⟨b1, 0, none⟩)), (71, .bool true), (72, .pointer (some ⟨b1, 4, none⟩))] (by kernel_rfl) rfl ?_
          refine VL_load (d := 73) (t := 3) (a := ⟨b1, 4, none⟩) (v := .int .i64 b) (by kernel_rfl) (by kernel_rfl) (Loads.own1 ho1 (by kernel_rfl) (by rfl)) ?_
          refine VL_pure 12 [1, 76] [(1, .pointer (some ⟨b1, 0, none⟩)), (76, .bool (b == 0))] (by kernel_rfl) rfl ?_
          refine VL_beq b 0 (fun bV => [(1, .pointer (some ⟨b1, 0, none⟩)), (76, .bool bV)]) rfl (fun hg43 => ?_) (fun hg43 => ?_)
          ·refine VL_pure 13 [76, 77] [(76, .bool true), (77, .pointer (some ⟨b1, 5, none⟩))] (by kernel_rfl) rfl ?_
           refine VL_load (d := 78) (t := 3) (a := ⟨b1, 5, none⟩) (v := .int .i64 t) (by kernel_rfl) (by kernel_rfl) (Loads.own1 ho1 (by kernel_rfl) (by rfl)) ?_
           refine VL_pure 17 [3] [(3, .bool (t == 0))] (by kernel_rfl) rfl ?_
           refine VL_end (by kernel_rfl) ?_
           refine VQ_block_normal ?_
           refine VQ_next ?_
           refine VC_seq ?_
           refine VC_seq ?_
           refine VC_region ?_
           refine VL_pure 2 [82] [(82, .bool (!(t == 0)))] (by kernel_rfl) rfl ?_
           refine VL_end (by kernel_rfl) ?_
           refine VQ_next ?_
           refine VC_cond (!(t == 0)) (by kernel_rfl) (fun h33 => ?_) (fun h33 => ?_)
           ·try simp only [Bool.and_eq_true, Bool.or_eq_true, decide_eq_true_eq, Bool.not_eq_true', decide_eq_false_iff_not, Bool.and_eq_false_iff, Bool.or_eq_false_iff, beq_iff_eq, bne_iff_ne, beq_eq_false_iff_ne, bne_eq_false_iff_eq, Bool.not_eq_eq_eq_not, Bool.not_true, Bool.not_false] at h33
            refine VC_seq ?_
            refine VC_region ?_
            refine VL_pure 1 [2] [(2, .int .i64 11)] (by kernel_rfl) rfl ?_
            refine VL_end (by kernel_rfl) ?_
            refine VQ_next ?_
            refine VC_ret ?_
            refine VQ_then_ret ?_
            refine VQ_ret1 (.int .i64 11) (.inr rfl) rfl rfl ?_
            exact ⟨congrArg (Value.int .i64) (rightC_11 (by first | omega | (simp [spanB, fromB] at * <;> omega)) (by unfold fineC; simp [spanB, fromB] at * <;> omega)).symm, hS⟩
           ·try simp only [Bool.and_eq_true, Bool.or_eq_true, decide_eq_true_eq, Bool.not_eq_true', decide_eq_false_iff_not, Bool.and_eq_false_iff, Bool.or_eq_false_iff, beq_iff_eq, bne_iff_ne, beq_eq_false_iff_ne, bne_eq_false_iff_eq, Bool.not_eq_eq_eq_not, Bool.not_true, Bool.not_false] at h33
            refine VC_skip ?_
            refine VQ_next ?_
            refine VC_seq ?_
            refine VC_region ?_
            refine VL_pure 1 [2] [(2, .int .i64 0)] (by kernel_rfl) rfl ?_
            refine VL_end (by kernel_rfl) ?_
            refine VQ_next ?_
            refine VC_ret ?_
            refine VQ_ret1 (.int .i64 0) (.inr rfl) rfl rfl ?_
            exact ⟨congrArg (Value.int .i64) (rightC_0 (by first | omega | (simp [spanB, fromB] at * <;> omega)) (by unfold fineC; simp [spanB, fromB] at * <;> omega)).symm, hS⟩
          ·refine VL_pure 17 [3] [(3, .bool false)] (by kernel_rfl) rfl ?_
           refine VL_end (by kernel_rfl) ?_
           refine VQ_block_normal ?_
           refine VQ_next ?_
           refine VC_seq ?_
           refine VC_seq ?_
           refine VC_region ?_
           refine VL_pure 2 [82] [(82, .bool true)] (by kernel_rfl) rfl ?_
           refine VL_end (by kernel_rfl) ?_
           refine VQ_next ?_
           refine VC_true (by kernel_rfl) ?_
           refine VC_seq ?_
           refine VC_region ?_
           refine VL_pure 1 [2] [(2, .int .i64 11)] (by kernel_rfl) rfl ?_
           refine VL_end (by kernel_rfl) ?_
           refine VQ_next ?_
           refine VC_ret ?_
           refine VQ_then_ret ?_
           refine VQ_ret1 (.int .i64 11) (.inr rfl) rfl rfl ?_
           exact ⟨congrArg (Value.int .i64) (rightC_11 (by first | omega | (simp [spanB, fromB] at * <;> omega)) (by unfold fineC; simp [spanB, fromB] at * <;> omega)).symm, hS⟩
         ·refine VL_pure 17 [3] [(3, .bool false)] (by kernel_rfl) rfl ?_
          refine VL_end (by kernel_rfl) ?_
          refine VQ_block_normal ?_
          refine VQ_next ?_
          refine VC_seq ?_
          refine VC_seq ?_
          refine VC_region ?_
          refine VL_pure 2 [82] [(82, .bool true)] (by kernel_rfl) rfl ?_
          refine VL_end (by kernel_rfl) ?_
          refine VQ_next ?_
          refine VC_true (by kernel_rfl) ?_
          refine VC_seq ?_
          refine VC_region ?_
          refine VL_pure 1 [2] [(2, .int .i64 11)] (by kernel_rfl) rfl ?_
          refine VL_end (by kernel_rfl) ?_
          refine VQ_next ?_
          refine VC_ret ?_
          refine VQ_then_ret ?_
          refine VQ_ret1 (.int .i64 11) (.inr rfl) rfl rfl ?_
          exact ⟨congrArg (Value.int .i64) (rightC_11 (by first | omega | (simp [spanB, fromB] at * <;> omega)) (by unfold fineC; simp [spanB, fromB] at * <;> omega)).symm, hS⟩
        ·refine VL_pure 17 [3] [(3, .bool false)] (by kernel_rfl) rfl ?_
         refine VL_end (by kernel_rfl) ?_
         refine VQ_block_normal ?_
         refine VQ_next ?_
         refine VC_seq ?_
         refine VC_seq ?_
         refine VC_region ?_
         refine VL_pure 2 [82] [(82, .bool true)] (by kernel_rfl) rfl ?_
         refine VL_end (by kernel_rfl) ?_
         refine VQ_next ?_
         refine VC_true (by kernel_rfl) ?_
         refine VC_seq ?_
         refine VC_region ?_
         refine VL_pure 1 [2] [(2, .int .i64 11)] (by kernel_rfl) rfl ?_
         refine VL_end (by kernel_rfl) ?_
         refine VQ_next ?_
         refine VC_ret ?_
         refine VQ_then_ret ?_
         refine VQ_ret1 (.int .i64 11) (.inr rfl) rfl rfl ?_
         exact ⟨congrArg (Value.int .i64) (rightC_11 (by first | omega | (simp [spanB, fromB] at * <;> omega)) (by unfold fineC; simp [spanB, fromB] at * <;> omega)).symm, hS⟩
       ·refine VC_seq ?_
        refine VC_region ?_
        refine VL_pure 1 [2] [(2, .int .i64 12)] (by kernel_rfl) rfl ?_
        refine VL_end (by kernel_rfl) ?_
        refine VQ_next ?_
        refine VC_ret ?_
        refine VQ_block_ret ?_
        refine VQ_then_ret ?_
        refine VQ_ret1 (.int .i64 12) (.inr rfl) rfl rfl ?_
        exact ⟨congrArg (Value.int .i64) (rightC_12 (by first | omega | (simp [spanB, fromB] at * <;> omega))).symm, hS⟩
      ·refine VC_seq ?_
       refine VC_region ?_
       refine VL_pure 2 [1, 3, 13, 61] [(1, .pointer (some ⟨b1, 0, none⟩)), (3, .bool (spanB e 0)), (13, .int .i64 k), (61, .bool (k == 6))] (by kernel_rfl) rfl ?_
       refine VL_end (by kernel_rfl) ?_
       refine VQ_next ?_
       refine VC_eq k 6 (by kernel_rfl) (fun h34 => ?_) (fun h34 => ?_)
       ·refine VC_skip ?_
        refine VQ_next ?_
        refine VC_eq k 6 (by kernel_rfl) (fun h35 => ?_) (fun h35 => ?_)
        ·refine VC_region ?_
         refine VL_pure 2 [1, 66] [(1, .pointer (some ⟨b1, 0, none⟩)), (66, .bool (spanB e 0))] (by kernel_rfl) rfl ?_
         refine VL_bool (spanB e 0) (fun bV => [(1, .pointer (some ⟨b1, 0, none⟩)), (66, .bool bV)]) rfl (fun hg44 => ?_) (fun hg44 => ?_)
         ·refine VL_pure 3 [1, 66, 67] [(1, .pointer (some ⟨b1, 0, none⟩)), (66, .bool true), (67, .pointer (some ⟨b1, 3, none⟩))] (by kernel_rfl) rfl ?_
          refine VL_load (d := 68) (t := 3) (a := ⟨b1, 3, none⟩) (v := .int .i64 h) (by kernel_rfl) (by kernel_rfl) (Loads.own1 ho1 (by kernel_rfl) (by rfl)) ?_
          refine VL_pure 7 [1, 71] [(1, .pointer (some ⟨b1, 0, none⟩)), (71, .bool (h == 0))] (by kernel_rfl) rfl ?_
          refine VL_beq h 0 (fun bV => [(1, .pointer (some ⟨b1, 0, none⟩)), (71, .bool bV)]) rfl (fun hg45 => ?_) (fun hg45 => ?_)
          ·refine VL_pure 8 [1, 71, 72] [(1, .pointer (some ⟨b1, 0, none⟩)), (71, .bool true), (72, .pointer (some ⟨b1, 4, none⟩))] (by kernel_rfl) rfl ?_
           refine VL_load (d := 73) (t := 3) (a := ⟨b1, 4, none⟩) (v := .int .i64 b) (by kernel_rfl) (by kernel_rfl) (Loads.own1 ho1 (by kernel_rfl) (by rfl)) ?_
           refine VL_pure 12 [1, 76] [(1, .pointer (some ⟨b1, 0, none⟩)), (76, .bool (b == 0))] (by kernel_rfl) rfl ?_
           refine VL_beq b 0 (fun bV => [(1, .pointer (some ⟨b1, 0, none⟩)), (76, .bool bV)]) rfl (fun hg46 => ?_) (fun hg46 => ?_)
           ·refine VL_pure 13 [76, 77] [(76, .bool true), (77, .pointer (some ⟨b1, 5, none⟩))] (by kernel_rfl) rfl ?_
            refine VL_load (d := 78) (t := 3) (a := ⟨b1, 5, none⟩) (v := .int .i64 t) (by kernel_rfl) (by kernel_rfl) (Loads.own1 ho1 (by kernel_rfl) (by rfl)) ?_
            refine VL_pure 17 [3] [(3, .bool (t == 0))] (by kernel_rfl) rfl ?_
            refine VL_end (by kernel_rfl) ?_
            refine VQ_block_normal ?_
            refine VQ_next ?_
            refine VC_seq ?_
            refine VC_seq ?_
            refine VC_region ?_
            refine VL_pure 2 [82] [(82, .bool (!(t == 0)))] (by kernel_rfl) rfl ?_
            refine VL_end (by kernel_rfl) ?_
            refine VQ_next ?_
            refine VC_cond (!(t == 0)) (by kernel_rfl) (fun h36 => ?_) (fun h36 => ?_)
            ·try simp only [Bool.and_eq_true, Bool.or_eq_true, decide_eq_true_eq, Bool.not_eq_true', decide_eq_false_iff_not, Bool.and_eq_false_iff, Bool.or_eq_false_iff, beq_iff_eq, bne_iff_ne, beq_eq_false_iff_ne, bne_eq_false_iff_eq, Bool.not_eq_eq_eq_not, Bool.not_true, Bool.not_false] at h36
             refine VC_seq ?_
             refine VC_region ?_
             refine VL_pure 1 [2] [(2, .int .i64 11)] (by kernel_rfl) rfl ?_
             refine VL_end (by kernel_rfl) ?_
             refine VQ_next ?_
             refine VC_ret ?_
             refine VQ_then_ret ?_
             refine VQ_ret1 (.int .i64 11) (.inr rfl) rfl rfl ?_
             exact ⟨congrArg (Value.int .i64) (rightC_11 (by first | omega | (simp [spanB, fromB] at * <;> omega)) (by unfold fineC; simp [spanB, fromB] at * <;> omega)).symm, hS⟩
            ·try simp only [Bool.and_eq_true, Bool.or_eq_true, decide_eq_true_eq, Bool.not_eq_true', decide_eq_false_iff_not, Bool.and_eq_false_iff, Bool.or_eq_false_iff, beq_iff_eq, bne_iff_ne, beq_eq_false_iff_ne, bne_eq_false_iff_eq, Bool.not_eq_eq_eq_not, Bool.not_true, Bool.not_false] at h36
             refine VC_skip ?_
             refine VQ_next ?_
             refine VC_seq ?_
             refine VC_region ?_
             refine VL_pure 1 [2] [(2, .int .i64 0)] (by kernel_rfl) rfl ?_
             refine VL_end (by kernel_rfl) ?_
             refine VQ_next ?_
             refine VC_ret ?_
             refine VQ_ret1 (.int .i64 0) (.inr rfl) rfl rfl ?_
             exact ⟨congrArg (Value.int .i64) (rightC_0 (by first | omega | (simp [spanB, fromB] at * <;> omega)) (by unfold fineC; simp [spanB, fromB] at * <;> omega)).symm, hS⟩
           ·refine VL_pure 17 [3] [(3, .bool false)] (by kernel_rfl) rfl ?_
            refine VL_end (by kernel_rfl) ?_
            refine VQ_block_normal ?_
            refine VQ_next ?_
            refine VC_seq ?_
            refine VC_seq ?_
            refine VC_region ?_
            refine VL_pure 2 [82] [(82, .bool true)] (by kernel_rfl) rfl ?_
            refine VL_end (by kernel_rfl) ?_
            refine VQ_next ?_
            refine VC_true (by kernel_rfl) ?_
            refine VC_seq ?_
            refine VC_region ?_
            refine VL_pure 1 [2] [(2, .int .i64 11)] (by kernel_rfl) rfl ?_
            refine VL_end (by kernel_rfl) ?_
            refine VQ_next ?_
            refine VC_ret ?_
            refine VQ_then_ret ?_
            refine VQ_ret1 (.int .i64 11) (.inr rfl) rfl rfl ?_
            exact ⟨congrArg (Value.int .i64) (rightC_11 (by first | omega | (simp [spanB, fromB] at * <;> omega)) (by unfold fineC; simp [spanB, fromB] at * <;> omega)).symm, hS⟩
          ·refine VL_pure 17 [3] [(3, .bool false)] (by kernel_rfl) rfl ?_
           refine VL_end (by kernel_rfl) ?_
           refine VQ_block_normal ?_
           refine VQ_next ?_
           refine VC_seq ?_
           refine VC_seq ?_
           refine VC_region ?_
           refine VL_pure 2 [82] [(82, .bool true)] (by kernel_rfl) rfl ?_
           refine VL_end (by kernel_rfl) ?_
           refine VQ_next ?_
           refine VC_true (by kernel_rfl) ?_
           refine VC_seq ?_
           refine VC_region ?_
           refine VL_pure 1 [2] [(2, .int .i64 11)] (by kernel_rfl) rfl ?_
           refine VL_end (by kernel_rfl) ?_
           refine VQ_next ?_
           refine VC_ret ?_
           refine VQ_then_ret ?_
           refine VQ_ret1 (.int .i64 11) (.inr rfl) rfl rfl ?_
           exact ⟨congrArg (Value.int .i64) (rightC_11 (by first | omega | (simp [spanB, fromB] at * <;> omega)) (by unfold fineC; simp [spanB, fromB] at * <;> omega)).symm, hS⟩
         ·refine VL_pure 17 [3] [(3, .bool false)] (by kernel_rfl) rfl ?_
          refine VL_end (by kernel_rfl) ?_
          refine VQ_block_normal ?_
          refine VQ_next ?_
          refine VC_seq ?_
          refine VC_seq ?_
          refine VC_region ?_
          refine VL_pure 2 [82] [(82, .bool true)] (by kernel_rfl) rfl ?_
          refine VL_end (by kernel_rfl) ?_
          refine VQ_next ?_
          refine VC_true (by kernel_rfl) ?_
          refine VC_seq ?_
          refine VC_region ?_
          refine VL_pure 1 [2] [(2, .int .i64 11)] (by kernel_rfl) rfl ?_
          refine VL_end (by kernel_rfl) ?_
          refine VQ_next ?_
          refine VC_ret ?_
          refine VQ_then_ret ?_
          refine VQ_ret1 (.int .i64 11) (.inr rfl) rfl rfl ?_
          exact ⟨congrArg (Value.int .i64) (rightC_11 (by first | omega | (simp [spanB, fromB] at * <;> omega)) (by unfold fineC; simp [spanB, fromB] at * <;> omega)).symm, hS⟩
        ·refine VC_seq ?_
         refine VC_region ?_
         refine VL_pure 1 [2] [(2, .int .i64 12)] (by kernel_rfl) rfl ?_
         refine VL_end (by kernel_rfl) ?_
         refine VQ_next ?_
         refine VC_ret ?_
         refine VQ_block_ret ?_
         refine VQ_then_ret ?_
         refine VQ_ret1 (.int .i64 12) (.inr rfl) rfl rfl ?_
         exact ⟨congrArg (Value.int .i64) (rightC_12 (by first | omega | (simp [spanB, fromB] at * <;> omega))).symm, hS⟩
       ·refine VC_region ?_
        refine VL_pure 2 [1, 3, 61] [(1, .pointer (some ⟨b1, 0, none⟩)), (3, .bool (spanB e 0)), (61, .bool (k == 7))] (by kernel_rfl) rfl ?_
        refine VL_end (by kernel_rfl) ?_
        refine VQ_next ?_
        refine VC_eq k 7 (by kernel_rfl) (fun h37 => ?_) (fun h37 => ?_)
        ·refine VC_region ?_
         refine VL_pure 2 [1, 66] [(1, .pointer (some ⟨b1, 0, none⟩)), (66, .bool (spanB e 0))] (by kernel_rfl) rfl ?_
         refine VL_bool (spanB e 0) (fun bV => [(1, .pointer (some ⟨b1, 0, none⟩)), (66, .bool bV)]) rfl (fun hg47 => ?_) (fun hg47 => ?_)
         ·refine VL_pure 3 [1, 66, 67] [(1, .pointer (some ⟨b1, 0, none⟩)), (66, .bool true), (67, .pointer (some ⟨b1, 3, none⟩))] (by kernel_rfl) rfl ?_
          refine VL_load (d := 68) (t := 3) (a := ⟨b1, 3, none⟩) (v := .int .i64 h) (by kernel_rfl) (by kernel_rfl) (Loads.own1 ho1 (by kernel_rfl) (by rfl)) ?_
          refine VL_pure 7 [1, 71] [(1, .pointer (some ⟨b1, 0, none⟩)), (71, .bool (h == 0))] (by kernel_rfl) rfl ?_
          refine VL_beq h 0 (fun bV => [(1, .pointer (some ⟨b1, 0, none⟩)), (71, .bool bV)]) rfl (fun hg48 => ?_) (fun hg48 => ?_)
          ·refine VL_pure 8 [1, 71, 72] [(1, .pointer (some ⟨b1, 0, none⟩)), (71, .bool true), (72, .pointer (some ⟨b1, 4, none⟩))] (by kernel_rfl) rfl ?_
           refine VL_load (d := 73) (t := 3) (a := ⟨b1, 4, none⟩) (v := .int .i64 b) (by kernel_rfl) (by kernel_rfl) (Loads.own1 ho1 (by kernel_rfl) (by rfl)) ?_
           refine VL_pure 12 [1, 76] [(1, .pointer (some ⟨b1, 0, none⟩)), (76, .bool (b == 0))] (by kernel_rfl) rfl ?_
           refine VL_beq b 0 (fun bV => [(1, .pointer (some ⟨b1, 0, none⟩)), (76, .bool bV)]) rfl (fun hg49 => ?_) (fun hg49 => ?_)
           ·refine VL_pure 13 [76, 77] [(76, .bool true), (77, .pointer (some ⟨b1, 5, none⟩))] (by kernel_rfl) rfl ?_
            refine VL_load (d := 78) (t := 3) (a := ⟨b1, 5, none⟩) (v := .int .i64 t) (by kernel_rfl) (by kernel_rfl) (Loads.own1 ho1 (by kernel_rfl) (by rfl)) ?_
            refine VL_pure 17 [3] [(3, .bool (t == 0))] (by kernel_rfl) rfl ?_
            refine VL_end (by kernel_rfl) ?_
            refine VQ_block_normal ?_
            refine VQ_next ?_
            refine VC_seq ?_
            refine VC_seq ?_
            refine VC_region ?_
            refine VL_pure 2 [82] [(82, .bool (!(t == 0)))] (by kernel_rfl) rfl ?_
            refine VL_end (by kernel_rfl) ?_
            refine VQ_next ?_
            refine VC_cond (!(t == 0)) (by kernel_rfl) (fun h38 => ?_) (fun h38 => ?_)
            ·try simp only [Bool.and_eq_true, Bool.or_eq_true, decide_eq_true_eq, Bool.not_eq_true', decide_eq_false_iff_not, Bool.and_eq_false_iff, Bool.or_eq_false_iff, beq_iff_eq, bne_iff_ne, beq_eq_false_iff_ne, bne_eq_false_iff_eq, Bool.not_eq_eq_eq_not, Bool.not_true, Bool.not_false] at h38
             refine VC_seq ?_
             refine VC_region ?_
             refine VL_pure 1 [2] [(2, .int .i64 11)] (by kernel_rfl) rfl ?_
             refine VL_end (by kernel_rfl) ?_
             refine VQ_next ?_
             refine VC_ret ?_
             refine VQ_then_ret ?_
             refine VQ_ret1 (.int .i64 11) (.inr rfl) rfl rfl ?_
             exact ⟨congrArg (Value.int .i64) (rightC_11 (by first | omega | (simp [spanB, fromB] at * <;> omega)) (by unfold fineC; simp [spanB, fromB] at * <;> omega)).symm, hS⟩
            ·try simp only [Bool.and_eq_true, Bool.or_eq_true, decide_eq_true_eq, Bool.not_eq_true', decide_eq_false_iff_not, Bool.and_eq_false_iff, Bool.or_eq_false_iff, beq_iff_eq, bne_iff_ne, beq_eq_false_iff_ne, bne_eq_false_iff_eq, Bool.not_eq_eq_eq_not, Bool.not_true, Bool.not_false] at h38
             refine VC_skip ?_
             refine VQ_next ?_
             refine VC_seq ?_
             refine VC_region ?_
             refine VL_pure 1 [2] [(2, .int .i64 0)] (by kernel_rfl) rfl ?_
             refine VL_end (by kernel_rfl) ?_
             refine VQ_next ?_
             refine VC_ret ?_
             refine VQ_ret1 (.int .i64 0) (.inr rfl) rfl rfl ?_
             exact ⟨congrArg (Value.int .i64) (rightC_0 (by first | omega | (simp [spanB, fromB] at * <;> omega)) (by unfold fineC; simp [spanB, fromB] at * <;> omega)).symm, hS⟩
           ·refine VL_pure 17 [3] [(3, .bool false)] (by kernel_rfl) rfl ?_
            refine VL_end (by kernel_rfl) ?_
            refine VQ_block_normal ?_
            refine VQ_next ?_
            refine VC_seq ?_
            refine VC_seq ?_
            refine VC_region ?_
            refine VL_pure 2 [82] [(82, .bool true)] (by kernel_rfl) rfl ?_
            refine VL_end (by kernel_rfl) ?_
            refine VQ_next ?_
            refine VC_true (by kernel_rfl) ?_
            refine VC_seq ?_
            refine VC_region ?_
            refine VL_pure 1 [2] [(2, .int .i64 11)] (by kernel_rfl) rfl ?_
            refine VL_end (by kernel_rfl) ?_
            refine VQ_next ?_
            refine VC_ret ?_
            refine VQ_then_ret ?_
            refine VQ_ret1 (.int .i64 11) (.inr rfl) rfl rfl ?_
            exact ⟨congrArg (Value.int .i64) (rightC_11 (by first | omega | (simp [spanB, fromB] at * <;> omega)) (by unfold fineC; simp [spanB, fromB] at * <;> omega)).symm, hS⟩
          ·refine VL_pure 17 [3] [(3, .bool false)] (by kernel_rfl) rfl ?_
           refine VL_end (by kernel_rfl) ?_
           refine VQ_block_normal ?_
           refine VQ_next ?_
           refine VC_seq ?_
           refine VC_seq ?_
           refine VC_region ?_
           refine VL_pure 2 [82] [(82, .bool true)] (by kernel_rfl) rfl ?_
           refine VL_end (by kernel_rfl) ?_
           refine VQ_next ?_
           refine VC_true (by kernel_rfl) ?_
           refine VC_seq ?_
           refine VC_region ?_
           refine VL_pure 1 [2] [(2, .int .i64 11)] (by kernel_rfl) rfl ?_
           refine VL_end (by kernel_rfl) ?_
           refine VQ_next ?_
           refine VC_ret ?_
           refine VQ_then_ret ?_
           refine VQ_ret1 (.int .i64 11) (.inr rfl) rfl rfl ?_
           exact ⟨congrArg (Value.int .i64) (rightC_11 (by first | omega | (simp [spanB, fromB] at * <;> omega)) (by unfold fineC; simp [spanB, fromB] at * <;> omega)).symm, hS⟩
         ·refine VL_pure 17 [3] [(3, .bool false)] (by kernel_rfl) rfl ?_
          refine VL_end (by kernel_rfl) ?_
          refine VQ_block_normal ?_
          refine VQ_next ?_
          refine VC_seq ?_
          refine VC_seq ?_
          refine VC_region ?_
          refine VL_pure 2 [82] [(82, .bool true)] (by kernel_rfl) rfl ?_
          refine VL_end (by kernel_rfl) ?_
          refine VQ_next ?_
          refine VC_true (by kernel_rfl) ?_
          refine VC_seq ?_
          refine VC_region ?_
          refine VL_pure 1 [2] [(2, .int .i64 11)] (by kernel_rfl) rfl ?_
          refine VL_end (by kernel_rfl) ?_
          refine VQ_next ?_
          refine VC_ret ?_
          refine VQ_then_ret ?_
          refine VQ_ret1 (.int .i64 11) (.inr rfl) rfl rfl ?_
          exact ⟨congrArg (Value.int .i64) (rightC_11 (by first | omega | (simp [spanB, fromB] at * <;> omega)) (by unfold fineC; simp [spanB, fromB] at * <;> omega)).symm, hS⟩
        ·refine VC_seq ?_
         refine VC_region ?_
         refine VL_pure 1 [2] [(2, .int .i64 12)] (by kernel_rfl) rfl ?_
         refine VL_end (by kernel_rfl) ?_
         refine VQ_next ?_
         refine VC_ret ?_
         refine VQ_block_ret ?_
         refine VQ_then_ret ?_
         refine VQ_ret1 (.int .i64 12) (.inr rfl) rfl rfl ?_
         exact ⟨congrArg (Value.int .i64) (rightC_12 (by first | omega | (simp [spanB, fromB] at * <;> omega))).symm, hS⟩
 ·refine VL_pure 9 [1, 3] [(1, .pointer (some ⟨b1, 0, none⟩)), (3, .bool false)] (by kernel_rfl) rfl ?_
  refine VL_end (by kernel_rfl) ?_
  refine VQ_next ?_
  refine VC_seq ?_
  refine VC_seq ?_
  refine VC_region ?_
  refine VL_pure 1 [1, 3, 12] [(1, .pointer (some ⟨b1, 0, none⟩)), (3, .bool false), (12, .pointer (some ⟨b1, 0, none⟩))] (by kernel_rfl) rfl ?_
  refine VL_load (d := 13) (t := 3) (a := ⟨b1, 0, none⟩) (v := .int .i64 k) (by kernel_rfl) (by kernel_rfl) (Loads.own1 ho1 (by kernel_rfl) (by rfl)) ?_
  refine VL_end (by kernel_rfl) ?_
  refine VQ_next ?_
  refine VC_block ?_
  refine VC_seq ?_
  refine VC_seq ?_
  refine VC_region ?_
  refine VL_pure 2 [1, 3, 13, 14] [(1, .pointer (some ⟨b1, 0, none⟩)), (3, .bool false), (13, .int .i64 k), (14, .bool (k == 2))] (by kernel_rfl) rfl ?_
  refine VL_end (by kernel_rfl) ?_
  refine VQ_next ?_
  refine VC_eq k 2 (by kernel_rfl) (fun h39 => ?_) (fun h39 => ?_)
  ·refine VC_skip ?_
   refine VQ_next ?_
   refine VC_eq k 2 (by kernel_rfl) (fun h40 => ?_) (fun h40 => ?_)
   ·refine VC_region ?_
    refine VL_pure 19 [3] [(3, .bool false)] (by kernel_rfl) rfl ?_
    refine VL_end (by kernel_rfl) ?_
    refine VQ_block_normal ?_
    refine VQ_next ?_
    refine VC_seq ?_
    refine VC_seq ?_
    refine VC_region ?_
    refine VL_pure 2 [82] [(82, .bool true)] (by kernel_rfl) rfl ?_
    refine VL_end (by kernel_rfl) ?_
    refine VQ_next ?_
    refine VC_true (by kernel_rfl) ?_
    refine VC_seq ?_
    refine VC_region ?_
    refine VL_pure 1 [2] [(2, .int .i64 11)] (by kernel_rfl) rfl ?_
    refine VL_end (by kernel_rfl) ?_
    refine VQ_next ?_
    refine VC_ret ?_
    refine VQ_then_ret ?_
    refine VQ_ret1 (.int .i64 11) (.inr rfl) rfl rfl ?_
    exact ⟨congrArg (Value.int .i64) (rightC_11 (by first | omega | (simp [spanB, fromB] at * <;> omega)) (by unfold fineC; simp [spanB, fromB] at * <;> omega)).symm, hS⟩
   ·refine VC_seq ?_
    refine VC_region ?_
    refine VL_pure 2 [1, 3, 13, 36] [(1, .pointer (some ⟨b1, 0, none⟩)), (3, .bool false), (13, .int .i64 k), (36, .bool (k == 5))] (by kernel_rfl) rfl ?_
    refine VL_end (by kernel_rfl) ?_
    refine VQ_next ?_
    refine VC_eq k 5 (by kernel_rfl) (fun h41 => ?_) (fun h41 => ?_)
    ·refine VC_region ?_
     refine VL_pure 24 [3] [(3, .bool false)] (by kernel_rfl) rfl ?_
     refine VL_end (by kernel_rfl) ?_
     refine VQ_block_normal ?_
     refine VQ_next ?_
     refine VC_seq ?_
     refine VC_seq ?_
     refine VC_region ?_
     refine VL_pure 2 [82] [(82, .bool true)] (by kernel_rfl) rfl ?_
     refine VL_end (by kernel_rfl) ?_
     refine VQ_next ?_
     refine VC_true (by kernel_rfl) ?_
     refine VC_seq ?_
     refine VC_region ?_
     refine VL_pure 1 [2] [(2, .int .i64 11)] (by kernel_rfl) rfl ?_
     refine VL_end (by kernel_rfl) ?_
     refine VQ_next ?_
     refine VC_ret ?_
     refine VQ_then_ret ?_
     refine VQ_ret1 (.int .i64 11) (.inr rfl) rfl rfl ?_
     exact ⟨congrArg (Value.int .i64) (rightC_11 (by first | omega | (simp [spanB, fromB] at * <;> omega)) (by unfold fineC; simp [spanB, fromB] at * <;> omega)).symm, hS⟩
    ·refine VC_seq ?_
     refine VC_seq ?_
     refine VC_region ?_
     refine VL_pure 2 [1, 3, 13, 61] [(1, .pointer (some ⟨b1, 0, none⟩)), (3, .bool false), (13, .int .i64 k), (61, .bool (k == 1))] (by kernel_rfl) rfl ?_
     refine VL_end (by kernel_rfl) ?_
     refine VQ_next ?_
     refine VC_eq k 1 (by kernel_rfl) (fun h42 => ?_) (fun h42 => ?_)
     ·refine VC_skip ?_
      refine VQ_next ?_
      refine VC_eq k 1 (by kernel_rfl) (fun h43 => ?_) (fun h43 => ?_)
      ·refine VC_region ?_
       refine VL_pure 17 [3] [(3, .bool false)] (by kernel_rfl) rfl ?_
       refine VL_end (by kernel_rfl) ?_
       refine VQ_block_normal ?_
       refine VQ_next ?_
       refine VC_seq ?_
       refine VC_seq ?_
       refine VC_region ?_
       refine VL_pure 2 [82] [(82, .bool true)] (by kernel_rfl) rfl ?_
       refine VL_end (by kernel_rfl) ?_
       refine VQ_next ?_
       refine VC_true (by kernel_rfl) ?_
       refine VC_seq ?_
       refine VC_region ?_
       refine VL_pure 1 [2] [(2, .int .i64 11)] (by kernel_rfl) rfl ?_
       refine VL_end (by kernel_rfl) ?_
       refine VQ_next ?_
       refine VC_ret ?_
       refine VQ_then_ret ?_
       refine VQ_ret1 (.int .i64 11) (.inr rfl) rfl rfl ?_
       exact ⟨congrArg (Value.int .i64) (rightC_11 (by first | omega | (simp [spanB, fromB] at * <;> omega)) (by unfold fineC; simp [spanB, fromB] at * <;> omega)).symm, hS⟩
      ·refine VC_seq ?_
       refine VC_region ?_
       refine VL_pure 1 [2] [(2, .int .i64 12)] (by kernel_rfl) rfl ?_
       refine VL_end (by kernel_rfl) ?_
       refine VQ_next ?_
       refine VC_ret ?_
       refine VQ_block_ret ?_
       refine VQ_then_ret ?_
       refine VQ_ret1 (.int .i64 12) (.inr rfl) rfl rfl ?_
       exact ⟨congrArg (Value.int .i64) (rightC_12 (by first | omega | (simp [spanB, fromB] at * <;> omega))).symm, hS⟩
     ·refine VC_seq ?_
      refine VC_region ?_
      refine VL_pure 2 [1, 3, 13, 61] [(1, .pointer (some ⟨b1, 0, none⟩)), (3, .bool false), (13, .int .i64 k), (61, .bool (k == 6))] (by kernel_rfl) rfl ?_
      refine VL_end (by kernel_rfl) ?_
      refine VQ_next ?_
      refine VC_eq k 6 (by kernel_rfl) (fun h44 => ?_) (fun h44 => ?_)
      ·refine VC_skip ?_
       refine VQ_next ?_
       refine VC_eq k 6 (by kernel_rfl) (fun h45 => ?_) (fun h45 => ?_)
       ·refine VC_region ?_
        refine VL_pure 17 [3] [(3, .bool false)] (by kernel_rfl) rfl ?_
        refine VL_end (by kernel_rfl) ?_
        refine VQ_block_normal ?_
        refine VQ_next ?_
        refine VC_seq ?_
        refine VC_seq ?_
        refine VC_region ?_
        refine VL_pure 2 [82] [(82, .bool true)] (by kernel_rfl) rfl ?_
        refine VL_end (by kernel_rfl) ?_
        refine VQ_next ?_
        refine VC_true (by kernel_rfl) ?_
        refine VC_seq ?_
        refine VC_region ?_
        refine VL_pure 1 [2] [(2, .int .i64 11)] (by kernel_rfl) rfl ?_
        refine VL_end (by kernel_rfl) ?_
        refine VQ_next ?_
        refine VC_ret ?_
        refine VQ_then_ret ?_
        refine VQ_ret1 (.int .i64 11) (.inr rfl) rfl rfl ?_
        exact ⟨congrArg (Value.int .i64) (rightC_11 (by first | omega | (simp [spanB, fromB] at * <;> omega)) (by unfold fineC; simp [spanB, fromB] at * <;> omega)).symm, hS⟩
       ·refine VC_seq ?_
        refine VC_region ?_
        refine VL_pure 1 [2] [(2, .int .i64 12)] (by kernel_rfl) rfl ?_
        refine VL_end (by kernel_rfl) ?_
        refine VQ_next ?_
        refine VC_ret ?_
        refine VQ_block_ret ?_
        refine VQ_then_ret ?_
        refine VQ_ret1 (.int .i64 12) (.inr rfl) rfl rfl ?_
        exact ⟨congrArg (Value.int .i64) (rightC_12 (by first | omega | (simp [spanB, fromB] at * <;> omega))).symm, hS⟩
      ·refine VC_region ?_
       refine VL_pure 2 [1, 3, 61] [(1, .pointer (some ⟨b1, 0, none⟩)), (3, .bool false), (61, .bool (k == 7))] (by kernel_rfl) rfl ?_
       refine VL_end (by kernel_rfl) ?_
       refine VQ_next ?_
       refine VC_eq k 7 (by kernel_rfl) (fun h46 => ?_) (fun h46 => ?_)
       ·refine VC_region ?_
        refine VL_pure 17 [3] [(3, .bool false)] (by kernel_rfl) rfl ?_
        refine VL_end (by kernel_rfl) ?_
        refine VQ_block_normal ?_
        refine VQ_next ?_
        refine VC_seq ?_
        refine VC_seq ?_
        refine VC_region ?_
        refine VL_pure 2 [82] [(82, .bool true)] (by kernel_rfl) rfl ?_
        refine VL_end (by kernel_rfl) ?_
        refine VQ_next ?_
        refine VC_true (by kernel_rfl) ?_
        refine VC_seq ?_
        refine VC_region ?_
        refine VL_pure 1 [2] [(2, .int .i64 11)] (by kernel_rfl) rfl ?_
        refine VL_end (by kernel_rfl) ?_
        refine VQ_next ?_
        refine VC_ret ?_
        refine VQ_then_ret ?_
        refine VQ_ret1 (.int .i64 11) (.inr rfl) rfl rfl ?_
        exact ⟨congrArg (Value.int .i64) (rightC_11 (by first | omega | (simp [spanB, fromB] at * <;> omega)) (by unfold fineC; simp [spanB, fromB] at * <;> omega)).symm, hS⟩
       ·refine VC_seq ?_
        refine VC_region ?_
        refine VL_pure 1 [2] [(2, .int .i64 12)] (by kernel_rfl) rfl ?_
        refine VL_end (by kernel_rfl) ?_
        refine VQ_next ?_
        refine VC_ret ?_
        refine VQ_block_ret ?_
        refine VQ_then_ret ?_
        refine VQ_ret1 (.int .i64 12) (.inr rfl) rfl rfl ?_
        exact ⟨congrArg (Value.int .i64) (rightC_12 (by first | omega | (simp [spanB, fromB] at * <;> omega))).symm, hS⟩
  ·refine VC_seq ?_
   refine VC_region ?_
   refine VL_pure 2 [1, 3, 13, 14] [(1, .pointer (some ⟨b1, 0, none⟩)), (3, .bool false), (13, .int .i64 k), (14, .bool (k == 3))] (by kernel_rfl) rfl ?_
   refine VL_end (by kernel_rfl) ?_
   refine VQ_next ?_
   refine VC_eq k 3 (by kernel_rfl) (fun h47 => ?_) (fun h47 => ?_)
   ·refine VC_skip ?_
    refine VQ_next ?_
    refine VC_eq k 3 (by kernel_rfl) (fun h48 => ?_) (fun h48 => ?_)
    ·refine VC_region ?_
     refine VL_pure 19 [3] [(3, .bool false)] (by kernel_rfl) rfl ?_
     refine VL_end (by kernel_rfl) ?_
     refine VQ_block_normal ?_
     refine VQ_next ?_
     refine VC_seq ?_
     refine VC_seq ?_
     refine VC_region ?_
     refine VL_pure 2 [82] [(82, .bool true)] (by kernel_rfl) rfl ?_
     refine VL_end (by kernel_rfl) ?_
     refine VQ_next ?_
     refine VC_true (by kernel_rfl) ?_
     refine VC_seq ?_
     refine VC_region ?_
     refine VL_pure 1 [2] [(2, .int .i64 11)] (by kernel_rfl) rfl ?_
     refine VL_end (by kernel_rfl) ?_
     refine VQ_next ?_
     refine VC_ret ?_
     refine VQ_then_ret ?_
     refine VQ_ret1 (.int .i64 11) (.inr rfl) rfl rfl ?_
     exact ⟨congrArg (Value.int .i64) (rightC_11 (by first | omega | (simp [spanB, fromB] at * <;> omega)) (by unfold fineC; simp [spanB, fromB] at * <;> omega)).symm, hS⟩
    ·refine VC_seq ?_
     refine VC_region ?_
     refine VL_pure 2 [1, 3, 13, 36] [(1, .pointer (some ⟨b1, 0, none⟩)), (3, .bool false), (13, .int .i64 k), (36, .bool (k == 5))] (by kernel_rfl) rfl ?_
     refine VL_end (by kernel_rfl) ?_
     refine VQ_next ?_
     refine VC_eq k 5 (by kernel_rfl) (fun h49 => ?_) (fun h49 => ?_)
     ·refine VC_region ?_
      refine VL_pure 24 [3] [(3, .bool false)] (by kernel_rfl) rfl ?_
      refine VL_end (by kernel_rfl) ?_
      refine VQ_block_normal ?_
      refine VQ_next ?_
      refine VC_seq ?_
      refine VC_seq ?_
      refine VC_region ?_
      refine VL_pure 2 [82] [(82, .bool true)] (by kernel_rfl) rfl ?_
      refine VL_end (by kernel_rfl) ?_
      refine VQ_next ?_
      refine VC_true (by kernel_rfl) ?_
      refine VC_seq ?_
      refine VC_region ?_
      refine VL_pure 1 [2] [(2, .int .i64 11)] (by kernel_rfl) rfl ?_
      refine VL_end (by kernel_rfl) ?_
      refine VQ_next ?_
      refine VC_ret ?_
      refine VQ_then_ret ?_
      refine VQ_ret1 (.int .i64 11) (.inr rfl) rfl rfl ?_
      exact ⟨congrArg (Value.int .i64) (rightC_11 (by first | omega | (simp [spanB, fromB] at * <;> omega)) (by unfold fineC; simp [spanB, fromB] at * <;> omega)).symm, hS⟩
     ·refine VC_seq ?_
      refine VC_seq ?_
      refine VC_region ?_
      refine VL_pure 2 [1, 3, 13, 61] [(1, .pointer (some ⟨b1, 0, none⟩)), (3, .bool false), (13, .int .i64 k), (61, .bool (k == 1))] (by kernel_rfl) rfl ?_
      refine VL_end (by kernel_rfl) ?_
      refine VQ_next ?_
      refine VC_eq k 1 (by kernel_rfl) (fun h50 => ?_) (fun h50 => ?_)
      ·refine VC_skip ?_
       refine VQ_next ?_
       refine VC_eq k 1 (by kernel_rfl) (fun h51 => ?_) (fun h51 => ?_)
       ·refine VC_region ?_
        refine VL_pure 17 [3] [(3, .bool false)] (by kernel_rfl) rfl ?_
        refine VL_end (by kernel_rfl) ?_
        refine VQ_block_normal ?_
        refine VQ_next ?_
        refine VC_seq ?_
        refine VC_seq ?_
        refine VC_region ?_
        refine VL_pure 2 [82] [(82, .bool true)] (by kernel_rfl) rfl ?_
        refine VL_end (by kernel_rfl) ?_
        refine VQ_next ?_
        refine VC_true (by kernel_rfl) ?_
        refine VC_seq ?_
        refine VC_region ?_
        refine VL_pure 1 [2] [(2, .int .i64 11)] (by kernel_rfl) rfl ?_
        refine VL_end (by kernel_rfl) ?_
        refine VQ_next ?_
        refine VC_ret ?_
        refine VQ_then_ret ?_
        refine VQ_ret1 (.int .i64 11) (.inr rfl) rfl rfl ?_
        exact ⟨congrArg (Value.int .i64) (rightC_11 (by first | omega | (simp [spanB, fromB] at * <;> omega)) (by unfold fineC; simp [spanB, fromB] at * <;> omega)).symm, hS⟩
       ·refine VC_seq ?_
        refine VC_region ?_
        refine VL_pure 1 [2] [(2, .int .i64 12)] (by kernel_rfl) rfl ?_
        refine VL_end (by kernel_rfl) ?_
        refine VQ_next ?_
        refine VC_ret ?_
        refine VQ_block_ret ?_
        refine VQ_then_ret ?_
        refine VQ_ret1 (.int .i64 12) (.inr rfl) rfl rfl ?_
        exact ⟨congrArg (Value.int .i64) (rightC_12 (by first | omega | (simp [spanB, fromB] at * <;> omega))).symm, hS⟩
      ·refine VC_seq ?_
       refine VC_region ?_
       refine VL_pure 2 [1, 3, 13, 61] [(1, .pointer (some ⟨b1, 0, none⟩)), (3, .bool false), (13, .int .i64 k), (61, .bool (k == 6))] (by kernel_rfl) rfl ?_
       refine VL_end (by kernel_rfl) ?_
       refine VQ_next ?_
       refine VC_eq k 6 (by kernel_rfl) (fun h52 => ?_) (fun h52 => ?_)
       ·refine VC_skip ?_
        refine VQ_next ?_
        refine VC_eq k 6 (by kernel_rfl) (fun h53 => ?_) (fun h53 => ?_)
        ·refine VC_region ?_
         refine VL_pure 17 [3] [(3, .bool false)] (by kernel_rfl) rfl ?_
         refine VL_end (by kernel_rfl) ?_
         refine VQ_block_normal ?_
         refine VQ_next ?_
         refine VC_seq ?_
         refine VC_seq ?_
         refine VC_region ?_
         refine VL_pure 2 [82] [(82, .bool true)] (by kernel_rfl) rfl ?_
         refine VL_end (by kernel_rfl) ?_
         refine VQ_next ?_
         refine VC_true (by kernel_rfl) ?_
         refine VC_seq ?_
         refine VC_region ?_
         refine VL_pure 1 [2] [(2, .int .i64 11)] (by kernel_rfl) rfl ?_
         refine VL_end (by kernel_rfl) ?_
         refine VQ_next ?_
         refine VC_ret ?_
         refine VQ_then_ret ?_
         refine VQ_ret1 (.int .i64 11) (.inr rfl) rfl rfl ?_
         exact ⟨congrArg (Value.int .i64) (rightC_11 (by first | omega | (simp [spanB, fromB] at * <;> omega)) (by unfold fineC; simp [spanB, fromB] at * <;> omega)).symm, hS⟩
        ·refine VC_seq ?_
         refine VC_region ?_
         refine VL_pure 1 [2] [(2, .int .i64 12)] (by kernel_rfl) rfl ?_
         refine VL_end (by kernel_rfl) ?_
         refine VQ_next ?_
         refine VC_ret ?_
         refine VQ_block_ret ?_
         refine VQ_then_ret ?_
         refine VQ_ret1 (.int .i64 12) (.inr rfl) rfl rfl ?_
         exact ⟨congrArg (Value.int .i64) (rightC_12 (by first | omega | (simp [spanB, fromB] at * <;> omega))).symm, hS⟩
       ·refine VC_region ?_
        refine VL_pure 2 [1, 3, 61] [(1, .pointer (some ⟨b1, 0, none⟩)), (3, .bool false), (61, .bool (k == 7))] (by kernel_rfl) rfl ?_
        refine VL_end (by kernel_rfl) ?_
        refine VQ_next ?_
        refine VC_eq k 7 (by kernel_rfl) (fun h54 => ?_) (fun h54 => ?_)
        ·refine VC_region ?_
         refine VL_pure 17 [3] [(3, .bool false)] (by kernel_rfl) rfl ?_
         refine VL_end (by kernel_rfl) ?_
         refine VQ_block_normal ?_
         refine VQ_next ?_
         refine VC_seq ?_
         refine VC_seq ?_
         refine VC_region ?_
         refine VL_pure 2 [82] [(82, .bool true)] (by kernel_rfl) rfl ?_
         refine VL_end (by kernel_rfl) ?_
         refine VQ_next ?_
         refine VC_true (by kernel_rfl) ?_
         refine VC_seq ?_
         refine VC_region ?_
         refine VL_pure 1 [2] [(2, .int .i64 11)] (by kernel_rfl) rfl ?_
         refine VL_end (by kernel_rfl) ?_
         refine VQ_next ?_
         refine VC_ret ?_
         refine VQ_then_ret ?_
         refine VQ_ret1 (.int .i64 11) (.inr rfl) rfl rfl ?_
         exact ⟨congrArg (Value.int .i64) (rightC_11 (by first | omega | (simp [spanB, fromB] at * <;> omega)) (by unfold fineC; simp [spanB, fromB] at * <;> omega)).symm, hS⟩
        ·refine VC_seq ?_
         refine VC_region ?_
         refine VL_pure 1 [2] [(2, .int .i64 12)] (by kernel_rfl) rfl ?_
         refine VL_end (by kernel_rfl) ?_
         refine VQ_next ?_
         refine VC_ret ?_
         refine VQ_block_ret ?_
         refine VQ_then_ret ?_
         refine VQ_ret1 (.int .i64 12) (.inr rfl) rfl rfl ?_
         exact ⟨congrArg (Value.int .i64) (rightC_12 (by first | omega | (simp [spanB, fromB] at * <;> omega))).symm, hS⟩
   ·refine VC_region ?_
    refine VL_pure 2 [1, 3, 13, 14] [(1, .pointer (some ⟨b1, 0, none⟩)), (3, .bool false), (13, .int .i64 k), (14, .bool (k == 4))] (by kernel_rfl) rfl ?_
    refine VL_end (by kernel_rfl) ?_
    refine VQ_next ?_
    refine VC_eq k 4 (by kernel_rfl) (fun h55 => ?_) (fun h55 => ?_)
    ·refine VC_region ?_
     refine VL_pure 19 [3] [(3, .bool false)] (by kernel_rfl) rfl ?_
     refine VL_end (by kernel_rfl) ?_
     refine VQ_block_normal ?_
     refine VQ_next ?_
     refine VC_seq ?_
     refine VC_seq ?_
     refine VC_region ?_
     refine VL_pure 2 [82] [(82, .bool true)] (by kernel_rfl) rfl ?_
     refine VL_end (by kernel_rfl) ?_
     refine VQ_next ?_
     refine VC_true (by kernel_rfl) ?_
     refine VC_seq ?_
     refine VC_region ?_
     refine VL_pure 1 [2] [(2, .int .i64 11)] (by kernel_rfl) rfl ?_
     refine VL_end (by kernel_rfl) ?_
     refine VQ_next ?_
     refine VC_ret ?_
     refine VQ_then_ret ?_
     refine VQ_ret1 (.int .i64 11) (.inr rfl) rfl rfl ?_
     exact ⟨congrArg (Value.int .i64) (rightC_11 (by first | omega | (simp [spanB, fromB] at * <;> omega)) (by unfold fineC; simp [spanB, fromB] at * <;> omega)).symm, hS⟩
    ·refine VC_seq ?_
     refine VC_region ?_
     refine VL_pure 2 [1, 3, 13, 36] [(1, .pointer (some ⟨b1, 0, none⟩)), (3, .bool false), (13, .int .i64 k), (36, .bool (k == 5))] (by kernel_rfl) rfl ?_
     refine VL_end (by kernel_rfl) ?_
     refine VQ_next ?_
     refine VC_eq k 5 (by kernel_rfl) (fun h56 => ?_) (fun h56 => ?_)
     ·refine VC_region ?_
      refine VL_pure 24 [3] [(3, .bool false)] (by kernel_rfl) rfl ?_
      refine VL_end (by kernel_rfl) ?_
      refine VQ_block_normal ?_
      refine VQ_next ?_
      refine VC_seq ?_
      refine VC_seq ?_
      refine VC_region ?_
      refine VL_pure 2 [82] [(82, .bool true)] (by kernel_rfl) rfl ?_
      refine VL_end (by kernel_rfl) ?_
      refine VQ_next ?_
      refine VC_true (by kernel_rfl) ?_
      refine VC_seq ?_
      refine VC_region ?_
      refine VL_pure 1 [2] [(2, .int .i64 11)] (by kernel_rfl) rfl ?_
      refine VL_end (by kernel_rfl) ?_
      refine VQ_next ?_
      refine VC_ret ?_
      refine VQ_then_ret ?_
      refine VQ_ret1 (.int .i64 11) (.inr rfl) rfl rfl ?_
      exact ⟨congrArg (Value.int .i64) (rightC_11 (by first | omega | (simp [spanB, fromB] at * <;> omega)) (by unfold fineC; simp [spanB, fromB] at * <;> omega)).symm, hS⟩
     ·refine VC_seq ?_
      refine VC_seq ?_
      refine VC_region ?_
      refine VL_pure 2 [1, 3, 13, 61] [(1, .pointer (some ⟨b1, 0, none⟩)), (3, .bool false), (13, .int .i64 k), (61, .bool (k == 1))] (by kernel_rfl) rfl ?_
      refine VL_end (by kernel_rfl) ?_
      refine VQ_next ?_
      refine VC_eq k 1 (by kernel_rfl) (fun h57 => ?_) (fun h57 => ?_)
      ·refine VC_skip ?_
       refine VQ_next ?_
       refine VC_eq k 1 (by kernel_rfl) (fun h58 => ?_) (fun h58 => ?_)
       ·refine VC_region ?_
        refine VL_pure 17 [3] [(3, .bool false)] (by kernel_rfl) rfl ?_
        refine VL_end (by kernel_rfl) ?_
        refine VQ_block_normal ?_
        refine VQ_next ?_
        refine VC_seq ?_
        refine VC_seq ?_
        refine VC_region ?_
        refine VL_pure 2 [82] [(82, .bool true)] (by kernel_rfl) rfl ?_
        refine VL_end (by kernel_rfl) ?_
        refine VQ_next ?_
        refine VC_true (by kernel_rfl) ?_
        refine VC_seq ?_
        refine VC_region ?_
        refine VL_pure 1 [2] [(2, .int .i64 11)] (by kernel_rfl) rfl ?_
        refine VL_end (by kernel_rfl) ?_
        refine VQ_next ?_
        refine VC_ret ?_
        refine VQ_then_ret ?_
        refine VQ_ret1 (.int .i64 11) (.inr rfl) rfl rfl ?_
        exact ⟨congrArg (Value.int .i64) (rightC_11 (by first | omega | (simp [spanB, fromB] at * <;> omega)) (by unfold fineC; simp [spanB, fromB] at * <;> omega)).symm, hS⟩
       ·refine VC_seq ?_
        refine VC_region ?_
        refine VL_pure 1 [2] [(2, .int .i64 12)] (by kernel_rfl) rfl ?_
        refine VL_end (by kernel_rfl) ?_
        refine VQ_next ?_
        refine VC_ret ?_
        refine VQ_block_ret ?_
        refine VQ_then_ret ?_
        refine VQ_ret1 (.int .i64 12) (.inr rfl) rfl rfl ?_
        exact ⟨congrArg (Value.int .i64) (rightC_12 (by first | omega | (simp [spanB, fromB] at * <;> omega))).symm, hS⟩
      ·refine VC_seq ?_
       refine VC_region ?_
       refine VL_pure 2 [1, 3, 13, 61] [(1, .pointer (some ⟨b1, 0, none⟩)), (3, .bool false), (13, .int .i64 k), (61, .bool (k == 6))] (by kernel_rfl) rfl ?_
       refine VL_end (by kernel_rfl) ?_
       refine VQ_next ?_
       refine VC_eq k 6 (by kernel_rfl) (fun h59 => ?_) (fun h59 => ?_)
       ·refine VC_skip ?_
        refine VQ_next ?_
        refine VC_eq k 6 (by kernel_rfl) (fun h60 => ?_) (fun h60 => ?_)
        ·refine VC_region ?_
         refine VL_pure 17 [3] [(3, .bool false)] (by kernel_rfl) rfl ?_
         refine VL_end (by kernel_rfl) ?_
         refine VQ_block_normal ?_
         refine VQ_next ?_
         refine VC_seq ?_
         refine VC_seq ?_
         refine VC_region ?_
         refine VL_pure 2 [82] [(82, .bool true)] (by kernel_rfl) rfl ?_
         refine VL_end (by kernel_rfl) ?_
         refine VQ_next ?_
         refine VC_true (by kernel_rfl) ?_
         refine VC_seq ?_
         refine VC_region ?_
         refine VL_pure 1 [2] [(2, .int .i64 11)] (by kernel_rfl) rfl ?_
         refine VL_end (by kernel_rfl) ?_
         refine VQ_next ?_
         refine VC_ret ?_
         refine VQ_then_ret ?_
         refine VQ_ret1 (.int .i64 11) (.inr rfl) rfl rfl ?_
         exact ⟨congrArg (Value.int .i64) (rightC_11 (by first | omega | (simp [spanB, fromB] at * <;> omega)) (by unfold fineC; simp [spanB, fromB] at * <;> omega)).symm, hS⟩
        ·refine VC_seq ?_
         refine VC_region ?_
         refine VL_pure 1 [2] [(2, .int .i64 12)] (by kernel_rfl) rfl ?_
         refine VL_end (by kernel_rfl) ?_
         refine VQ_next ?_
         refine VC_ret ?_
         refine VQ_block_ret ?_
         refine VQ_then_ret ?_
         refine VQ_ret1 (.int .i64 12) (.inr rfl) rfl rfl ?_
         exact ⟨congrArg (Value.int .i64) (rightC_12 (by first | omega | (simp [spanB, fromB] at * <;> omega))).symm, hS⟩
       ·refine VC_region ?_
        refine VL_pure 2 [1, 3, 61] [(1, .pointer (some ⟨b1, 0, none⟩)), (3, .bool false), (61, .bool (k == 7))] (by kernel_rfl) rfl ?_
        refine VL_end (by kernel_rfl) ?_
        refine VQ_next ?_
        refine VC_eq k 7 (by kernel_rfl) (fun h61 => ?_) (fun h61 => ?_)
        ·refine VC_region ?_
         refine VL_pure 17 [3] [(3, .bool false)] (by kernel_rfl) rfl ?_
         refine VL_end (by kernel_rfl) ?_
         refine VQ_block_normal ?_
         refine VQ_next ?_
         refine VC_seq ?_
         refine VC_seq ?_
         refine VC_region ?_
         refine VL_pure 2 [82] [(82, .bool true)] (by kernel_rfl) rfl ?_
         refine VL_end (by kernel_rfl) ?_
         refine VQ_next ?_
         refine VC_true (by kernel_rfl) ?_
         refine VC_seq ?_
         refine VC_region ?_
         refine VL_pure 1 [2] [(2, .int .i64 11)] (by kernel_rfl) rfl ?_
         refine VL_end (by kernel_rfl) ?_
         refine VQ_next ?_
         refine VC_ret ?_
         refine VQ_then_ret ?_
         refine VQ_ret1 (.int .i64 11) (.inr rfl) rfl rfl ?_
         exact ⟨congrArg (Value.int .i64) (rightC_11 (by first | omega | (simp [spanB, fromB] at * <;> omega)) (by unfold fineC; simp [spanB, fromB] at * <;> omega)).symm, hS⟩
        ·refine VC_seq ?_
         refine VC_region ?_
         refine VL_pure 1 [2] [(2, .int .i64 12)] (by kernel_rfl) rfl ?_
         refine VL_end (by kernel_rfl) ?_
         refine VQ_next ?_
         refine VC_ret ?_
         refine VQ_block_ret ?_
         refine VQ_then_ret ?_
         refine VQ_ret1 (.int .i64 12) (.inr rfl) rfl rfl ?_
         exact ⟨congrArg (Value.int .i64) (rightC_12 (by first | omega | (simp [spanB, fromB] at * <;> omega))).symm, hS⟩

end Go.Proofs.Ytejpcmjokamdcaa
