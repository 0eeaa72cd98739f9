/- Layer 6: what is wrong with a contract, the document's. -/
import Derived.Test.YtejpcmjokamdcaaProg
import Derived.Test.YtejpcmjokamdcaaVc18
import Derived.Test.YtejpcmjokamdcaaIe6
set_option linter.unusedVariables false
set_option linter.unusedSimpArgs false
namespace Go.Proofs.Ytejpcmjokamdcaa
open Go.Vc Go.RowKit

theorem from_any (n low high : Int) (w : World) :
  CV Try.prog 67 #[.int .i64 n, .int .i64 low, .int .i64 high] w (fun x w1 => x = .bool (fromB n low high) ∧ Step No w w1) := by
 have hS : Step No w w := Step.refl _ _
 refine CV_enter Try.f67 _ 15 [(0, .int .i64 n), (1, .int .i64 low), (2, .int .i64 high)] Try.func67 rfl rfl (by kernel_rfl) rfl ?_
 refine VC_seq ?_
 refine VC_region ?_
 refine VL_pure 1 [0, 1, 2] [(0, .int .i64 n), (1, .int .i64 low), (2, .int .i64 high)] (by kernel_rfl) rfl ?_
 refine VL_end (by kernel_rfl) ?_
 refine VQ_next ?_
 refine VC_seq ?_
 refine VC_region ?_
 refine VL_pure 4 [0, 2, 10] [(0, .int .i64 n), (2, .int .i64 high), (10, .bool (decide (n ≥ low)))] (by kernel_rfl) rfl ?_
 refine VL_join (decide (n ≥ low)) (fun bV => [(0, .int .i64 n), (2, .int .i64 high), (10, .bool bV)]) 8 [(14, .bool ((decide (n ≥ low)) && (decide (n ≤ high))))] rfl (fun hg1 J1 => ?_) (fun hg1 J1 => ?_) ?_
 ·refine VL_pure 8 [14] [(14, .bool (decide (n ≤ high)))] (by kernel_rfl) rfl ?_
  exact VL_eq _ (by simp only [hg1, Bool.true_and, Bool.false_and, Bool.true_or, Bool.false_or, Bool.not_true, Bool.not_false]) J1
 ·refine VL_pure 8 [14] [(14, .bool false)] (by kernel_rfl) rfl ?_
  exact VL_eq _ (by simp only [hg1, Bool.true_and, Bool.false_and, Bool.true_or, Bool.false_or, Bool.not_true, Bool.not_false]) J1
 refine VL_pure 9 [6] [(6, .bool ((decide (n ≥ low)) && (decide (n ≤ high))))] (by kernel_rfl) rfl ?_
 refine VL_end (by kernel_rfl) ?_
 refine VQ_next ?_
 refine VC_ret ?_
 refine VQ_ret1 (.bool ((decide (n ≥ low)) && (decide (n ≤ high)))) (.inr rfl) rfl rfl ?_
 exact ⟨rfl, hS⟩

set_option maxRecDepth 100000 in
set_option maxHeartbeats 4000000 in
theorem rright_any (k p e h b t : Int) (w : World) :
  CV Try.prog 63 #[.agg #[.int .i64 k, .int .i64 p, .int .i64 e, .int .i64 h, .int .i64 b, .int .i64 t]] w (fun x w1 => x = .int .i64 (rightC k p e h b t) ∧ Step No w w1) := by
 have hS : Step No w w := Step.refl _ _
 refine CV_enter Try.f63 _ 79 [(0, .agg #[.int .i64 k, .int .i64 p, .int .i64 e, .int .i64 h, .int .i64 b, .int .i64 t])] Try.func63 rfl rfl (by kernel_rfl) rfl ?_
 refine VC_seq ?_
 refine VC_region ?_
 have hzs1 := hS.size
 refine VL_box (d := 1) (t := 52) (c := #[.int .i64 k, .int .i64 p, .int .i64 e, .int .i64 h, .int .i64 b, .int .i64 t]) (by kernel_rfl) (by kernel_rfl) ?_
 intro b1 w1 hn1
 replace hS := Step.trans hS (hn1.step No)
 have ho1 := hn1.own
 have hzhn1 := hn1.size
 have hqhn1 := hn1.eqb
 refine VL_pure 2 [1] [(1, .pointer (some ⟨b1, 0, none⟩))] (by kernel_rfl) rfl ?_
 refine VL_end (by kernel_rfl) ?_
 refine VQ_next ?_
 refine VC_seq ?_
 refine VC_seq ?_
 refine VC_region ?_
 refine VL_pure 1 [1, 5] [(1, .pointer (some ⟨b1, 0, none⟩)), (5, .pointer (some ⟨b1, 0, none⟩))] (by kernel_rfl) rfl ?_
 refine VL_load (d := 6) (t := 3) (a := ⟨b1, 0, none⟩) (v := .int .i64 k) (by kernel_rfl) (by kernel_rfl) (Loads.own1 ho1 (by kernel_rfl) (by rfl)) ?_
 have hzs2 := hS.size
 have hzl1 := ho1.lt
 refine VL_call (d := 7) (f := 67) (args := #[.int .i64 k, .int .i64 1, .int .i64 7]) (by kernel_rfl) (by kernel_rfl) (by kernel_rfl) Try.call67 (from_any k 1 7 _) ?_
 rintro _ w2 ⟨rfl, hc1⟩
 replace hS := Step.trans hS hc1
 replace ho1 := ho1.no hc1
 refine VL_pure 4 [1, 8] [(1, .pointer (some ⟨b1, 0, none⟩)), (8, .bool (!(fromB k 1 7)))] (by kernel_rfl) rfl ?_
 refine VL_end (by kernel_rfl) ?_
 refine VQ_next ?_
 refine VC_cond (!(fromB k 1 7)) (by kernel_rfl) (fun h1 => ?_) (fun h1 => ?_)
 ·try simp only [Bool.and_eq_true, Bool.or_eq_true, decide_eq_true_eq, Bool.not_eq_true', decide_eq_false_iff_not, Bool.and_eq_false_iff, Bool.or_eq_false_iff, beq_iff_eq, bne_iff_ne, beq_eq_false_iff_ne, bne_eq_false_iff_eq, Bool.not_eq_eq_eq_not, Bool.not_true, Bool.not_false] at h1
  refine VC_seq ?_
  refine VC_region ?_
  refine VL_pure 1 [2] [(2, .int .i64 12)] (by kernel_rfl) rfl ?_
  refine VL_end (by kernel_rfl) ?_
  refine VQ_next ?_
  refine VC_ret ?_
  refine VQ_then_ret ?_
  refine VQ_ret1 (.int .i64 12) (.inr rfl) rfl rfl ?_
  exact ⟨congrArg (Value.int .i64) (rightC_12 (by first | omega | (simp [spanB, fromB] at * <;> omega))).symm, hS⟩
 ·try simp only [Bool.and_eq_true, Bool.or_eq_true, decide_eq_true_eq, Bool.not_eq_true', decide_eq_false_iff_not, Bool.and_eq_false_iff, Bool.or_eq_false_iff, beq_iff_eq, bne_iff_ne, beq_eq_false_iff_ne, bne_eq_false_iff_eq, Bool.not_eq_eq_eq_not, Bool.not_true, Bool.not_false] at h1
  refine VC_skip ?_
  refine VQ_next ?_
  refine VC_seq ?_
  refine VC_region ?_
  refine VL_pure 1 [1, 9] [(1, .pointer (some ⟨b1, 0, none⟩)), (9, .pointer (some ⟨b1, 0, none⟩))] (by kernel_rfl) rfl ?_
  refine VL_load (d := 10) (t := 3) (a := ⟨b1, 0, none⟩) (v := .int .i64 k) (by kernel_rfl) (by kernel_rfl) (Loads.own1 ho1 (by kernel_rfl) (by rfl)) ?_
  refine VL_pure 4 [1, 12] [(1, .pointer (some ⟨b1, 0, none⟩)), (12, .bool (k == 2))] (by kernel_rfl) rfl ?_
  refine VL_beq k 2 (fun bV => [(1, .pointer (some ⟨b1, 0, none⟩)), (12, .bool bV)]) rfl (fun hg1 => ?_) (fun hg1 => ?_)
  ·refine VL_pure 14 [1, 3] [(1, .pointer (some ⟨b1, 0, none⟩)), (3, .bool true)] (by kernel_rfl) rfl ?_
   refine VL_end (by kernel_rfl) ?_
   refine VQ_next ?_
   refine VC_seq ?_
   refine VC_region ?_
   refine VL_pure 1 [1, 3, 22] [(1, .pointer (some ⟨b1, 0, none⟩)), (3, .bool true), (22, .pointer (some ⟨b1, 1, none⟩))] (by kernel_rfl) rfl ?_
   refine VL_load (d := 23) (t := 3) (a := ⟨b1, 1, none⟩) (v := .int .i64 p) (by kernel_rfl) (by kernel_rfl) (Loads.own1 ho1 (by kernel_rfl) (by rfl)) ?_
   have hzs3 := hS.size
   have hzl2 := ho1.lt
   refine VL_call (d := 24) (f := 67) (args := #[.int .i64 p, .int .i64 1, .int .i64 1099511627776]) (by kernel_rfl) (by kernel_rfl) (by kernel_rfl) Try.call67 (from_any p 1 1099511627776 _) ?_
   rintro _ w3 ⟨rfl, hc2⟩
   replace hS := Step.trans hS hc2
   replace ho1 := ho1.no hc2
   refine VL_pure 4 [1, 3, 25] [(1, .pointer (some ⟨b1, 0, none⟩)), (3, .bool true), (25, .bool (fromB p 1 1099511627776))] (by kernel_rfl) rfl ?_
   refine VL_bool (fromB p 1 1099511627776) (fun bV => [(1, .pointer (some ⟨b1, 0, none⟩)), (3, .bool true), (25, .bool bV)]) rfl (fun hg2 => ?_) (fun hg2 => ?_)
   ·refine VL_pure 5 [1, 3, 25, 26] [(1, .pointer (some ⟨b1, 0, none⟩)), (3, .bool true), (25, .bool true), (26, .pointer (some ⟨b1, 2, none⟩))] (by kernel_rfl) rfl ?_
    refine VL_load (d := 27) (t := 3) (a := ⟨b1, 2, none⟩) (v := .int .i64 e) (by kernel_rfl) (by kernel_rfl) (Loads.own1 ho1 (by kernel_rfl) (by rfl)) ?_
    have hzs4 := hS.size
    have hzl3 := ho1.lt
    refine VL_call (d := 28) (f := 67) (args := #[.int .i64 e, .int .i64 0, .int .i64 1099511627776]) (by kernel_rfl) (by kernel_rfl) (by kernel_rfl) Try.call67 (from_any e 0 1099511627776 _) ?_
    rintro _ w4 ⟨rfl, hc3⟩
    replace hS := Step.trans hS hc3
    replace ho1 := ho1.no hc3
    refine VL_pure 9 [1, 3, 4] [(1, .pointer (some ⟨b1, 0, none⟩)), (3, .bool true), (4, .bool (fromB e 0 1099511627776))] (by kernel_rfl) rfl ?_
    refine VL_end (by kernel_rfl) ?_
    refine VQ_next ?_
    refine VC_seq ?_
    refine VC_seq ?_
    refine VC_region ?_
    refine VL_pure 1 [1, 4, 30] [(1, .pointer (some ⟨b1, 0, none⟩)), (4, .bool (fromB e 0 1099511627776)), (30, .bool true)] (by kernel_rfl) rfl ?_
    refine VL_end (by kernel_rfl) ?_
    refine VQ_next ?_
    refine VC_true (by kernel_rfl) ?_
    refine VC_region ?_
    refine VL_pure 2 [1, 32] [(1, .pointer (some ⟨b1, 0, none⟩)), (32, .bool (fromB e 0 1099511627776))] (by kernel_rfl) rfl ?_
    refine VL_bool (fromB e 0 1099511627776) (fun bV => [(1, .pointer (some ⟨b1, 0, none⟩)), (32, .bool bV)]) rfl (fun hg3 => ?_) (fun hg3 => ?_)
    ·refine VL_pure 3 [1, 32, 33] [(1, .pointer (some ⟨b1, 0, none⟩)), (32, .bool true), (33, .pointer (some ⟨b1, 3, none⟩))] (by kernel_rfl) rfl ?_
     refine VL_load (d := 34) (t := 3) (a := ⟨b1, 3, none⟩) (v := .int .i64 h) (by kernel_rfl) (by kernel_rfl) (Loads.own1 ho1 (by kernel_rfl) (by rfl)) ?_
     refine VL_pure 5 [1, 32, 34, 35] [(1, .pointer (some ⟨b1, 0, none⟩)), (32, .bool true), (34, .int .i64 h), (35, .pointer (some ⟨b1, 1, none⟩))] (by kernel_rfl) rfl ?_
     refine VL_load (d := 36) (t := 3) (a := ⟨b1, 1, none⟩) (v := .int .i64 p) (by kernel_rfl) (by kernel_rfl) (Loads.own1 ho1 (by kernel_rfl) (by rfl)) ?_
     have hzs5 := hS.size
     have hzl4 := ho1.lt
     refine VL_call (d := 37) (f := 67) (args := #[.int .i64 h, .int .i64 p, .int .i64 1099511627776]) (by kernel_rfl) (by kernel_rfl) (by kernel_rfl) Try.call67 (from_any h p 1099511627776 _) ?_
     rintro _ w5 ⟨rfl, hc4⟩
     replace hS := Step.trans hS hc4
     replace ho1 := ho1.no hc4
     refine VL_pure 9 [1, 39] [(1, .pointer (some ⟨b1, 0, none⟩)), (39, .bool (fromB h p 1099511627776))] (by kernel_rfl) rfl ?_
     refine VL_bool (fromB h p 1099511627776) (fun bV => [(1, .pointer (some ⟨b1, 0, none⟩)), (39, .bool bV)]) rfl (fun hg4 => ?_) (fun hg4 => ?_)
     ·refine VL_pure 10 [1, 39, 40] [(1, .pointer (some ⟨b1, 0, none⟩)), (39, .bool true), (40, .pointer (some ⟨b1, 4, none⟩))] (by kernel_rfl) rfl ?_
      refine VL_load (d := 41) (t := 3) (a := ⟨b1, 4, none⟩) (v := .int .i64 b) (by kernel_rfl) (by kernel_rfl) (Loads.own1 ho1 (by kernel_rfl) (by rfl)) ?_
      have hzs6 := hS.size
      have hzl5 := ho1.lt
      refine VL_call (d := 42) (f := 67) (args := #[.int .i64 b, .int .i64 0, .int .i64 1099511627776]) (by kernel_rfl) (by kernel_rfl) (by kernel_rfl) Try.call67 (from_any b 0 1099511627776 _) ?_
      rintro _ w6 ⟨rfl, hc5⟩
      replace hS := Step.trans hS hc5
      replace ho1 := ho1.no hc5
      refine VL_pure 14 [1, 4] [(1, .pointer (some ⟨b1, 0, none⟩)), (4, .bool (fromB b 0 1099511627776))] (by kernel_rfl) rfl ?_
      refine VL_end (by kernel_rfl) ?_
      refine VQ_next ?_
      refine VC_seq ?_
      refine VC_seq ?_
      refine VC_region ?_
      refine VL_pure 1 [1, 4, 55] [(1, .pointer (some ⟨b1, 0, none⟩)), (4, .bool (fromB b 0 1099511627776)), (55, .pointer (some ⟨b1, 0, none⟩))] (by kernel_rfl) rfl ?_
      refine VL_load (d := 56) (t := 3) (a := ⟨b1, 0, none⟩) (v := .int .i64 k) (by kernel_rfl) (by kernel_rfl) (Loads.own1 ho1 (by kernel_rfl) (by rfl)) ?_
      refine VL_pure 3 [1, 4, 57] [(1, .pointer (some ⟨b1, 0, none⟩)), (4, .bool (fromB b 0 1099511627776)), (57, .bool (k == 5))] (by kernel_rfl) rfl ?_
      refine VL_end (by kernel_rfl) ?_
      refine VQ_next ?_
      refine VC_eq k 5 (by kernel_rfl) (fun h2 => ?_) (fun h2 => ?_)
      ·refine VC_region ?_
       refine VL_pure 2 [1, 59] [(1, .pointer (some ⟨b1, 0, none⟩)), (59, .bool (fromB b 0 1099511627776))] (by kernel_rfl) rfl ?_
       refine VL_bool (fromB b 0 1099511627776) (fun bV => [(1, .pointer (some ⟨b1, 0, none⟩)), (59, .bool bV)]) rfl (fun hg5 => ?_) (fun hg5 => ?_)
       ·refine VL_pure 3 [1, 59, 60] [(1, .pointer (some ⟨b1, 0, none⟩)), (59, .bool true), (60, .pointer (some ⟨b1, 5, none⟩))] (by kernel_rfl) rfl ?_
        refine VL_load (d := 61) (t := 3) (a := ⟨b1, 5, none⟩) (v := .int .i64 t) (by kernel_rfl) (by kernel_rfl) (Loads.own1 ho1 (by kernel_rfl) (by rfl)) ?_
        refine VL_pure 6 [1, 59, 63] [(1, .pointer (some ⟨b1, 0, none⟩)), (59, .bool true), (63, .bool (t == 0))] (by kernel_rfl) rfl ?_
        refine VL_beq t 0 (fun bV => [(1, .pointer (some ⟨b1, 0, none⟩)), (59, .bool true), (63, .bool bV)]) rfl (fun hg6 => ?_) (fun hg6 => ?_)
        ·refine VL_pure 14 [4] [(4, .bool true)] (by kernel_rfl) rfl ?_
         refine VL_end (by kernel_rfl) ?_
         refine VQ_next ?_
         refine VC_seq ?_
         refine VC_seq ?_
         refine VC_region ?_
         refine VL_pure 2 [78] [(78, .bool false)] (by kernel_rfl) rfl ?_
         refine VL_end (by kernel_rfl) ?_
         refine VQ_next ?_
         refine VC_false (by kernel_rfl) ?_
         refine VC_skip ?_
         refine VQ_next ?_
         refine VC_seq ?_
         refine VC_region ?_
         refine VL_pure 1 [2] [(2, .int .i64 0)] (by kernel_rfl) rfl ?_
         refine VL_end (by kernel_rfl) ?_
         refine VQ_next ?_
         refine VC_ret ?_
         refine VQ_ret1 (.int .i64 0) (.inr rfl) rfl rfl ?_
         exact ⟨congrArg (Value.int .i64) (rightC_0 (by first | omega | (simp [spanB, fromB] at * <;> omega)) (by unfold fineC; simp [spanB, fromB] at * <;> omega)).symm, hS⟩
        ·refine VL_pure 7 [1, 59, 63, 64] [(1, .pointer (some ⟨b1, 0, none⟩)), (59, .bool true), (63, .bool false), (64, .pointer (some ⟨b1, 5, none⟩))] (by kernel_rfl) rfl ?_
         refine VL_load (d := 65) (t := 3) (a := ⟨b1, 5, none⟩) (v := .int .i64 t) (by kernel_rfl) (by kernel_rfl) (Loads.own1 ho1 (by kernel_rfl) (by rfl)) ?_
         refine VL_pure 9 [59, 63, 65, 66] [(59, .bool true), (63, .bool false), (65, .int .i64 t), (66, .pointer (some ⟨b1, 1, none⟩))] (by kernel_rfl) rfl ?_
         refine VL_load (d := 67) (t := 3) (a := ⟨b1, 1, none⟩) (v := .int .i64 p) (by kernel_rfl) (by kernel_rfl) (Loads.own1 ho1 (by kernel_rfl) (by rfl)) ?_
         have hzs7 := hS.size
         have hzl6 := ho1.lt
         refine VL_call (d := 68) (f := 67) (args := #[.int .i64 t, .int .i64 p, .int .i64 1099511627776]) (by kernel_rfl) (by kernel_rfl) (by kernel_rfl) Try.call67 (from_any t p 1099511627776 _) ?_
         rintro _ w7 ⟨rfl, hc6⟩
         replace hS := Step.trans hS hc6
         replace ho1 := ho1.no hc6
         refine VL_pure 14 [4] [(4, .bool (fromB t p 1099511627776))] (by kernel_rfl) rfl ?_
         refine VL_end (by kernel_rfl) ?_
         refine VQ_next ?_
         refine VC_seq ?_
         refine VC_seq ?_
         refine VC_region ?_
         refine VL_pure 2 [78] [(78, .bool (!(fromB t p 1099511627776)))] (by kernel_rfl) rfl ?_
         refine VL_end (by kernel_rfl) ?_
         refine VQ_next ?_
         refine VC_cond (!(fromB t p 1099511627776)) (by kernel_rfl) (fun h3 => ?_) (fun h3 => ?_)
         ·try simp only [Bool.and_eq_true, Bool.or_eq_true, decide_eq_true_eq, Bool.not_eq_true', decide_eq_false_iff_not, Bool.and_eq_false_iff, Bool.or_eq_false_iff, beq_iff_eq, bne_iff_ne, beq_eq_false_iff_ne, bne_eq_false_iff_eq, Bool.not_eq_eq_eq_not, Bool.not_true, Bool.not_false] at h3
          refine VC_seq ?_
          refine VC_region ?_
          refine VL_pure 1 [2] [(2, .int .i64 11)] (by kernel_rfl) rfl ?_
          refine VL_end (by kernel_rfl) ?_
          refine VQ_next ?_
          refine VC_ret ?_
          refine VQ_then_ret ?_
          refine VQ_ret1 (.int .i64 11) (.inr rfl) rfl rfl ?_
          exact ⟨congrArg (Value.int .i64) (rightC_11 (by first | omega | (simp [spanB, fromB] at * <;> omega)) (by unfold fineC; simp [spanB, fromB] at * <;> omega)).symm, hS⟩
         ·try simp only [Bool.and_eq_true, Bool.or_eq_true, decide_eq_true_eq, Bool.not_eq_true', decide_eq_false_iff_not, Bool.and_eq_false_iff, Bool.or_eq_false_iff, beq_iff_eq, bne_iff_ne, beq_eq_false_iff_ne, bne_eq_false_iff_eq, Bool.not_eq_eq_eq_not, Bool.not_true, Bool.not_false] at h3
          refine VC_skip ?_
          refine VQ_next ?_
          refine VC_seq ?_
          refine VC_region ?_
          refine VL_pure 1 [2] [(2, .int .i64 0)] (by kernel_rfl) rfl ?_
          refine VL_end (by kernel_rfl) ?_
          refine VQ_next ?_
          refine VC_ret ?_
          refine VQ_ret1 (.int .i64 0) (.inr rfl) rfl rfl ?_
          exact ⟨congrArg (Value.int .i64) (rightC_0 (by first | omega | (simp [spanB, fromB] at * <;> omega)) (by unfold fineC; simp [spanB, fromB] at * <;> omega)).symm, hS⟩
       ·refine VL_pure 14 [4] [(4, .bool false)] (by kernel_rfl) rfl ?_
        refine VL_end (by kernel_rfl) ?_
        refine VQ_next ?_
        refine VC_seq ?_
        refine VC_seq ?_
        refine VC_region ?_
        refine VL_pure 2 [78] [(78, .bool true)] (by kernel_rfl) rfl ?_
        refine VL_end (by kernel_rfl) ?_
        refine VQ_next ?_
        refine VC_true (by kernel_rfl) ?_
        refine VC_seq ?_
        refine VC_region ?_
        refine VL_pure 1 [2] [(2, .int .i64 11)] (by kernel_rfl) rfl ?_
        refine VL_end (by kernel_rfl) ?_
        refine VQ_next ?_
        refine VC_ret ?_
        refine VQ_then_ret ?_
        refine VQ_ret1 (.int .i64 11) (.inr rfl) rfl rfl ?_
        exact ⟨congrArg (Value.int .i64) (rightC_11 (by first | omega | (simp [spanB, fromB] at * <;> omega)) (by unfold fineC; simp [spanB, fromB] at * <;> omega)).symm, hS⟩
      ·refine VC_region ?_
       refine VL_pure 2 [1, 72] [(1, .pointer (some ⟨b1, 0, none⟩)), (72, .bool (fromB b 0 1099511627776))] (by kernel_rfl) rfl ?_
       refine VL_bool (fromB b 0 1099511627776) (fun bV => [(1, .pointer (some ⟨b1, 0, none⟩)), (72, .bool bV)]) rfl (fun hg7 => ?_) (fun hg7 => ?_)
       ·refine VL_pure 3 [72, 73] [(72, .bool true), (73, .pointer (some ⟨b1, 5, none⟩))] (by kernel_rfl) rfl ?_
        refine VL_load (d := 74) (t := 3) (a := ⟨b1, 5, none⟩) (v := .int .i64 t) (by kernel_rfl) (by kernel_rfl) (Loads.own1 ho1 (by kernel_rfl) (by rfl)) ?_
        refine VL_pure 7 [4] [(4, .bool (t == 0))] (by kernel_rfl) rfl ?_
        refine VL_end (by kernel_rfl) ?_
        refine VQ_next ?_
        refine VC_seq ?_
        refine VC_seq ?_
        refine VC_region ?_
        refine VL_pure 2 [78] [(78, .bool (!(t == 0)))] (by kernel_rfl) rfl ?_
        refine VL_end (by kernel_rfl) ?_
        refine VQ_next ?_
        refine VC_cond (!(t == 0)) (by kernel_rfl) (fun h4 => ?_) (fun h4 => ?_)
        ·try simp only [Bool.and_eq_true, Bool.or_eq_true, decide_eq_true_eq, Bool.not_eq_true', decide_eq_false_iff_not, Bool.and_eq_false_iff, Bool.or_eq_false_iff, beq_iff_eq, bne_iff_ne, beq_eq_false_iff_ne, bne_eq_false_iff_eq, Bool.not_eq_eq_eq_not, Bool.not_true, Bool.not_false] at h4
         refine VC_seq ?_
         refine VC_region ?_
         refine VL_pure 1 [2] [(2, .int .i64 11)] (by kernel_rfl) rfl ?_
         refine VL_end (by kernel_rfl) ?_
         refine VQ_next ?_
         refine VC_ret ?_
         refine VQ_then_ret ?_
         refine VQ_ret1 (.int .i64 11) (.inr rfl) rfl rfl ?_
         exact ⟨congrArg (Value.int .i64) (rightC_11 (by first | omega | (simp [spanB, fromB] at * <;> omega)) (by unfold fineC; simp [spanB, fromB] at * <;> omega)).symm, hS⟩
        ·try simp only [Bool.and_eq_true, Bool.or_eq_true, decide_eq_true_eq, Bool.not_eq_true', decide_eq_false_iff_not, Bool.and_eq_false_iff, Bool.or_eq_false_iff, beq_iff_eq, bne_iff_ne, beq_eq_false_iff_ne, bne_eq_false_iff_eq, Bool.not_eq_eq_eq_not, Bool.not_true, Bool.not_false] at h4
         refine VC_skip ?_
         refine VQ_next ?_
         refine VC_seq ?_
         refine VC_region ?_
         refine VL_pure 1 [2] [(2, .int .i64 0)] (by kernel_rfl) rfl ?_
         refine VL_end (by kernel_rfl) ?_
         refine VQ_next ?_
         refine VC_ret ?_
         refine VQ_ret1 (.int .i64 0) (.inr rfl) rfl rfl ?_
         exact ⟨congrArg (Value.int .i64) (rightC_0 (by first | omega | (simp [spanB, fromB] at * <;> omega)) (by unfold fineC; simp [spanB, fromB] at * <;> omega)).symm, hS⟩
       ·refine VL_pure 7 [4] [(4, .bool false)] (by kernel_rfl) rfl ?_
        refine VL_end (by kernel_rfl) ?_
        refine VQ_next ?_
        refine VC_seq ?_
        refine VC_seq ?_
        refine VC_region ?_
        refine VL_pure 2 [78] [(78, .bool true)] (by kernel_rfl) rfl ?_
        refine VL_end (by kernel_rfl) ?_
        refine VQ_next ?_
        refine VC_true (by kernel_rfl) ?_
        refine VC_seq ?_
        refine VC_region ?_
        refine VL_pure 1 [2] [(2, .int .i64 11)] (by kernel_rfl) rfl ?_
        refine VL_end (by kernel_rfl) ?_
        refine VQ_next ?_
        refine VC_ret ?_
        refine VQ_then_ret ?_
        refine VQ_ret1 (.int .i64 11) (.inr rfl) rfl rfl ?_
        exact ⟨congrArg (Value.int .i64) (rightC_11 (by first | omega | (simp [spanB, fromB] at * <;> omega)) (by unfold fineC; simp [spanB, fromB] at * <;> omega)).symm, hS⟩
     ·refine VL_pure 14 [1, 4] [(1, .pointer (some ⟨b1, 0, none⟩)), (4, .bool false)] (by kernel_rfl) rfl ?_
      refine VL_end (by kernel_rfl) ?_
      refine VQ_next ?_
      refine VC_seq ?_
      refine VC_seq ?_
      refine VC_region ?_
      refine VL_pure 1 [1, 4, 55] [(1, .pointer (some ⟨b1, 0, none⟩)), (4, .bool false), (55, .pointer (some ⟨b1, 0, none⟩))] (by kernel_rfl) rfl ?_
      refine VL_load (d := 56) (t := 3) (a := ⟨b1, 0, none⟩) (v := .int .i64 k) (by kernel_rfl) (by kernel_rfl) (Loads.own1 ho1 (by kernel_rfl) (by rfl)) ?_
      refine VL_pure 3 [1, 4, 57] [(1, .pointer (some ⟨b1, 0, none⟩)), (4, .bool false), (57, .bool (k == 5))] (by kernel_rfl) rfl ?_
      refine VL_end (by kernel_rfl) ?_
      refine VQ_next ?_
      refine VC_eq k 5 (by kernel_rfl) (fun h5 => ?_) (fun h5 => ?_)
      ·refine VC_region ?_
       refine VL_pure 14 [4] [(4, .bool false)] (by kernel_rfl) rfl ?_
       refine VL_end (by kernel_rfl) ?_
       refine VQ_next ?_
       refine VC_seq ?_
       refine VC_seq ?_
       refine VC_region ?_
       refine VL_pure 2 [78] [(78, .bool true)] (by kernel_rfl) rfl ?_
       refine VL_end (by kernel_rfl) ?_
       refine VQ_next ?_
       refine VC_true (by kernel_rfl) ?_
       refine VC_seq ?_
       refine VC_region ?_
       refine VL_pure 1 [2] [(2, .int .i64 11)] (by kernel_rfl) rfl ?_
       refine VL_end (by kernel_rfl) ?_
       refine VQ_next ?_
       refine VC_ret ?_
       refine VQ_then_ret ?_
       refine VQ_ret1 (.int .i64 11) (.inr rfl) rfl rfl ?_
       exact ⟨congrArg (Value.int .i64) (rightC_11 (by first | omega | (simp [spanB, fromB] at * <;> omega)) (by unfold fineC; simp [spanB, fromB] at * <;> omega)).symm, hS⟩
      ·refine VC_region ?_
       refine VL_pure 7 [4] [(4, .bool false)] (by kernel_rfl) rfl ?_
       refine VL_end (by kernel_rfl) ?_
       refine VQ_next ?_
       refine VC_seq ?_
       refine VC_seq ?_
       refine VC_region ?_
       refine VL_pure 2 [78] [(78, .bool true)] (by kernel_rfl) rfl ?_
       refine VL_end (by kernel_rfl) ?_
       refine VQ_next ?_
       refine VC_true (by kernel_rfl) ?_
       refine VC_seq ?_
       refine VC_region ?_
       refine VL_pure 1 [2] [(2, .int .i64 11)] (by kernel_rfl) rfl ?_
       refine VL_end (by kernel_rfl) ?_
       refine VQ_next ?_
       refine VC_ret ?_
       refine VQ_then_ret ?_
       refine VQ_ret1 (.int .i64 11) (.inr rfl) rfl rfl ?_
       exact ⟨congrArg (Value.int .i64) (rightC_11 (by first | omega | (simp [spanB, fromB] at * <;> omega)) (by unfold fineC; simp [spanB, fromB] at * <;> omega)).symm, hS⟩
    ·refine VL_pure 14 [1, 4] [(1, .pointer (some ⟨b1, 0, none⟩)), (4, .bool false)] (by kernel_rfl) rfl ?_
     refine VL_end (by kernel_rfl) ?_
     refine VQ_next ?_
     refine VC_seq ?_
     refine VC_seq ?_
     refine VC_region ?_
     refine VL_pure 1 [1, 4, 55] [(1, .pointer (some ⟨b1, 0, none⟩)), (4, .bool false), (55, .pointer (some ⟨b1, 0, none⟩))] (by kernel_rfl) rfl ?_
     refine VL_load (d := 56) (t := 3) (a := ⟨b1, 0, none⟩) (v := .int .i64 k) (by kernel_rfl) (by kernel_rfl) (Loads.own1 ho1 (by kernel_rfl) (by rfl)) ?_
     refine VL_pure 3 [1, 4, 57] [(1, .pointer (some ⟨b1, 0, none⟩)), (4, .bool false), (57, .bool (k == 5))] (by kernel_rfl) rfl ?_
     refine VL_end (by kernel_rfl) ?_
     refine VQ_next ?_
     refine VC_eq k 5 (by kernel_rfl) (fun h6 => ?_) (fun h6 => ?_)
     ·refine VC_region ?_
      refine VL_pure 14 [4] [(4, .bool false)] (by kernel_rfl) rfl ?_
      refine VL_end (by kernel_rfl) ?_
      refine VQ_next ?_
      refine VC_seq ?_
      refine VC_seq ?_
      refine VC_region ?_
      refine VL_pure 2 [78] [(78, .bool true)] (by kernel_rfl) rfl ?_
      refine VL_end (by kernel_rfl) ?_
      refine VQ_next ?_
      refine VC_true (by kernel_rfl) ?_
      refine VC_seq ?_
      refine VC_region ?_
      refine VL_pure 1 [2] [(2, .int .i64 11)] (by kernel_rfl) rfl ?_
      refine VL_end (by kernel_rfl) ?_
      refine VQ_next ?_
      refine VC_ret ?_
      refine VQ_then_ret ?_
      refine VQ_ret1 (.int .i64 11) (.inr rfl) rfl rfl ?_
      exact ⟨congrArg (Value.int .i64) (rightC_11 (by first | omega | (simp [spanB, fromB] at * <;> omega)) (by unfold fineC; simp [spanB, fromB] at * <;> omega)).symm, hS⟩
     ·refine VC_region ?_
      refine VL_pure 7 [4] [(4, .bool false)] (by kernel_rfl) rfl ?_
      refine VL_end (by kernel_rfl) ?_
      refine VQ_next ?_
      refine VC_seq ?_
      refine VC_seq ?_
      refine VC_region ?_
      refine VL_pure 2 [78] [(78, .bool true)] (by kernel_rfl) rfl ?_
      refine VL_end (by kernel_rfl) ?_
      refine VQ_next ?_
      refine VC_true (by kernel_rfl) ?_
      refine VC_seq ?_
      refine VC_region ?_
      refine VL_pure 1 [2] [(2, .int .i64 11)] (by kernel_rfl) rfl ?_
      refine VL_end (by kernel_rfl) ?_
      refine VQ_next ?_
      refine VC_ret ?_
      refine VQ_then_ret ?_
      refine VQ_ret1 (.int .i64 11) (.inr rfl) rfl rfl ?_
      exact ⟨congrArg (Value.int .i64) (rightC_11 (by first | omega | (simp [spanB, fromB] at * <;> omega)) (by unfold fineC; simp [spanB, fromB] at * <;> omega)).symm, hS⟩
   ·refine VL_pure 9 [1, 3, 4] [(1, .pointer (some ⟨b1, 0, none⟩)), (3, .bool true), (4, .bool false)] (by kernel_rfl) rfl ?_
    refine VL_end (by kernel_rfl) ?_
    refine VQ_next ?_
    refine VC_seq ?_
    refine VC_seq ?_
    refine VC_region ?_
    refine VL_pure 1 [1, 4, 30] [(1, .pointer (some ⟨b1, 0, none⟩)), (4, .bool false), (30, .bool true)] (by kernel_rfl) rfl ?_
    refine VL_end (by kernel_rfl) ?_
    refine VQ_next ?_
    refine VC_true (by kernel_rfl) ?_
    refine VC_region ?_
    refine VL_pure 14 [1, 4] [(1, .pointer (some ⟨b1, 0, none⟩)), (4, .bool false)] (by kernel_rfl) rfl ?_
    refine VL_end (by kernel_rfl) ?_
    refine VQ_next ?_
    refine VC_seq ?_
    refine VC_seq ?_
    refine VC_region ?_
    refine VL_pure 1 [1, 4, 55] [(1, .pointer (some ⟨b1, 0, none⟩)), (4, .bool false), (55, .pointer (some ⟨b1, 0, none⟩))] (by kernel_rfl) rfl ?_
    refine VL_load (d := 56) (t := 3) (a := ⟨b1, 0, none⟩) (v := .int .i64 k) (by kernel_rfl) (by kernel_rfl) (Loads.own1 ho1 (by kernel_rfl) (by rfl)) ?_
    refine VL_pure 3 [1, 4, 57] [(1, .pointer (some ⟨b1, 0, none⟩)), (4, .bool false), (57, .bool (k == 5))] (by kernel_rfl) rfl ?_
    refine VL_end (by kernel_rfl) ?_
    refine VQ_next ?_
    refine VC_eq k 5 (by kernel_rfl) (fun h7 => ?_) (fun h7 => ?_)
    ·refine VC_region ?_
     refine VL_pure 14 [4] [(4, .bool false)] (by kernel_rfl) rfl ?_
     refine VL_end (by kernel_rfl) ?_
     refine VQ_next ?_
     refine VC_seq ?_
     refine VC_seq ?_
     refine VC_region ?_
     refine VL_pure 2 [78] [(78, .bool true)] (by kernel_rfl) rfl ?_
     refine VL_end (by kernel_rfl) ?_
     refine VQ_next ?_
     refine VC_true (by kernel_rfl) ?_
     refine VC_seq ?_
     refine VC_region ?_
     refine VL_pure 1 [2] [(2, .int .i64 11)] (by kernel_rfl) rfl ?_
     refine VL_end (by kernel_rfl) ?_
     refine VQ_next ?_
     refine VC_ret ?_
     refine VQ_then_ret ?_
     refine VQ_ret1 (.int .i64 11) (.inr rfl) rfl rfl ?_
     exact ⟨congrArg (Value.int .i64) (rightC_11 (by first | omega | (simp [spanB, fromB] at * <;> omega)) (by unfold fineC; simp [spanB, fromB] at * <;> omega)).symm, hS⟩
    ·refine VC_region ?_
     refine VL_pure 7 [4] [(4, .bool false)] (by kernel_rfl) rfl ?_
     refine VL_end (by kernel_rfl) ?_
     refine VQ_next ?_
     refine VC_seq ?_
     refine VC_seq ?_
     refine VC_region ?_
     refine VL_pure 2 [78] [(78, .bool true)] (by kernel_rfl) rfl ?_
     refine VL_end (by kernel_rfl) ?_
     refine VQ_next ?_
     refine VC_true (by kernel_rfl) ?_
     refine VC_seq ?_
     refine VC_region ?_
     refine VL_pure 1 [2] [(2, .int .i64 11)] (by kernel_rfl) rfl ?_
     refine VL_end (by kernel_rfl) ?_
     refine VQ_next ?_
     refine VC_ret ?_
     refine VQ_then_ret ?_
     refine VQ_ret1 (.int .i64 11) (.inr rfl) rfl rfl ?_
     exact ⟨congrArg (Value.int .i64) (rightC_11 (by first | omega | (simp [spanB, fromB] at * <;> omega)) (by unfold fineC; simp [spanB, fromB] at * <;> omega)).symm, hS⟩
  ·refine VL_pure 5 [1, 12, 13] [(1, .pointer (some ⟨b1, 0, none⟩)), (12, .bool false), (13, .pointer (some ⟨b1, 0, none⟩))] (by kernel_rfl) rfl ?_
   refine VL_load (d := 14) (t := 3) (a := ⟨b1, 0, none⟩) (v := .int .i64 k) (by kernel_rfl) (by kernel_rfl) (Loads.own1 ho1 (by kernel_rfl) (by rfl)) ?_
   refine VL_pure 9 [1, 17] [(1, .pointer (some ⟨b1, 0, none⟩)), (17, .bool (k == 3))] (by kernel_rfl) rfl ?_
   refine VL_beq k 3 (fun bV => [(1, .pointer (some ⟨b1, 0, none⟩)), (17, .bool bV)]) rfl (fun hg8 => ?_) (fun hg8 => ?_)
   ·refine VL_pure 14 [1, 3] [(1, .pointer (some ⟨b1, 0, none⟩)), (3, .bool true)] (by kernel_rfl) rfl ?_
    refine VL_end (by kernel_rfl) ?_
    refine VQ_next ?_
    refine VC_seq ?_
    refine VC_region ?_
    refine VL_pure 1 [1, 3, 22] [(1, .pointer (some ⟨b1, 0, none⟩)), (3, .bool true), (22, .pointer (some ⟨b1, 1, none⟩))] (by kernel_rfl) rfl ?_
    refine VL_load (d := 23) (t := 3) (a := ⟨b1, 1, none⟩) (v := .int .i64 p) (by kernel_rfl) (by kernel_rfl) (Loads.own1 ho1 (by kernel_rfl) (by rfl)) ?_
    have hzs8 := hS.size
    have hzl7 := ho1.lt
    refine VL_call (d := 24) (f := 67) (args := #[.int .i64 p, .int .i64 1, .int .i64 1099511627776]) (by kernel_rfl) (by kernel_rfl) (by kernel_rfl) Try.call67 (from_any p 1 1099511627776 _) ?_
    rintro _ w8 ⟨rfl, hc7⟩
    replace hS := Step.trans hS hc7
    replace ho1 := ho1.no hc7
    refine VL_pure 4 [1, 3, 25] [(1, .pointer (some ⟨b1, 0, none⟩)), (3, .bool true), (25, .bool (fromB p 1 1099511627776))] (by kernel_rfl) rfl ?_
    refine VL_bool (fromB p 1 1099511627776) (fun bV => [(1, .pointer (some ⟨b1, 0, none⟩)), (3, .bool true), (25, .bool bV)]) rfl (fun hg9 => ?_) (fun hg9 => ?_)
    ·refine VL_pure 5 [1, 3, 25, 26] [(1, .pointer (some ⟨b1, 0, none⟩)), (3, .bool true), (25, .bool true), (26, .pointer (some ⟨b1, 2, none⟩))] (by kernel_rfl) rfl ?_
     refine VL_load (d := 27) (t := 3) (a := ⟨b1, 2, none⟩) (v := .int .i64 e) (by kernel_rfl) (by kernel_rfl) (Loads.own1 ho1 (by kernel_rfl) (by rfl)) ?_
     have hzs9 := hS.size
     have hzl8 := ho1.lt
     refine VL_call (d := 28) (f := 67) (args := #[.int .i64 e, .int .i64 0, .int .i64 1099511627776]) (by kernel_rfl) (by kernel_rfl) (by kernel_rfl) Try.call67 (from_any e 0 1099511627776 _) ?_
     rintro _ w9 ⟨rfl, hc8⟩
     replace hS := Step.trans hS hc8
     replace ho1 := ho1.no hc8
     refine VL_pure 9 [1, 3, 4] [(1, .pointer (some ⟨b1, 0, none⟩)), (3, .bool true), (4, .bool (fromB e 0 1099511627776))] (by kernel_rfl) rfl ?_
     refine VL_end (by kernel_rfl) ?_
     refine VQ_next ?_
     refine VC_seq ?_
     refine VC_seq ?_
     refine VC_region ?_
     refine VL_pure 1 [1, 4, 30] [(1, .pointer (some ⟨b1, 0, none⟩)), (4, .bool (fromB e 0 1099511627776)), (30, .bool true)] (by kernel_rfl) rfl ?_
     refine VL_end (by kernel_rfl) ?_
     refine VQ_next ?_
     refine VC_true (by kernel_rfl) ?_
     refine VC_region ?_
     refine VL_pure 2 [1, 32] [(1, .pointer (some ⟨b1, 0, none⟩)), (32, .bool (fromB e 0 1099511627776))] (by kernel_rfl) rfl ?_
     refine VL_bool (fromB e 0 1099511627776) (fun bV => [(1, .pointer (some ⟨b1, 0, none⟩)), (32, .bool bV)]) rfl (fun hg10 => ?_) (fun hg10 => ?_)
     ·refine VL_pure 3 [1, 32, 33] [(1, .pointer (some ⟨b1, 0, none⟩)), (32, .bool true), (33, .pointer (some ⟨b1, 3, none⟩))] (by kernel_rfl) rfl ?_
      refine VL_load (d := 34) (t := 3) (a := ⟨b1, 3, none⟩) (v := .int .i64 h) (by kernel_rfl) (by kernel_rfl) (Loads.own1 ho1 (by kernel_rfl) (by rfl)) ?_
      refine VL_pure 5 [1, 32, 34, 35] [(1, .pointer (some ⟨b1, 0, none⟩)), (32, .bool true), (34, .int .i64 h), (35, .pointer (some ⟨b1, 1, none⟩))] (by kernel_rfl) rfl ?_
      refine VL_load (d := 36) (t := 3) (a := ⟨b1, 1, none⟩) (v := .int .i64 p) (by kernel_rfl) (by kernel_rfl) (Loads.own1 ho1 (by kernel_rfl) (by rfl)) ?_
      have hzs10 := hS.size
      have hzl9 := ho1.lt
      refine VL_call (d := 37) (f := 67) (args := #[.int .i64 h, .int .i64 p, .int .i64 1099511627776]) (by kernel_rfl) (by kernel_rfl) (by kernel_rfl) Try.call67 (from_any h p 1099511627776 _) ?_
      rintro _ w10 ⟨rfl, hc9⟩
      replace hS := Step.trans hS hc9
      replace ho1 := ho1.no hc9
      refine VL_pure 9 [1, 39] [(1, .pointer (some ⟨b1, 0, none⟩)), (39, .bool (fromB h p 1099511627776))] (by kernel_rfl) rfl ?_
      refine VL_bool (fromB h p 1099511627776) (fun bV => [(1, .pointer (some ⟨b1, 0, none⟩)), (39, .bool bV)]) rfl (fun hg11 => ?_) (fun hg11 => ?_)
      ·refine VL_pure 10 [1, 39, 40] [(1, .pointer (some ⟨b1, 0, none⟩)), (39, .bool true), (40, .pointer (some ⟨b1, 4, none⟩))] (by kernel_rfl) rfl ?_
       refine VL_load (d := 41) (t := 3) (a := ⟨b1, 4, none⟩) (v := .int .i64 b) (by kernel_rfl) (by kernel_rfl) (Loads.own1 ho1 (by kernel_rfl) (by rfl)) ?_
       have hzs11 := hS.size
       have hzl10 := ho1.lt
       refine VL_call (d := 42) (f := 67) (args := #[.int .i64 b, .int .i64 0, .int .i64 1099511627776]) (by kernel_rfl) (by kernel_rfl) (by kernel_rfl) Try.call67 (from_any b 0 1099511627776 _) ?_
       rintro _ w11 ⟨rfl, hc10⟩
       replace hS := Step.trans hS hc10
       replace ho1 := ho1.no hc10
       refine VL_pure 14 [1, 4] [(1, .pointer (some ⟨b1, 0, none⟩)), (4, .bool (fromB b 0 1099511627776))] (by kernel_rfl) rfl ?_
       refine VL_end (by kernel_rfl) ?_
       refine VQ_next ?_
       refine VC_seq ?_
       refine VC_seq ?_
       refine VC_region ?_
       refine VL_pure 1 [1, 4, 55] [(1, .pointer (some ⟨b1, 0, none⟩)), (4, .bool (fromB b 0 1099511627776)), (55, .pointer (some ⟨b1, 0, none⟩))] (by kernel_rfl) rfl ?_
       refine VL_load (d := 56) (t := 3) (a := ⟨b1, 0, none⟩) (v := .int .i64 k) (by kernel_rfl) (by kernel_rfl) (Loads.own1 ho1 (by kernel_rfl) (by rfl)) ?_
       refine VL_pure 3 [1, 4, 57] [(1, .pointer (some ⟨b1, 0, none⟩)), (4, .bool (fromB b 0 1099511627776)), (57, .bool (k == 5))] (by kernel_rfl) rfl ?_
       refine VL_end (by kernel_rfl) ?_
       refine VQ_next ?_
       refine VC_eq k 5 (by kernel_rfl) (fun h8 => ?_) (fun h8 => ?_)
       ·refine VC_region ?_
        refine VL_pure 2 [1, 59] [(1, .pointer (some ⟨b1, 0, none⟩)), (59, .bool (fromB b 0 1099511627776))] (by kernel_rfl) rfl ?_
        refine VL_bool (fromB b 0 1099511627776) (fun bV => [(1, .pointer (some ⟨b1, 0, none⟩)), (59, .bool bV)]) rfl (fun hg12 => ?_) (fun hg12 => ?_)
        ·refine VL_pure 3 [1, 59, 60] [(1, .pointer (some ⟨b1, 0, none⟩)), (59, .bool true), (60, .pointer (some ⟨b1, 5, none⟩))] (by kernel_rfl) rfl ?_
         refine VL_load (d := 61) (t := 3) (a := ⟨b1, 5, none⟩) (v := .int .i64 t) (by kernel_rfl) (by kernel_rfl) (Loads.own1 ho1 (by kernel_rfl) (by rfl)) ?_
         refine VL_pure 6 [1, 59, 63] [(1, .pointer (some ⟨b1, 0, none⟩)), (59, .bool true), (63, .bool (t == 0))] (by kernel_rfl) rfl ?_
         refine VL_beq t 0 (fun bV => [(1, .pointer (some ⟨b1, 0, none⟩)), (59, .bool true), (63, .bool bV)]) rfl (fun hg13 => ?_) (fun hg13 => ?_)
         ·refine VL_pure 14 [4] [(4, .bool true)] (by kernel_rfl) rfl ?_
          refine VL_end (by kernel_rfl) ?_
          refine VQ_next ?_
          refine VC_seq ?_
          refine VC_seq ?_
          refine VC_region ?_
          refine VL_pure 2 [78] [(78, .bool false)] (by kernel_rfl) rfl ?_
          refine VL_end (by kernel_rfl) ?_
          refine VQ_next ?_
          refine VC_false (by kernel_rfl) ?_
          refine VC_skip ?_
          refine VQ_next ?_
          refine VC_seq ?_
          refine VC_region ?_
          refine VL_pure 1 [2] [(2, .int .i64 0)] (by kernel_rfl) rfl ?_
          refine VL_end (by kernel_rfl) ?_
          refine VQ_next ?_
          refine VC_ret ?_
          refine VQ_ret1 (.int .i64 0) (.inr rfl) rfl rfl ?_
          exact ⟨congrArg (Value.int .i64) (rightC_0 (by first | omega | (simp [spanB, fromB] at * <;> omega)) (by unfold fineC; simp [spanB, fromB] at * <;> omega)).symm, hS⟩
         ·refine VL_pure 7 [1, 59, 63, 64] [(1, .pointer (some ⟨b1, 0, none⟩)), (59, .bool true), (63, .bool false), (64, .pointer (some ⟨b1, 5, none⟩))] (by kernel_rfl) rfl ?_
          refine VL_load (d := 65) (t := 3) (a := ⟨b1, 5, none⟩) (v := .int .i64 t) (by kernel_rfl) (by kernel_rfl) (Loads.own1 ho1 (by kernel_rfl) (by rfl)) ?_
          refine VL_pure 9 [59, 63, 65, 66] [(59, .bool true), (63, .bool false), (65, .int .i64 t), (66, .pointer (some ⟨b1, 1, none⟩))] (by kernel_rfl) rfl ?_
          refine VL_load (d := 67) (t := 3) (a := ⟨b1, 1, none⟩) (v := .int .i64 p) (by kernel_rfl) (by kernel_rfl) (Loads.own1 ho1 (by kernel_rfl) (by rfl)) ?_
          have hzs12 := hS.size
          have hzl11 := ho1.lt
          refine VL_call (d := 68) (f := 67) (args := #[.int .i64 t, .int .i64 p, .int .i64 1099511627776]) (by kernel_rfl) (by kernel_rfl) (by kernel_rfl) Try.call67 (from_any t p 1099511627776 _) ?_
          rintro _ w12 ⟨rfl, hc11⟩
          replace hS := Step.trans hS hc11
          replace ho1 := ho1.no hc11
          refine VL_pure 14 [4] [(4, .bool (fromB t p 1099511627776))] (by kernel_rfl) rfl ?_
          refine VL_end (by kernel_rfl) ?_
          refine VQ_next ?_
          refine VC_seq ?_
          refine VC_seq ?_
          refine VC_region ?_
          refine VL_pure 2 [78] [(78, .bool (!(fromB t p 1099511627776)))] (by kernel_rfl) rfl ?_
          refine VL_end (by kernel_rfl) ?_
          refine VQ_next ?_
          refine VC_cond (!(fromB t p 1099511627776)) (by kernel_rfl) (fun h9 => ?_) (fun h9 => ?_)
          ·try simp only [Bool.and_eq_true, Bool.or_eq_true, decide_eq_true_eq, Bool.not_eq_true', decide_eq_false_iff_not, Bool.and_eq_false_iff, Bool.or_eq_false_iff, beq_iff_eq, bne_iff_ne, beq_eq_false_iff_ne, bne_eq_false_iff_eq, Bool.not_eq_eq_eq_not, Bool.not_true, Bool.not_false] at h9
           refine VC_seq ?_
           refine VC_region ?_
           refine VL_pure 1 [2] [(2, .int .i64 11)] (by kernel_rfl) rfl ?_
           refine VL_end (by kernel_rfl) ?_
           refine VQ_next ?_
           refine VC_ret ?_
           refine VQ_then_ret ?_
           refine VQ_ret1 (.int .i64 11) (.inr rfl) rfl rfl ?_
           exact ⟨congrArg (Value.int .i64) (rightC_11 (by first | omega | (simp [spanB, fromB] at * <;> omega)) (by unfold fineC; simp [spanB, fromB] at * <;> omega)).symm, hS⟩
          ·try simp only [Bool.and_eq_true, Bool.or_eq_true, decide_eq_true_eq, Bool.not_eq_true', decide_eq_false_iff_not, Bool.and_eq_false_iff, Bool.or_eq_false_iff, beq_iff_eq, bne_iff_ne, beq_eq_false_iff_ne, bne_eq_false_iff_eq, Bool.not_eq_eq_eq_not, Bool.not_true, Bool.not_false] at h9
           refine VC_skip ?_
           refine VQ_next ?_
           refine VC_seq ?_
           refine VC_region ?_
           refine VL_pure 1 [2] [(2, .int .i64 0)] (by kernel_rfl) rfl ?_
           refine VL_end (by kernel_rfl) ?_
           refine VQ_next ?_
           refine VC_ret ?_
           refine VQ_ret1 (.int .i64 0) (.inr rfl) rfl rfl ?_
           exact ⟨congrArg (Value.int .i64) (rightC_0 (by first | omega | (simp [spanB, fromB] at * <;> omega)) (by unfold fineC; simp [spanB, fromB] at * <;> omega)).symm, hS⟩
        ·refine VL_pure 14 [4] [(4, .bool false)] (by kernel_rfl) rfl ?_
         refine VL_end (by kernel_rfl) ?_
         refine VQ_next ?_
         refine VC_seq ?_
         refine VC_seq ?_
         refine VC_region ?_
         refine VL_pure 2 [78] [(78, .bool true)] (by kernel_rfl) rfl ?_
         refine VL_end (by kernel_rfl) ?_
         refine VQ_next ?_
         refine VC_true (by kernel_rfl) ?_
         refine VC_seq ?_
         refine VC_region ?_
         refine VL_pure 1 [2] [(2, .int .i64 11)] (by kernel_rfl) rfl ?_
         refine VL_end (by kernel_rfl) ?_
         refine VQ_next ?_
         refine VC_ret ?_
         refine VQ_then_ret ?_
         refine VQ_ret1 (.int .i64 11) (.inr rfl) rfl rfl ?_
         exact ⟨congrArg (Value.int .i64) (rightC_11 (by first | omega | (simp [spanB, fromB] at * <;> omega)) (by unfold fineC; simp [spanB, fromB] at * <;> omega)).symm, hS⟩
       ·refine VC_region ?_
        refine VL_pure 2 [1, 72] [(1, .pointer (some ⟨b1, 0, none⟩)), (72, .bool (fromB b 0 1099511627776))] (by kernel_rfl) rfl ?_
        refine VL_bool (fromB b 0 1099511627776) (fun bV => [(1, .pointer (some ⟨b1, 0, none⟩)), (72, .bool bV)]) rfl (fun hg14 => ?_) (fun hg14 => ?_)
        ·refine VL_pure 3 [72, 73] [(72, .bool true), (73, .pointer (some ⟨b1, 5, none⟩))] (by kernel_rfl) rfl ?_
         refine VL_load (d := 74) (t := 3) (a := ⟨b1, 5, none⟩) (v := .int .i64 t) (by kernel_rfl) (by kernel_rfl) (Loads.own1 ho1 (by kernel_rfl) (by rfl)) ?_
         refine VL_pure 7 [4] [(4, .bool (t == 0))] (by kernel_rfl) rfl ?_
         refine VL_end (by kernel_rfl) ?_
         refine VQ_next ?_
         refine VC_seq ?_
         refine VC_seq ?_
         refine VC_region ?_
         refine VL_pure 2 [78] [(78, .bool (!(t == 0)))] (by kernel_rfl) rfl ?_
         refine VL_end (by kernel_rfl) ?_
         refine VQ_next ?_
         refine VC_cond (!(t == 0)) (by kernel_rfl) (fun h10 => ?_) (fun h10 => ?_)
         ·try simp only [Bool.and_eq_true, Bool.or_eq_true, decide_eq_true_eq, Bool.not_eq_true', decide_eq_false_iff_not, Bool.and_eq_false_iff, Bool.or_eq_false_iff, beq_iff_eq, bne_iff_ne, beq_eq_false_iff_ne, bne_eq_false_iff_eq, Bool.not_eq_eq_eq_not, Bool.not_true, Bool.not_false] at h10
          refine VC_seq ?_
          refine VC_region ?_
          refine VL_pure 1 [2] [(2, .int .i64 11)] (by kernel_rfl) rfl ?_
          refine VL_end (by kernel_rfl) ?_
          refine VQ_next ?_
          refine VC_ret ?_
          refine VQ_then_ret ?_
          refine VQ_ret1 (.int .i64 11) (.inr rfl) rfl rfl ?_
          exact ⟨congrArg (Value.int .i64) (rightC_11 (by first | omega | (simp [spanB, fromB] at * <;> omega)) (by unfold fineC; simp [spanB, fromB] at * <;> omega)).symm, hS⟩
         ·try simp only [Bool.and_eq_true, Bool.or_eq_true, decide_eq_true_eq, Bool.not_eq_true', decide_eq_false_iff_not, Bool.and_eq_false_iff, Bool.or_eq_false_iff, beq_iff_eq, bne_iff_ne, beq_eq_false_iff_ne, bne_eq_false_iff_eq, Bool.not_eq_eq_eq_not, Bool.not_true, Bool.not_false] at h10
          refine VC_skip ?_
          refine VQ_next ?_
          refine VC_seq ?_
          refine VC_region ?_
          refine VL_pure 1 [2] [(2, .int .i64 0)] (by kernel_rfl) rfl ?_
          refine VL_end (by kernel_rfl) ?_
          refine VQ_next ?_
          refine VC_ret ?_
          refine VQ_ret1 (.int .i64 0) (.inr rfl) rfl rfl ?_
          exact ⟨congrArg (Value.int .i64) (rightC_0 (by first | omega | (simp [spanB, fromB] at * <;> omega)) (by unfold fineC; simp [spanB, fromB] at * <;> omega)).symm, hS⟩
        ·refine VL_pure 7 [4] [(4, .bool false)] (by kernel_rfl) rfl ?_
         refine VL_end (by kernel_rfl) ?_
         refine VQ_next ?_
         refine VC_seq ?_
         refine VC_seq ?_
         refine VC_region ?_
         refine VL_pure 2 [78] [(78, .bool true)] (by kernel_rfl) rfl ?_
         refine VL_end (by kernel_rfl) ?_
         refine VQ_next ?_
         refine VC_true (by kernel_rfl) ?_
         refine VC_seq ?_
         refine VC_region ?_
         refine VL_pure 1 [2] [(2, .int .i64 11)] (by kernel_rfl) rfl ?_
         refine VL_end (by kernel_rfl) ?_
         refine VQ_next ?_
         refine VC_ret ?_
         refine VQ_then_ret ?_
         refine VQ_ret1 (.int .i64 11) (.inr rfl) rfl rfl ?_
         exact ⟨congrArg (Value.int .i64) (rightC_11 (by first | omega | (simp [spanB, fromB] at * <;> omega)) (by unfold fineC; simp [spanB, fromB] at * <;> omega)).symm, hS⟩
      ·refine VL_pure 14 [1, 4] [(1, .pointer (some ⟨b1, 0, none⟩)), (4, .bool false)] (by kernel_rfl) rfl ?_
       refine VL_end (by kernel_rfl) ?_
       refine VQ_next ?_
       refine VC_seq ?_
       refine VC_seq ?_
       refine VC_region ?_
       refine VL_pure 1 [1, 4, 55] [(1, .pointer (some ⟨b1, 0, none⟩)), (4, .bool false), (55, .pointer (some ⟨b1, 0, none⟩))] (by kernel_rfl) rfl ?_
       refine VL_load (d := 56) (t := 3) (a := ⟨b1, 0, none⟩) (v := .int .i64 k) (by kernel_rfl) (by kernel_rfl) (Loads.own1 ho1 (by kernel_rfl) (by rfl)) ?_
       refine VL_pure 3 [1, 4, 57] [(1, .pointer (some ⟨b1, 0, none⟩)), (4, .bool false), (57, .bool (k == 5))] (by kernel_rfl) rfl ?_
       refine VL_end (by kernel_rfl) ?_
       refine VQ_next ?_
       refine VC_eq k 5 (by kernel_rfl) (fun h11 => ?_) (fun h11 => ?_)
       ·refine VC_region ?_
        refine VL_pure 14 [4] [(4, .bool false)] (by kernel_rfl) rfl ?_
        refine VL_end (by kernel_rfl) ?_
        refine VQ_next ?_
        refine VC_seq ?_
        refine VC_seq ?_
        refine VC_region ?_
        refine VL_pure 2 [78] [(78, .bool true)] (by kernel_rfl) rfl ?_
        refine VL_end (by kernel_rfl) ?_
        refine VQ_next ?_
        refine VC_true (by kernel_rfl) ?_
        refine VC_seq ?_
        refine VC_region ?_
        refine VL_pure 1 [2] [(2, .int .i64 11)] (by kernel_rfl) rfl ?_
        refine VL_end (by kernel_rfl) ?_
        refine VQ_next ?_
        refine VC_ret ?_
        refine VQ_then_ret ?_
        refine VQ_ret1 (.int .i64 11) (.inr rfl) rfl rfl ?_
        exact ⟨congrArg (Value.int .i64) (rightC_11 (by first | omega | (simp [spanB, fromB] at * <;> omega)) (by unfold fineC; simp [spanB, fromB] at * <;> omega)).symm, hS⟩
       ·refine VC_region ?_
        refine VL_pure 7 [4] [(4, .bool false)] (by kernel_rfl) rfl ?_
        refine VL_end (by kernel_rfl) ?_
        refine VQ_next ?_
        refine VC_seq ?_
        refine VC_seq ?_
        refine VC_region ?_
        refine VL_pure 2 [78] [(78, .bool true)] (by kernel_rfl) rfl ?_
        refine VL_end (by kernel_rfl) ?_
        refine VQ_next ?_
        refine VC_true (by kernel_rfl) ?_
        refine VC_seq ?_
        refine VC_region ?_
        refine VL_pure 1 [2] [(2, .int .i64 11)] (by kernel_rfl) rfl ?_
        refine VL_end (by kernel_rfl) ?_
        refine VQ_next ?_
        refine VC_ret ?_
        refine VQ_then_ret ?_
        refine VQ_ret1 (.int .i64 11) (.inr rfl) rfl rfl ?_
        exact ⟨congrArg (Value.int .i64) (rightC_11 (by first | omega | (simp [spanB, fromB] at * <;> omega)) (by unfold fineC; simp [spanB, fromB] at * <;> omega)).symm, hS⟩
     ·refine VL_pure 14 [1, 4] [(1, .pointer (some ⟨b1, 0, none⟩)), (4, .bool false)] (by kernel_rfl) rfl ?_
      refine VL_end (by kernel_rfl) ?_
      refine VQ_next ?_
      refine VC_seq ?_
      refine VC_seq ?_
      refine VC_region ?_
      refine VL_pure 1 [1, 4, 55] [(1, .pointer (some ⟨b1, 0, none⟩)), (4, .bool false), (55, .pointer (some ⟨b1, 0, none⟩))] (by kernel_rfl) rfl ?_
      refine VL_load (d := 56) (t := 3) (a := ⟨b1, 0, none⟩) (v := .int .i64 k) (by kernel_rfl) (by kernel_rfl) (Loads.own1 ho1 (by kernel_rfl) (by rfl)) ?_
      refine VL_pure 3 [1, 4, 57] [(1, .pointer (some ⟨b1, 0, none⟩)), (4, .bool false), (57, .bool (k == 5))] (by kernel_rfl) rfl ?_
      refine VL_end (by kernel_rfl) ?_
      refine VQ_next ?_
      refine VC_eq k 5 (by kernel_rfl) (fun h12 => ?_) (fun h12 => ?_)
      ·refine VC_region ?_
       refine VL_pure 14 [4] [(4, .bool false)] (by kernel_rfl) rfl ?_
       refine VL_end (by kernel_rfl) ?_
       refine VQ_next ?_
       refine VC_seq ?_
       refine VC_seq ?_
       refine VC_region ?_
       refine VL_pure 2 [78] [(78, .bool true)] (by kernel_rfl) rfl ?_
       refine VL_end (by kernel_rfl) ?_
       refine VQ_next ?_
       refine VC_true (by kernel_rfl) ?_
       refine VC_seq ?_
       refine VC_region ?_
       refine VL_pure 1 [2] [(2, .int .i64 11)] (by kernel_rfl) rfl ?_
       refine VL_end (by kernel_rfl) ?_
       refine VQ_next ?_
       refine VC_ret ?_
       refine VQ_then_ret ?_
       refine VQ_ret1 (.int .i64 11) (.inr rfl) rfl rfl ?_
       exact ⟨congrArg (Value.int .i64) (rightC_11 (by first | omega | (simp [spanB, fromB] at * <;> omega)) (by unfold fineC; simp [spanB, fromB] at * <;> omega)).symm, hS⟩
      ·refine VC_region ?_
       refine VL_pure 7 [4] [(4, .bool false)] (by kernel_rfl) rfl ?_
       refine VL_end (by kernel_rfl) ?_
       refine VQ_next ?_
       refine VC_seq ?_
       refine VC_seq ?_
       refine VC_region ?_
       refine VL_pure 2 [78] [(78, .bool true)] (by kernel_rfl) rfl ?_
       refine VL_end (by kernel_rfl) ?_
       refine VQ_next ?_
       refine VC_true (by kernel_rfl) ?_
       refine VC_seq ?_
       refine VC_region ?_
       refine VL_pure 1 [2] [(2, .int .i64 11)] (by kernel_rfl) rfl ?_
       refine VL_end (by kernel_rfl) ?_
       refine VQ_next ?_
       refine VC_ret ?_
       refine VQ_then_ret ?_
       refine VQ_ret1 (.int .i64 11) (.inr rfl) rfl rfl ?_
       exact ⟨congrArg (Value.int .i64) (rightC_11 (by first | omega | (simp [spanB, fromB] at * <;> omega)) (by unfold fineC; simp [spanB, fromB] at * <;> omega)).symm, hS⟩
    ·refine VL_pure 9 [1, 3, 4] [(1, .pointer (some ⟨b1, 0, none⟩)), (3, .bool true), (4, .bool false)] (by kernel_rfl) rfl ?_
     refine VL_end (by kernel_rfl) ?_
     refine VQ_next ?_
     refine VC_seq ?_
     refine VC_seq ?_
     refine VC_region ?_
     refine VL_pure 1 [1, 4, 30] [(1, .pointer (some ⟨b1, 0, none⟩)), (4, .bool false), (30, .bool true)] (by kernel_rfl) rfl ?_
     refine VL_end (by kernel_rfl) ?_
     refine VQ_next ?_
     refine VC_true (by kernel_rfl) ?_
     refine VC_region ?_
     refine VL_pure 14 [1, 4] [(1, .pointer (some ⟨b1, 0, none⟩)), (4, .bool false)] (by kernel_rfl) rfl ?_
     refine VL_end (by kernel_rfl) ?_
     refine VQ_next ?_
     refine VC_seq ?_
     refine VC_seq ?_
     refine VC_region ?_
     refine VL_pure 1 [1, 4, 55] [(1, .pointer (some ⟨b1, 0, none⟩)), (4, .bool false), (55, .pointer (some ⟨b1, 0, none⟩))] (by kernel_rfl) rfl ?_
     refine VL_load (d := 56) (t := 3) (a := ⟨b1, 0, none⟩) (v := .int .i64 k) (by kernel_rfl) (by kernel_rfl) (Loads.own1 ho1 (by kernel_rfl) (by rfl)) ?_
     refine VL_pure 3 [1, 4, 57] [(1, .pointer (some ⟨b1, 0, none⟩)), (4, .bool false), (57, .bool (k == 5))] (by kernel_rfl) rfl ?_
     refine VL_end (by kernel_rfl) ?_
     refine VQ_next ?_
     refine VC_eq k 5 (by kernel_rfl) (fun h13 => ?_) (fun h13 => ?_)
     ·refine VC_region ?_
      refine VL_pure 14 [4] [(4, .bool false)] (by kernel_rfl) rfl ?_
      refine VL_end (by kernel_rfl) ?_
      refine VQ_next ?_
      refine VC_seq ?_
      refine VC_seq ?_
      refine VC_region ?_
      refine VL_pure 2 [78] [(78, .bool true)] (by kernel_rfl) rfl ?_
      refine VL_end (by kernel_rfl) ?_
      refine VQ_next ?_
      refine VC_true (by kernel_rfl) ?_
      refine VC_seq ?_
      refine VC_region ?_
      refine VL_pure 1 [2] [(2, .int .i64 11)] (by kernel_rfl) rfl ?_
      refine VL_end (by kernel_rfl) ?_
      refine VQ_next ?_
      refine VC_ret ?_
      refine VQ_then_ret ?_
      refine VQ_ret1 (.int .i64 11) (.inr rfl) rfl rfl ?_
      exact ⟨congrArg (Value.int .i64) (rightC_11 (by first | omega | (simp [spanB, fromB] at * <;> omega)) (by unfold fineC; simp [spanB, fromB] at * <;> omega)).symm, hS⟩
     ·refine VC_region ?_
      refine VL_pure 7 [4] [(4, .bool false)] (by kernel_rfl) rfl ?_
      refine VL_end (by kernel_rfl) ?_
      refine VQ_next ?_
      refine VC_seq ?_
      refine VC_seq ?_
      refine VC_region ?_
      refine VL_pure 2 [78] [(78, .bool true)] (by kernel_rfl) rfl ?_
      refine VL_end (by kernel_rfl) ?_
      refine VQ_next ?_
      refine VC_true (by kernel_rfl) ?_
      refine VC_seq ?_
      refine VC_region ?_
      refine VL_pure 1 [2] [(2, .int .i64 11)] (by kernel_rfl) rfl ?_
      refine VL_end (by kernel_rfl) ?_
      refine VQ_next ?_
      refine VC_ret ?_
      refine VQ_then_ret ?_
      refine VQ_ret1 (.int .i64 11) (.inr rfl) rfl rfl ?_
      exact ⟨congrArg (Value.int .i64) (rightC_11 (by first | omega | (simp [spanB, fromB] at * <;> omega)) (by unfold fineC; simp [spanB, fromB] at * <;> omega)).symm, hS⟩
   ·refine VL_pure 10 [1, 17, 18] [(1, .pointer (some ⟨b1, 0, none⟩)), (17, .bool false), (18, .pointer (some ⟨b1, 0, none⟩))] (by kernel_rfl) rfl ?_
    refine VL_load (d := 19) (t := 3) (a := ⟨b1, 0, none⟩) (v := .int .i64 k) (by kernel_rfl) (by kernel_rfl) (Loads.own1 ho1 (by kernel_rfl) (by rfl)) ?_
    refine VL_pure 14 [1, 3] [(1, .pointer (some ⟨b1, 0, none⟩)), (3, .bool (k == 4))] (by kernel_rfl) rfl ?_
    refine VL_end (by kernel_rfl) ?_
    refine VQ_next ?_
    refine VC_seq ?_
    refine VC_region ?_
    refine VL_pure 1 [1, 3, 22] [(1, .pointer (some ⟨b1, 0, none⟩)), (3, .bool (k == 4)), (22, .pointer (some ⟨b1, 1, none⟩))] (by kernel_rfl) rfl ?_
    refine VL_load (d := 23) (t := 3) (a := ⟨b1, 1, none⟩) (v := .int .i64 p) (by kernel_rfl) (by kernel_rfl) (Loads.own1 ho1 (by kernel_rfl) (by rfl)) ?_
    have hzs13 := hS.size
    have hzl12 := ho1.lt
    refine VL_call (d := 24) (f := 67) (args := #[.int .i64 p, .int .i64 1, .int .i64 1099511627776]) (by kernel_rfl) (by kernel_rfl) (by kernel_rfl) Try.call67 (from_any p 1 1099511627776 _) ?_
    rintro _ w13 ⟨rfl, hc12⟩
    replace hS := Step.trans hS hc12
    replace ho1 := ho1.no hc12
    refine VL_pure 4 [1, 3, 25] [(1, .pointer (some ⟨b1, 0, none⟩)), (3, .bool (k == 4)), (25, .bool (fromB p 1 1099511627776))] (by kernel_rfl) rfl ?_
    refine VL_bool (fromB p 1 1099511627776) (fun bV => [(1, .pointer (some ⟨b1, 0, none⟩)), (3, .bool (k == 4)), (25, .bool bV)]) rfl (fun hg15 => ?_) (fun hg15 => ?_)
    ·refine VL_pure 5 [1, 3, 25, 26] [(1, .pointer (some ⟨b1, 0, none⟩)), (3, .bool (k == 4)), (25, .bool true), (26, .pointer (some ⟨b1, 2, none⟩))] (by kernel_rfl) rfl ?_
     refine VL_load (d := 27) (t := 3) (a := ⟨b1, 2, none⟩) (v := .int .i64 e) (by kernel_rfl) (by kernel_rfl) (Loads.own1 ho1 (by kernel_rfl) (by rfl)) ?_
     have hzs14 := hS.size
     have hzl13 := ho1.lt
     refine VL_call (d := 28) (f := 67) (args := #[.int .i64 e, .int .i64 0, .int .i64 1099511627776]) (by kernel_rfl) (by kernel_rfl) (by kernel_rfl) Try.call67 (from_any e 0 1099511627776 _) ?_
     rintro _ w14 ⟨rfl, hc13⟩
     replace hS := Step.trans hS hc13
     replace ho1 := ho1.no hc13
     refine VL_pure 9 [1, 3, 4] [(1, .pointer (some ⟨b1, 0, none⟩)), (3, .bool (k == 4)), (4, .bool (fromB e 0 1099511627776))] (by kernel_rfl) rfl ?_
     refine VL_end (by kernel_rfl) ?_
     refine VQ_next ?_
     refine VC_seq ?_
     refine VC_seq ?_
     refine VC_region ?_
     refine VL_pure 1 [1, 4, 30] [(1, .pointer (some ⟨b1, 0, none⟩)), (4, .bool (fromB e 0 1099511627776)), (30, .bool (k == 4))] (by kernel_rfl) rfl ?_
     refine VL_end (by kernel_rfl) ?_
     refine VQ_next ?_
     refine VC_eq k 4 (by kernel_rfl) (fun h14 => ?_) (fun h14 => ?_)
     ·refine VC_region ?_
      refine VL_pure 2 [1, 32] [(1, .pointer (some ⟨b1, 0, none⟩)), (32, .bool (fromB e 0 1099511627776))] (by kernel_rfl) rfl ?_
      refine VL_bool (fromB e 0 1099511627776) (fun bV => [(1, .pointer (some ⟨b1, 0, none⟩)), (32, .bool bV)]) rfl (fun hg16 => ?_) (fun hg16 => ?_)
      ·refine VL_pure 3 [1, 32, 33] [(1, .pointer (some ⟨b1, 0, none⟩)), (32, .bool true), (33, .pointer (some ⟨b1, 3, none⟩))] (by kernel_rfl) rfl ?_
       refine VL_load (d := 34) (t := 3) (a := ⟨b1, 3, none⟩) (v := .int .i64 h) (by kernel_rfl) (by kernel_rfl) (Loads.own1 ho1 (by kernel_rfl) (by rfl)) ?_
       refine VL_pure 5 [1, 32, 34, 35] [(1, .pointer (some ⟨b1, 0, none⟩)), (32, .bool true), (34, .int .i64 h), (35, .pointer (some ⟨b1, 1, none⟩))] (by kernel_rfl) rfl ?_
       refine VL_load (d := 36) (t := 3) (a := ⟨b1, 1, none⟩) (v := .int .i64 p) (by kernel_rfl) (by kernel_rfl) (Loads.own1 ho1 (by kernel_rfl) (by rfl)) ?_
       have hzs15 := hS.size
       have hzl14 := ho1.lt
       refine VL_call (d := 37) (f := 67) (args := #[.int .i64 h, .int .i64 p, .int .i64 1099511627776]) (by kernel_rfl) (by kernel_rfl) (by kernel_rfl) Try.call67 (from_any h p 1099511627776 _) ?_
       rintro _ w15 ⟨rfl, hc14⟩
       replace hS := Step.trans hS hc14
       replace ho1 := ho1.no hc14
       refine VL_pure 9 [1, 39] [(1, .pointer (some ⟨b1, 0, none⟩)), (39, .bool (fromB h p 1099511627776))] (by kernel_rfl) rfl ?_
       refine VL_bool (fromB h p 1099511627776) (fun bV => [(1, .pointer (some ⟨b1, 0, none⟩)), (39, .bool bV)]) rfl (fun hg17 => ?_) (fun hg17 => ?_)
       ·refine VL_pure 10 [1, 39, 40] [(1, .pointer (some ⟨b1, 0, none⟩)), (39, .bool true), (40, .pointer (some ⟨b1, 4, none⟩))] (by kernel_rfl) rfl ?_
        refine VL_load (d := 41) (t := 3) (a := ⟨b1, 4, none⟩) (v := .int .i64 b) (by kernel_rfl) (by kernel_rfl) (Loads.own1 ho1 (by kernel_rfl) (by rfl)) ?_
        have hzs16 := hS.size
        have hzl15 := ho1.lt
        refine VL_call (d := 42) (f := 67) (args := #[.int .i64 b, .int .i64 0, .int .i64 1099511627776]) (by kernel_rfl) (by kernel_rfl) (by kernel_rfl) Try.call67 (from_any b 0 1099511627776 _) ?_
        rintro _ w16 ⟨rfl, hc15⟩
        replace hS := Step.trans hS hc15
        replace ho1 := ho1.no hc15
        refine VL_pure 14 [1, 4] [(1, .pointer (some ⟨b1, 0, none⟩)), (4, .bool (fromB b 0 1099511627776))] (by kernel_rfl) rfl ?_
        refine VL_end (by kernel_rfl) ?_
        refine VQ_next ?_
        refine VC_seq ?_
        refine VC_seq ?_
        refine VC_region ?_
        refine VL_pure 1 [1, 4, 55] [(1, .pointer (some ⟨b1, 0, none⟩)), (4, .bool (fromB b 0 1099511627776)), (55, .pointer (some ⟨b1, 0, none⟩))] (by kernel_rfl) rfl ?_
        refine VL_load (d := 56) (t := 3) (a := ⟨b1, 0, none⟩) (v := .int .i64 k) (by kernel_rfl) (by kernel_rfl) (Loads.own1 ho1 (by kernel_rfl) (by rfl)) ?_
        refine VL_pure 3 [1, 4, 57] [(1, .pointer (some ⟨b1, 0, none⟩)), (4, .bool (fromB b 0 1099511627776)), (57, .bool (k == 5))] (by kernel_rfl) rfl ?_
        refine VL_end (by kernel_rfl) ?_
        refine VQ_next ?_
        refine VC_eq k 5 (by kernel_rfl) (fun h15 => ?_) (fun h15 => ?_)
        ·refine VC_region ?_
         refine VL_pure 2 [1, 59] [(1, .pointer (some ⟨b1, 0, none⟩)), (59, .bool (fromB b 0 1099511627776))] (by kernel_rfl) rfl ?_
         refine VL_bool (fromB b 0 1099511627776) (fun bV => [(1, .pointer (some ⟨b1, 0, none⟩)), (59, .bool bV)]) rfl (fun hg18 => ?_) (fun hg18 => ?_)
         ·refine VL_pure 3 [1, 59, 60] [(1, .pointer (some ⟨b1, 0, none⟩)), (59, .bool true), (60, .pointer (some ⟨b1, 5, none⟩))] (by kernel_rfl) rfl ?_
          refine VL_load (d := 61) (t := 3) (a := ⟨b1, 5, none⟩) (v := .int .i64 t) (by kernel_rfl) (by kernel_rfl) (Loads.own1 ho1 (by kernel_rfl) (by rfl)) ?_
          refine VL_pure 6 [1, 59, 63] [(1, .pointer (some ⟨b1, 0, none⟩)), (59, .bool true), (63, .bool (t == 0))] (by kernel_rfl) rfl ?_
          refine VL_beq t 0 (fun bV => [(1, .pointer (some ⟨b1, 0, none⟩)), (59, .bool true), (63, .bool bV)]) rfl (fun hg19 => ?_) (fun hg19 => ?_)
          ·refine VL_pure 14 [4] [(4, .bool true)] (by kernel_rfl) rfl ?_
           refine VL_end (by kernel_rfl) ?_
           refine VQ_next ?_
           refine VC_seq ?_
           refine VC_seq ?_
           refine VC_region ?_
           refine VL_pure 2 [78] [(78, .bool false)] (by kernel_rfl) rfl ?_
           refine VL_end (by kernel_rfl) ?_
           refine VQ_next ?_
           refine VC_false (by kernel_rfl) ?_
           refine VC_skip ?_
           refine VQ_next ?_
           refine VC_seq ?_
           refine VC_region ?_
           refine VL_pure 1 [2] [(2, .int .i64 0)] (by kernel_rfl) rfl ?_
           refine VL_end (by kernel_rfl) ?_
           refine VQ_next ?_
           refine VC_ret ?_
           refine VQ_ret1 (.int .i64 0) (.inr rfl) rfl rfl ?_
           exact ⟨congrArg (Value.int .i64) (rightC_0 (by first | omega | (simp [spanB, fromB] at * <;> omega)) (by unfold fineC; simp [spanB, fromB] at * <;> omega)).symm, hS⟩
          ·refine VL_pure 7 [1, 59, 63, 64] [(1, .pointer (some ⟨b1, 0, none⟩)), (59, .bool true), (63, .bool false), (64, .pointer (some ⟨b1, 5, none⟩))] (by kernel_rfl) rfl ?_
           refine VL_load (d := 65) (t := 3) (a := ⟨b1, 5, none⟩) (v := .int .i64 t) (by kernel_rfl) (by kernel_rfl) (Loads.own1 ho1 (by kernel_rfl) (by rfl)) ?_
           refine VL_pure 9 [59, 63, 65, 66] [(59, .bool true), (63, .bool false), (65, .int .i64 t), (66, .pointer (some ⟨b1, 1, none⟩))] (by kernel_rfl) rfl ?_
           refine VL_load (d := 67) (t := 3) (a := ⟨b1, 1, none⟩) (v := .int .i64 p) (by kernel_rfl) (by kernel_rfl) (Loads.own1 ho1 (by kernel_rfl) (by rfl)) ?_
           have hzs17 := hS.size
           have hzl16 := ho1.lt
           refine VL_call (d := 68) (f := 67) (args := #[.int .i64 t, .int .i64 p, .int .i64 1099511627776]) (by kernel_rfl) (by kernel_rfl) (by kernel_rfl) Try.call67 (from_any t p 1099511627776 _) ?_
           rintro _ w17 ⟨rfl, hc16⟩
           replace hS := Step.trans hS hc16
           replace ho1 := ho1.no hc16
           refine VL_pure 14 [4] [(4, .bool (fromB t p 1099511627776))] (by kernel_rfl) rfl ?_
           refine VL_end (by kernel_rfl) ?_
           refine VQ_next ?_
           refine VC_seq ?_
           refine VC_seq ?_
           refine VC_region ?_
           refine VL_pure 2 [78] [(78, .bool (!(fromB t p 1099511627776)))] (by kernel_rfl) rfl ?_
           refine VL_end (by kernel_rfl) ?_
           refine VQ_next ?_
           refine VC_cond (!(fromB t p 1099511627776)) (by kernel_rfl) (fun h16 => ?_) (fun h16 => ?_)
           ·try simp only [Bool.and_eq_true, Bool.or_eq_true, decide_eq_true_eq, Bool.not_eq_true', decide_eq_false_iff_not, Bool.and_eq_false_iff, Bool.or_eq_false_iff, beq_iff_eq, bne_iff_ne, beq_eq_false_iff_ne, bne_eq_false_iff_eq, Bool.not_eq_eq_eq_not, Bool.not_true, Bool.not_false] at h16
            refine VC_seq ?_
            refine VC_region ?_
            refine VL_pure 1 [2] [(2, .int .i64 11)] (by kernel_rfl) rfl ?_
            refine VL_end (by kernel_rfl) ?_
            refine VQ_next ?_
            refine VC_ret ?_
            refine VQ_then_ret ?_
            refine VQ_ret1 (.int .i64 11) (.inr rfl) rfl rfl ?_
            exact ⟨congrArg (Value.int .i64) (rightC_11 (by first | omega | (simp [spanB, fromB] at * <;> omega)) (by unfold fineC; simp [spanB, fromB] at * <;> omega)).symm, hS⟩
           ·try simp only [Bool.and_eq_true, Bool.or_eq_true, decide_eq_true_eq, Bool.not_eq_true', decide_eq_false_iff_not, Bool.and_eq_false_iff, Bool.or_eq_false_iff, beq_iff_eq, bne_iff_ne, beq_eq_false_iff_ne, bne_eq_false_iff_eq, Bool.not_eq_eq_eq_not, Bool.not_true, Bool.not_false] at h16
            refine VC_skip ?_
            refine VQ_next ?_
            refine VC_seq ?_
            refine VC_region ?_
            refine VL_pure 1 [2] [(2, .int .i64 0)] (by kernel_rfl) rfl ?_
            refine VL_end (by kernel_rfl) ?_
            refine VQ_next ?_
            refine VC_ret ?_
            refine VQ_ret1 (.int .i64 0) (.inr rfl) rfl rfl ?_
            exact ⟨congrArg (Value.int .i64) (rightC_0 (by first | omega | (simp [spanB, fromB] at * <;> omega)) (by unfold fineC; simp [spanB, fromB] at * <;> omega)).symm, hS⟩
         ·refine VL_pure 14 [4] [(4, .bool false)] (by kernel_rfl) rfl ?_
          refine VL_end (by kernel_rfl) ?_
          refine VQ_next ?_
          refine VC_seq ?_
          refine VC_seq ?_
          refine VC_region ?_
          refine VL_pure 2 [78] [(78, .bool true)] (by kernel_rfl) rfl ?_
          refine VL_end (by kernel_rfl) ?_
          refine VQ_next ?_
          refine VC_true (by kernel_rfl) ?_
          refine VC_seq ?_
          refine VC_region ?_
          refine VL_pure 1 [2] [(2, .int .i64 11)] (by kernel_rfl) rfl ?_
          refine VL_end (by kernel_rfl) ?_
          refine VQ_next ?_
          refine VC_ret ?_
          refine VQ_then_ret ?_
          refine VQ_ret1 (.int .i64 11) (.inr rfl) rfl rfl ?_
          exact ⟨congrArg (Value.int .i64) (rightC_11 (by first | omega | (simp [spanB, fromB] at * <;> omega)) (by unfold fineC; simp [spanB, fromB] at * <;> omega)).symm, hS⟩
        ·refine VC_region ?_
         refine VL_pure 2 [1, 72] [(1, .pointer (some ⟨b1, 0, none⟩)), (72, .bool (fromB b 0 1099511627776))] (by kernel_rfl) rfl ?_
         refine VL_bool (fromB b 0 1099511627776) (fun bV => [(1, .pointer (some ⟨b1, 0, none⟩)), (72, .bool bV)]) rfl (fun hg20 => ?_) (fun hg20 => ?_)
         ·refine VL_pure 3 [72, 73] [(72, .bool true), (73, .pointer (some ⟨b1, 5, none⟩))] (by kernel_rfl) rfl ?_
          refine VL_load (d := 74) (t := 3) (a := ⟨b1, 5, none⟩) (v := .int .i64 t) (by kernel_rfl) (by kernel_rfl) (Loads.own1 ho1 (by kernel_rfl) (by rfl)) ?_
          refine VL_pure 7 [4] [(4, .bool (t == 0))] (by kernel_rfl) rfl ?_
          refine VL_end (by kernel_rfl) ?_
          refine VQ_next ?_
          refine VC_seq ?_
          refine VC_seq ?_
          refine VC_region ?_
          refine VL_pure 2 [78] [(78, .bool (!(t == 0)))] (by kernel_rfl) rfl ?_
          refine VL_end (by kernel_rfl) ?_
          refine VQ_next ?_
          refine VC_cond (!(t == 0)) (by kernel_rfl) (fun h17 => ?_) (fun h17 => ?_)
          ·try simp only [Bool.and_eq_true, Bool.or_eq_true, decide_eq_true_eq, Bool.not_eq_true', decide_eq_false_iff_not, Bool.and_eq_false_iff, Bool.or_eq_false_iff, beq_iff_eq, bne_iff_ne, beq_eq_false_iff_ne, bne_eq_false_iff_eq, Bool.not_eq_eq_eq_not, Bool.not_true, Bool.not_false] at h17
           refine VC_seq ?_
           refine VC_region ?_
           refine VL_pure 1 [2] [(2, .int .i64 11)] (by kernel_rfl) rfl ?_
           refine VL_end (by kernel_rfl) ?_
           refine VQ_next ?_
           refine VC_ret ?_
           refine VQ_then_ret ?_
           refine VQ_ret1 (.int .i64 11) (.inr rfl) rfl rfl ?_
           exact ⟨congrArg (Value.int .i64) (rightC_11 (by first | omega | (simp [spanB, fromB] at * <;> omega)) (by unfold fineC; simp [spanB, fromB] at * <;> omega)).symm, hS⟩
          ·try simp only [Bool.and_eq_true, Bool.or_eq_true, decide_eq_true_eq, Bool.not_eq_true', decide_eq_false_iff_not, Bool.and_eq_false_iff, Bool.or_eq_false_iff, beq_iff_eq, bne_iff_ne, beq_eq_false_iff_ne, bne_eq_false_iff_eq, Bool.not_eq_eq_eq_not, Bool.not_true, Bool.not_false] at h17
           refine VC_skip ?_
           refine VQ_next ?_
           refine VC_seq ?_
           refine VC_region ?_
           refine VL_pure 1 [2] [(2, .int .i64 0)] (by kernel_rfl) rfl ?_
           refine VL_end (by kernel_rfl) ?_
           refine VQ_next ?_
           refine VC_ret ?_
           refine VQ_ret1 (.int .i64 0) (.inr rfl) rfl rfl ?_
           exact ⟨congrArg (Value.int .i64) (rightC_0 (by first | omega | (simp [spanB, fromB] at * <;> omega)) (by unfold fineC; simp [spanB, fromB] at * <;> omega)).symm, hS⟩
         ·refine VL_pure 7 [4] [(4, .bool false)] (by kernel_rfl) rfl ?_
          refine VL_end (by kernel_rfl) ?_
          refine VQ_next ?_
          refine VC_seq ?_
          refine VC_seq ?_
          refine VC_region ?_
          refine VL_pure 2 [78] [(78, .bool true)] (by kernel_rfl) rfl ?_
          refine VL_end (by kernel_rfl) ?_
          refine VQ_next ?_
          refine VC_true (by kernel_rfl) ?_
          refine VC_seq ?_
          refine VC_region ?_
          refine VL_pure 1 [2] [(2, .int .i64 11)] (by kernel_rfl) rfl ?_
          refine VL_end (by kernel_rfl) ?_
          refine VQ_next ?_
          refine VC_ret ?_
          refine VQ_then_ret ?_
          refine VQ_ret1 (.int .i64 11) (.inr rfl) rfl rfl ?_
          exact ⟨congrArg (Value.int .i64) (rightC_11 (by first | omega | (simp [spanB, fromB] at * <;> omega)) (by unfold fineC; simp [spanB, fromB] at * <;> omega)).symm, hS⟩
       ·refine VL_pure 14 [1, 4] [(1, .pointer (some ⟨b1, 0, none⟩)), (4, .bool false)] (by kernel_rfl) rfl ?_
        refine VL_end (by kernel_rfl) ?_
        refine VQ_next ?_
        refine VC_seq ?_
        refine VC_seq ?_
        refine VC_region ?_
        refine VL_pure 1 [1, 4, 55] [(1, .pointer (some ⟨b1, 0, none⟩)), (4, .bool false), (55, .pointer (some ⟨b1, 0, none⟩))] (by kernel_rfl) rfl ?_
        refine VL_load (d := 56) (t := 3) (a := ⟨b1, 0, none⟩) (v := .int .i64 k) (by kernel_rfl) (by kernel_rfl) (Loads.own1 ho1 (by kernel_rfl) (by rfl)) ?_
        refine VL_pure 3 [1, 4, 57] [(1, .pointer (some ⟨b1, 0, none⟩)), (4, .bool false), (57, .bool (k == 5))] (by kernel_rfl) rfl ?_
        refine VL_end (by kernel_rfl) ?_
        refine VQ_next ?_
        refine VC_eq k 5 (by kernel_rfl) (fun h18 => ?_) (fun h18 => ?_)
        ·refine VC_region ?_
         refine VL_pure 14 [4] [(4, .bool false)] (by kernel_rfl) rfl ?_
         refine VL_end (by kernel_rfl) ?_
         refine VQ_next ?_
         refine VC_seq ?_
         refine VC_seq ?_
         refine VC_region ?_
         refine VL_pure 2 [78] [(78, .bool true)] (by kernel_rfl) rfl ?_
         refine VL_end (by kernel_rfl) ?_
         refine VQ_next ?_
         refine VC_true (by kernel_rfl) ?_
         refine VC_seq ?_
         refine VC_region ?_
         refine VL_pure 1 [2] [(2, .int .i64 11)] (by kernel_rfl) rfl ?_
         refine VL_end (by kernel_rfl) ?_
         refine VQ_next ?_
         refine VC_ret ?_
         refine VQ_then_ret ?_
         refine VQ_ret1 (.int .i64 11) (.inr rfl) rfl rfl ?_
         exact ⟨congrArg (Value.int .i64) (rightC_11 (by first | omega | (simp [spanB, fromB] at * <;> omega)) (by unfold fineC; simp [spanB, fromB] at * <;> omega)).symm, hS⟩
        ·refine VC_region ?_
         refine VL_pure 7 [4] [(4, .bool false)] (by kernel_rfl) rfl ?_
         refine VL_end (by kernel_rfl) ?_
         refine VQ_next ?_
         refine VC_seq ?_
         refine VC_seq ?_
         refine VC_region ?_
         refine VL_pure 2 [78] [(78, .bool true)] (by kernel_rfl) rfl ?_
         refine VL_end (by kernel_rfl) ?_
         refine VQ_next ?_
         refine VC_true (by kernel_rfl) ?_
         refine VC_seq ?_
         refine VC_region ?_
         refine VL_pure 1 [2] [(2, .int .i64 11)] (by kernel_rfl) rfl ?_
         refine VL_end (by kernel_rfl) ?_
         refine VQ_next ?_
         refine VC_ret ?_
         refine VQ_then_ret ?_
         refine VQ_ret1 (.int .i64 11) (.inr rfl) rfl rfl ?_
         exact ⟨congrArg (Value.int .i64) (rightC_11 (by first | omega | (simp [spanB, fromB] at * <;> omega)) (by unfold fineC; simp [spanB, fromB] at * <;> omega)).symm, hS⟩
      ·refine VL_pure 14 [1, 4] [(1, .pointer (some ⟨b1, 0, none⟩)), (4, .bool false)] (by kernel_rfl) rfl ?_
       refine VL_end (by kernel_rfl) ?_
       refine VQ_next ?_
       refine VC_seq ?_
       refine VC_seq ?_
       refine VC_region ?_
       refine VL_pure 1 [1, 4, 55] [(1, .pointer (some ⟨b1, 0, none⟩)), (4, .bool false), (55, .pointer (some ⟨b1, 0, none⟩))] (by kernel_rfl) rfl ?_
       refine VL_load (d := 56) (t := 3) (a := ⟨b1, 0, none⟩) (v := .int .i64 k) (by kernel_rfl) (by kernel_rfl) (Loads.own1 ho1 (by kernel_rfl) (by rfl)) ?_
       refine VL_pure 3 [1, 4, 57] [(1, .pointer (some ⟨b1, 0, none⟩)), (4, .bool false), (57, .bool (k == 5))] (by kernel_rfl) rfl ?_
       refine VL_end (by kernel_rfl) ?_
       refine VQ_next ?_
       refine VC_eq k 5 (by kernel_rfl) (fun h19 => ?_) (fun h19 => ?_)
       ·refine VC_region ?_
        refine VL_pure 14 [4] [(4, .bool false)] (by kernel_rfl) rfl ?_
        refine VL_end (by kernel_rfl) ?_
        refine VQ_next ?_
        refine VC_seq ?_
        refine VC_seq ?_
        refine VC_region ?_
        refine VL_pure 2 [78] [(78, .bool true)] (by kernel_rfl) rfl ?_
        refine VL_end (by kernel_rfl) ?_
        refine VQ_next ?_
        refine VC_true (by kernel_rfl) ?_
        refine VC_seq ?_
        refine VC_region ?_
        refine VL_pure 1 [2] [(2, .int .i64 11)] (by kernel_rfl) rfl ?_
        refine VL_end (by kernel_rfl) ?_
        refine VQ_next ?_
        refine VC_ret ?_
        refine VQ_then_ret ?_
        refine VQ_ret1 (.int .i64 11) (.inr rfl) rfl rfl ?_
        exact ⟨congrArg (Value.int .i64) (rightC_11 (by first | omega | (simp [spanB, fromB] at * <;> omega)) (by unfold fineC; simp [spanB, fromB] at * <;> omega)).symm, hS⟩
       ·refine VC_region ?_
        refine VL_pure 7 [4] [(4, .bool false)] (by kernel_rfl) rfl ?_
        refine VL_end (by kernel_rfl) ?_
        refine VQ_next ?_
        refine VC_seq ?_
        refine VC_seq ?_
        refine VC_region ?_
        refine VL_pure 2 [78] [(78, .bool true)] (by kernel_rfl) rfl ?_
        refine VL_end (by kernel_rfl) ?_
        refine VQ_next ?_
        refine VC_true (by kernel_rfl) ?_
        refine VC_seq ?_
        refine VC_region ?_
        refine VL_pure 1 [2] [(2, .int .i64 11)] (by kernel_rfl) rfl ?_
        refine VL_end (by kernel_rfl) ?_
        refine VQ_next ?_
        refine VC_ret ?_
        refine VQ_then_ret ?_
        refine VQ_ret1 (.int .i64 11) (.inr rfl) rfl rfl ?_
        exact ⟨congrArg (Value.int .i64) (rightC_11 (by first | omega | (simp [spanB, fromB] at * <;> omega)) (by unfold fineC; simp [spanB, fromB] at * <;> omega)).symm, hS⟩
     ·refine VC_region ?_
      refine VL_pure 2 [1, 45] [(1, .pointer (some ⟨b1, 0, none⟩)), (45, .bool (fromB e 0 1099511627776))] (by kernel_rfl) rfl ?_
      refine VL_bool (fromB e 0 1099511627776) (fun bV => [(1, .pointer (some ⟨b1, 0, none⟩)), (45, .bool bV)]) rfl (fun hg21 => ?_) (fun hg21 => ?_)
      ·refine VL_pure 3 [1, 45, 46] [(1, .pointer (some ⟨b1, 0, none⟩)), (45, .bool true), (46, .pointer (some ⟨b1, 3, none⟩))] (by kernel_rfl) rfl ?_
       refine VL_load (d := 47) (t := 3) (a := ⟨b1, 3, none⟩) (v := .int .i64 h) (by kernel_rfl) (by kernel_rfl) (Loads.own1 ho1 (by kernel_rfl) (by rfl)) ?_
       refine VL_pure 7 [1, 50] [(1, .pointer (some ⟨b1, 0, none⟩)), (50, .bool (h == 0))] (by kernel_rfl) rfl ?_
       refine VL_beq h 0 (fun bV => [(1, .pointer (some ⟨b1, 0, none⟩)), (50, .bool bV)]) rfl (fun hg22 => ?_) (fun hg22 => ?_)
       ·refine VL_pure 8 [1, 50, 51] [(1, .pointer (some ⟨b1, 0, none⟩)), (50, .bool true), (51, .pointer (some ⟨b1, 4, none⟩))] (by kernel_rfl) rfl ?_
        refine VL_load (d := 52) (t := 3) (a := ⟨b1, 4, none⟩) (v := .int .i64 b) (by kernel_rfl) (by kernel_rfl) (Loads.own1 ho1 (by kernel_rfl) (by rfl)) ?_
        refine VL_pure 12 [1, 4] [(1, .pointer (some ⟨b1, 0, none⟩)), (4, .bool (b == 0))] (by kernel_rfl) rfl ?_
        refine VL_end (by kernel_rfl) ?_
        refine VQ_next ?_
        refine VC_seq ?_
        refine VC_seq ?_
        refine VC_region ?_
        refine VL_pure 1 [1, 4, 55] [(1, .pointer (some ⟨b1, 0, none⟩)), (4, .bool (b == 0)), (55, .pointer (some ⟨b1, 0, none⟩))] (by kernel_rfl) rfl ?_
        refine VL_load (d := 56) (t := 3) (a := ⟨b1, 0, none⟩) (v := .int .i64 k) (by kernel_rfl) (by kernel_rfl) (Loads.own1 ho1 (by kernel_rfl) (by rfl)) ?_
        refine VL_pure 3 [1, 4, 57] [(1, .pointer (some ⟨b1, 0, none⟩)), (4, .bool (b == 0)), (57, .bool (k == 5))] (by kernel_rfl) rfl ?_
        refine VL_end (by kernel_rfl) ?_
        refine VQ_next ?_
        refine VC_eq k 5 (by kernel_rfl) (fun h20 => ?_) (fun h20 => ?_)
        ·refine VC_region ?_
         refine VL_pure 2 [1, 59] [(1, .pointer (some ⟨b1, 0, none⟩)), (59, .bool (b == 0))] (by kernel_rfl) rfl ?_
         refine VL_beq b 0 (fun bV => [(1, .pointer (some ⟨b1, 0, none⟩)), (59, .bool bV)]) rfl (fun hg23 => ?_) (fun hg23 => ?_)
         ·refine VL_pure 3 [1, 59, 60] [(1, .pointer (some ⟨b1, 0, none⟩)), (59, .bool true), (60, .pointer (some ⟨b1, 5, none⟩))] (by kernel_rfl) rfl ?_
          refine VL_load (d := 61) (t := 3) (a := ⟨b1, 5, none⟩) (v := .int .i64 t) (by kernel_rfl) (by kernel_rfl) (Loads.own1 ho1 (by kernel_rfl) (by rfl)) ?_
          refine VL_pure 6 [1, 59, 63] [(1, .pointer (some ⟨b1, 0, none⟩)), (59, .bool true), (63, .bool (t == 0))] (by kernel_rfl) rfl ?_
          refine VL_beq t 0 (fun bV => [(1, .pointer (some ⟨b1, 0, none⟩)), (59, .bool true), (63, .bool bV)]) rfl (fun hg24 => ?_) (fun hg24 => ?_)
          ·refine VL_pure 14 [4] [(4, .bool true)] (by kernel_rfl) rfl ?_
           refine VL_end (by kernel_rfl) ?_
           refine VQ_next ?_
           refine VC_seq ?_
           refine VC_seq ?_
           refine VC_region ?_
           refine VL_pure 2 [78] [(78, .bool false)] (by kernel_rfl) rfl ?_
           refine VL_end (by kernel_rfl) ?_
           refine VQ_next ?_
           refine VC_false (by kernel_rfl) ?_
           refine VC_skip ?_
           refine VQ_next ?_
           refine VC_seq ?_
           refine VC_region ?_
           refine VL_pure 1 [2] [(2, .int .i64 0)] (by kernel_rfl) rfl ?_
           refine VL_end (by kernel_rfl) ?_
           refine VQ_next ?_
           refine VC_ret ?_
           refine VQ_ret1 (.int .i64 0) (.inr rfl) rfl rfl ?_
           exact ⟨congrArg (Value.int .i64) (rightC_0 (by first | omega | (simp [spanB, fromB] at * <;> omega)) (by unfold fineC; simp [spanB, fromB] at * <;> omega)).symm, hS⟩
          ·refine VL_pure 7 [1, 59, 63, 64] [(1, .pointer (some ⟨b1, 0, none⟩)), (59, .bool true), (63, .bool false), (64, .pointer (some ⟨b1, 5, none⟩))] (by kernel_rfl) rfl ?_
           refine VL_load (d := 65) (t := 3) (a := ⟨b1, 5, none⟩) (v := .int .i64 t) (by kernel_rfl) (by kernel_rfl) (Loads.own1 ho1 (by kernel_rfl) (by rfl)) ?_
           refine VL_pure 9 [59, 63, 65, 66] [(59, .bool true), (63, .bool false), (65, .int .i64 t), (66, .pointer (some ⟨b1, 1, none⟩))] (by kernel_rfl) rfl ?_
           refine VL_load (d := 67) (t := 3) (a := ⟨b1, 1, none⟩) (v := .int .i64 p) (by kernel_rfl) (by kernel_rfl) (Loads.own1 ho1 (by kernel_rfl) (by rfl)) ?_
           have hzs18 := hS.size
           have hzl17 := ho1.lt
           refine VL_call (d := 68) (f := 67) (args := #[.int .i64 t, .int .i64 p, .int .i64 1099511627776]) (by kernel_rfl) (by kernel_rfl) (by kernel_rfl) Try.call67 (from_any t p 1099511627776 _) ?_
           rintro _ w18 ⟨rfl, hc17⟩
           replace hS := Step.trans hS hc17
           replace ho1 := ho1.no hc17
           refine VL_pure 14 [4] [(4, .bool (fromB t p 1099511627776))] (by kernel_rfl) rfl ?_
           refine VL_end (by kernel_rfl) ?_
           refine VQ_next ?_
           refine VC_seq ?_
           refine VC_seq ?_
           refine VC_region ?_
           refine VL_pure 2 [78] [(78, .bool (!(fromB t p 1099511627776)))] (by kernel_rfl) rfl ?_
           refine VL_end (by kernel_rfl) ?_
           refine VQ_next ?_
           refine VC_cond (!(fromB t p 1099511627776)) (by kernel_rfl) (fun h21 => ?_) (fun h21 => ?_)
           ·try simp only [Bool.and_eq_true, Bool.or_eq_true, decide_eq_true_eq, Bool.not_eq_true', decide_eq_false_iff_not, Bool.and_eq_false_iff, Bool.or_eq_false_iff, beq_iff_eq, bne_iff_ne, beq_eq_false_iff_ne, bne_eq_false_iff_eq, Bool.not_eq_eq_eq_not, Bool.not_true, Bool.not_false] at h21
            refine VC_seq ?_
            refine VC_region ?_
            refine VL_pure 1 [2] [(2, .int .i64 11)] (by kernel_rfl) rfl ?_
            refine VL_end (by kernel_rfl) ?_
            refine VQ_next ?_
            refine VC_ret ?_
            refine VQ_then_ret ?_
            refine VQ_ret1 (.int .i64 11) (.inr rfl) rfl rfl ?_
            exact ⟨congrArg (Value.int .i64) (rightC_11 (by first | omega | (simp [spanB, fromB] at * <;> omega)) (by unfold fineC; simp [spanB, fromB] at * <;> omega)).symm, hS⟩
           ·try simp only [Bool.and_eq_true, Bool.or_eq_true, decide_eq_true_eq, Bool.not_eq_true', decide_eq_false_iff_not, Bool.and_eq_false_iff, Bool.or_eq_false_iff, beq_iff_eq, bne_iff_ne, beq_eq_false_iff_ne, bne_eq_false_iff_eq, Bool.not_eq_eq_eq_not, Bool.not_true, Bool.not_false] at h21
            refine VC_skip ?_
            refine VQ_next ?_
            refine VC_seq ?_
            refine VC_region ?_
            refine VL_pure 1 [2] [(2, .int .i64 0)] (by kernel_rfl) rfl ?_
            refine VL_end (by kernel_rfl) ?_
            refine VQ_next ?_
            refine VC_ret ?_
            refine VQ_ret1 (.int .i64 0) (.inr rfl) rfl rfl ?_
            exact ⟨congrArg (Value.int .i64) (rightC_0 (by first | omega | (simp [spanB, fromB] at * <;> omega)) (by unfold fineC; simp [spanB, fromB] at * <;> omega)).symm, hS⟩
         ·refine VL_pure 14 [4] [(4, .bool false)] (by kernel_rfl) rfl ?_
          refine VL_end (by kernel_rfl) ?_
          refine VQ_next ?_
          refine VC_seq ?_
          refine VC_seq ?_
          refine VC_region ?_
          refine VL_pure 2 [78] [(78, .bool true)] (by kernel_rfl) rfl ?_
          refine VL_end (by kernel_rfl) ?_
          refine VQ_next ?_
          refine VC_true (by kernel_rfl) ?_
          refine VC_seq ?_
          refine VC_region ?_
          refine VL_pure 1 [2] [(2, .int .i64 11)] (by kernel_rfl) rfl ?_
          refine VL_end (by kernel_rfl) ?_
          refine VQ_next ?_
          refine VC_ret ?_
          refine VQ_then_ret ?_
          refine VQ_ret1 (.int .i64 11) (.inr rfl) rfl rfl ?_
          exact ⟨congrArg (Value.int .i64) (rightC_11 (by first | omega | (simp [spanB, fromB] at * <;> omega)) (by unfold fineC; simp [spanB, fromB] at * <;> omega)).symm, hS⟩
        ·refine VC_region ?_
         refine VL_pure 2 [1, 72] [(1, .pointer (some ⟨b1, 0, none⟩)), (72, .bool (b == 0))] (by kernel_rfl) rfl ?_
         refine VL_beq b 0 (fun bV => [(1, .pointer (some ⟨b1, 0, none⟩)), (72, .bool bV)]) rfl (fun hg25 => ?_) (fun hg25 => ?_)
         ·refine VL_pure 3 [72, 73] [(72, .bool true), (73, .pointer (some ⟨b1, 5, none⟩))] (by kernel_rfl) rfl ?_
          refine VL_load (d := 74) (t := 3) (a := ⟨b1, 5, none⟩) (v := .int .i64 t) (by kernel_rfl) (by kernel_rfl) (Loads.own1 ho1 (by kernel_rfl) (by rfl)) ?_
          refine VL_pure 7 [4] [(4, .bool (t == 0))] (by kernel_rfl) rfl ?_
          refine VL_end (by kernel_rfl) ?_
          refine VQ_next ?_
          refine VC_seq ?_
          refine VC_seq ?_
          refine VC_region ?_
          refine VL_pure 2 [78] [(78, .bool (!(t == 0)))] (by kernel_rfl) rfl ?_
          refine VL_end (by kernel_rfl) ?_
          refine VQ_next ?_
          refine VC_cond (!(t == 0)) (by kernel_rfl) (fun h22 => ?_) (fun h22 => ?_)
          ·try simp only [Bool.and_eq_true, Bool.or_eq_true, decide_eq_true_eq, Bool.not_eq_true', decide_eq_false_iff_not, Bool.and_eq_false_iff, Bool.or_eq_false_iff, beq_iff_eq, bne_iff_ne, beq_eq_false_iff_ne, bne_eq_false_iff_eq, Bool.not_eq_eq_eq_not, Bool.not_true, Bool.not_false] at h22
           refine VC_seq ?_
           refine VC_region ?_
           refine VL_pure 1 [2] [(2, .int .i64 11)] (by kernel_rfl) rfl ?_
           refine VL_end (by kernel_rfl) ?_
           refine VQ_next ?_
           refine VC_ret ?_
           refine VQ_then_ret ?_
           refine VQ_ret1 (.int .i64 11) (.inr rfl) rfl rfl ?_
           exact ⟨congrArg (Value.int .i64) (rightC_11 (by first | omega | (simp [spanB, fromB] at * <;> omega)) (by unfold fineC; simp [spanB, fromB] at * <;> omega)).symm, hS⟩
          ·try simp only [Bool.and_eq_true, Bool.or_eq_true, decide_eq_true_eq, Bool.not_eq_true', decide_eq_false_iff_not, Bool.and_eq_false_iff, Bool.or_eq_false_iff, beq_iff_eq, bne_iff_ne, beq_eq_false_iff_ne, bne_eq_false_iff_eq, Bool.not_eq_eq_eq_not, Bool.not_true, Bool.not_false] at h22
           refine VC_skip ?_
           refine VQ_next ?_
           refine VC_seq ?_
           refine VC_region ?_
           refine VL_pure 1 [2] [(2, .int .i64 0)] (by kernel_rfl) rfl ?_
           refine VL_end (by kernel_rfl) ?_
           refine VQ_next ?_
           refine VC_ret ?_
           refine VQ_ret1 (.int .i64 0) (.inr rfl) rfl rfl ?_
           exact ⟨congrArg (Value.int .i64) (rightC_0 (by first | omega | (simp [spanB, fromB] at * <;> omega)) (by unfold fineC; simp [spanB, fromB] at * <;> omega)).symm, hS⟩
         ·refine VL_pure 7 [4] [(4, .bool false)] (by kernel_rfl) rfl ?_
          refine VL_end (by kernel_rfl) ?_
          refine VQ_next ?_
          refine VC_seq ?_
          refine VC_seq ?_
          refine VC_region ?_
          refine VL_pure 2 [78] [(78, .bool true)] (by kernel_rfl) rfl ?_
          refine VL_end (by kernel_rfl) ?_
          refine VQ_next ?_
          refine VC_true (by kernel_rfl) ?_
          refine VC_seq ?_
          refine VC_region ?_
          refine VL_pure 1 [2] [(2, .int .i64 11)] (by kernel_rfl) rfl ?_
          refine VL_end (by kernel_rfl) ?_
          refine VQ_next ?_
          refine VC_ret ?_
          refine VQ_then_ret ?_
          refine VQ_ret1 (.int .i64 11) (.inr rfl) rfl rfl ?_
          exact ⟨congrArg (Value.int .i64) (rightC_11 (by first | omega | (simp [spanB, fromB] at * <;> omega)) (by unfold fineC; simp [spanB, fromB] at * <;> omega)).symm, hS⟩
       ·refine VL_pure 12 [1, 4] [(1, .pointer (some ⟨b1, 0, none⟩)), (4, .bool false)] (by kernel_rfl) rfl ?_
        refine VL_end (by kernel_rfl) ?_
        refine VQ_next ?_
        refine VC_seq ?_
        refine VC_seq ?_
        refine VC_region ?_
        refine VL_pure 1 [1, 4, 55] [(1, .pointer (some ⟨b1, 0, none⟩)), (4, .bool false), (55, .pointer (some ⟨b1, 0, none⟩))] (by kernel_rfl) rfl ?_
        refine VL_load (d := 56) (t := 3) (a := ⟨b1, 0, none⟩) (v := .int .i64 k) (by kernel_rfl) (by kernel_rfl) (Loads.own1 ho1 (by kernel_rfl) (by rfl)) ?_
        refine VL_pure 3 [1, 4, 57] [(1, .pointer (some ⟨b1, 0, none⟩)), (4, .bool false), (57, .bool (k == 5))] (by kernel_rfl) rfl ?_
        refine VL_end (by kernel_rfl) ?_
        refine VQ_next ?_
        refine VC_eq k 5 (by kernel_rfl) (fun h23 => ?_) (fun h23 => ?_)
        ·refine VC_region ?_
         refine VL_pure 14 [4] [(4, .bool false)] (by kernel_rfl) rfl ?_
         refine VL_end (by kernel_rfl) ?_
         refine VQ_next ?_
         refine VC_seq ?_
         refine VC_seq ?_
         refine VC_region ?_
         refine VL_pure 2 [78] [(78, .bool true)] (by kernel_rfl) rfl ?_
         refine VL_end (by kernel_rfl) ?_
         refine VQ_next ?_
         refine VC_true (by kernel_rfl) ?_
         refine VC_seq ?_
         refine VC_region ?_
         refine VL_pure 1 [2] [(2, .int .i64 11)] (by kernel_rfl) rfl ?_
         refine VL_end (by kernel_rfl) ?_
         refine VQ_next ?_
         refine VC_ret ?_
         refine VQ_then_ret ?_
         refine VQ_ret1 (.int .i64 11) (.inr rfl) rfl rfl ?_
         exact ⟨congrArg (Value.int .i64) (rightC_11 (by first | omega | (simp [spanB, fromB] at * <;> omega)) (by unfold fineC; simp [spanB, fromB] at * <;> omega)).symm, hS⟩
        ·refine VC_region ?_
         refine VL_pure 7 [4] [(4, .bool false)] (by kernel_rfl) rfl ?_
         refine VL_end (by kernel_rfl) ?_
         refine VQ_next ?_
         refine VC_seq ?_
         refine VC_seq ?_
         refine VC_region ?_
         refine VL_pure 2 [78] [(78, .bool true)] (by kernel_rfl) rfl ?_
         refine VL_end (by kernel_rfl) ?_
         refine VQ_next ?_
         refine VC_true (by kernel_rfl) ?_
         refine VC_seq ?_
         refine VC_region ?_
         refine VL_pure 1 [2] [(2, .int .i64 11)] (by kernel_rfl) rfl ?_
         refine VL_end (by kernel_rfl) ?_
         refine VQ_next ?_
         refine VC_ret ?_
         refine VQ_then_ret ?_
         refine VQ_ret1 (.int .i64 11) (.inr rfl) rfl rfl ?_
         exact ⟨congrArg (Value.int .i64) (rightC_11 (by first | omega | (simp [spanB, fromB] at * <;> omega)) (by unfold fineC; simp [spanB, fromB] at * <;> omega)).symm, hS⟩
      ·refine VL_pure 12 [1, 4] [(1, .pointer (some ⟨b1, 0, none⟩)), (4, .bool false)] (by kernel_rfl) rfl ?_
       refine VL_end (by kernel_rfl) ?_
       refine VQ_next ?_
       refine VC_seq ?_
       refine VC_seq ?_
       refine VC_region ?_
       refine VL_pure 1 [1, 4, 55] [(1, .pointer (some ⟨b1, 0, none⟩)), (4, .bool false), (55, .pointer (some ⟨b1, 0, none⟩))] (by kernel_rfl) rfl ?_
       refine VL_load (d := 56) (t := 3) (a := ⟨b1, 0, none⟩) (v := .int .i64 k) (by kernel_rfl) (by kernel_rfl) (Loads.own1 ho1 (by kernel_rfl) (by rfl)) ?_
       refine VL_pure 3 [1, 4, 57] [(1, .pointer (some ⟨b1, 0, none⟩)), (4, .bool false), (57, .bool (k == 5))] (by kernel_rfl) rfl ?_
       refine VL_end (by kernel_rfl) ?_
       refine VQ_next ?_
       refine VC_eq k 5 (by kernel_rfl) (fun h24 => ?_) (fun h24 => ?_)
       ·refine VC_region ?_
        refine VL_pure 14 [4] [(4, .bool false)] (by kernel_rfl) rfl ?_
        refine VL_end (by kernel_rfl) ?_
        refine VQ_next ?_
        refine VC_seq ?_
        refine VC_seq ?_
        refine VC_region ?_
        refine VL_pure 2 [78] [(78, .bool true)] (by kernel_rfl) rfl ?_
        refine VL_end (by kernel_rfl) ?_
        refine VQ_next ?_
        refine VC_true (by kernel_rfl) ?_
        refine VC_seq ?_
        refine VC_region ?_
        refine VL_pure 1 [2] [(2, .int .i64 11)] (by kernel_rfl) rfl ?_
        refine VL_end (by kernel_rfl) ?_
        refine VQ_next ?_
        refine VC_ret ?_
        refine VQ_then_ret ?_
        refine VQ_ret1 (.int .i64 11) (.inr rfl) rfl rfl ?_
        exact ⟨congrArg (Value.int .i64) (rightC_11 (by first | omega | (simp [spanB, fromB] at * <;> omega)) (by unfold fineC; simp [spanB, fromB] at * <;> omega)).symm, hS⟩
       ·refine VC_region ?_
        refine VL_pure 7 [4] [(4, .bool false)] (by kernel_rfl) rfl ?_
        refine VL_end (by kernel_rfl) ?_
        refine VQ_next ?_
        refine VC_seq ?_
        refine VC_seq ?_
        refine VC_region ?_
        refine VL_pure 2 [78] [(78, .bool true)] (by kernel_rfl) rfl ?_
        refine VL_end (by kernel_rfl) ?_
        refine VQ_next ?_
        refine VC_true (by kernel_rfl) ?_
        refine VC_seq ?_
        refine VC_region ?_
        refine VL_pure 1 [2] [(2, .int .i64 11)] (by kernel_rfl) rfl ?_
        refine VL_end (by kernel_rfl) ?_
        refine VQ_next ?_
        refine VC_ret ?_
        refine VQ_then_ret ?_
        refine VQ_ret1 (.int .i64 11) (.inr rfl) rfl rfl ?_
        exact ⟨congrArg (Value.int .i64) (rightC_11 (by first | omega | (simp [spanB, fromB] at * <;> omega)) (by unfold fineC; simp [spanB, fromB] at * <;> omega)).symm, hS⟩
    ·refine VL_pure 9 [1, 3, 4] [(1, .pointer (some ⟨b1, 0, none⟩)), (3, .bool (k == 4)), (4, .bool false)] (by kernel_rfl) rfl ?_
     refine VL_end (by kernel_rfl) ?_
     refine VQ_next ?_
     refine VC_seq ?_
     refine VC_seq ?_
     refine VC_region ?_
     refine VL_pure 1 [1, 4, 30] [(1, .pointer (some ⟨b1, 0, none⟩)), (4, .bool false), (30, .bool (k == 4))] (by kernel_rfl) rfl ?_
     refine VL_end (by kernel_rfl) ?_
     refine VQ_next ?_
     refine VC_eq k 4 (by kernel_rfl) (fun h25 => ?_) (fun h25 => ?_)
     ·refine VC_region ?_
      refine VL_pure 14 [1, 4] [(1, .pointer (some ⟨b1, 0, none⟩)), (4, .bool false)] (by kernel_rfl) rfl ?_
      refine VL_end (by kernel_rfl) ?_
      refine VQ_next ?_
      refine VC_seq ?_
      refine VC_seq ?_
      refine VC_region ?_
      refine VL_pure 1 [1, 4, 55] [(1, .pointer (some ⟨b1, 0, none⟩)), (4, .bool false), (55, .pointer (some ⟨b1, 0, none⟩))] (by kernel_rfl) rfl ?_
      refine VL_load (d := 56) (t := 3) (a := ⟨b1, 0, none⟩) (v := .int .i64 k) (by kernel_rfl) (by kernel_rfl) (Loads.own1 ho1 (by kernel_rfl) (by rfl)) ?_
      refine VL_pure 3 [1, 4, 57] [(1, .pointer (some ⟨b1, 0, none⟩)), (4, .bool false), (57, .bool (k == 5))] (by kernel_rfl) rfl ?_
      refine VL_end (by kernel_rfl) ?_
      refine VQ_next ?_
      refine VC_eq k 5 (by kernel_rfl) (fun h26 => ?_) (fun h26 => ?_)
      ·refine VC_region ?_
       refine VL_pure 14 [4] [(4, .bool false)] (by kernel_rfl) rfl ?_
       refine VL_end (by kernel_rfl) ?_
       refine VQ_next ?_
       refine VC_seq ?_
       refine VC_seq ?_
       refine VC_region ?_
       refine VL_pure 2 [78] [(78, .bool true)] (by kernel_rfl) rfl ?_
       refine VL_end (by kernel_rfl) ?_
       refine VQ_next ?_
       refine VC_true (by kernel_rfl) ?_
       refine VC_seq ?_
       refine VC_region ?_
       refine VL_pure 1 [2] [(2, .int .i64 11)] (by kernel_rfl) rfl ?_
       refine VL_end (by kernel_rfl) ?_
       refine VQ_next ?_
       refine VC_ret ?_
       refine VQ_then_ret ?_
       refine VQ_ret1 (.int .i64 11) (.inr rfl) rfl rfl ?_
       exact ⟨congrArg (Value.int .i64) (rightC_11 (by first | omega | (simp [spanB, fromB] at * <;> omega)) (by unfold fineC; simp [spanB, fromB] at * <;> omega)).symm, hS⟩
      ·refine VC_region ?_
       refine VL_pure 7 [4] [(4, .bool false)] (by kernel_rfl) rfl ?_
       refine VL_end (by kernel_rfl) ?_
       refine VQ_next ?_
       refine VC_seq ?_
       refine VC_seq ?_
       refine VC_region ?_
       refine VL_pure 2 [78] [(78, .bool true)] (by kernel_rfl) rfl ?_
       refine VL_end (by kernel_rfl) ?_
       refine VQ_next ?_
       refine VC_true (by kernel_rfl) ?_
       refine VC_seq ?_
       refine VC_region ?_
       refine VL_pure 1 [2] [(2, .int .i64 11)] (by kernel_rfl) rfl ?_
       refine VL_end (by kernel_rfl) ?_
       refine VQ_next ?_
       refine VC_ret ?_
       refine VQ_then_ret ?_
       refine VQ_ret1 (.int .i64 11) (.inr rfl) rfl rfl ?_
       exact ⟨congrArg (Value.int .i64) (rightC_11 (by first | omega | (simp [spanB, fromB] at * <;> omega)) (by unfold fineC; simp [spanB, fromB] at * <;> omega)).symm, hS⟩
     ·refine VC_region ?_
      refine VL_pure 12 [1, 4] [(1, .pointer (some ⟨b1, 0, none⟩)), (4, .bool false)] (by kernel_rfl) rfl ?_
      refine VL_end (by kernel_rfl) ?_
      refine VQ_next ?_
      refine VC_seq ?_
      refine VC_seq ?_
      refine VC_region ?_
      refine VL_pure 1 [1, 4, 55] [(1, .pointer (some ⟨b1, 0, none⟩)), (4, .bool false), (55, .pointer (some ⟨b1, 0, none⟩))] (by kernel_rfl) rfl ?_
      refine VL_load (d := 56) (t := 3) (a := ⟨b1, 0, none⟩) (v := .int .i64 k) (by kernel_rfl) (by kernel_rfl) (Loads.own1 ho1 (by kernel_rfl) (by rfl)) ?_
      refine VL_pure 3 [1, 4, 57] [(1, .pointer (some ⟨b1, 0, none⟩)), (4, .bool false), (57, .bool (k == 5))] (by kernel_rfl) rfl ?_
      refine VL_end (by kernel_rfl) ?_
      refine VQ_next ?_
      refine VC_eq k 5 (by kernel_rfl) (fun h27 => ?_) (fun h27 => ?_)
      ·refine VC_region ?_
       refine VL_pure 14 [4] [(4, .bool false)] (by kernel_rfl) rfl ?_
       refine VL_end (by kernel_rfl) ?_
       refine VQ_next ?_
       refine VC_seq ?_
       refine VC_seq ?_
       refine VC_region ?_
       refine VL_pure 2 [78] [(78, .bool true)] (by kernel_rfl) rfl ?_
       refine VL_end (by kernel_rfl) ?_
       refine VQ_next ?_
       refine VC_true (by kernel_rfl) ?_
       refine VC_seq ?_
       refine VC_region ?_
       refine VL_pure 1 [2] [(2, .int .i64 11)] (by kernel_rfl) rfl ?_
       refine VL_end (by kernel_rfl) ?_
       refine VQ_next ?_
       refine VC_ret ?_
       refine VQ_then_ret ?_
       refine VQ_ret1 (.int .i64 11) (.inr rfl) rfl rfl ?_
       exact ⟨congrArg (Value.int .i64) (rightC_11 (by first | omega | (simp [spanB, fromB] at * <;> omega)) (by unfold fineC; simp [spanB, fromB] at * <;> omega)).symm, hS⟩
      ·refine VC_region ?_
       refine VL_pure 7 [4] [(4, .bool false)] (by kernel_rfl) rfl ?_
       refine VL_end (by kernel_rfl) ?_
       refine VQ_next ?_
       refine VC_seq ?_
       refine VC_seq ?_
       refine VC_region ?_
       refine VL_pure 2 [78] [(78, .bool true)] (by kernel_rfl) rfl ?_
       refine VL_end (by kernel_rfl) ?_
       refine VQ_next ?_
       refine VC_true (by kernel_rfl) ?_
       refine VC_seq ?_
       refine VC_region ?_
       refine VL_pure 1 [2] [(2, .int .i64 11)] (by kernel_rfl) rfl ?_
       refine VL_end (by kernel_rfl) ?_
       refine VQ_next ?_
       refine VC_ret ?_
       refine VQ_then_ret ?_
       refine VQ_ret1 (.int .i64 11) (.inr rfl) rfl rfl ?_
       exact ⟨congrArg (Value.int .i64) (rightC_11 (by first | omega | (simp [spanB, fromB] at * <;> omega)) (by unfold fineC; simp [spanB, fromB] at * <;> omega)).symm, hS⟩

end Go.Proofs.Ytejpcmjokamdcaa
