/- Layer 21: AlarmOver. -/
import Derived.Test.YtkimbomnbaogjaaProg
import Derived.Test.YtkimbomnbaogjaaAl5
set_option linter.unusedVariables false
set_option linter.unusedSimpArgs false
namespace Go.Proofs.Ytkimbomnbaogjaa
open Go.Vc Go.RowKit

set_option maxRecDepth 20000 in
set_option maxHeartbeats 1000000 in
theorem alarmOver_any (here : Nat → Int) (wait : Int) (A : Option Addr) (n cc : Nat) (q : Nat → OpA) (t : Int) (check : Bool) (w : World) (hA : OpsAt w A n q) (h0 : 0 ≤ wait ∧ wait < 4294967296) (t0 : 0 ≤ t ∧ t < 4294967296) :
    CV Try.prog 5 #[.agg #[.int .u8 (here 0), .int .u8 (here 1), .int .u8 (here 2), .int .u8 (here 3), .int .u8 (here 4), .int .u8 (here 5), .int .u8 (here 6), .int .u8 (here 7), .int .u8 (here 8), .int .u8 (here 9), .int .u8 (here 10), .int .u8 (here 11), .int .u8 (here 12), .int .u8 (here 13), .int .u8 (here 14), .int .u8 (here 15)], .int .u32 wait, .slice A n cc, .int .u32 t, .bool check] w (fun x w1 => x = .bool true ∧ Step No w w1) := by
  have hS : Step No w w := Step.refl _ _
  have hwq := wrap_u32 h0
  have htq := wrap_u32 t0
  refine CV_enter Try.f5 _ 96 [(0, .agg #[.int .u8 (here 0), .int .u8 (here 1), .int .u8 (here 2), .int .u8 (here 3), .int .u8 (here 4), .int .u8 (here 5), .int .u8 (here 6), .int .u8 (here 7), .int .u8 (here 8), .int .u8 (here 9), .int .u8 (here 10), .int .u8 (here 11), .int .u8 (here 12), .int .u8 (here 13), .int .u8 (here 14), .int .u8 (here 15)]), (1, .int .u32 wait), (2, .slice A n cc), (3, .int .u32 t), (4, .bool check)] Try.func5 rfl rfl (by kernel_rfl) rfl ?_
  refine VC_seq ?_
  refine VC_region ?_
  have hzs1 := hS.size
  refine VL_box (d := 5) (t := 22) (c := #[.int .u8 (here 0), .int .u8 (here 1), .int .u8 (here 2), .int .u8 (here 3), .int .u8 (here 4), .int .u8 (here 5), .int .u8 (here 6), .int .u8 (here 7), .int .u8 (here 8), .int .u8 (here 9), .int .u8 (here 10), .int .u8 (here 11), .int .u8 (here 12), .int .u8 (here 13), .int .u8 (here 14), .int .u8 (here 15)]) (by kernel_rfl) (by kernel_rfl) ?_
  intro b1 w1 hn1
  replace hS := Step.trans hS (hn1.step No)
  have ho1 := hn1.own
  have hzhn1 := hn1.size
  have hqhn1 := hn1.eqb
  refine VL_pure 2 [1, 2, 3, 4, 5] [(1, .int .u32 wait), (2, .slice A n cc), (3, .int .u32 t), (4, .bool check), (5, .pointer (some ⟨b1, 0, none⟩))] (by kernel_rfl) rfl ?_
  refine VL_end (by kernel_rfl) ?_
  refine VQ_next ?_
  refine VC_seq ?_
  refine VC_seq ?_
  refine VC_region ?_
  have hzs2 := hS.size
  have hzl1 := ho1.lt
  refine VL_call (d := 17) (f := 9) (args := #[]) (by kernel_rfl) (by kernel_rfl) (by kernel_rfl) Try.call9 (awake_any _) ?_
  rintro _ w2 ⟨rfl, hc1⟩
  replace hS := Step.trans hS hc1
  replace ho1 := ho1.no hc1
  refine VL_pure 7 [1, 2, 3, 4, 5, 23] [(1, .int .u32 wait), (2, .slice A n cc), (3, .int .u32 t), (4, .bool check), (5, .pointer (some ⟨b1, 0, none⟩)), (23, .bool (decide (((n : Nat) : Int) > 100)))] (by kernel_rfl) rfl ?_
  refine VL_end (by kernel_rfl) ?_
  refine VQ_next ?_
  refine VC_dec (((n : Nat) : Int) > 100) (by kernel_rfl) (fun h1 => ?_) (fun h1 => ?_)
  · refine VC_seq ?_
    refine VC_region ?_
    have hzs3 := hS.size
    have hzl2 := ho1.lt
    refine VL_call (d := 24) (f := 9) (args := #[]) (by kernel_rfl) (by kernel_rfl) (by kernel_rfl) Try.call9 (awake_any _) ?_
    rintro _ w3 ⟨rfl, hc2⟩
    replace hS := Step.trans hS hc2
    replace ho1 := ho1.no hc2
    refine VL_pure 2 [10] [(10, .bool true)] (by kernel_rfl) rfl ?_
    refine VL_end (by kernel_rfl) ?_
    refine VQ_next ?_
    refine VC_ret ?_
    refine VQ_then_ret ?_
    refine VQ_ret1 (.bool true) (.inr rfl) rfl rfl ?_
    exact ⟨rfl, hS⟩
  · refine VC_skip ?_
    refine VQ_next ?_
    refine VC_seq ?_
    refine VC_region ?_
    refine VL_load (d := 25) (t := 22) (a := ⟨b1, 0, none⟩) (v := .agg #[.int .u8 (here 0), .int .u8 (here 1), .int .u8 (here 2), .int .u8 (here 3), .int .u8 (here 4), .int .u8 (here 5), .int .u8 (here 6), .int .u8 (here 7), .int .u8 (here 8), .int .u8 (here 9), .int .u8 (here 10), .int .u8 (here 11), .int .u8 (here 12), .int .u8 (here 13), .int .u8 (here 14), .int .u8 (here 15)]) (by kernel_rfl) (by kernel_rfl) (Loads.ownL ho1 (n := 16) (by kernel_rfl) (by kernel_rfl) (by kernel_rfl)) ?_
    refine VL_pure 4 [1, 3, 4, 25, 27, 28] [(1, .int .u32 wait), (3, .int .u32 t), (4, .bool check), (25, .agg #[.int .u8 (here 0), .int .u8 (here 1), .int .u8 (here 2), .int .u8 (here 3), .int .u8 (here 4), .int .u8 (here 5), .int .u8 (here 6), .int .u8 (here 7), .int .u8 (here 8), .int .u8 (here 9), .int .u8 (here 10), .int .u8 (here 11), .int .u8 (here 12), .int .u8 (here 13), .int .u8 (here 14), .int .u8 (here 15)]), (27, .int .i64 (IntKind.wrap .i64 wait)), (28, .slice A n cc)] (by kernel_rfl) rfl ?_
    have hzs4 := hS.size
    have hzl3 := ho1.lt
    refine VL_call (d := 29) (f := 21) (by kernel_rfl) (by kernel_rfl) (by kernel_rfl) Try.call21 (walked_any here (IntKind.wrap .i64 wait) A n cc q _ (hA.no hS) (by omega)) ?_
    rintro _ w4 ⟨ab1, rfl, hfab1, ht1, hc3⟩
    replace hS := Step.trans hS hc3
    replace ho1 := ho1.no hc3
    have hzab1 := ht1.lt
    refine VL_pure 6 [1, 3, 4, 11] [(1, .int .u32 wait), (3, .int .u32 t), (4, .bool check), (11, .pointer (some ⟨ab1, 0, none⟩))] (by kernel_rfl) rfl ?_
    refine VL_end (by kernel_rfl) ?_
    refine VQ_next ?_
    refine VC_seq ?_
    refine VC_region ?_
    refine VL_pure 4 [3, 4, 11, 12] [(3, .int .u32 t), (4, .bool check), (11, .pointer (some ⟨ab1, 0, none⟩)), (12, .int .i64 (imax 1 (IntKind.wrap .i64 wait)))] (by kernel_rfl) rfl ?_
    refine VL_end (by kernel_rfl) ?_
    refine VQ_next ?_
    refine VC_seq ?_
    refine VC_region ?_
    refine VL_pure 4 [3, 4, 11, 12, 33, 35, 36] [(3, .int .u32 t), (4, .bool check), (11, .pointer (some ⟨ab1, 0, none⟩)), (12, .int .i64 (imax 1 (IntKind.wrap .i64 wait))), (33, .pointer (some ⟨ab1, 0, none⟩)), (35, .int .i64 (IntKind.wrap .i64 t)), (36, .agg #[.int .i64 0, .int .u8 0, .bool false, .int .u32 0, .int .u8 0, .int .u8 0, .int .u8 0, .int .u8 0, .int .u8 0, .int .u8 0, .int .u8 0, .int .u8 0, .int .u8 0, .int .u8 0, .int .u8 0, .int .u8 0, .int .u8 0, .int .u8 0, .int .u8 0, .int .u8 0, .int .u8 0, .int .u8 0, .int .u8 0, .int .u8 0, .int .u8 0, .int .u8 0, .int .u8 0, .int .u8 0, .int .u8 0, .int .u8 0, .int .u8 0, .int .u8 0, .int .u8 0, .int .u8 0, .int .u8 0, .int .u8 0])] (by kernel_rfl) rfl ?_
    have hzs5 := hS.size
    have hzl4 := ho1.lt
    have hzl5 := ht1.lt
    refine VL_call (d := 37) (f := 12) (by kernel_rfl) (by kernel_rfl) (by kernel_rfl) Try.call12 (got_any ab1 (walkA here (IntKind.wrap .i64 wait) q n) _ ht1 (IntKind.wrap .i64 t) (⟨0, 0, false, 0, zp, zp⟩ : Om) (walkA_waits _ _ _ _) inByte_zp) ?_
    rintro _ w5 ⟨rfl, ht2, hc4⟩
    replace hS := Step.transNew hS hc4 (fun _ _ _ => by omega)
    replace ho1 := ho1.step hc4 (show ¬ b1 = ab1 by omega)
    have hzht2 := ht2.lt
    refine VL_end (by kernel_rfl) ?_
    refine VQ_next ?_
    refine VC_seq ?_
    refine VC_region ?_
    refine VL_pure 4 [3, 4, 11, 12, 38, 40, 41] [(3, .int .u32 t), (4, .bool check), (11, .pointer (some ⟨ab1, 0, none⟩)), (12, .int .i64 (imax 1 (IntKind.wrap .i64 wait))), (38, .pointer (some ⟨ab1, 0, none⟩)), (40, .int .i64 (IntKind.wrap .i64 t)), (41, .agg #[.int .i64 1, .int .u8 0, .bool false, .int .u32 0, .int .u8 0, .int .u8 0, .int .u8 0, .int .u8 0, .int .u8 0, .int .u8 0, .int .u8 0, .int .u8 0, .int .u8 0, .int .u8 0, .int .u8 0, .int .u8 0, .int .u8 0, .int .u8 0, .int .u8 0, .int .u8 0, .int .u8 0, .int .u8 0, .int .u8 0, .int .u8 0, .int .u8 0, .int .u8 0, .int .u8 0, .int .u8 0, .int .u8 0, .int .u8 0, .int .u8 0, .int .u8 0, .int .u8 0, .int .u8 0, .int .u8 0, .int .u8 0])] (by kernel_rfl) rfl ?_
    have hzs6 := hS.size
    have hzl6 := ho1.lt
    have hzl7 := ht2.lt
    refine VL_call (d := 42) (f := 12) (by kernel_rfl) (by kernel_rfl) (by kernel_rfl) Try.call12 (got_any ab1 (gotA (walkA here (IntKind.wrap .i64 wait) q n) (IntKind.wrap .i64 t) (⟨0, 0, false, 0, zp, zp⟩ : Om)) _ ht2 (IntKind.wrap .i64 t) (⟨1, 0, false, 0, zp, zp⟩ : Om) (waits_got (walkA_waits _ _ _ _) _ _) inByte_zp) ?_
    rintro _ w6 ⟨rfl, ht3, hc5⟩
    replace hS := Step.transNew hS hc5 (fun _ _ _ => by omega)
    replace ho1 := ho1.step hc5 (show ¬ b1 = ab1 by omega)
    have hzht3 := ht3.lt
    refine VL_end (by kernel_rfl) ?_
    refine VQ_next ?_
    refine VC_seq ?_
    refine VC_region ?_
    refine VL_pure 6 [3, 4, 11, 12, 44, 49] [(3, .int .u32 t), (4, .bool check), (11, .pointer (some ⟨ab1, 0, none⟩)), (12, .int .i64 (imax 1 (IntKind.wrap .i64 wait))), (44, .pointer (some ⟨ab1, 0, none⟩)), (49, .int .i64 (IntKind.wrap .i64 ((IntKind.wrap .i64 ((IntKind.wrap .i64 t) + (imax 1 (IntKind.wrap .i64 wait)))) - 1)))] (by kernel_rfl) rfl ?_
    have hzs7 := hS.size
    have hzl8 := ho1.lt
    have hzl9 := ht3.lt
    refine VL_call (d := 50) (f := 16) (by kernel_rfl) (by kernel_rfl) (by kernel_rfl) Try.call16 (state_any ab1 (gotA (gotA (walkA here (IntKind.wrap .i64 wait) q n) (IntKind.wrap .i64 t) (⟨0, 0, false, 0, zp, zp⟩ : Om)) (IntKind.wrap .i64 t) (⟨1, 0, false, 0, zp, zp⟩ : Om)) _ ht3 (IntKind.wrap .i64 ((IntKind.wrap .i64 ((IntKind.wrap .i64 t) + (imax 1 (IntKind.wrap .i64 wait)))) - 1))) ?_
    rintro _ w7 ⟨rfl, hc6⟩
    replace hS := Step.trans hS hc6
    replace ho1 := ho1.no hc6
    replace ht3 := ht3.no hc6
    rw [show aheadA (gotA (gotA (walkA here (IntKind.wrap .i64 wait) q n) (IntKind.wrap .i64 t) (⟨0, 0, false, 0, zp, zp⟩ : Om)) (IntKind.wrap .i64 t) (⟨1, 0, false, 0, zp, zp⟩ : Om)) (IntKind.wrap .i64 ((IntKind.wrap .i64 ((IntKind.wrap .i64 t) + (imax 1 (IntKind.wrap .i64 wait)))) - 1)) = true from (by simp only [hwq, htq]; exact over_a1 (walkA_wt _ _ _ _) h0.1 h0.2 t0.1 t0.2), show behindA (gotA (gotA (walkA here (IntKind.wrap .i64 wait) q n) (IntKind.wrap .i64 t) (⟨0, 0, false, 0, zp, zp⟩ : Om)) (IntKind.wrap .i64 t) (⟨1, 0, false, 0, zp, zp⟩ : Om)) (IntKind.wrap .i64 ((IntKind.wrap .i64 ((IntKind.wrap .i64 t) + (imax 1 (IntKind.wrap .i64 wait)))) - 1)) = true from (by simp only [hwq, htq]; exact over_b1 (walkA_wt _ _ _ _) h0.1 h0.2 t0.1 t0.2)]
    refine VL_pure 12 [3, 4, 11, 12, 13, 14] [(3, .int .u32 t), (4, .bool check), (11, .pointer (some ⟨ab1, 0, none⟩)), (12, .int .i64 (imax 1 (IntKind.wrap .i64 wait))), (13, .bool true), (14, .bool true)] (by kernel_rfl) rfl ?_
    refine VL_end (by kernel_rfl) ?_
    refine VQ_next ?_
    refine VC_seq ?_
    refine VC_region ?_
    refine VL_pure 5 [3, 4, 11, 13, 14, 54, 58] [(3, .int .u32 t), (4, .bool check), (11, .pointer (some ⟨ab1, 0, none⟩)), (13, .bool true), (14, .bool true), (54, .pointer (some ⟨ab1, 0, none⟩)), (58, .int .i64 (IntKind.wrap .i64 ((IntKind.wrap .i64 t) + (imax 1 (IntKind.wrap .i64 wait)))))] (by kernel_rfl) rfl ?_
    have hzs8 := hS.size
    have hzl10 := ho1.lt
    have hzl11 := ht3.lt
    refine VL_call (d := 59) (f := 16) (by kernel_rfl) (by kernel_rfl) (by kernel_rfl) Try.call16 (state_any ab1 (gotA (gotA (walkA here (IntKind.wrap .i64 wait) q n) (IntKind.wrap .i64 t) (⟨0, 0, false, 0, zp, zp⟩ : Om)) (IntKind.wrap .i64 t) (⟨1, 0, false, 0, zp, zp⟩ : Om)) _ ht3 (IntKind.wrap .i64 ((IntKind.wrap .i64 t) + (imax 1 (IntKind.wrap .i64 wait))))) ?_
    rintro _ w8 ⟨rfl, hc7⟩
    replace hS := Step.trans hS hc7
    replace ho1 := ho1.no hc7
    replace ht3 := ht3.no hc7
    rw [show aheadA (gotA (gotA (walkA here (IntKind.wrap .i64 wait) q n) (IntKind.wrap .i64 t) (⟨0, 0, false, 0, zp, zp⟩ : Om)) (IntKind.wrap .i64 t) (⟨1, 0, false, 0, zp, zp⟩ : Om)) (IntKind.wrap .i64 ((IntKind.wrap .i64 t) + (imax 1 (IntKind.wrap .i64 wait)))) = false from (by simp only [hwq, htq]; exact over_a2 (walkA_wt _ _ _ _) h0.1 h0.2 t0.1 t0.2), show behindA (gotA (gotA (walkA here (IntKind.wrap .i64 wait) q n) (IntKind.wrap .i64 t) (⟨0, 0, false, 0, zp, zp⟩ : Om)) (IntKind.wrap .i64 t) (⟨1, 0, false, 0, zp, zp⟩ : Om)) (IntKind.wrap .i64 ((IntKind.wrap .i64 t) + (imax 1 (IntKind.wrap .i64 wait)))) = false from (by simp only [hwq, htq]; exact over_b2 (walkA_wt _ _ _ _) h0.1 h0.2 t0.1 t0.2)]
    refine VL_pure 11 [3, 4, 11, 13, 14, 15, 16] [(3, .int .u32 t), (4, .bool check), (11, .pointer (some ⟨ab1, 0, none⟩)), (13, .bool true), (14, .bool true), (15, .bool false), (16, .bool false)] (by kernel_rfl) rfl ?_
    refine VL_end (by kernel_rfl) ?_
    refine VQ_next ?_
    refine VC_seq ?_
    refine VC_seq ?_
    refine VC_region ?_
    refine VL_pure 12 [3, 4, 11, 73] [(3, .int .u32 t), (4, .bool check), (11, .pointer (some ⟨ab1, 0, none⟩)), (73, .bool false)] (by kernel_rfl) rfl ?_
    refine VL_end (by kernel_rfl) ?_
    refine VQ_next ?_
    refine VC_false (by kernel_rfl) ?_
    refine VC_skip ?_
    refine VQ_next ?_
    refine VC_seq ?_
    refine VC_seq ?_
    refine VC_region ?_
    refine VL_pure 1 [3, 11, 74] [(3, .int .u32 t), (11, .pointer (some ⟨ab1, 0, none⟩)), (74, .bool check)] (by kernel_rfl) rfl ?_
    refine VL_end (by kernel_rfl) ?_
    refine VQ_next ?_
    refine VC_cond check (by kernel_rfl) (fun h2 => ?_) (fun h2 => ?_)
    · try simp only [Bool.and_eq_true, Bool.or_eq_true, decide_eq_true_eq, Bool.not_eq_true', decide_eq_false_iff_not, Bool.and_eq_false_iff, Bool.or_eq_false_iff, beq_iff_eq, bne_iff_ne, beq_eq_false_iff_ne, bne_eq_false_iff_eq, Bool.not_eq_eq_eq_not, Bool.not_true, Bool.not_false] at h2
      refine VC_region ?_
      refine VL_pure 4 [3, 11, 75, 77, 78] [(3, .int .u32 t), (11, .pointer (some ⟨ab1, 0, none⟩)), (75, .pointer (some ⟨ab1, 0, none⟩)), (77, .int .i64 (IntKind.wrap .i64 t)), (78, .agg #[.int .i64 4, .int .u8 0, .bool false, .int .u32 0, .int .u8 0, .int .u8 0, .int .u8 0, .int .u8 0, .int .u8 0, .int .u8 0, .int .u8 0, .int .u8 0, .int .u8 0, .int .u8 0, .int .u8 0, .int .u8 0, .int .u8 0, .int .u8 0, .int .u8 0, .int .u8 0, .int .u8 0, .int .u8 0, .int .u8 0, .int .u8 0, .int .u8 0, .int .u8 0, .int .u8 0, .int .u8 0, .int .u8 0, .int .u8 0, .int .u8 0, .int .u8 0, .int .u8 0, .int .u8 0, .int .u8 0, .int .u8 0])] (by kernel_rfl) rfl ?_
      have hzs9 := hS.size
      have hzl12 := ho1.lt
      have hzl13 := ht3.lt
      refine VL_call (d := 79) (f := 12) (by kernel_rfl) (by kernel_rfl) (by kernel_rfl) Try.call12 (got_any ab1 (gotA (gotA (walkA here (IntKind.wrap .i64 wait) q n) (IntKind.wrap .i64 t) (⟨0, 0, false, 0, zp, zp⟩ : Om)) (IntKind.wrap .i64 t) (⟨1, 0, false, 0, zp, zp⟩ : Om)) _ ht3 (IntKind.wrap .i64 t) (⟨4, 0, false, 0, zp, zp⟩ : Om) (waits_got (waits_got (walkA_waits _ _ _ _) _ _) _ _) inByte_zp) ?_
      rintro _ w9 ⟨rfl, ht4, hc8⟩
      replace hS := Step.transNew hS hc8 (fun _ _ _ => by omega)
      replace ho1 := ho1.step hc8 (show ¬ b1 = ab1 by omega)
      have hzht4 := ht4.lt
      refine VL_end (by kernel_rfl) ?_
      refine VQ_next ?_
      refine VC_seq ?_
      refine VC_region ?_
      refine VL_pure 3 [85, 87] [(85, .pointer (some ⟨ab1, 0, none⟩)), (87, .int .i64 (IntKind.wrap .i64 t))] (by kernel_rfl) rfl ?_
      have hzs10 := hS.size
      have hzl14 := ho1.lt
      have hzl15 := ht4.lt
      refine VL_call (d := 88) (f := 16) (by kernel_rfl) (by kernel_rfl) (by kernel_rfl) Try.call16 (state_any ab1 (gotA (gotA (gotA (walkA here (IntKind.wrap .i64 wait) q n) (IntKind.wrap .i64 t) (⟨0, 0, false, 0, zp, zp⟩ : Om)) (IntKind.wrap .i64 t) (⟨1, 0, false, 0, zp, zp⟩ : Om)) (IntKind.wrap .i64 t) (⟨4, 0, false, 0, zp, zp⟩ : Om)) _ ht4 (IntKind.wrap .i64 t)) ?_
      rintro _ w10 ⟨rfl, hc9⟩
      replace hS := Step.trans hS hc9
      replace ho1 := ho1.no hc9
      replace ht4 := ht4.no hc9
      rw [show aheadA (gotA (gotA (gotA (walkA here (IntKind.wrap .i64 wait) q n) (IntKind.wrap .i64 t) (⟨0, 0, false, 0, zp, zp⟩ : Om)) (IntKind.wrap .i64 t) (⟨1, 0, false, 0, zp, zp⟩ : Om)) (IntKind.wrap .i64 t) (⟨4, 0, false, 0, zp, zp⟩ : Om)) (IntKind.wrap .i64 t) = false from (by simp only [hwq, htq]; first | exact (over_user (walkA_waits _ _ _ _)).1 | exact (over_chk (walkA_waits _ _ _ _)).1), show behindA (gotA (gotA (gotA (walkA here (IntKind.wrap .i64 wait) q n) (IntKind.wrap .i64 t) (⟨0, 0, false, 0, zp, zp⟩ : Om)) (IntKind.wrap .i64 t) (⟨1, 0, false, 0, zp, zp⟩ : Om)) (IntKind.wrap .i64 t) (⟨4, 0, false, 0, zp, zp⟩ : Om)) (IntKind.wrap .i64 t) = true from (by simp only [hwq, htq]; first | exact (over_user (walkA_waits _ _ _ _)).2 | exact (over_chk (walkA_waits _ _ _ _)).2)]
      refine VL_pure 9 [13, 14] [(13, .bool false), (14, .bool true)] (by kernel_rfl) rfl ?_
      refine VL_end (by kernel_rfl) ?_
      refine VQ_next ?_
      refine VC_seq ?_
      refine VC_region ?_
      refine VL_pure 6 [10] [(10, .bool true)] (by kernel_rfl) rfl ?_
      refine VL_end (by kernel_rfl) ?_
      refine VQ_next ?_
      refine VC_ret ?_
      refine VQ_ret1 (.bool true) (.inr rfl) rfl rfl ?_
      exact ⟨rfl, hS⟩
    · try simp only [Bool.and_eq_true, Bool.or_eq_true, decide_eq_true_eq, Bool.not_eq_true', decide_eq_false_iff_not, Bool.and_eq_false_iff, Bool.or_eq_false_iff, beq_iff_eq, bne_iff_ne, beq_eq_false_iff_ne, bne_eq_false_iff_eq, Bool.not_eq_eq_eq_not, Bool.not_true, Bool.not_false] at h2
      refine VC_region ?_
      refine VL_pure 3 [3, 11, 80, 82] [(3, .int .u32 t), (11, .pointer (some ⟨ab1, 0, none⟩)), (80, .pointer (some ⟨ab1, 0, none⟩)), (82, .int .i64 (IntKind.wrap .i64 t))] (by kernel_rfl) rfl ?_
      have hzs11 := hS.size
      have hzl16 := ho1.lt
      have hzl17 := ht3.lt
      refine VL_call (d := 83) (f := 14) (by kernel_rfl) (by kernel_rfl) (by kernel_rfl) Try.call14 (user_any ab1 (gotA (gotA (walkA here (IntKind.wrap .i64 wait) q n) (IntKind.wrap .i64 t) (⟨0, 0, false, 0, zp, zp⟩ : Om)) (IntKind.wrap .i64 t) (⟨1, 0, false, 0, zp, zp⟩ : Om)) _ ht3 (IntKind.wrap .i64 t)) ?_
      rintro _ w11 ⟨rfl, ht5, hc10⟩
      replace hS := Step.transNew hS hc10 (fun _ _ _ => by omega)
      replace ho1 := ho1.step hc10 (show ¬ b1 = ab1 by omega)
      have hzht5 := ht5.lt
      refine VL_end (by kernel_rfl) ?_
      refine VQ_next ?_
      refine VC_seq ?_
      refine VC_region ?_
      refine VL_pure 3 [85, 87] [(85, .pointer (some ⟨ab1, 0, none⟩)), (87, .int .i64 (IntKind.wrap .i64 t))] (by kernel_rfl) rfl ?_
      have hzs12 := hS.size
      have hzl18 := ho1.lt
      have hzl19 := ht5.lt
      refine VL_call (d := 88) (f := 16) (by kernel_rfl) (by kernel_rfl) (by kernel_rfl) Try.call16 (state_any ab1 (userA (gotA (gotA (walkA here (IntKind.wrap .i64 wait) q n) (IntKind.wrap .i64 t) (⟨0, 0, false, 0, zp, zp⟩ : Om)) (IntKind.wrap .i64 t) (⟨1, 0, false, 0, zp, zp⟩ : Om))) _ ht5 (IntKind.wrap .i64 t)) ?_
      rintro _ w12 ⟨rfl, hc11⟩
      replace hS := Step.trans hS hc11
      replace ho1 := ho1.no hc11
      replace ht5 := ht5.no hc11
      rw [show aheadA (userA (gotA (gotA (walkA here (IntKind.wrap .i64 wait) q n) (IntKind.wrap .i64 t) (⟨0, 0, false, 0, zp, zp⟩ : Om)) (IntKind.wrap .i64 t) (⟨1, 0, false, 0, zp, zp⟩ : Om))) (IntKind.wrap .i64 t) = false from (by simp only [hwq, htq]; first | exact (over_user (walkA_waits _ _ _ _)).1 | exact (over_chk (walkA_waits _ _ _ _)).1), show behindA (userA (gotA (gotA (walkA here (IntKind.wrap .i64 wait) q n) (IntKind.wrap .i64 t) (⟨0, 0, false, 0, zp, zp⟩ : Om)) (IntKind.wrap .i64 t) (⟨1, 0, false, 0, zp, zp⟩ : Om))) (IntKind.wrap .i64 t) = true from (by simp only [hwq, htq]; first | exact (over_user (walkA_waits _ _ _ _)).2 | exact (over_chk (walkA_waits _ _ _ _)).2)]
      refine VL_pure 9 [13, 14] [(13, .bool false), (14, .bool true)] (by kernel_rfl) rfl ?_
      refine VL_end (by kernel_rfl) ?_
      refine VQ_next ?_
      refine VC_seq ?_
      refine VC_region ?_
      refine VL_pure 6 [10] [(10, .bool true)] (by kernel_rfl) rfl ?_
      refine VL_end (by kernel_rfl) ?_
      refine VQ_next ?_
      refine VC_ret ?_
      refine VQ_ret1 (.bool true) (.inr rfl) rfl rfl ?_
      exact ⟨rfl, hS⟩

end Go.Proofs.Ytkimbomnbaogjaa
