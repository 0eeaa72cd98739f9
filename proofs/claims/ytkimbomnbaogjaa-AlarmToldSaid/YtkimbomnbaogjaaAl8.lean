/- Layer 21: AlarmTold. -/
import Derived.Test.YtkimbomnbaogjaaProg
import Derived.Test.YtkimbomnbaogjaaAl5
import Derived.Test.YtkimbomnbaogjaaVc8
set_option linter.unusedVariables false
set_option linter.unusedSimpArgs false
namespace Go.Proofs.Ytkimbomnbaogjaa
open Go.Vc Go.RowKit

set_option maxRecDepth 20000 in
set_option maxHeartbeats 1000000 in
theorem alarmTold_any (here there : Nat → Int) (wait : Int) (A : Option Addr) (n cc : Nat) (q : Nat → OpA) (A2 : Option Addr) (n2 cc2 : Nat) (q2 : Nat → OpA) (t : Int) (w : World) (hA : OpsAt w A n q) (hA2 : OpsAt w A2 n2 q2) (hbh : inByte here) (hbt : inByte there) :
    CV Try.prog 4 #[.agg #[.int .u8 (here 0), .int .u8 (here 1), .int .u8 (here 2), .int .u8 (here 3), .int .u8 (here 4), .int .u8 (here 5), .int .u8 (here 6), .int .u8 (here 7), .int .u8 (here 8), .int .u8 (here 9), .int .u8 (here 10), .int .u8 (here 11), .int .u8 (here 12), .int .u8 (here 13), .int .u8 (here 14), .int .u8 (here 15)], .agg #[.int .u8 (there 0), .int .u8 (there 1), .int .u8 (there 2), .int .u8 (there 3), .int .u8 (there 4), .int .u8 (there 5), .int .u8 (there 6), .int .u8 (there 7), .int .u8 (there 8), .int .u8 (there 9), .int .u8 (there 10), .int .u8 (there 11), .int .u8 (there 12), .int .u8 (there 13), .int .u8 (there 14), .int .u8 (there 15)], .int .u32 wait, .slice A n cc, .slice A2 n2 cc2, .int .u32 t] w (fun x w1 => x = .bool true ∧ Step No w w1) := by
  have hS : Step No w w := Step.refl _ _
  refine CV_enter Try.f4 _ 103 [(0, .agg #[.int .u8 (here 0), .int .u8 (here 1), .int .u8 (here 2), .int .u8 (here 3), .int .u8 (here 4), .int .u8 (here 5), .int .u8 (here 6), .int .u8 (here 7), .int .u8 (here 8), .int .u8 (here 9), .int .u8 (here 10), .int .u8 (here 11), .int .u8 (here 12), .int .u8 (here 13), .int .u8 (here 14), .int .u8 (here 15)]), (1, .agg #[.int .u8 (there 0), .int .u8 (there 1), .int .u8 (there 2), .int .u8 (there 3), .int .u8 (there 4), .int .u8 (there 5), .int .u8 (there 6), .int .u8 (there 7), .int .u8 (there 8), .int .u8 (there 9), .int .u8 (there 10), .int .u8 (there 11), .int .u8 (there 12), .int .u8 (there 13), .int .u8 (there 14), .int .u8 (there 15)]), (2, .int .u32 wait), (3, .slice A n cc), (4, .slice A2 n2 cc2), (5, .int .u32 t)] Try.func4 rfl rfl (by kernel_rfl) rfl ?_
  refine VC_seq ?_
  refine VC_region ?_
  have hzs1 := hS.size
  refine VL_box (d := 6) (t := 22) (c := #[.int .u8 (here 0), .int .u8 (here 1), .int .u8 (here 2), .int .u8 (here 3), .int .u8 (here 4), .int .u8 (here 5), .int .u8 (here 6), .int .u8 (here 7), .int .u8 (here 8), .int .u8 (here 9), .int .u8 (here 10), .int .u8 (here 11), .int .u8 (here 12), .int .u8 (here 13), .int .u8 (here 14), .int .u8 (here 15)]) (by kernel_rfl) (by kernel_rfl) ?_
  intro b1 w1 hn1
  replace hS := Step.trans hS (hn1.step No)
  have ho1 := hn1.own
  have hzhn1 := hn1.size
  have hqhn1 := hn1.eqb
  have hzs2 := hS.size
  have hzl1 := ho1.lt
  refine VL_box (d := 7) (t := 22) (c := #[.int .u8 (there 0), .int .u8 (there 1), .int .u8 (there 2), .int .u8 (there 3), .int .u8 (there 4), .int .u8 (there 5), .int .u8 (there 6), .int .u8 (there 7), .int .u8 (there 8), .int .u8 (there 9), .int .u8 (there 10), .int .u8 (there 11), .int .u8 (there 12), .int .u8 (there 13), .int .u8 (there 14), .int .u8 (there 15)]) (by kernel_rfl) (by kernel_rfl) ?_
  intro b2 w2 hn2
  replace hS := Step.trans hS (hn2.step No)
  replace ho1 := ho1.no (hn2.step No)
  have ho2 := hn2.own
  have hzhn2 := hn2.size
  have hqhn2 := hn2.eqb
  refine VL_pure 3 [2, 3, 4, 5, 6, 7] [(2, .int .u32 wait), (3, .slice A n cc), (4, .slice A2 n2 cc2), (5, .int .u32 t), (6, .pointer (some ⟨b1, 0, none⟩)), (7, .pointer (some ⟨b2, 0, none⟩))] (by kernel_rfl) rfl ?_
  refine VL_end (by kernel_rfl) ?_
  refine VQ_next ?_
  refine VC_seq ?_
  refine VC_seq ?_
  refine VC_region ?_
  have hzs3 := hS.size
  have hzl2 := ho1.lt
  have hzl3 := ho2.lt
  refine VL_call (d := 24) (f := 9) (args := #[]) (by kernel_rfl) (by kernel_rfl) (by kernel_rfl) Try.call9 (awake_any _) ?_
  rintro _ w3 ⟨rfl, hc1⟩
  replace hS := Step.trans hS hc1
  replace ho1 := ho1.no hc1
  replace ho2 := ho2.no hc1
  refine VL_pure 8 [2, 3, 4, 5, 6, 7, 31] [(2, .int .u32 wait), (3, .slice A n cc), (4, .slice A2 n2 cc2), (5, .int .u32 t), (6, .pointer (some ⟨b1, 0, none⟩)), (7, .pointer (some ⟨b2, 0, none⟩)), (31, .bool (decide (((n : Nat) : Int) > 100)))] (by kernel_rfl) rfl ?_
  refine VL_dec (((n : Nat) : Int) > 100) (fun b => [(2, .int .u32 wait), (3, .slice A n cc), (4, .slice A2 n2 cc2), (5, .int .u32 t), (6, .pointer (some ⟨b1, 0, none⟩)), (7, .pointer (some ⟨b2, 0, none⟩)), (31, .bool b)]) rfl (fun hg1 => ?_) (fun hg1 => ?_)
  · refine VL_pure 12 [2, 3, 4, 5, 6, 7, 35] [(2, .int .u32 wait), (3, .slice A n cc), (4, .slice A2 n2 cc2), (5, .int .u32 t), (6, .pointer (some ⟨b1, 0, none⟩)), (7, .pointer (some ⟨b2, 0, none⟩)), (35, .bool true)] (by kernel_rfl) rfl ?_
    refine VL_end (by kernel_rfl) ?_
    refine VQ_next ?_
    refine VC_true (by kernel_rfl) ?_
    refine VC_seq ?_
    refine VC_region ?_
    have hzs4 := hS.size
    have hzl4 := ho1.lt
    have hzl5 := ho2.lt
    refine VL_call (d := 36) (f := 9) (args := #[]) (by kernel_rfl) (by kernel_rfl) (by kernel_rfl) Try.call9 (awake_any _) ?_
    rintro _ w4 ⟨rfl, hc2⟩
    replace hS := Step.trans hS hc2
    replace ho1 := ho1.no hc2
    replace ho2 := ho2.no hc2
    refine VL_pure 2 [12] [(12, .bool true)] (by kernel_rfl) rfl ?_
    refine VL_end (by kernel_rfl) ?_
    refine VQ_next ?_
    refine VC_ret ?_
    refine VQ_then_ret ?_
    refine VQ_ret1 (.bool true) (.inr rfl) rfl rfl ?_
    exact ⟨rfl, hS⟩
  · refine VL_pure 12 [2, 3, 4, 5, 6, 7, 35] [(2, .int .u32 wait), (3, .slice A n cc), (4, .slice A2 n2 cc2), (5, .int .u32 t), (6, .pointer (some ⟨b1, 0, none⟩)), (7, .pointer (some ⟨b2, 0, none⟩)), (35, .bool (decide (((n2 : Nat) : Int) > 100)))] (by kernel_rfl) rfl ?_
    refine VL_end (by kernel_rfl) ?_
    refine VQ_next ?_
    refine VC_dec (((n2 : Nat) : Int) > 100) (by kernel_rfl) (fun h1 => ?_) (fun h1 => ?_)
    · refine VC_seq ?_
      refine VC_region ?_
      have hzs5 := hS.size
      have hzl6 := ho1.lt
      have hzl7 := ho2.lt
      refine VL_call (d := 36) (f := 9) (args := #[]) (by kernel_rfl) (by kernel_rfl) (by kernel_rfl) Try.call9 (awake_any _) ?_
      rintro _ w5 ⟨rfl, hc3⟩
      replace hS := Step.trans hS hc3
      replace ho1 := ho1.no hc3
      replace ho2 := ho2.no hc3
      refine VL_pure 2 [12] [(12, .bool true)] (by kernel_rfl) rfl ?_
      refine VL_end (by kernel_rfl) ?_
      refine VQ_next ?_
      refine VC_ret ?_
      refine VQ_then_ret ?_
      refine VQ_ret1 (.bool true) (.inr rfl) rfl rfl ?_
      exact ⟨rfl, hS⟩
    · refine VC_skip ?_
      refine VQ_next ?_
      refine VC_seq ?_
      have hzs6 := hS.size
      have hzl8 := ho1.lt
      have hzl9 := ho2.lt
      refine VC_ex [[], [], [1], [], [0, 1, 2, 3], [], [], [6], [6, 7], [], [0, 1, 2, 3, 4, 5, 6, 7, 8, 9], [0, 1, 2, 3, 4, 5, 6, 7, 8, 9, 10], [0, 1, 2, 3, 4, 5, 6, 7, 8, 9, 10, 11]] 10 [.agg #[.int .u8 (here 0), .int .u8 (here 1), .int .u8 (here 2), .int .u8 (here 3), .int .u8 (here 4), .int .u8 (here 5), .int .u8 (here 6), .int .u8 (here 7), .int .u8 (here 8), .int .u8 (here 9), .int .u8 (here 10), .int .u8 (here 11), .int .u8 (here 12), .int .u8 (here 13), .int .u8 (here 14), .int .u8 (here 15)], .int .u32 wait, .int .i64 (IntKind.wrap .i64 wait), .slice A n cc, undef, .agg #[.int .u8 (there 0), .int .u8 (there 1), .int .u8 (there 2), .int .u8 (there 3), .int .u8 (there 4), .int .u8 (there 5), .int .u8 (there 6), .int .u8 (there 7), .int .u8 (there 8), .int .u8 (there 9), .int .u8 (there 10), .int .u8 (there 11), .int .u8 (there 12), .int .u8 (there 13), .int .u8 (there 14), .int .u8 (there 15)], .int .u32 wait, .int .i64 (IntKind.wrap .i64 wait), .int .i64 (IntKind.wrap .i64 (1 + (IntKind.wrap .i64 wait))), .slice A2 n2 cc2] [1, 2, 3, 6, 7, 8, 9] [0, 5] [4] (fun _ v x => ∃ b, v = .pointer (some ⟨b, 0, none⟩) ∧ ¬ b < w3.heap.size ∧ Own x b (alC (walkA here (IntKind.wrap .i64 wait) q n)) 62) (by kernel_rfl) (by kernel_rfl) (by kernel_rfl) (fun _ _ _ _ ⟨b, h1, h2, h3⟩ hs => ⟨b, h1, h2, h3.no hs⟩) (by kernel_rfl) (by kernel_rfl) (by kernel_rfl) (by kernel_rfl) ?_ ?_ ?_
      · intro w7 hs2
        replace hS := Step.trans hS hs2
        replace ho1 := ho1.no hs2
        replace ho2 := ho2.no hs2
        exact ⟨Det1_load (d := 37) (t := 22) (a := ⟨b1, 0, none⟩) (by kernel_rfl) (by kernel_rfl) (Loads.ownL ho1 (n := 16) (by kernel_rfl) (by kernel_rfl) (by kernel_rfl)), Det1_load (d := 42) (t := 22) (a := ⟨b2, 0, none⟩) (by kernel_rfl) (by kernel_rfl) (Loads.ownL ho2 (n := 16) (by kernel_rfl) (by kernel_rfl) (by kernel_rfl)), trivial⟩
      · intro w7 hs2
        have hzx := hs2.size
        replace hS := Step.trans hS hs2
        replace ho1 := ho1.no hs2
        replace ho2 := ho2.no hs2
        exact ⟨Ex1_call (d := 41) (f := 21) (by kernel_rfl) (by kernel_rfl) (by kernel_rfl) Try.call21 (walked_any here (IntKind.wrap .i64 wait) A n cc q _ (hA.no hS) (by omega)) (fun v w1 ⟨b, h1, h2, h3, h4⟩ => ⟨h4, b, h1, by omega, h3⟩), trivial⟩
      intro w8 us1 hs3 hB1
      obtain ⟨⟨ab1, heab1, hfab1, ht1⟩, -⟩ := hB1
      replace hS := Step.trans hS hs3
      replace ho1 := ho1.no hs3
      replace ho2 := ho2.no hs3
      refine VL_keep [5, 6, 41, 42, 45, 46] [(5, .int .u32 t), (6, .pointer (some ⟨b1, 0, none⟩)), (41, us1 4), (42, .agg #[.int .u8 (there 0), .int .u8 (there 1), .int .u8 (there 2), .int .u8 (there 3), .int .u8 (there 4), .int .u8 (there 5), .int .u8 (there 6), .int .u8 (there 7), .int .u8 (there 8), .int .u8 (there 9), .int .u8 (there 10), .int .u8 (there 11), .int .u8 (there 12), .int .u8 (there 13), .int .u8 (there 14), .int .u8 (there 15)]), (45, .int .i64 (IntKind.wrap .i64 (1 + (IntKind.wrap .i64 wait)))), (46, .slice A2 n2 cc2)] (by kernel_rfl) ?_
      rw [heab1]
      have hzab1 := ht1.lt
      have hzs7 := hS.size
      have hzl10 := ho1.lt
      have hzl11 := ho2.lt
      have hzl12 := ht1.lt
      refine VL_call (d := 47) (f := 21) (by kernel_rfl) (by kernel_rfl) (by kernel_rfl) Try.call21 (walked_any there (IntKind.wrap .i64 (1 + (IntKind.wrap .i64 wait))) A2 n2 cc2 q2 _ (hA2.no hS) (by omega)) ?_
      rintro _ w9 ⟨ab2, rfl, hfab2, ht2, hc4⟩
      replace hS := Step.trans hS hc4
      replace ho1 := ho1.no hc4
      replace ho2 := ho2.no hc4
      replace ht1 := ht1.no hc4
      have hzab2 := ht2.lt
      refine VL_pure 13 [5, 6, 13, 14] [(5, .int .u32 t), (6, .pointer (some ⟨b1, 0, none⟩)), (13, .pointer (some ⟨ab1, 0, none⟩)), (14, .pointer (some ⟨ab2, 0, none⟩))] (by kernel_rfl) rfl ?_
      refine VL_end (by kernel_rfl) ?_
      refine VQ_next ?_
      refine VC_seq ?_
      refine VC_region ?_
      refine VL_load (d := 48) (t := 22) (a := ⟨b1, 0, none⟩) (v := .agg #[.int .u8 (here 0), .int .u8 (here 1), .int .u8 (here 2), .int .u8 (here 3), .int .u8 (here 4), .int .u8 (here 5), .int .u8 (here 6), .int .u8 (here 7), .int .u8 (here 8), .int .u8 (here 9), .int .u8 (here 10), .int .u8 (here 11), .int .u8 (here 12), .int .u8 (here 13), .int .u8 (here 14), .int .u8 (here 15)]) (by kernel_rfl) (by kernel_rfl) (Loads.ownL ho1 (n := 16) (by kernel_rfl) (by kernel_rfl) (by kernel_rfl)) ?_
      have hzs8 := hS.size
      have hzl13 := ho1.lt
      have hzl14 := ho2.lt
      have hzl15 := ht1.lt
      have hzl16 := ht2.lt
      refine VL_call (d := 49) (f := 10) (by kernel_rfl) (by kernel_rfl) (by kernel_rfl) Try.call10 (new_any here 1 _) ?_
      rintro _ w10 ⟨ab3, rfl, hfab3, ht3, hc5⟩
      replace hS := Step.trans hS hc5
      replace ho1 := ho1.no hc5
      replace ho2 := ho2.no hc5
      replace ht1 := ht1.no hc5
      replace ht2 := ht2.no hc5
      have hzab3 := ht3.lt
      refine VL_pure 3 [5, 13, 14, 15] [(5, .int .u32 t), (13, .pointer (some ⟨ab1, 0, none⟩)), (14, .pointer (some ⟨ab2, 0, none⟩)), (15, .pointer (some ⟨ab3, 0, none⟩))] (by kernel_rfl) rfl ?_
      refine VL_end (by kernel_rfl) ?_
      refine VQ_next ?_
      refine VC_seq ?_
      refine VC_region ?_
      refine VL_pure 1 [5, 13, 14, 15, 50] [(5, .int .u32 t), (13, .pointer (some ⟨ab1, 0, none⟩)), (14, .pointer (some ⟨ab2, 0, none⟩)), (15, .pointer (some ⟨ab3, 0, none⟩)), (50, .pointer (some ⟨ab3, 0, none⟩))] (by kernel_rfl) rfl ?_
      have hzs9 := hS.size
      have hzl17 := ho1.lt
      have hzl18 := ho2.lt
      have hzl19 := ht1.lt
      have hzl20 := ht2.lt
      have hzl21 := ht3.lt
      refine VL_call (d := 51) (f := 15) (by kernel_rfl) (by kernel_rfl) (by kernel_rfl) Try.call15 (down_any ab3 (newA here 1) _ ht3 true) ?_
      rintro _ w11 ⟨rfl, ht4, hc6⟩
      replace hS := Step.transNew hS hc6 (fun _ _ _ => by omega)
      replace ho1 := ho1.step hc6 (show ¬ b1 = ab3 by omega)
      replace ho2 := ho2.step hc6 (show ¬ b2 = ab3 by omega)
      replace ht1 := ht1.step hc6 (show ¬ ab1 = ab3 by omega)
      replace ht2 := ht2.step hc6 (show ¬ ab2 = ab3 by omega)
      have hzht4 := ht4.lt
      refine VL_end (by kernel_rfl) ?_
      refine VQ_next ?_
      refine VC_seq ?_
      refine VC_seq ?_
      refine VC_region ?_
      refine VL_pure 3 [5, 13, 14, 52, 54] [(5, .int .u32 t), (13, .pointer (some ⟨ab1, 0, none⟩)), (14, .pointer (some ⟨ab2, 0, none⟩)), (52, .pointer (some ⟨ab3, 0, none⟩)), (54, .int .i64 (IntKind.wrap .i64 t))] (by kernel_rfl) rfl ?_
      have hzs10 := hS.size
      have hzl22 := ho1.lt
      have hzl23 := ho2.lt
      have hzl24 := ht1.lt
      have hzl25 := ht2.lt
      have hzl26 := ht4.lt
      refine VL_call (d := 55) (f := 19) (by kernel_rfl) (by kernel_rfl) (by kernel_rfl) Try.call19 (sends_any ab3 (downA (newA here 1) true) _ ht4 (IntKind.wrap .i64 t)) ?_
      rintro _ w12 ⟨sb1, rfl, hfsb1, hc7, hc8⟩
      replace hS := Step.trans hS hc8
      replace ho1 := ho1.no hc8
      replace ho2 := ho2.no hc8
      replace ht1 := ht1.no hc8
      replace ht2 := ht2.no hc8
      replace ht4 := ht4.no hc8
      rw [show sendL (downA (newA here 1) true) (IntKind.wrap .i64 t) = [(ais (downA (newA here 1) true)), (rdi (downA (newA here 1) true))] from (send_1 rfl)] at hc7 ⊢
      have hzsb1 := hc7.lt
      refine VL_pure 6 [5, 13, 14, 55, 56, 57] [(5, .int .u32 t), (13, .pointer (some ⟨ab1, 0, none⟩)), (14, .pointer (some ⟨ab2, 0, none⟩)), (55, .slice (some ⟨sb1, 0, none⟩) 2 2), (56, .int .i64 2), (57, .int .i64 0)] (by kernel_rfl) rfl ?_
      refine VL_end (by kernel_rfl) ?_
      refine VQ_next ?_
      refine VC_block ?_
      refine VC_rounds ?_
      refine VCL_round ?_
      refine VC_seq ?_
      refine VC_region ?_
      refine VL_pure 1 [5, 13, 14, 55, 56, 57, 58] [(5, .int .u32 t), (13, .pointer (some ⟨ab1, 0, none⟩)), (14, .pointer (some ⟨ab2, 0, none⟩)), (55, .slice (some ⟨sb1, 0, none⟩) 2 2), (56, .int .i64 2), (57, .int .i64 0), (58, .bool true)] (by kernel_rfl) rfl ?_
      refine VL_end (by kernel_rfl) ?_
      refine VQ_next ?_
      refine VC_seq ?_
      refine VC_true (by kernel_rfl) ?_
      refine VC_skip ?_
      refine VQ_next ?_
      refine VC_seq ?_
      refine VC_block ?_
      refine VC_seq ?_
      refine VC_region ?_
      refine VL_index (d := 59) (b := sb1) (o := 0) (len := 2) (sz := 36) (m := 0) (by kernel_rfl) (by kernel_rfl) 0 (by rfl) (by omega) 0 (by omega) ?_
      refine VL_load (d := 60) (t := 34) (a := ⟨sb1, 0, none⟩) (v := .agg #[.int .i64 0, .int .u8 0, .bool false, .int .u32 0, .int .u8 (((downA (newA here 1) true).here) 0), .int .u8 (((downA (newA here 1) true).here) 1), .int .u8 (((downA (newA here 1) true).here) 2), .int .u8 (((downA (newA here 1) true).here) 3), .int .u8 (((downA (newA here 1) true).here) 4), .int .u8 (((downA (newA here 1) true).here) 5), .int .u8 (((downA (newA here 1) true).here) 6), .int .u8 (((downA (newA here 1) true).here) 7), .int .u8 (((downA (newA here 1) true).here) 8), .int .u8 (((downA (newA here 1) true).here) 9), .int .u8 (((downA (newA here 1) true).here) 10), .int .u8 (((downA (newA here 1) true).here) 11), .int .u8 (((downA (newA here 1) true).here) 12), .int .u8 (((downA (newA here 1) true).here) 13), .int .u8 (((downA (newA here 1) true).here) 14), .int .u8 (((downA (newA here 1) true).here) 15), .int .u8 0, .int .u8 0, .int .u8 0, .int .u8 0, .int .u8 0, .int .u8 0, .int .u8 0, .int .u8 0, .int .u8 0, .int .u8 0, .int .u8 0, .int .u8 0, .int .u8 0, .int .u8 0, .int .u8 0, .int .u8 0]) (by kernel_rfl) (by kernel_rfl) (Loads.ownL hc7 (n := 36) (by kernel_rfl) (by kernel_rfl) (by kernel_rfl)) ?_
      have hzs11 := hS.size
      have hzl27 := ho1.lt
      have hzl28 := ho2.lt
      have hzl29 := ht1.lt
      have hzl30 := ht2.lt
      have hzl31 := ht4.lt
      have hzl32 := hc7.lt
      refine VL_box (d := 17) (t := 34) (c := #[.int .i64 0, .int .u8 0, .bool false, .int .u32 0, .int .u8 0, .int .u8 0, .int .u8 0, .int .u8 0, .int .u8 0, .int .u8 0, .int .u8 0, .int .u8 0, .int .u8 0, .int .u8 0, .int .u8 0, .int .u8 0, .int .u8 0, .int .u8 0, .int .u8 0, .int .u8 0, .int .u8 0, .int .u8 0, .int .u8 0, .int .u8 0, .int .u8 0, .int .u8 0, .int .u8 0, .int .u8 0, .int .u8 0, .int .u8 0, .int .u8 0, .int .u8 0, .int .u8 0, .int .u8 0, .int .u8 0, .int .u8 0]) (by kernel_rfl) (by kernel_rfl) ?_
      intro b3 w13 hn3
      replace hS := Step.trans hS (hn3.step No)
      replace ho1 := ho1.no (hn3.step No)
      replace ho2 := ho2.no (hn3.step No)
      replace ht1 := ht1.no (hn3.step No)
      replace ht2 := ht2.no (hn3.step No)
      replace ht4 := ht4.no (hn3.step No)
      replace hc7 := hc7.no (hn3.step No)
      have ho3 := hn3.own
      have hzhn3 := hn3.size
      have hqhn3 := hn3.eqb
      refine VL_store (b := b3) (o := 0) (vs := [.int .i64 0, .int .u8 0, .bool false, .int .u32 0, .int .u8 (((downA (newA here 1) true).here) 0), .int .u8 (((downA (newA here 1) true).here) 1), .int .u8 (((downA (newA here 1) true).here) 2), .int .u8 (((downA (newA here 1) true).here) 3), .int .u8 (((downA (newA here 1) true).here) 4), .int .u8 (((downA (newA here 1) true).here) 5), .int .u8 (((downA (newA here 1) true).here) 6), .int .u8 (((downA (newA here 1) true).here) 7), .int .u8 (((downA (newA here 1) true).here) 8), .int .u8 (((downA (newA here 1) true).here) 9), .int .u8 (((downA (newA here 1) true).here) 10), .int .u8 (((downA (newA here 1) true).here) 11), .int .u8 (((downA (newA here 1) true).here) 12), .int .u8 (((downA (newA here 1) true).here) 13), .int .u8 (((downA (newA here 1) true).here) 14), .int .u8 (((downA (newA here 1) true).here) 15), .int .u8 0, .int .u8 0, .int .u8 0, .int .u8 0, .int .u8 0, .int .u8 0, .int .u8 0, .int .u8 0, .int .u8 0, .int .u8 0, .int .u8 0, .int .u8 0, .int .u8 0, .int .u8 0, .int .u8 0, .int .u8 0]) (by kernel_rfl) (by kernel_rfl) ho3 (Nat.le_of_ble_eq_true (by kernel_rfl)) ?_
      intro w14 hw1
      replace hS := Step.transNew hS hw1.step (fun _ _ _ => by omega)
      replace ho1 := ho1.step hw1.step (show ¬ b1 = b3 by omega)
      replace ho2 := ho2.step hw1.step (show ¬ b2 = b3 by omega)
      replace ht1 := ht1.step hw1.step (show ¬ ab1 = b3 by omega)
      replace ht2 := ht2.step hw1.step (show ¬ ab2 = b3 by omega)
      replace ht4 := ht4.step hw1.step (show ¬ ab3 = b3 by omega)
      replace hc7 := hc7.step hw1.step (show ¬ sb1 = b3 by omega)
      have ho4 : Own w14 b3 #[.int .i64 0, .int .u8 0, .bool false, .int .u32 0, .int .u8 (((downA (newA here 1) true).here) 0), .int .u8 (((downA (newA here 1) true).here) 1), .int .u8 (((downA (newA here 1) true).here) 2), .int .u8 (((downA (newA here 1) true).here) 3), .int .u8 (((downA (newA here 1) true).here) 4), .int .u8 (((downA (newA here 1) true).here) 5), .int .u8 (((downA (newA here 1) true).here) 6), .int .u8 (((downA (newA here 1) true).here) 7), .int .u8 (((downA (newA here 1) true).here) 8), .int .u8 (((downA (newA here 1) true).here) 9), .int .u8 (((downA (newA here 1) true).here) 10), .int .u8 (((downA (newA here 1) true).here) 11), .int .u8 (((downA (newA here 1) true).here) 12), .int .u8 (((downA (newA here 1) true).here) 13), .int .u8 (((downA (newA here 1) true).here) 14), .int .u8 (((downA (newA here 1) true).here) 15), .int .u8 0, .int .u8 0, .int .u8 0, .int .u8 0, .int .u8 0, .int .u8 0, .int .u8 0, .int .u8 0, .int .u8 0, .int .u8 0, .int .u8 0, .int .u8 0, .int .u8 0, .int .u8 0, .int .u8 0, .int .u8 0] 34 := Own.cast hw1.own (by kernel_rfl)
      have hzhw1 := hw1.same
      refine VL_end (by kernel_rfl) ?_
      refine VQ_next ?_
      refine VC_region ?_
      refine VL_pure 3 [5, 13, 14, 55, 56, 57, 17, 61, 63] [(5, .int .u32 t), (13, .pointer (some ⟨ab1, 0, none⟩)), (14, .pointer (some ⟨ab2, 0, none⟩)), (55, .slice (some ⟨sb1, 0, none⟩) 2 2), (56, .int .i64 2), (57, .int .i64 0), (17, .pointer (some ⟨b3, 0, none⟩)), (61, .pointer (some ⟨ab2, 0, none⟩)), (63, .int .i64 (IntKind.wrap .i64 t))] (by kernel_rfl) rfl ?_
      refine VL_load (d := 64) (t := 34) (a := ⟨b3, 0, none⟩) (v := .agg #[.int .i64 0, .int .u8 0, .bool false, .int .u32 0, .int .u8 (((downA (newA here 1) true).here) 0), .int .u8 (((downA (newA here 1) true).here) 1), .int .u8 (((downA (newA here 1) true).here) 2), .int .u8 (((downA (newA here 1) true).here) 3), .int .u8 (((downA (newA here 1) true).here) 4), .int .u8 (((downA (newA here 1) true).here) 5), .int .u8 (((downA (newA here 1) true).here) 6), .int .u8 (((downA (newA here 1) true).here) 7), .int .u8 (((downA (newA here 1) true).here) 8), .int .u8 (((downA (newA here 1) true).here) 9), .int .u8 (((downA (newA here 1) true).here) 10), .int .u8 (((downA (newA here 1) true).here) 11), .int .u8 (((downA (newA here 1) true).here) 12), .int .u8 (((downA (newA here 1) true).here) 13), .int .u8 (((downA (newA here 1) true).here) 14), .int .u8 (((downA (newA here 1) true).here) 15), .int .u8 0, .int .u8 0, .int .u8 0, .int .u8 0, .int .u8 0, .int .u8 0, .int .u8 0, .int .u8 0, .int .u8 0, .int .u8 0, .int .u8 0, .int .u8 0, .int .u8 0, .int .u8 0, .int .u8 0, .int .u8 0]) (by kernel_rfl) (by kernel_rfl) (Loads.ownL ho4 (n := 36) (by kernel_rfl) (by kernel_rfl) (by kernel_rfl)) ?_
      have hzs12 := hS.size
      have hzl33 := ho1.lt
      have hzl34 := ho2.lt
      have hzl35 := ht1.lt
      have hzl36 := ht2.lt
      have hzl37 := ht4.lt
      have hzl38 := hc7.lt
      have hzl39 := ho4.lt
      refine VL_call (d := 65) (f := 12) (by kernel_rfl) (by kernel_rfl) (by kernel_rfl) Try.call12 (got_any ab2 (walkA there (IntKind.wrap .i64 (1 + (IntKind.wrap .i64 wait))) q2 n2) _ ht2 (IntKind.wrap .i64 t) (⟨0, 0, false, 0, ((downA (newA here 1) true).here), zp⟩ : Om) (walkA_waits _ _ _ _) hbh) ?_
      rintro _ w15 ⟨rfl, ht5, hc9⟩
      replace hS := Step.transNew hS hc9 (fun _ _ _ => by omega)
      replace ho1 := ho1.step hc9 (show ¬ b1 = ab2 by omega)
      replace ho2 := ho2.step hc9 (show ¬ b2 = ab2 by omega)
      replace ht1 := ht1.step hc9 (show ¬ ab1 = ab2 by omega)
      replace ht4 := ht4.step hc9 (show ¬ ab3 = ab2 by omega)
      replace hc7 := hc7.step hc9 (show ¬ sb1 = ab2 by omega)
      replace ho4 := ho4.step hc9 (show ¬ b3 = ab2 by omega)
      have hzht5 := ht5.lt
      refine VL_end (by kernel_rfl) ?_
      refine VQ_block_normal ?_
      refine VQ_next ?_
      refine VC_region ?_
      refine VL_pure 2 [5, 13, 14, 55, 56, 57] [(5, .int .u32 t), (13, .pointer (some ⟨ab1, 0, none⟩)), (14, .pointer (some ⟨ab2, 0, none⟩)), (55, .slice (some ⟨sb1, 0, none⟩) 2 2), (56, .int .i64 2), (57, .int .i64 1)] (by kernel_rfl) rfl ?_
      refine VL_end (by kernel_rfl) ?_
      refine VQ_round ?_
      refine VCL_round ?_
      refine VC_seq ?_
      refine VC_region ?_
      refine VL_pure 1 [5, 13, 14, 55, 56, 57, 58] [(5, .int .u32 t), (13, .pointer (some ⟨ab1, 0, none⟩)), (14, .pointer (some ⟨ab2, 0, none⟩)), (55, .slice (some ⟨sb1, 0, none⟩) 2 2), (56, .int .i64 2), (57, .int .i64 1), (58, .bool true)] (by kernel_rfl) rfl ?_
      refine VL_end (by kernel_rfl) ?_
      refine VQ_next ?_
      refine VC_seq ?_
      refine VC_true (by kernel_rfl) ?_
      refine VC_skip ?_
      refine VQ_next ?_
      refine VC_seq ?_
      refine VC_block ?_
      refine VC_seq ?_
      refine VC_region ?_
      refine VL_index (d := 59) (b := sb1) (o := 0) (len := 2) (sz := 36) (m := 1) (by kernel_rfl) (by kernel_rfl) 1 (by rfl) (by omega) 36 (by omega) ?_
      refine VL_load (d := 60) (t := 34) (a := ⟨sb1, 36, none⟩) (v := .agg #[.int .i64 1, .int .u8 0, .bool false, .int .u32 0, .int .u8 (((downA (newA here 1) true).here) 0), .int .u8 (((downA (newA here 1) true).here) 1), .int .u8 (((downA (newA here 1) true).here) 2), .int .u8 (((downA (newA here 1) true).here) 3), .int .u8 (((downA (newA here 1) true).here) 4), .int .u8 (((downA (newA here 1) true).here) 5), .int .u8 (((downA (newA here 1) true).here) 6), .int .u8 (((downA (newA here 1) true).here) 7), .int .u8 (((downA (newA here 1) true).here) 8), .int .u8 (((downA (newA here 1) true).here) 9), .int .u8 (((downA (newA here 1) true).here) 10), .int .u8 (((downA (newA here 1) true).here) 11), .int .u8 (((downA (newA here 1) true).here) 12), .int .u8 (((downA (newA here 1) true).here) 13), .int .u8 (((downA (newA here 1) true).here) 14), .int .u8 (((downA (newA here 1) true).here) 15), .int .u8 0, .int .u8 0, .int .u8 0, .int .u8 0, .int .u8 0, .int .u8 0, .int .u8 0, .int .u8 0, .int .u8 0, .int .u8 0, .int .u8 0, .int .u8 0, .int .u8 0, .int .u8 0, .int .u8 0, .int .u8 0]) (by kernel_rfl) (by kernel_rfl) (Loads.ownL hc7 (n := 36) (by kernel_rfl) (by kernel_rfl) (by kernel_rfl)) ?_
      have hzs13 := hS.size
      have hzl40 := ho1.lt
      have hzl41 := ho2.lt
      have hzl42 := ht1.lt
      have hzl43 := ht4.lt
      have hzl44 := hc7.lt
      have hzl45 := ho4.lt
      have hzl46 := ht5.lt
      refine VL_box (d := 17) (t := 34) (c := #[.int .i64 0, .int .u8 0, .bool false, .int .u32 0, .int .u8 0, .int .u8 0, .int .u8 0, .int .u8 0, .int .u8 0, .int .u8 0, .int .u8 0, .int .u8 0, .int .u8 0, .int .u8 0, .int .u8 0, .int .u8 0, .int .u8 0, .int .u8 0, .int .u8 0, .int .u8 0, .int .u8 0, .int .u8 0, .int .u8 0, .int .u8 0, .int .u8 0, .int .u8 0, .int .u8 0, .int .u8 0, .int .u8 0, .int .u8 0, .int .u8 0, .int .u8 0, .int .u8 0, .int .u8 0, .int .u8 0, .int .u8 0]) (by kernel_rfl) (by kernel_rfl) ?_
      intro b4 w16 hn4
      replace hS := Step.trans hS (hn4.step No)
      replace ho1 := ho1.no (hn4.step No)
      replace ho2 := ho2.no (hn4.step No)
      replace ht1 := ht1.no (hn4.step No)
      replace ht4 := ht4.no (hn4.step No)
      replace hc7 := hc7.no (hn4.step No)
      replace ho4 := ho4.no (hn4.step No)
      replace ht5 := ht5.no (hn4.step No)
      have ho5 := hn4.own
      have hzhn4 := hn4.size
      have hqhn4 := hn4.eqb
      refine VL_store (b := b4) (o := 0) (vs := [.int .i64 1, .int .u8 0, .bool false, .int .u32 0, .int .u8 (((downA (newA here 1) true).here) 0), .int .u8 (((downA (newA here 1) true).here) 1), .int .u8 (((downA (newA here 1) true).here) 2), .int .u8 (((downA (newA here 1) true).here) 3), .int .u8 (((downA (newA here 1) true).here) 4), .int .u8 (((downA (newA here 1) true).here) 5), .int .u8 (((downA (newA here 1) true).here) 6), .int .u8 (((downA (newA here 1) true).here) 7), .int .u8 (((downA (newA here 1) true).here) 8), .int .u8 (((downA (newA here 1) true).here) 9), .int .u8 (((downA (newA here 1) true).here) 10), .int .u8 (((downA (newA here 1) true).here) 11), .int .u8 (((downA (newA here 1) true).here) 12), .int .u8 (((downA (newA here 1) true).here) 13), .int .u8 (((downA (newA here 1) true).here) 14), .int .u8 (((downA (newA here 1) true).here) 15), .int .u8 0, .int .u8 0, .int .u8 0, .int .u8 0, .int .u8 0, .int .u8 0, .int .u8 0, .int .u8 0, .int .u8 0, .int .u8 0, .int .u8 0, .int .u8 0, .int .u8 0, .int .u8 0, .int .u8 0, .int .u8 0]) (by kernel_rfl) (by kernel_rfl) ho5 (Nat.le_of_ble_eq_true (by kernel_rfl)) ?_
      intro w17 hw2
      replace hS := Step.transNew hS hw2.step (fun _ _ _ => by omega)
      replace ho1 := ho1.step hw2.step (show ¬ b1 = b4 by omega)
      replace ho2 := ho2.step hw2.step (show ¬ b2 = b4 by omega)
      replace ht1 := ht1.step hw2.step (show ¬ ab1 = b4 by omega)
      replace ht4 := ht4.step hw2.step (show ¬ ab3 = b4 by omega)
      replace hc7 := hc7.step hw2.step (show ¬ sb1 = b4 by omega)
      replace ho4 := ho4.step hw2.step (show ¬ b3 = b4 by omega)
      replace ht5 := ht5.step hw2.step (show ¬ ab2 = b4 by omega)
      have ho6 : Own w17 b4 #[.int .i64 1, .int .u8 0, .bool false, .int .u32 0, .int .u8 (((downA (newA here 1) true).here) 0), .int .u8 (((downA (newA here 1) true).here) 1), .int .u8 (((downA (newA here 1) true).here) 2), .int .u8 (((downA (newA here 1) true).here) 3), .int .u8 (((downA (newA here 1) true).here) 4), .int .u8 (((downA (newA here 1) true).here) 5), .int .u8 (((downA (newA here 1) true).here) 6), .int .u8 (((downA (newA here 1) true).here) 7), .int .u8 (((downA (newA here 1) true).here) 8), .int .u8 (((downA (newA here 1) true).here) 9), .int .u8 (((downA (newA here 1) true).here) 10), .int .u8 (((downA (newA here 1) true).here) 11), .int .u8 (((downA (newA here 1) true).here) 12), .int .u8 (((downA (newA here 1) true).here) 13), .int .u8 (((downA (newA here 1) true).here) 14), .int .u8 (((downA (newA here 1) true).here) 15), .int .u8 0, .int .u8 0, .int .u8 0, .int .u8 0, .int .u8 0, .int .u8 0, .int .u8 0, .int .u8 0, .int .u8 0, .int .u8 0, .int .u8 0, .int .u8 0, .int .u8 0, .int .u8 0, .int .u8 0, .int .u8 0] 34 := Own.cast hw2.own (by kernel_rfl)
      have hzhw2 := hw2.same
      refine VL_end (by kernel_rfl) ?_
      refine VQ_next ?_
      refine VC_region ?_
      refine VL_pure 3 [5, 13, 14, 55, 56, 57, 17, 61, 63] [(5, .int .u32 t), (13, .pointer (some ⟨ab1, 0, none⟩)), (14, .pointer (some ⟨ab2, 0, none⟩)), (55, .slice (some ⟨sb1, 0, none⟩) 2 2), (56, .int .i64 2), (57, .int .i64 1), (17, .pointer (some ⟨b4, 0, none⟩)), (61, .pointer (some ⟨ab2, 0, none⟩)), (63, .int .i64 (IntKind.wrap .i64 t))] (by kernel_rfl) rfl ?_
      refine VL_load (d := 64) (t := 34) (a := ⟨b4, 0, none⟩) (v := .agg #[.int .i64 1, .int .u8 0, .bool false, .int .u32 0, .int .u8 (((downA (newA here 1) true).here) 0), .int .u8 (((downA (newA here 1) true).here) 1), .int .u8 (((downA (newA here 1) true).here) 2), .int .u8 (((downA (newA here 1) true).here) 3), .int .u8 (((downA (newA here 1) true).here) 4), .int .u8 (((downA (newA here 1) true).here) 5), .int .u8 (((downA (newA here 1) true).here) 6), .int .u8 (((downA (newA here 1) true).here) 7), .int .u8 (((downA (newA here 1) true).here) 8), .int .u8 (((downA (newA here 1) true).here) 9), .int .u8 (((downA (newA here 1) true).here) 10), .int .u8 (((downA (newA here 1) true).here) 11), .int .u8 (((downA (newA here 1) true).here) 12), .int .u8 (((downA (newA here 1) true).here) 13), .int .u8 (((downA (newA here 1) true).here) 14), .int .u8 (((downA (newA here 1) true).here) 15), .int .u8 0, .int .u8 0, .int .u8 0, .int .u8 0, .int .u8 0, .int .u8 0, .int .u8 0, .int .u8 0, .int .u8 0, .int .u8 0, .int .u8 0, .int .u8 0, .int .u8 0, .int .u8 0, .int .u8 0, .int .u8 0]) (by kernel_rfl) (by kernel_rfl) (Loads.ownL ho6 (n := 36) (by kernel_rfl) (by kernel_rfl) (by kernel_rfl)) ?_
      have hzs14 := hS.size
      have hzl47 := ho1.lt
      have hzl48 := ho2.lt
      have hzl49 := ht1.lt
      have hzl50 := ht4.lt
      have hzl51 := hc7.lt
      have hzl52 := ho4.lt
      have hzl53 := ht5.lt
      have hzl54 := ho6.lt
      refine VL_call (d := 65) (f := 12) (by kernel_rfl) (by kernel_rfl) (by kernel_rfl) Try.call12 (got_any ab2 (gotA (walkA there (IntKind.wrap .i64 (1 + (IntKind.wrap .i64 wait))) q2 n2) (IntKind.wrap .i64 t) (⟨0, 0, false, 0, ((downA (newA here 1) true).here), zp⟩ : Om)) _ ht5 (IntKind.wrap .i64 t) (⟨1, 0, false, 0, ((downA (newA here 1) true).here), zp⟩ : Om) (waits_got (walkA_waits _ _ _ _) _ _) hbh) ?_
      rintro _ w18 ⟨rfl, ht6, hc10⟩
      replace hS := Step.transNew hS hc10 (fun _ _ _ => by omega)
      replace ho1 := ho1.step hc10 (show ¬ b1 = ab2 by omega)
      replace ho2 := ho2.step hc10 (show ¬ b2 = ab2 by omega)
      replace ht1 := ht1.step hc10 (show ¬ ab1 = ab2 by omega)
      replace ht4 := ht4.step hc10 (show ¬ ab3 = ab2 by omega)
      replace hc7 := hc7.step hc10 (show ¬ sb1 = ab2 by omega)
      replace ho4 := ho4.step hc10 (show ¬ b3 = ab2 by omega)
      replace ho6 := ho6.step hc10 (show ¬ b4 = ab2 by omega)
      have hzht6 := ht6.lt
      refine VL_end (by kernel_rfl) ?_
      refine VQ_block_normal ?_
      refine VQ_next ?_
      refine VC_region ?_
      refine VL_pure 2 [5, 13, 14, 55, 56, 57] [(5, .int .u32 t), (13, .pointer (some ⟨ab1, 0, none⟩)), (14, .pointer (some ⟨ab2, 0, none⟩)), (55, .slice (some ⟨sb1, 0, none⟩) 2 2), (56, .int .i64 2), (57, .int .i64 2)] (by kernel_rfl) rfl ?_
      refine VL_end (by kernel_rfl) ?_
      refine VQ_round ?_
      refine VCL_round ?_
      refine VC_seq ?_
      refine VC_region ?_
      refine VL_pure 1 [5, 13, 14, 55, 56, 57, 58] [(5, .int .u32 t), (13, .pointer (some ⟨ab1, 0, none⟩)), (14, .pointer (some ⟨ab2, 0, none⟩)), (55, .slice (some ⟨sb1, 0, none⟩) 2 2), (56, .int .i64 2), (57, .int .i64 2), (58, .bool false)] (by kernel_rfl) rfl ?_
      refine VL_end (by kernel_rfl) ?_
      refine VQ_next ?_
      refine VC_seq ?_
      refine VC_false (by kernel_rfl) ?_
      refine VC_exit ?_
      refine VQ_then_exit ?_
      refine VQ_then_exit ?_
      refine VQ_block_hit ?_
      refine VQ_next ?_
      refine VC_seq ?_
      refine VC_region ?_
      refine VL_pure 3 [5, 13, 14, 68, 70] [(5, .int .u32 t), (13, .pointer (some ⟨ab1, 0, none⟩)), (14, .pointer (some ⟨ab2, 0, none⟩)), (68, .pointer (some ⟨ab2, 0, none⟩)), (70, .int .i64 (IntKind.wrap .i64 t))] (by kernel_rfl) rfl ?_
      have hzs15 := hS.size
      have hzl55 := ho1.lt
      have hzl56 := ho2.lt
      have hzl57 := ht1.lt
      have hzl58 := ht4.lt
      have hzl59 := hc7.lt
      have hzl60 := ho4.lt
      have hzl61 := ho6.lt
      have hzl62 := ht6.lt
      refine VL_call (d := 71) (f := 16) (by kernel_rfl) (by kernel_rfl) (by kernel_rfl) Try.call16 (state_any ab2 (gotA (gotA (walkA there (IntKind.wrap .i64 (1 + (IntKind.wrap .i64 wait))) q2 n2) (IntKind.wrap .i64 t) (⟨0, 0, false, 0, ((downA (newA here 1) true).here), zp⟩ : Om)) (IntKind.wrap .i64 t) (⟨1, 0, false, 0, ((downA (newA here 1) true).here), zp⟩ : Om)) _ ht6 (IntKind.wrap .i64 t)) ?_
      rintro _ w19 ⟨rfl, hc11⟩
      replace hS := Step.trans hS hc11
      replace ho1 := ho1.no hc11
      replace ho2 := ho2.no hc11
      replace ht1 := ht1.no hc11
      replace ht4 := ht4.no hc11
      replace hc7 := hc7.no hc11
      replace ho4 := ho4.no hc11
      replace ho6 := ho6.no hc11
      replace ht6 := ht6.no hc11
      rw [show aheadA (gotA (gotA (walkA there (IntKind.wrap .i64 (1 + (IntKind.wrap .i64 wait))) q2 n2) (IntKind.wrap .i64 t) (⟨0, 0, false, 0, ((downA (newA here 1) true).here), zp⟩ : Om)) (IntKind.wrap .i64 t) (⟨1, 0, false, 0, ((downA (newA here 1) true).here), zp⟩ : Om)) (IntKind.wrap .i64 t) = true from ((told_ab (walkA_waits _ _ _ _) _ _ _).1), show behindA (gotA (gotA (walkA there (IntKind.wrap .i64 (1 + (IntKind.wrap .i64 wait))) q2 n2) (IntKind.wrap .i64 t) (⟨0, 0, false, 0, ((downA (newA here 1) true).here), zp⟩ : Om)) (IntKind.wrap .i64 t) (⟨1, 0, false, 0, ((downA (newA here 1) true).here), zp⟩ : Om)) (IntKind.wrap .i64 t) = true from ((told_ab (walkA_waits _ _ _ _) _ _ _).2)]
      refine VL_pure 9 [5, 13, 14, 18, 19] [(5, .int .u32 t), (13, .pointer (some ⟨ab1, 0, none⟩)), (14, .pointer (some ⟨ab2, 0, none⟩)), (18, .bool true), (19, .bool true)] (by kernel_rfl) rfl ?_
      refine VL_end (by kernel_rfl) ?_
      refine VQ_next ?_
      refine VC_seq ?_
      refine VC_seq ?_
      refine VC_region ?_
      refine VL_pure 3 [5, 13, 18, 19, 74, 76] [(5, .int .u32 t), (13, .pointer (some ⟨ab1, 0, none⟩)), (18, .bool true), (19, .bool true), (74, .pointer (some ⟨ab2, 0, none⟩)), (76, .int .i64 (IntKind.wrap .i64 t))] (by kernel_rfl) rfl ?_
      rcases Bool.eq_false_or_eq_true (gotA (gotA (walkA there (IntKind.wrap .i64 (1 + (IntKind.wrap .i64 wait))) q2 n2) (IntKind.wrap .i64 t) (⟨0, 0, false, 0, ((downA (newA here 1) true).here), zp⟩ : Om)) (IntKind.wrap .i64 t) (⟨1, 0, false, 0, ((downA (newA here 1) true).here), zp⟩ : Om)).dn with hdn | hdn
      · have hzs16 := hS.size
        have hzl63 := ho1.lt
        have hzl64 := ho2.lt
        have hzl65 := ht1.lt
        have hzl66 := ht4.lt
        have hzl67 := hc7.lt
        have hzl68 := ho4.lt
        have hzl69 := ho6.lt
        have hzl70 := ht6.lt
        refine VL_call (d := 77) (f := 19) (by kernel_rfl) (by kernel_rfl) (by kernel_rfl) Try.call19 (sends_any ab2 (gotA (gotA (walkA there (IntKind.wrap .i64 (1 + (IntKind.wrap .i64 wait))) q2 n2) (IntKind.wrap .i64 t) (⟨0, 0, false, 0, ((downA (newA here 1) true).here), zp⟩ : Om)) (IntKind.wrap .i64 t) (⟨1, 0, false, 0, ((downA (newA here 1) true).here), zp⟩ : Om)) _ ht6 (IntKind.wrap .i64 t)) ?_
        rintro _ w20 ⟨sb2, rfl, hfsb2, hc12, hc13⟩
        replace hS := Step.trans hS hc13
        replace ho1 := ho1.no hc13
        replace ho2 := ho2.no hc13
        replace ht1 := ht1.no hc13
        replace ht4 := ht4.no hc13
        replace hc7 := hc7.no hc13
        replace ho4 := ho4.no hc13
        replace ho6 := ho6.no hc13
        replace ht6 := ht6.no hc13
        rw [show sendL (gotA (gotA (walkA there (IntKind.wrap .i64 (1 + (IntKind.wrap .i64 wait))) q2 n2) (IntKind.wrap .i64 t) (⟨0, 0, false, 0, ((downA (newA here 1) true).here), zp⟩ : Om)) (IntKind.wrap .i64 t) (⟨1, 0, false, 0, ((downA (newA here 1) true).here), zp⟩ : Om)) (IntKind.wrap .i64 t) = [(ais (gotA (gotA (walkA there (IntKind.wrap .i64 (1 + (IntKind.wrap .i64 wait))) q2 n2) (IntKind.wrap .i64 t) (⟨0, 0, false, 0, ((downA (newA here 1) true).here), zp⟩ : Om)) (IntKind.wrap .i64 t) (⟨1, 0, false, 0, ((downA (newA here 1) true).here), zp⟩ : Om))), (rdi (gotA (gotA (walkA there (IntKind.wrap .i64 (1 + (IntKind.wrap .i64 wait))) q2 n2) (IntKind.wrap .i64 t) (⟨0, 0, false, 0, ((downA (newA here 1) true).here), zp⟩ : Om)) (IntKind.wrap .i64 t) (⟨1, 0, false, 0, ((downA (newA here 1) true).here), zp⟩ : Om)))] from (send_1 hdn)] at hc12 ⊢
        have hzsb2 := hc12.lt
        refine VL_pure 6 [5, 13, 18, 19, 77, 78, 79] [(5, .int .u32 t), (13, .pointer (some ⟨ab1, 0, none⟩)), (18, .bool true), (19, .bool true), (77, .slice (some ⟨sb2, 0, none⟩) 2 2), (78, .int .i64 2), (79, .int .i64 0)] (by kernel_rfl) rfl ?_
        refine VL_end (by kernel_rfl) ?_
        refine VQ_next ?_
        refine VC_block ?_
        refine VC_rounds ?_
        refine VCL_round ?_
        refine VC_seq ?_
        refine VC_region ?_
        refine VL_pure 1 [5, 13, 18, 19, 77, 78, 79, 80] [(5, .int .u32 t), (13, .pointer (some ⟨ab1, 0, none⟩)), (18, .bool true), (19, .bool true), (77, .slice (some ⟨sb2, 0, none⟩) 2 2), (78, .int .i64 2), (79, .int .i64 0), (80, .bool true)] (by kernel_rfl) rfl ?_
        refine VL_end (by kernel_rfl) ?_
        refine VQ_next ?_
        refine VC_seq ?_
        refine VC_true (by kernel_rfl) ?_
        refine VC_skip ?_
        refine VQ_next ?_
        refine VC_seq ?_
        refine VC_block ?_
        refine VC_seq ?_
        refine VC_region ?_
        refine VL_index (d := 81) (b := sb2) (o := 0) (len := 2) (sz := 36) (m := 0) (by kernel_rfl) (by kernel_rfl) 0 (by rfl) (by omega) 0 (by omega) ?_
        refine VL_load (d := 82) (t := 34) (a := ⟨sb2, 0, none⟩) (v := .agg #[.int .i64 0, .int .u8 0, .bool false, .int .u32 0, .int .u8 (((gotA (gotA (walkA there (IntKind.wrap .i64 (1 + (IntKind.wrap .i64 wait))) q2 n2) (IntKind.wrap .i64 t) (⟨0, 0, false, 0, ((downA (newA here 1) true).here), zp⟩ : Om)) (IntKind.wrap .i64 t) (⟨1, 0, false, 0, ((downA (newA here 1) true).here), zp⟩ : Om)).here) 0), .int .u8 (((gotA (gotA (walkA there (IntKind.wrap .i64 (1 + (IntKind.wrap .i64 wait))) q2 n2) (IntKind.wrap .i64 t) (⟨0, 0, false, 0, ((downA (newA here 1) true).here), zp⟩ : Om)) (IntKind.wrap .i64 t) (⟨1, 0, false, 0, ((downA (newA here 1) true).here), zp⟩ : Om)).here) 1), .int .u8 (((gotA (gotA (walkA there (IntKind.wrap .i64 (1 + (IntKind.wrap .i64 wait))) q2 n2) (IntKind.wrap .i64 t) (⟨0, 0, false, 0, ((downA (newA here 1) true).here), zp⟩ : Om)) (IntKind.wrap .i64 t) (⟨1, 0, false, 0, ((downA (newA here 1) true).here), zp⟩ : Om)).here) 2), .int .u8 (((gotA (gotA (walkA there (IntKind.wrap .i64 (1 + (IntKind.wrap .i64 wait))) q2 n2) (IntKind.wrap .i64 t) (⟨0, 0, false, 0, ((downA (newA here 1) true).here), zp⟩ : Om)) (IntKind.wrap .i64 t) (⟨1, 0, false, 0, ((downA (newA here 1) true).here), zp⟩ : Om)).here) 3), .int .u8 (((gotA (gotA (walkA there (IntKind.wrap .i64 (1 + (IntKind.wrap .i64 wait))) q2 n2) (IntKind.wrap .i64 t) (⟨0, 0, false, 0, ((downA (newA here 1) true).here), zp⟩ : Om)) (IntKind.wrap .i64 t) (⟨1, 0, false, 0, ((downA (newA here 1) true).here), zp⟩ : Om)).here) 4), .int .u8 (((gotA (gotA (walkA there (IntKind.wrap .i64 (1 + (IntKind.wrap .i64 wait))) q2 n2) (IntKind.wrap .i64 t) (⟨0, 0, false, 0, ((downA (newA here 1) true).here), zp⟩ : Om)) (IntKind.wrap .i64 t) (⟨1, 0, false, 0, ((downA (newA here 1) true).here), zp⟩ : Om)).here) 5), .int .u8 (((gotA (gotA (walkA there (IntKind.wrap .i64 (1 + (IntKind.wrap .i64 wait))) q2 n2) (IntKind.wrap .i64 t) (⟨0, 0, false, 0, ((downA (newA here 1) true).here), zp⟩ : Om)) (IntKind.wrap .i64 t) (⟨1, 0, false, 0, ((downA (newA here 1) true).here), zp⟩ : Om)).here) 6), .int .u8 (((gotA (gotA (walkA there (IntKind.wrap .i64 (1 + (IntKind.wrap .i64 wait))) q2 n2) (IntKind.wrap .i64 t) (⟨0, 0, false, 0, ((downA (newA here 1) true).here), zp⟩ : Om)) (IntKind.wrap .i64 t) (⟨1, 0, false, 0, ((downA (newA here 1) true).here), zp⟩ : Om)).here) 7), .int .u8 (((gotA (gotA (walkA there (IntKind.wrap .i64 (1 + (IntKind.wrap .i64 wait))) q2 n2) (IntKind.wrap .i64 t) (⟨0, 0, false, 0, ((downA (newA here 1) true).here), zp⟩ : Om)) (IntKind.wrap .i64 t) (⟨1, 0, false, 0, ((downA (newA here 1) true).here), zp⟩ : Om)).here) 8), .int .u8 (((gotA (gotA (walkA there (IntKind.wrap .i64 (1 + (IntKind.wrap .i64 wait))) q2 n2) (IntKind.wrap .i64 t) (⟨0, 0, false, 0, ((downA (newA here 1) true).here), zp⟩ : Om)) (IntKind.wrap .i64 t) (⟨1, 0, false, 0, ((downA (newA here 1) true).here), zp⟩ : Om)).here) 9), .int .u8 (((gotA (gotA (walkA there (IntKind.wrap .i64 (1 + (IntKind.wrap .i64 wait))) q2 n2) (IntKind.wrap .i64 t) (⟨0, 0, false, 0, ((downA (newA here 1) true).here), zp⟩ : Om)) (IntKind.wrap .i64 t) (⟨1, 0, false, 0, ((downA (newA here 1) true).here), zp⟩ : Om)).here) 10), .int .u8 (((gotA (gotA (walkA there (IntKind.wrap .i64 (1 + (IntKind.wrap .i64 wait))) q2 n2) (IntKind.wrap .i64 t) (⟨0, 0, false, 0, ((downA (newA here 1) true).here), zp⟩ : Om)) (IntKind.wrap .i64 t) (⟨1, 0, false, 0, ((downA (newA here 1) true).here), zp⟩ : Om)).here) 11), .int .u8 (((gotA (gotA (walkA there (IntKind.wrap .i64 (1 + (IntKind.wrap .i64 wait))) q2 n2) (IntKind.wrap .i64 t) (⟨0, 0, false, 0, ((downA (newA here 1) true).here), zp⟩ : Om)) (IntKind.wrap .i64 t) (⟨1, 0, false, 0, ((downA (newA here 1) true).here), zp⟩ : Om)).here) 12), .int .u8 (((gotA (gotA (walkA there (IntKind.wrap .i64 (1 + (IntKind.wrap .i64 wait))) q2 n2) (IntKind.wrap .i64 t) (⟨0, 0, false, 0, ((downA (newA here 1) true).here), zp⟩ : Om)) (IntKind.wrap .i64 t) (⟨1, 0, false, 0, ((downA (newA here 1) true).here), zp⟩ : Om)).here) 13), .int .u8 (((gotA (gotA (walkA there (IntKind.wrap .i64 (1 + (IntKind.wrap .i64 wait))) q2 n2) (IntKind.wrap .i64 t) (⟨0, 0, false, 0, ((downA (newA here 1) true).here), zp⟩ : Om)) (IntKind.wrap .i64 t) (⟨1, 0, false, 0, ((downA (newA here 1) true).here), zp⟩ : Om)).here) 14), .int .u8 (((gotA (gotA (walkA there (IntKind.wrap .i64 (1 + (IntKind.wrap .i64 wait))) q2 n2) (IntKind.wrap .i64 t) (⟨0, 0, false, 0, ((downA (newA here 1) true).here), zp⟩ : Om)) (IntKind.wrap .i64 t) (⟨1, 0, false, 0, ((downA (newA here 1) true).here), zp⟩ : Om)).here) 15), .int .u8 0, .int .u8 0, .int .u8 0, .int .u8 0, .int .u8 0, .int .u8 0, .int .u8 0, .int .u8 0, .int .u8 0, .int .u8 0, .int .u8 0, .int .u8 0, .int .u8 0, .int .u8 0, .int .u8 0, .int .u8 0]) (by kernel_rfl) (by kernel_rfl) (Loads.ownL hc12 (n := 36) (by kernel_rfl) (by kernel_rfl) (by kernel_rfl)) ?_
        have hzs17 := hS.size
        have hzl71 := ho1.lt
        have hzl72 := ho2.lt
        have hzl73 := ht1.lt
        have hzl74 := ht4.lt
        have hzl75 := hc7.lt
        have hzl76 := ho4.lt
        have hzl77 := ho6.lt
        have hzl78 := ht6.lt
        have hzl79 := hc12.lt
        refine VL_box (d := 21) (t := 34) (c := #[.int .i64 0, .int .u8 0, .bool false, .int .u32 0, .int .u8 0, .int .u8 0, .int .u8 0, .int .u8 0, .int .u8 0, .int .u8 0, .int .u8 0, .int .u8 0, .int .u8 0, .int .u8 0, .int .u8 0, .int .u8 0, .int .u8 0, .int .u8 0, .int .u8 0, .int .u8 0, .int .u8 0, .int .u8 0, .int .u8 0, .int .u8 0, .int .u8 0, .int .u8 0, .int .u8 0, .int .u8 0, .int .u8 0, .int .u8 0, .int .u8 0, .int .u8 0, .int .u8 0, .int .u8 0, .int .u8 0, .int .u8 0]) (by kernel_rfl) (by kernel_rfl) ?_
        intro b5 w21 hn5
        replace hS := Step.trans hS (hn5.step No)
        replace ho1 := ho1.no (hn5.step No)
        replace ho2 := ho2.no (hn5.step No)
        replace ht1 := ht1.no (hn5.step No)
        replace ht4 := ht4.no (hn5.step No)
        replace hc7 := hc7.no (hn5.step No)
        replace ho4 := ho4.no (hn5.step No)
        replace ho6 := ho6.no (hn5.step No)
        replace ht6 := ht6.no (hn5.step No)
        replace hc12 := hc12.no (hn5.step No)
        have ho7 := hn5.own
        have hzhn5 := hn5.size
        have hqhn5 := hn5.eqb
        refine VL_store (b := b5) (o := 0) (vs := [.int .i64 0, .int .u8 0, .bool false, .int .u32 0, .int .u8 (((gotA (gotA (walkA there (IntKind.wrap .i64 (1 + (IntKind.wrap .i64 wait))) q2 n2) (IntKind.wrap .i64 t) (⟨0, 0, false, 0, ((downA (newA here 1) true).here), zp⟩ : Om)) (IntKind.wrap .i64 t) (⟨1, 0, false, 0, ((downA (newA here 1) true).here), zp⟩ : Om)).here) 0), .int .u8 (((gotA (gotA (walkA there (IntKind.wrap .i64 (1 + (IntKind.wrap .i64 wait))) q2 n2) (IntKind.wrap .i64 t) (⟨0, 0, false, 0, ((downA (newA here 1) true).here), zp⟩ : Om)) (IntKind.wrap .i64 t) (⟨1, 0, false, 0, ((downA (newA here 1) true).here), zp⟩ : Om)).here) 1), .int .u8 (((gotA (gotA (walkA there (IntKind.wrap .i64 (1 + (IntKind.wrap .i64 wait))) q2 n2) (IntKind.wrap .i64 t) (⟨0, 0, false, 0, ((downA (newA here 1) true).here), zp⟩ : Om)) (IntKind.wrap .i64 t) (⟨1, 0, false, 0, ((downA (newA here 1) true).here), zp⟩ : Om)).here) 2), .int .u8 (((gotA (gotA (walkA there (IntKind.wrap .i64 (1 + (IntKind.wrap .i64 wait))) q2 n2) (IntKind.wrap .i64 t) (⟨0, 0, false, 0, ((downA (newA here 1) true).here), zp⟩ : Om)) (IntKind.wrap .i64 t) (⟨1, 0, false, 0, ((downA (newA here 1) true).here), zp⟩ : Om)).here) 3), .int .u8 (((gotA (gotA (walkA there (IntKind.wrap .i64 (1 + (IntKind.wrap .i64 wait))) q2 n2) (IntKind.wrap .i64 t) (⟨0, 0, false, 0, ((downA (newA here 1) true).here), zp⟩ : Om)) (IntKind.wrap .i64 t) (⟨1, 0, false, 0, ((downA (newA here 1) true).here), zp⟩ : Om)).here) 4), .int .u8 (((gotA (gotA (walkA there (IntKind.wrap .i64 (1 + (IntKind.wrap .i64 wait))) q2 n2) (IntKind.wrap .i64 t) (⟨0, 0, false, 0, ((downA (newA here 1) true).here), zp⟩ : Om)) (IntKind.wrap .i64 t) (⟨1, 0, false, 0, ((downA (newA here 1) true).here), zp⟩ : Om)).here) 5), .int .u8 (((gotA (gotA (walkA there (IntKind.wrap .i64 (1 + (IntKind.wrap .i64 wait))) q2 n2) (IntKind.wrap .i64 t) (⟨0, 0, false, 0, ((downA (newA here 1) true).here), zp⟩ : Om)) (IntKind.wrap .i64 t) (⟨1, 0, false, 0, ((downA (newA here 1) true).here), zp⟩ : Om)).here) 6), .int .u8 (((gotA (gotA (walkA there (IntKind.wrap .i64 (1 + (IntKind.wrap .i64 wait))) q2 n2) (IntKind.wrap .i64 t) (⟨0, 0, false, 0, ((downA (newA here 1) true).here), zp⟩ : Om)) (IntKind.wrap .i64 t) (⟨1, 0, false, 0, ((downA (newA here 1) true).here), zp⟩ : Om)).here) 7), .int .u8 (((gotA (gotA (walkA there (IntKind.wrap .i64 (1 + (IntKind.wrap .i64 wait))) q2 n2) (IntKind.wrap .i64 t) (⟨0, 0, false, 0, ((downA (newA here 1) true).here), zp⟩ : Om)) (IntKind.wrap .i64 t) (⟨1, 0, false, 0, ((downA (newA here 1) true).here), zp⟩ : Om)).here) 8), .int .u8 (((gotA (gotA (walkA there (IntKind.wrap .i64 (1 + (IntKind.wrap .i64 wait))) q2 n2) (IntKind.wrap .i64 t) (⟨0, 0, false, 0, ((downA (newA here 1) true).here), zp⟩ : Om)) (IntKind.wrap .i64 t) (⟨1, 0, false, 0, ((downA (newA here 1) true).here), zp⟩ : Om)).here) 9), .int .u8 (((gotA (gotA (walkA there (IntKind.wrap .i64 (1 + (IntKind.wrap .i64 wait))) q2 n2) (IntKind.wrap .i64 t) (⟨0, 0, false, 0, ((downA (newA here 1) true).here), zp⟩ : Om)) (IntKind.wrap .i64 t) (⟨1, 0, false, 0, ((downA (newA here 1) true).here), zp⟩ : Om)).here) 10), .int .u8 (((gotA (gotA (walkA there (IntKind.wrap .i64 (1 + (IntKind.wrap .i64 wait))) q2 n2) (IntKind.wrap .i64 t) (⟨0, 0, false, 0, ((downA (newA here 1) true).here), zp⟩ : Om)) (IntKind.wrap .i64 t) (⟨1, 0, false, 0, ((downA (newA here 1) true).here), zp⟩ : Om)).here) 11), .int .u8 (((gotA (gotA (walkA there (IntKind.wrap .i64 (1 + (IntKind.wrap .i64 wait))) q2 n2) (IntKind.wrap .i64 t) (⟨0, 0, false, 0, ((downA (newA here 1) true).here), zp⟩ : Om)) (IntKind.wrap .i64 t) (⟨1, 0, false, 0, ((downA (newA here 1) true).here), zp⟩ : Om)).here) 12), .int .u8 (((gotA (gotA (walkA there (IntKind.wrap .i64 (1 + (IntKind.wrap .i64 wait))) q2 n2) (IntKind.wrap .i64 t) (⟨0, 0, false, 0, ((downA (newA here 1) true).here), zp⟩ : Om)) (IntKind.wrap .i64 t) (⟨1, 0, false, 0, ((downA (newA here 1) true).here), zp⟩ : Om)).here) 13), .int .u8 (((gotA (gotA (walkA there (IntKind.wrap .i64 (1 + (IntKind.wrap .i64 wait))) q2 n2) (IntKind.wrap .i64 t) (⟨0, 0, false, 0, ((downA (newA here 1) true).here), zp⟩ : Om)) (IntKind.wrap .i64 t) (⟨1, 0, false, 0, ((downA (newA here 1) true).here), zp⟩ : Om)).here) 14), .int .u8 (((gotA (gotA (walkA there (IntKind.wrap .i64 (1 + (IntKind.wrap .i64 wait))) q2 n2) (IntKind.wrap .i64 t) (⟨0, 0, false, 0, ((downA (newA here 1) true).here), zp⟩ : Om)) (IntKind.wrap .i64 t) (⟨1, 0, false, 0, ((downA (newA here 1) true).here), zp⟩ : Om)).here) 15), .int .u8 0, .int .u8 0, .int .u8 0, .int .u8 0, .int .u8 0, .int .u8 0, .int .u8 0, .int .u8 0, .int .u8 0, .int .u8 0, .int .u8 0, .int .u8 0, .int .u8 0, .int .u8 0, .int .u8 0, .int .u8 0]) (by kernel_rfl) (by kernel_rfl) ho7 (Nat.le_of_ble_eq_true (by kernel_rfl)) ?_
        intro w22 hw3
        replace hS := Step.transNew hS hw3.step (fun _ _ _ => by omega)
        replace ho1 := ho1.step hw3.step (show ¬ b1 = b5 by omega)
        replace ho2 := ho2.step hw3.step (show ¬ b2 = b5 by omega)
        replace ht1 := ht1.step hw3.step (show ¬ ab1 = b5 by omega)
        replace ht4 := ht4.step hw3.step (show ¬ ab3 = b5 by omega)
        replace hc7 := hc7.step hw3.step (show ¬ sb1 = b5 by omega)
        replace ho4 := ho4.step hw3.step (show ¬ b3 = b5 by omega)
        replace ho6 := ho6.step hw3.step (show ¬ b4 = b5 by omega)
        replace ht6 := ht6.step hw3.step (show ¬ ab2 = b5 by omega)
        replace hc12 := hc12.step hw3.step (show ¬ sb2 = b5 by omega)
        have ho8 : Own w22 b5 #[.int .i64 0, .int .u8 0, .bool false, .int .u32 0, .int .u8 (((gotA (gotA (walkA there (IntKind.wrap .i64 (1 + (IntKind.wrap .i64 wait))) q2 n2) (IntKind.wrap .i64 t) (⟨0, 0, false, 0, ((downA (newA here 1) true).here), zp⟩ : Om)) (IntKind.wrap .i64 t) (⟨1, 0, false, 0, ((downA (newA here 1) true).here), zp⟩ : Om)).here) 0), .int .u8 (((gotA (gotA (walkA there (IntKind.wrap .i64 (1 + (IntKind.wrap .i64 wait))) q2 n2) (IntKind.wrap .i64 t) (⟨0, 0, false, 0, ((downA (newA here 1) true).here), zp⟩ : Om)) (IntKind.wrap .i64 t) (⟨1, 0, false, 0, ((downA (newA here 1) true).here), zp⟩ : Om)).here) 1), .int .u8 (((gotA (gotA (walkA there (IntKind.wrap .i64 (1 + (IntKind.wrap .i64 wait))) q2 n2) (IntKind.wrap .i64 t) (⟨0, 0, false, 0, ((downA (newA here 1) true).here), zp⟩ : Om)) (IntKind.wrap .i64 t) (⟨1, 0, false, 0, ((downA (newA here 1) true).here), zp⟩ : Om)).here) 2), .int .u8 (((gotA (gotA (walkA there (IntKind.wrap .i64 (1 + (IntKind.wrap .i64 wait))) q2 n2) (IntKind.wrap .i64 t) (⟨0, 0, false, 0, ((downA (newA here 1) true).here), zp⟩ : Om)) (IntKind.wrap .i64 t) (⟨1, 0, false, 0, ((downA (newA here 1) true).here), zp⟩ : Om)).here) 3), .int .u8 (((gotA (gotA (walkA there (IntKind.wrap .i64 (1 + (IntKind.wrap .i64 wait))) q2 n2) (IntKind.wrap .i64 t) (⟨0, 0, false, 0, ((downA (newA here 1) true).here), zp⟩ : Om)) (IntKind.wrap .i64 t) (⟨1, 0, false, 0, ((downA (newA here 1) true).here), zp⟩ : Om)).here) 4), .int .u8 (((gotA (gotA (walkA there (IntKind.wrap .i64 (1 + (IntKind.wrap .i64 wait))) q2 n2) (IntKind.wrap .i64 t) (⟨0, 0, false, 0, ((downA (newA here 1) true).here), zp⟩ : Om)) (IntKind.wrap .i64 t) (⟨1, 0, false, 0, ((downA (newA here 1) true).here), zp⟩ : Om)).here) 5), .int .u8 (((gotA (gotA (walkA there (IntKind.wrap .i64 (1 + (IntKind.wrap .i64 wait))) q2 n2) (IntKind.wrap .i64 t) (⟨0, 0, false, 0, ((downA (newA here 1) true).here), zp⟩ : Om)) (IntKind.wrap .i64 t) (⟨1, 0, false, 0, ((downA (newA here 1) true).here), zp⟩ : Om)).here) 6), .int .u8 (((gotA (gotA (walkA there (IntKind.wrap .i64 (1 + (IntKind.wrap .i64 wait))) q2 n2) (IntKind.wrap .i64 t) (⟨0, 0, false, 0, ((downA (newA here 1) true).here), zp⟩ : Om)) (IntKind.wrap .i64 t) (⟨1, 0, false, 0, ((downA (newA here 1) true).here), zp⟩ : Om)).here) 7), .int .u8 (((gotA (gotA (walkA there (IntKind.wrap .i64 (1 + (IntKind.wrap .i64 wait))) q2 n2) (IntKind.wrap .i64 t) (⟨0, 0, false, 0, ((downA (newA here 1) true).here), zp⟩ : Om)) (IntKind.wrap .i64 t) (⟨1, 0, false, 0, ((downA (newA here 1) true).here), zp⟩ : Om)).here) 8), .int .u8 (((gotA (gotA (walkA there (IntKind.wrap .i64 (1 + (IntKind.wrap .i64 wait))) q2 n2) (IntKind.wrap .i64 t) (⟨0, 0, false, 0, ((downA (newA here 1) true).here), zp⟩ : Om)) (IntKind.wrap .i64 t) (⟨1, 0, false, 0, ((downA (newA here 1) true).here), zp⟩ : Om)).here) 9), .int .u8 (((gotA (gotA (walkA there (IntKind.wrap .i64 (1 + (IntKind.wrap .i64 wait))) q2 n2) (IntKind.wrap .i64 t) (⟨0, 0, false, 0, ((downA (newA here 1) true).here), zp⟩ : Om)) (IntKind.wrap .i64 t) (⟨1, 0, false, 0, ((downA (newA here 1) true).here), zp⟩ : Om)).here) 10), .int .u8 (((gotA (gotA (walkA there (IntKind.wrap .i64 (1 + (IntKind.wrap .i64 wait))) q2 n2) (IntKind.wrap .i64 t) (⟨0, 0, false, 0, ((downA (newA here 1) true).here), zp⟩ : Om)) (IntKind.wrap .i64 t) (⟨1, 0, false, 0, ((downA (newA here 1) true).here), zp⟩ : Om)).here) 11), .int .u8 (((gotA (gotA (walkA there (IntKind.wrap .i64 (1 + (IntKind.wrap .i64 wait))) q2 n2) (IntKind.wrap .i64 t) (⟨0, 0, false, 0, ((downA (newA here 1) true).here), zp⟩ : Om)) (IntKind.wrap .i64 t) (⟨1, 0, false, 0, ((downA (newA here 1) true).here), zp⟩ : Om)).here) 12), .int .u8 (((gotA (gotA (walkA there (IntKind.wrap .i64 (1 + (IntKind.wrap .i64 wait))) q2 n2) (IntKind.wrap .i64 t) (⟨0, 0, false, 0, ((downA (newA here 1) true).here), zp⟩ : Om)) (IntKind.wrap .i64 t) (⟨1, 0, false, 0, ((downA (newA here 1) true).here), zp⟩ : Om)).here) 13), .int .u8 (((gotA (gotA (walkA there (IntKind.wrap .i64 (1 + (IntKind.wrap .i64 wait))) q2 n2) (IntKind.wrap .i64 t) (⟨0, 0, false, 0, ((downA (newA here 1) true).here), zp⟩ : Om)) (IntKind.wrap .i64 t) (⟨1, 0, false, 0, ((downA (newA here 1) true).here), zp⟩ : Om)).here) 14), .int .u8 (((gotA (gotA (walkA there (IntKind.wrap .i64 (1 + (IntKind.wrap .i64 wait))) q2 n2) (IntKind.wrap .i64 t) (⟨0, 0, false, 0, ((downA (newA here 1) true).here), zp⟩ : Om)) (IntKind.wrap .i64 t) (⟨1, 0, false, 0, ((downA (newA here 1) true).here), zp⟩ : Om)).here) 15), .int .u8 0, .int .u8 0, .int .u8 0, .int .u8 0, .int .u8 0, .int .u8 0, .int .u8 0, .int .u8 0, .int .u8 0, .int .u8 0, .int .u8 0, .int .u8 0, .int .u8 0, .int .u8 0, .int .u8 0, .int .u8 0] 34 := Own.cast hw3.own (by kernel_rfl)
        have hzhw3 := hw3.same
        refine VL_end (by kernel_rfl) ?_
        refine VQ_next ?_
        refine VC_region ?_
        refine VL_pure 3 [5, 13, 18, 19, 77, 78, 79, 21, 83, 85] [(5, .int .u32 t), (13, .pointer (some ⟨ab1, 0, none⟩)), (18, .bool true), (19, .bool true), (77, .slice (some ⟨sb2, 0, none⟩) 2 2), (78, .int .i64 2), (79, .int .i64 0), (21, .pointer (some ⟨b5, 0, none⟩)), (83, .pointer (some ⟨ab1, 0, none⟩)), (85, .int .i64 (IntKind.wrap .i64 t))] (by kernel_rfl) rfl ?_
        refine VL_load (d := 86) (t := 34) (a := ⟨b5, 0, none⟩) (v := .agg #[.int .i64 0, .int .u8 0, .bool false, .int .u32 0, .int .u8 (((gotA (gotA (walkA there (IntKind.wrap .i64 (1 + (IntKind.wrap .i64 wait))) q2 n2) (IntKind.wrap .i64 t) (⟨0, 0, false, 0, ((downA (newA here 1) true).here), zp⟩ : Om)) (IntKind.wrap .i64 t) (⟨1, 0, false, 0, ((downA (newA here 1) true).here), zp⟩ : Om)).here) 0), .int .u8 (((gotA (gotA (walkA there (IntKind.wrap .i64 (1 + (IntKind.wrap .i64 wait))) q2 n2) (IntKind.wrap .i64 t) (⟨0, 0, false, 0, ((downA (newA here 1) true).here), zp⟩ : Om)) (IntKind.wrap .i64 t) (⟨1, 0, false, 0, ((downA (newA here 1) true).here), zp⟩ : Om)).here) 1), .int .u8 (((gotA (gotA (walkA there (IntKind.wrap .i64 (1 + (IntKind.wrap .i64 wait))) q2 n2) (IntKind.wrap .i64 t) (⟨0, 0, false, 0, ((downA (newA here 1) true).here), zp⟩ : Om)) (IntKind.wrap .i64 t) (⟨1, 0, false, 0, ((downA (newA here 1) true).here), zp⟩ : Om)).here) 2), .int .u8 (((gotA (gotA (walkA there (IntKind.wrap .i64 (1 + (IntKind.wrap .i64 wait))) q2 n2) (IntKind.wrap .i64 t) (⟨0, 0, false, 0, ((downA (newA here 1) true).here), zp⟩ : Om)) (IntKind.wrap .i64 t) (⟨1, 0, false, 0, ((downA (newA here 1) true).here), zp⟩ : Om)).here) 3), .int .u8 (((gotA (gotA (walkA there (IntKind.wrap .i64 (1 + (IntKind.wrap .i64 wait))) q2 n2) (IntKind.wrap .i64 t) (⟨0, 0, false, 0, ((downA (newA here 1) true).here), zp⟩ : Om)) (IntKind.wrap .i64 t) (⟨1, 0, false, 0, ((downA (newA here 1) true).here), zp⟩ : Om)).here) 4), .int .u8 (((gotA (gotA (walkA there (IntKind.wrap .i64 (1 + (IntKind.wrap .i64 wait))) q2 n2) (IntKind.wrap .i64 t) (⟨0, 0, false, 0, ((downA (newA here 1) true).here), zp⟩ : Om)) (IntKind.wrap .i64 t) (⟨1, 0, false, 0, ((downA (newA here 1) true).here), zp⟩ : Om)).here) 5), .int .u8 (((gotA (gotA (walkA there (IntKind.wrap .i64 (1 + (IntKind.wrap .i64 wait))) q2 n2) (IntKind.wrap .i64 t) (⟨0, 0, false, 0, ((downA (newA here 1) true).here), zp⟩ : Om)) (IntKind.wrap .i64 t) (⟨1, 0, false, 0, ((downA (newA here 1) true).here), zp⟩ : Om)).here) 6), .int .u8 (((gotA (gotA (walkA there (IntKind.wrap .i64 (1 + (IntKind.wrap .i64 wait))) q2 n2) (IntKind.wrap .i64 t) (⟨0, 0, false, 0, ((downA (newA here 1) true).here), zp⟩ : Om)) (IntKind.wrap .i64 t) (⟨1, 0, false, 0, ((downA (newA here 1) true).here), zp⟩ : Om)).here) 7), .int .u8 (((gotA (gotA (walkA there (IntKind.wrap .i64 (1 + (IntKind.wrap .i64 wait))) q2 n2) (IntKind.wrap .i64 t) (⟨0, 0, false, 0, ((downA (newA here 1) true).here), zp⟩ : Om)) (IntKind.wrap .i64 t) (⟨1, 0, false, 0, ((downA (newA here 1) true).here), zp⟩ : Om)).here) 8), .int .u8 (((gotA (gotA (walkA there (IntKind.wrap .i64 (1 + (IntKind.wrap .i64 wait))) q2 n2) (IntKind.wrap .i64 t) (⟨0, 0, false, 0, ((downA (newA here 1) true).here), zp⟩ : Om)) (IntKind.wrap .i64 t) (⟨1, 0, false, 0, ((downA (newA here 1) true).here), zp⟩ : Om)).here) 9), .int .u8 (((gotA (gotA (walkA there (IntKind.wrap .i64 (1 + (IntKind.wrap .i64 wait))) q2 n2) (IntKind.wrap .i64 t) (⟨0, 0, false, 0, ((downA (newA here 1) true).here), zp⟩ : Om)) (IntKind.wrap .i64 t) (⟨1, 0, false, 0, ((downA (newA here 1) true).here), zp⟩ : Om)).here) 10), .int .u8 (((gotA (gotA (walkA there (IntKind.wrap .i64 (1 + (IntKind.wrap .i64 wait))) q2 n2) (IntKind.wrap .i64 t) (⟨0, 0, false, 0, ((downA (newA here 1) true).here), zp⟩ : Om)) (IntKind.wrap .i64 t) (⟨1, 0, false, 0, ((downA (newA here 1) true).here), zp⟩ : Om)).here) 11), .int .u8 (((gotA (gotA (walkA there (IntKind.wrap .i64 (1 + (IntKind.wrap .i64 wait))) q2 n2) (IntKind.wrap .i64 t) (⟨0, 0, false, 0, ((downA (newA here 1) true).here), zp⟩ : Om)) (IntKind.wrap .i64 t) (⟨1, 0, false, 0, ((downA (newA here 1) true).here), zp⟩ : Om)).here) 12), .int .u8 (((gotA (gotA (walkA there (IntKind.wrap .i64 (1 + (IntKind.wrap .i64 wait))) q2 n2) (IntKind.wrap .i64 t) (⟨0, 0, false, 0, ((downA (newA here 1) true).here), zp⟩ : Om)) (IntKind.wrap .i64 t) (⟨1, 0, false, 0, ((downA (newA here 1) true).here), zp⟩ : Om)).here) 13), .int .u8 (((gotA (gotA (walkA there (IntKind.wrap .i64 (1 + (IntKind.wrap .i64 wait))) q2 n2) (IntKind.wrap .i64 t) (⟨0, 0, false, 0, ((downA (newA here 1) true).here), zp⟩ : Om)) (IntKind.wrap .i64 t) (⟨1, 0, false, 0, ((downA (newA here 1) true).here), zp⟩ : Om)).here) 14), .int .u8 (((gotA (gotA (walkA there (IntKind.wrap .i64 (1 + (IntKind.wrap .i64 wait))) q2 n2) (IntKind.wrap .i64 t) (⟨0, 0, false, 0, ((downA (newA here 1) true).here), zp⟩ : Om)) (IntKind.wrap .i64 t) (⟨1, 0, false, 0, ((downA (newA here 1) true).here), zp⟩ : Om)).here) 15), .int .u8 0, .int .u8 0, .int .u8 0, .int .u8 0, .int .u8 0, .int .u8 0, .int .u8 0, .int .u8 0, .int .u8 0, .int .u8 0, .int .u8 0, .int .u8 0, .int .u8 0, .int .u8 0, .int .u8 0, .int .u8 0]) (by kernel_rfl) (by kernel_rfl) (Loads.ownL ho8 (n := 36) (by kernel_rfl) (by kernel_rfl) (by kernel_rfl)) ?_
        have hzs18 := hS.size
        have hzl80 := ho1.lt
        have hzl81 := ho2.lt
        have hzl82 := ht1.lt
        have hzl83 := ht4.lt
        have hzl84 := hc7.lt
        have hzl85 := ho4.lt
        have hzl86 := ho6.lt
        have hzl87 := ht6.lt
        have hzl88 := hc12.lt
        have hzl89 := ho8.lt
        refine VL_call (d := 87) (f := 12) (by kernel_rfl) (by kernel_rfl) (by kernel_rfl) Try.call12 (got_any ab1 (walkA here (IntKind.wrap .i64 wait) q n) _ ht1 (IntKind.wrap .i64 t) (⟨0, 0, false, 0, ((gotA (gotA (walkA there (IntKind.wrap .i64 (1 + (IntKind.wrap .i64 wait))) q2 n2) (IntKind.wrap .i64 t) (⟨0, 0, false, 0, ((downA (newA here 1) true).here), zp⟩ : Om)) (IntKind.wrap .i64 t) (⟨1, 0, false, 0, ((downA (newA here 1) true).here), zp⟩ : Om)).here), zp⟩ : Om) (walkA_waits _ _ _ _) (by simp only [gotA_here, walkA_here]; exact hbt)) ?_
        rintro _ w23 ⟨rfl, ht7, hc14⟩
        replace hS := Step.transNew hS hc14 (fun _ _ _ => by omega)
        replace ho1 := ho1.step hc14 (show ¬ b1 = ab1 by omega)
        replace ho2 := ho2.step hc14 (show ¬ b2 = ab1 by omega)
        replace ht4 := ht4.step hc14 (show ¬ ab3 = ab1 by omega)
        replace hc7 := hc7.step hc14 (show ¬ sb1 = ab1 by omega)
        replace ho4 := ho4.step hc14 (show ¬ b3 = ab1 by omega)
        replace ho6 := ho6.step hc14 (show ¬ b4 = ab1 by omega)
        replace ht6 := ht6.step hc14 (show ¬ ab2 = ab1 by omega)
        replace hc12 := hc12.step hc14 (show ¬ sb2 = ab1 by omega)
        replace ho8 := ho8.step hc14 (show ¬ b5 = ab1 by omega)
        have hzht7 := ht7.lt
        refine VL_end (by kernel_rfl) ?_
        refine VQ_block_normal ?_
        refine VQ_next ?_
        refine VC_region ?_
        refine VL_pure 2 [5, 13, 18, 19, 77, 78, 79] [(5, .int .u32 t), (13, .pointer (some ⟨ab1, 0, none⟩)), (18, .bool true), (19, .bool true), (77, .slice (some ⟨sb2, 0, none⟩) 2 2), (78, .int .i64 2), (79, .int .i64 1)] (by kernel_rfl) rfl ?_
        refine VL_end (by kernel_rfl) ?_
        refine VQ_round ?_
        refine VCL_round ?_
        refine VC_seq ?_
        refine VC_region ?_
        refine VL_pure 1 [5, 13, 18, 19, 77, 78, 79, 80] [(5, .int .u32 t), (13, .pointer (some ⟨ab1, 0, none⟩)), (18, .bool true), (19, .bool true), (77, .slice (some ⟨sb2, 0, none⟩) 2 2), (78, .int .i64 2), (79, .int .i64 1), (80, .bool true)] (by kernel_rfl) rfl ?_
        refine VL_end (by kernel_rfl) ?_
        refine VQ_next ?_
        refine VC_seq ?_
        refine VC_true (by kernel_rfl) ?_
        refine VC_skip ?_
        refine VQ_next ?_
        refine VC_seq ?_
        refine VC_block ?_
        refine VC_seq ?_
        refine VC_region ?_
        refine VL_index (d := 81) (b := sb2) (o := 0) (len := 2) (sz := 36) (m := 1) (by kernel_rfl) (by kernel_rfl) 1 (by rfl) (by omega) 36 (by omega) ?_
        refine VL_load (d := 82) (t := 34) (a := ⟨sb2, 36, none⟩) (v := .agg #[.int .i64 1, .int .u8 0, .bool false, .int .u32 0, .int .u8 (((gotA (gotA (walkA there (IntKind.wrap .i64 (1 + (IntKind.wrap .i64 wait))) q2 n2) (IntKind.wrap .i64 t) (⟨0, 0, false, 0, ((downA (newA here 1) true).here), zp⟩ : Om)) (IntKind.wrap .i64 t) (⟨1, 0, false, 0, ((downA (newA here 1) true).here), zp⟩ : Om)).here) 0), .int .u8 (((gotA (gotA (walkA there (IntKind.wrap .i64 (1 + (IntKind.wrap .i64 wait))) q2 n2) (IntKind.wrap .i64 t) (⟨0, 0, false, 0, ((downA (newA here 1) true).here), zp⟩ : Om)) (IntKind.wrap .i64 t) (⟨1, 0, false, 0, ((downA (newA here 1) true).here), zp⟩ : Om)).here) 1), .int .u8 (((gotA (gotA (walkA there (IntKind.wrap .i64 (1 + (IntKind.wrap .i64 wait))) q2 n2) (IntKind.wrap .i64 t) (⟨0, 0, false, 0, ((downA (newA here 1) true).here), zp⟩ : Om)) (IntKind.wrap .i64 t) (⟨1, 0, false, 0, ((downA (newA here 1) true).here), zp⟩ : Om)).here) 2), .int .u8 (((gotA (gotA (walkA there (IntKind.wrap .i64 (1 + (IntKind.wrap .i64 wait))) q2 n2) (IntKind.wrap .i64 t) (⟨0, 0, false, 0, ((downA (newA here 1) true).here), zp⟩ : Om)) (IntKind.wrap .i64 t) (⟨1, 0, false, 0, ((downA (newA here 1) true).here), zp⟩ : Om)).here) 3), .int .u8 (((gotA (gotA (walkA there (IntKind.wrap .i64 (1 + (IntKind.wrap .i64 wait))) q2 n2) (IntKind.wrap .i64 t) (⟨0, 0, false, 0, ((downA (newA here 1) true).here), zp⟩ : Om)) (IntKind.wrap .i64 t) (⟨1, 0, false, 0, ((downA (newA here 1) true).here), zp⟩ : Om)).here) 4), .int .u8 (((gotA (gotA (walkA there (IntKind.wrap .i64 (1 + (IntKind.wrap .i64 wait))) q2 n2) (IntKind.wrap .i64 t) (⟨0, 0, false, 0, ((downA (newA here 1) true).here), zp⟩ : Om)) (IntKind.wrap .i64 t) (⟨1, 0, false, 0, ((downA (newA here 1) true).here), zp⟩ : Om)).here) 5), .int .u8 (((gotA (gotA (walkA there (IntKind.wrap .i64 (1 + (IntKind.wrap .i64 wait))) q2 n2) (IntKind.wrap .i64 t) (⟨0, 0, false, 0, ((downA (newA here 1) true).here), zp⟩ : Om)) (IntKind.wrap .i64 t) (⟨1, 0, false, 0, ((downA (newA here 1) true).here), zp⟩ : Om)).here) 6), .int .u8 (((gotA (gotA (walkA there (IntKind.wrap .i64 (1 + (IntKind.wrap .i64 wait))) q2 n2) (IntKind.wrap .i64 t) (⟨0, 0, false, 0, ((downA (newA here 1) true).here), zp⟩ : Om)) (IntKind.wrap .i64 t) (⟨1, 0, false, 0, ((downA (newA here 1) true).here), zp⟩ : Om)).here) 7), .int .u8 (((gotA (gotA (walkA there (IntKind.wrap .i64 (1 + (IntKind.wrap .i64 wait))) q2 n2) (IntKind.wrap .i64 t) (⟨0, 0, false, 0, ((downA (newA here 1) true).here), zp⟩ : Om)) (IntKind.wrap .i64 t) (⟨1, 0, false, 0, ((downA (newA here 1) true).here), zp⟩ : Om)).here) 8), .int .u8 (((gotA (gotA (walkA there (IntKind.wrap .i64 (1 + (IntKind.wrap .i64 wait))) q2 n2) (IntKind.wrap .i64 t) (⟨0, 0, false, 0, ((downA (newA here 1) true).here), zp⟩ : Om)) (IntKind.wrap .i64 t) (⟨1, 0, false, 0, ((downA (newA here 1) true).here), zp⟩ : Om)).here) 9), .int .u8 (((gotA (gotA (walkA there (IntKind.wrap .i64 (1 + (IntKind.wrap .i64 wait))) q2 n2) (IntKind.wrap .i64 t) (⟨0, 0, false, 0, ((downA (newA here 1) true).here), zp⟩ : Om)) (IntKind.wrap .i64 t) (⟨1, 0, false, 0, ((downA (newA here 1) true).here), zp⟩ : Om)).here) 10), .int .u8 (((gotA (gotA (walkA there (IntKind.wrap .i64 (1 + (IntKind.wrap .i64 wait))) q2 n2) (IntKind.wrap .i64 t) (⟨0, 0, false, 0, ((downA (newA here 1) true).here), zp⟩ : Om)) (IntKind.wrap .i64 t) (⟨1, 0, false, 0, ((downA (newA here 1) true).here), zp⟩ : Om)).here) 11), .int .u8 (((gotA (gotA (walkA there (IntKind.wrap .i64 (1 + (IntKind.wrap .i64 wait))) q2 n2) (IntKind.wrap .i64 t) (⟨0, 0, false, 0, ((downA (newA here 1) true).here), zp⟩ : Om)) (IntKind.wrap .i64 t) (⟨1, 0, false, 0, ((downA (newA here 1) true).here), zp⟩ : Om)).here) 12), .int .u8 (((gotA (gotA (walkA there (IntKind.wrap .i64 (1 + (IntKind.wrap .i64 wait))) q2 n2) (IntKind.wrap .i64 t) (⟨0, 0, false, 0, ((downA (newA here 1) true).here), zp⟩ : Om)) (IntKind.wrap .i64 t) (⟨1, 0, false, 0, ((downA (newA here 1) true).here), zp⟩ : Om)).here) 13), .int .u8 (((gotA (gotA (walkA there (IntKind.wrap .i64 (1 + (IntKind.wrap .i64 wait))) q2 n2) (IntKind.wrap .i64 t) (⟨0, 0, false, 0, ((downA (newA here 1) true).here), zp⟩ : Om)) (IntKind.wrap .i64 t) (⟨1, 0, false, 0, ((downA (newA here 1) true).here), zp⟩ : Om)).here) 14), .int .u8 (((gotA (gotA (walkA there (IntKind.wrap .i64 (1 + (IntKind.wrap .i64 wait))) q2 n2) (IntKind.wrap .i64 t) (⟨0, 0, false, 0, ((downA (newA here 1) true).here), zp⟩ : Om)) (IntKind.wrap .i64 t) (⟨1, 0, false, 0, ((downA (newA here 1) true).here), zp⟩ : Om)).here) 15), .int .u8 0, .int .u8 0, .int .u8 0, .int .u8 0, .int .u8 0, .int .u8 0, .int .u8 0, .int .u8 0, .int .u8 0, .int .u8 0, .int .u8 0, .int .u8 0, .int .u8 0, .int .u8 0, .int .u8 0, .int .u8 0]) (by kernel_rfl) (by kernel_rfl) (Loads.ownL hc12 (n := 36) (by kernel_rfl) (by kernel_rfl) (by kernel_rfl)) ?_
        have hzs19 := hS.size
        have hzl90 := ho1.lt
        have hzl91 := ho2.lt
        have hzl92 := ht4.lt
        have hzl93 := hc7.lt
        have hzl94 := ho4.lt
        have hzl95 := ho6.lt
        have hzl96 := ht6.lt
        have hzl97 := hc12.lt
        have hzl98 := ho8.lt
        have hzl99 := ht7.lt
        refine VL_box (d := 21) (t := 34) (c := #[.int .i64 0, .int .u8 0, .bool false, .int .u32 0, .int .u8 0, .int .u8 0, .int .u8 0, .int .u8 0, .int .u8 0, .int .u8 0, .int .u8 0, .int .u8 0, .int .u8 0, .int .u8 0, .int .u8 0, .int .u8 0, .int .u8 0, .int .u8 0, .int .u8 0, .int .u8 0, .int .u8 0, .int .u8 0, .int .u8 0, .int .u8 0, .int .u8 0, .int .u8 0, .int .u8 0, .int .u8 0, .int .u8 0, .int .u8 0, .int .u8 0, .int .u8 0, .int .u8 0, .int .u8 0, .int .u8 0, .int .u8 0]) (by kernel_rfl) (by kernel_rfl) ?_
        intro b6 w24 hn6
        replace hS := Step.trans hS (hn6.step No)
        replace ho1 := ho1.no (hn6.step No)
        replace ho2 := ho2.no (hn6.step No)
        replace ht4 := ht4.no (hn6.step No)
        replace hc7 := hc7.no (hn6.step No)
        replace ho4 := ho4.no (hn6.step No)
        replace ho6 := ho6.no (hn6.step No)
        replace ht6 := ht6.no (hn6.step No)
        replace hc12 := hc12.no (hn6.step No)
        replace ho8 := ho8.no (hn6.step No)
        replace ht7 := ht7.no (hn6.step No)
        have ho9 := hn6.own
        have hzhn6 := hn6.size
        have hqhn6 := hn6.eqb
        refine VL_store (b := b6) (o := 0) (vs := [.int .i64 1, .int .u8 0, .bool false, .int .u32 0, .int .u8 (((gotA (gotA (walkA there (IntKind.wrap .i64 (1 + (IntKind.wrap .i64 wait))) q2 n2) (IntKind.wrap .i64 t) (⟨0, 0, false, 0, ((downA (newA here 1) true).here), zp⟩ : Om)) (IntKind.wrap .i64 t) (⟨1, 0, false, 0, ((downA (newA here 1) true).here), zp⟩ : Om)).here) 0), .int .u8 (((gotA (gotA (walkA there (IntKind.wrap .i64 (1 + (IntKind.wrap .i64 wait))) q2 n2) (IntKind.wrap .i64 t) (⟨0, 0, false, 0, ((downA (newA here 1) true).here), zp⟩ : Om)) (IntKind.wrap .i64 t) (⟨1, 0, false, 0, ((downA (newA here 1) true).here), zp⟩ : Om)).here) 1), .int .u8 (((gotA (gotA (walkA there (IntKind.wrap .i64 (1 + (IntKind.wrap .i64 wait))) q2 n2) (IntKind.wrap .i64 t) (⟨0, 0, false, 0, ((downA (newA here 1) true).here), zp⟩ : Om)) (IntKind.wrap .i64 t) (⟨1, 0, false, 0, ((downA (newA here 1) true).here), zp⟩ : Om)).here) 2), .int .u8 (((gotA (gotA (walkA there (IntKind.wrap .i64 (1 + (IntKind.wrap .i64 wait))) q2 n2) (IntKind.wrap .i64 t) (⟨0, 0, false, 0, ((downA (newA here 1) true).here), zp⟩ : Om)) (IntKind.wrap .i64 t) (⟨1, 0, false, 0, ((downA (newA here 1) true).here), zp⟩ : Om)).here) 3), .int .u8 (((gotA (gotA (walkA there (IntKind.wrap .i64 (1 + (IntKind.wrap .i64 wait))) q2 n2) (IntKind.wrap .i64 t) (⟨0, 0, false, 0, ((downA (newA here 1) true).here), zp⟩ : Om)) (IntKind.wrap .i64 t) (⟨1, 0, false, 0, ((downA (newA here 1) true).here), zp⟩ : Om)).here) 4), .int .u8 (((gotA (gotA (walkA there (IntKind.wrap .i64 (1 + (IntKind.wrap .i64 wait))) q2 n2) (IntKind.wrap .i64 t) (⟨0, 0, false, 0, ((downA (newA here 1) true).here), zp⟩ : Om)) (IntKind.wrap .i64 t) (⟨1, 0, false, 0, ((downA (newA here 1) true).here), zp⟩ : Om)).here) 5), .int .u8 (((gotA (gotA (walkA there (IntKind.wrap .i64 (1 + (IntKind.wrap .i64 wait))) q2 n2) (IntKind.wrap .i64 t) (⟨0, 0, false, 0, ((downA (newA here 1) true).here), zp⟩ : Om)) (IntKind.wrap .i64 t) (⟨1, 0, false, 0, ((downA (newA here 1) true).here), zp⟩ : Om)).here) 6), .int .u8 (((gotA (gotA (walkA there (IntKind.wrap .i64 (1 + (IntKind.wrap .i64 wait))) q2 n2) (IntKind.wrap .i64 t) (⟨0, 0, false, 0, ((downA (newA here 1) true).here), zp⟩ : Om)) (IntKind.wrap .i64 t) (⟨1, 0, false, 0, ((downA (newA here 1) true).here), zp⟩ : Om)).here) 7), .int .u8 (((gotA (gotA (walkA there (IntKind.wrap .i64 (1 + (IntKind.wrap .i64 wait))) q2 n2) (IntKind.wrap .i64 t) (⟨0, 0, false, 0, ((downA (newA here 1) true).here), zp⟩ : Om)) (IntKind.wrap .i64 t) (⟨1, 0, false, 0, ((downA (newA here 1) true).here), zp⟩ : Om)).here) 8), .int .u8 (((gotA (gotA (walkA there (IntKind.wrap .i64 (1 + (IntKind.wrap .i64 wait))) q2 n2) (IntKind.wrap .i64 t) (⟨0, 0, false, 0, ((downA (newA here 1) true).here), zp⟩ : Om)) (IntKind.wrap .i64 t) (⟨1, 0, false, 0, ((downA (newA here 1) true).here), zp⟩ : Om)).here) 9), .int .u8 (((gotA (gotA (walkA there (IntKind.wrap .i64 (1 + (IntKind.wrap .i64 wait))) q2 n2) (IntKind.wrap .i64 t) (⟨0, 0, false, 0, ((downA (newA here 1) true).here), zp⟩ : Om)) (IntKind.wrap .i64 t) (⟨1, 0, false, 0, ((downA (newA here 1) true).here), zp⟩ : Om)).here) 10), .int .u8 (((gotA (gotA (walkA there (IntKind.wrap .i64 (1 + (IntKind.wrap .i64 wait))) q2 n2) (IntKind.wrap .i64 t) (⟨0, 0, false, 0, ((downA (newA here 1) true).here), zp⟩ : Om)) (IntKind.wrap .i64 t) (⟨1, 0, false, 0, ((downA (newA here 1) true).here), zp⟩ : Om)).here) 11), .int .u8 (((gotA (gotA (walkA there (IntKind.wrap .i64 (1 + (IntKind.wrap .i64 wait))) q2 n2) (IntKind.wrap .i64 t) (⟨0, 0, false, 0, ((downA (newA here 1) true).here), zp⟩ : Om)) (IntKind.wrap .i64 t) (⟨1, 0, false, 0, ((downA (newA here 1) true).here), zp⟩ : Om)).here) 12), .int .u8 (((gotA (gotA (walkA there (IntKind.wrap .i64 (1 + (IntKind.wrap .i64 wait))) q2 n2) (IntKind.wrap .i64 t) (⟨0, 0, false, 0, ((downA (newA here 1) true).here), zp⟩ : Om)) (IntKind.wrap .i64 t) (⟨1, 0, false, 0, ((downA (newA here 1) true).here), zp⟩ : Om)).here) 13), .int .u8 (((gotA (gotA (walkA there (IntKind.wrap .i64 (1 + (IntKind.wrap .i64 wait))) q2 n2) (IntKind.wrap .i64 t) (⟨0, 0, false, 0, ((downA (newA here 1) true).here), zp⟩ : Om)) (IntKind.wrap .i64 t) (⟨1, 0, false, 0, ((downA (newA here 1) true).here), zp⟩ : Om)).here) 14), .int .u8 (((gotA (gotA (walkA there (IntKind.wrap .i64 (1 + (IntKind.wrap .i64 wait))) q2 n2) (IntKind.wrap .i64 t) (⟨0, 0, false, 0, ((downA (newA here 1) true).here), zp⟩ : Om)) (IntKind.wrap .i64 t) (⟨1, 0, false, 0, ((downA (newA here 1) true).here), zp⟩ : Om)).here) 15), .int .u8 0, .int .u8 0, .int .u8 0, .int .u8 0, .int .u8 0, .int .u8 0, .int .u8 0, .int .u8 0, .int .u8 0, .int .u8 0, .int .u8 0, .int .u8 0, .int .u8 0, .int .u8 0, .int .u8 0, .int .u8 0]) (by kernel_rfl) (by kernel_rfl) ho9 (Nat.le_of_ble_eq_true (by kernel_rfl)) ?_
        intro w25 hw4
        replace hS := Step.transNew hS hw4.step (fun _ _ _ => by omega)
        replace ho1 := ho1.step hw4.step (show ¬ b1 = b6 by omega)
        replace ho2 := ho2.step hw4.step (show ¬ b2 = b6 by omega)
        replace ht4 := ht4.step hw4.step (show ¬ ab3 = b6 by omega)
        replace hc7 := hc7.step hw4.step (show ¬ sb1 = b6 by omega)
        replace ho4 := ho4.step hw4.step (show ¬ b3 = b6 by omega)
        replace ho6 := ho6.step hw4.step (show ¬ b4 = b6 by omega)
        replace ht6 := ht6.step hw4.step (show ¬ ab2 = b6 by omega)
        replace hc12 := hc12.step hw4.step (show ¬ sb2 = b6 by omega)
        replace ho8 := ho8.step hw4.step (show ¬ b5 = b6 by omega)
        replace ht7 := ht7.step hw4.step (show ¬ ab1 = b6 by omega)
        have ho10 : Own w25 b6 #[.int .i64 1, .int .u8 0, .bool false, .int .u32 0, .int .u8 (((gotA (gotA (walkA there (IntKind.wrap .i64 (1 + (IntKind.wrap .i64 wait))) q2 n2) (IntKind.wrap .i64 t) (⟨0, 0, false, 0, ((downA (newA here 1) true).here), zp⟩ : Om)) (IntKind.wrap .i64 t) (⟨1, 0, false, 0, ((downA (newA here 1) true).here), zp⟩ : Om)).here) 0), .int .u8 (((gotA (gotA (walkA there (IntKind.wrap .i64 (1 + (IntKind.wrap .i64 wait))) q2 n2) (IntKind.wrap .i64 t) (⟨0, 0, false, 0, ((downA (newA here 1) true).here), zp⟩ : Om)) (IntKind.wrap .i64 t) (⟨1, 0, false, 0, ((downA (newA here 1) true).here), zp⟩ : Om)).here) 1), .int .u8 (((gotA (gotA (walkA there (IntKind.wrap .i64 (1 + (IntKind.wrap .i64 wait))) q2 n2) (IntKind.wrap .i64 t) (⟨0, 0, false, 0, ((downA (newA here 1) true).here), zp⟩ : Om)) (IntKind.wrap .i64 t) (⟨1, 0, false, 0, ((downA (newA here 1) true).here), zp⟩ : Om)).here) 2), .int .u8 (((gotA (gotA (walkA there (IntKind.wrap .i64 (1 + (IntKind.wrap .i64 wait))) q2 n2) (IntKind.wrap .i64 t) (⟨0, 0, false, 0, ((downA (newA here 1) true).here), zp⟩ : Om)) (IntKind.wrap .i64 t) (⟨1, 0, false, 0, ((downA (newA here 1) true).here), zp⟩ : Om)).here) 3), .int .u8 (((gotA (gotA (walkA there (IntKind.wrap .i64 (1 + (IntKind.wrap .i64 wait))) q2 n2) (IntKind.wrap .i64 t) (⟨0, 0, false, 0, ((downA (newA here 1) true).here), zp⟩ : Om)) (IntKind.wrap .i64 t) (⟨1, 0, false, 0, ((downA (newA here 1) true).here), zp⟩ : Om)).here) 4), .int .u8 (((gotA (gotA (walkA there (IntKind.wrap .i64 (1 + (IntKind.wrap .i64 wait))) q2 n2) (IntKind.wrap .i64 t) (⟨0, 0, false, 0, ((downA (newA here 1) true).here), zp⟩ : Om)) (IntKind.wrap .i64 t) (⟨1, 0, false, 0, ((downA (newA here 1) true).here), zp⟩ : Om)).here) 5), .int .u8 (((gotA (gotA (walkA there (IntKind.wrap .i64 (1 + (IntKind.wrap .i64 wait))) q2 n2) (IntKind.wrap .i64 t) (⟨0, 0, false, 0, ((downA (newA here 1) true).here), zp⟩ : Om)) (IntKind.wrap .i64 t) (⟨1, 0, false, 0, ((downA (newA here 1) true).here), zp⟩ : Om)).here) 6), .int .u8 (((gotA (gotA (walkA there (IntKind.wrap .i64 (1 + (IntKind.wrap .i64 wait))) q2 n2) (IntKind.wrap .i64 t) (⟨0, 0, false, 0, ((downA (newA here 1) true).here), zp⟩ : Om)) (IntKind.wrap .i64 t) (⟨1, 0, false, 0, ((downA (newA here 1) true).here), zp⟩ : Om)).here) 7), .int .u8 (((gotA (gotA (walkA there (IntKind.wrap .i64 (1 + (IntKind.wrap .i64 wait))) q2 n2) (IntKind.wrap .i64 t) (⟨0, 0, false, 0, ((downA (newA here 1) true).here), zp⟩ : Om)) (IntKind.wrap .i64 t) (⟨1, 0, false, 0, ((downA (newA here 1) true).here), zp⟩ : Om)).here) 8), .int .u8 (((gotA (gotA (walkA there (IntKind.wrap .i64 (1 + (IntKind.wrap .i64 wait))) q2 n2) (IntKind.wrap .i64 t) (⟨0, 0, false, 0, ((downA (newA here 1) true).here), zp⟩ : Om)) (IntKind.wrap .i64 t) (⟨1, 0, false, 0, ((downA (newA here 1) true).here), zp⟩ : Om)).here) 9), .int .u8 (((gotA (gotA (walkA there (IntKind.wrap .i64 (1 + (IntKind.wrap .i64 wait))) q2 n2) (IntKind.wrap .i64 t) (⟨0, 0, false, 0, ((downA (newA here 1) true).here), zp⟩ : Om)) (IntKind.wrap .i64 t) (⟨1, 0, false, 0, ((downA (newA here 1) true).here), zp⟩ : Om)).here) 10), .int .u8 (((gotA (gotA (walkA there (IntKind.wrap .i64 (1 + (IntKind.wrap .i64 wait))) q2 n2) (IntKind.wrap .i64 t) (⟨0, 0, false, 0, ((downA (newA here 1) true).here), zp⟩ : Om)) (IntKind.wrap .i64 t) (⟨1, 0, false, 0, ((downA (newA here 1) true).here), zp⟩ : Om)).here) 11), .int .u8 (((gotA (gotA (walkA there (IntKind.wrap .i64 (1 + (IntKind.wrap .i64 wait))) q2 n2) (IntKind.wrap .i64 t) (⟨0, 0, false, 0, ((downA (newA here 1) true).here), zp⟩ : Om)) (IntKind.wrap .i64 t) (⟨1, 0, false, 0, ((downA (newA here 1) true).here), zp⟩ : Om)).here) 12), .int .u8 (((gotA (gotA (walkA there (IntKind.wrap .i64 (1 + (IntKind.wrap .i64 wait))) q2 n2) (IntKind.wrap .i64 t) (⟨0, 0, false, 0, ((downA (newA here 1) true).here), zp⟩ : Om)) (IntKind.wrap .i64 t) (⟨1, 0, false, 0, ((downA (newA here 1) true).here), zp⟩ : Om)).here) 13), .int .u8 (((gotA (gotA (walkA there (IntKind.wrap .i64 (1 + (IntKind.wrap .i64 wait))) q2 n2) (IntKind.wrap .i64 t) (⟨0, 0, false, 0, ((downA (newA here 1) true).here), zp⟩ : Om)) (IntKind.wrap .i64 t) (⟨1, 0, false, 0, ((downA (newA here 1) true).here), zp⟩ : Om)).here) 14), .int .u8 (((gotA (gotA (walkA there (IntKind.wrap .i64 (1 + (IntKind.wrap .i64 wait))) q2 n2) (IntKind.wrap .i64 t) (⟨0, 0, false, 0, ((downA (newA here 1) true).here), zp⟩ : Om)) (IntKind.wrap .i64 t) (⟨1, 0, false, 0, ((downA (newA here 1) true).here), zp⟩ : Om)).here) 15), .int .u8 0, .int .u8 0, .int .u8 0, .int .u8 0, .int .u8 0, .int .u8 0, .int .u8 0, .int .u8 0, .int .u8 0, .int .u8 0, .int .u8 0, .int .u8 0, .int .u8 0, .int .u8 0, .int .u8 0, .int .u8 0] 34 := Own.cast hw4.own (by kernel_rfl)
        have hzhw4 := hw4.same
        refine VL_end (by kernel_rfl) ?_
        refine VQ_next ?_
        refine VC_region ?_
        refine VL_pure 3 [5, 13, 18, 19, 77, 78, 79, 21, 83, 85] [(5, .int .u32 t), (13, .pointer (some ⟨ab1, 0, none⟩)), (18, .bool true), (19, .bool true), (77, .slice (some ⟨sb2, 0, none⟩) 2 2), (78, .int .i64 2), (79, .int .i64 1), (21, .pointer (some ⟨b6, 0, none⟩)), (83, .pointer (some ⟨ab1, 0, none⟩)), (85, .int .i64 (IntKind.wrap .i64 t))] (by kernel_rfl) rfl ?_
        refine VL_load (d := 86) (t := 34) (a := ⟨b6, 0, none⟩) (v := .agg #[.int .i64 1, .int .u8 0, .bool false, .int .u32 0, .int .u8 (((gotA (gotA (walkA there (IntKind.wrap .i64 (1 + (IntKind.wrap .i64 wait))) q2 n2) (IntKind.wrap .i64 t) (⟨0, 0, false, 0, ((downA (newA here 1) true).here), zp⟩ : Om)) (IntKind.wrap .i64 t) (⟨1, 0, false, 0, ((downA (newA here 1) true).here), zp⟩ : Om)).here) 0), .int .u8 (((gotA (gotA (walkA there (IntKind.wrap .i64 (1 + (IntKind.wrap .i64 wait))) q2 n2) (IntKind.wrap .i64 t) (⟨0, 0, false, 0, ((downA (newA here 1) true).here), zp⟩ : Om)) (IntKind.wrap .i64 t) (⟨1, 0, false, 0, ((downA (newA here 1) true).here), zp⟩ : Om)).here) 1), .int .u8 (((gotA (gotA (walkA there (IntKind.wrap .i64 (1 + (IntKind.wrap .i64 wait))) q2 n2) (IntKind.wrap .i64 t) (⟨0, 0, false, 0, ((downA (newA here 1) true).here), zp⟩ : Om)) (IntKind.wrap .i64 t) (⟨1, 0, false, 0, ((downA (newA here 1) true).here), zp⟩ : Om)).here) 2), .int .u8 (((gotA (gotA (walkA there (IntKind.wrap .i64 (1 + (IntKind.wrap .i64 wait))) q2 n2) (IntKind.wrap .i64 t) (⟨0, 0, false, 0, ((downA (newA here 1) true).here), zp⟩ : Om)) (IntKind.wrap .i64 t) (⟨1, 0, false, 0, ((downA (newA here 1) true).here), zp⟩ : Om)).here) 3), .int .u8 (((gotA (gotA (walkA there (IntKind.wrap .i64 (1 + (IntKind.wrap .i64 wait))) q2 n2) (IntKind.wrap .i64 t) (⟨0, 0, false, 0, ((downA (newA here 1) true).here), zp⟩ : Om)) (IntKind.wrap .i64 t) (⟨1, 0, false, 0, ((downA (newA here 1) true).here), zp⟩ : Om)).here) 4), .int .u8 (((gotA (gotA (walkA there (IntKind.wrap .i64 (1 + (IntKind.wrap .i64 wait))) q2 n2) (IntKind.wrap .i64 t) (⟨0, 0, false, 0, ((downA (newA here 1) true).here), zp⟩ : Om)) (IntKind.wrap .i64 t) (⟨1, 0, false, 0, ((downA (newA here 1) true).here), zp⟩ : Om)).here) 5), .int .u8 (((gotA (gotA (walkA there (IntKind.wrap .i64 (1 + (IntKind.wrap .i64 wait))) q2 n2) (IntKind.wrap .i64 t) (⟨0, 0, false, 0, ((downA (newA here 1) true).here), zp⟩ : Om)) (IntKind.wrap .i64 t) (⟨1, 0, false, 0, ((downA (newA here 1) true).here), zp⟩ : Om)).here) 6), .int .u8 (((gotA (gotA (walkA there (IntKind.wrap .i64 (1 + (IntKind.wrap .i64 wait))) q2 n2) (IntKind.wrap .i64 t) (⟨0, 0, false, 0, ((downA (newA here 1) true).here), zp⟩ : Om)) (IntKind.wrap .i64 t) (⟨1, 0, false, 0, ((downA (newA here 1) true).here), zp⟩ : Om)).here) 7), .int .u8 (((gotA (gotA (walkA there (IntKind.wrap .i64 (1 + (IntKind.wrap .i64 wait))) q2 n2) (IntKind.wrap .i64 t) (⟨0, 0, false, 0, ((downA (newA here 1) true).here), zp⟩ : Om)) (IntKind.wrap .i64 t) (⟨1, 0, false, 0, ((downA (newA here 1) true).here), zp⟩ : Om)).here) 8), .int .u8 (((gotA (gotA (walkA there (IntKind.wrap .i64 (1 + (IntKind.wrap .i64 wait))) q2 n2) (IntKind.wrap .i64 t) (⟨0, 0, false, 0, ((downA (newA here 1) true).here), zp⟩ : Om)) (IntKind.wrap .i64 t) (⟨1, 0, false, 0, ((downA (newA here 1) true).here), zp⟩ : Om)).here) 9), .int .u8 (((gotA (gotA (walkA there (IntKind.wrap .i64 (1 + (IntKind.wrap .i64 wait))) q2 n2) (IntKind.wrap .i64 t) (⟨0, 0, false, 0, ((downA (newA here 1) true).here), zp⟩ : Om)) (IntKind.wrap .i64 t) (⟨1, 0, false, 0, ((downA (newA here 1) true).here), zp⟩ : Om)).here) 10), .int .u8 (((gotA (gotA (walkA there (IntKind.wrap .i64 (1 + (IntKind.wrap .i64 wait))) q2 n2) (IntKind.wrap .i64 t) (⟨0, 0, false, 0, ((downA (newA here 1) true).here), zp⟩ : Om)) (IntKind.wrap .i64 t) (⟨1, 0, false, 0, ((downA (newA here 1) true).here), zp⟩ : Om)).here) 11), .int .u8 (((gotA (gotA (walkA there (IntKind.wrap .i64 (1 + (IntKind.wrap .i64 wait))) q2 n2) (IntKind.wrap .i64 t) (⟨0, 0, false, 0, ((downA (newA here 1) true).here), zp⟩ : Om)) (IntKind.wrap .i64 t) (⟨1, 0, false, 0, ((downA (newA here 1) true).here), zp⟩ : Om)).here) 12), .int .u8 (((gotA (gotA (walkA there (IntKind.wrap .i64 (1 + (IntKind.wrap .i64 wait))) q2 n2) (IntKind.wrap .i64 t) (⟨0, 0, false, 0, ((downA (newA here 1) true).here), zp⟩ : Om)) (IntKind.wrap .i64 t) (⟨1, 0, false, 0, ((downA (newA here 1) true).here), zp⟩ : Om)).here) 13), .int .u8 (((gotA (gotA (walkA there (IntKind.wrap .i64 (1 + (IntKind.wrap .i64 wait))) q2 n2) (IntKind.wrap .i64 t) (⟨0, 0, false, 0, ((downA (newA here 1) true).here), zp⟩ : Om)) (IntKind.wrap .i64 t) (⟨1, 0, false, 0, ((downA (newA here 1) true).here), zp⟩ : Om)).here) 14), .int .u8 (((gotA (gotA (walkA there (IntKind.wrap .i64 (1 + (IntKind.wrap .i64 wait))) q2 n2) (IntKind.wrap .i64 t) (⟨0, 0, false, 0, ((downA (newA here 1) true).here), zp⟩ : Om)) (IntKind.wrap .i64 t) (⟨1, 0, false, 0, ((downA (newA here 1) true).here), zp⟩ : Om)).here) 15), .int .u8 0, .int .u8 0, .int .u8 0, .int .u8 0, .int .u8 0, .int .u8 0, .int .u8 0, .int .u8 0, .int .u8 0, .int .u8 0, .int .u8 0, .int .u8 0, .int .u8 0, .int .u8 0, .int .u8 0, .int .u8 0]) (by kernel_rfl) (by kernel_rfl) (Loads.ownL ho10 (n := 36) (by kernel_rfl) (by kernel_rfl) (by kernel_rfl)) ?_
        have hzs20 := hS.size
        have hzl100 := ho1.lt
        have hzl101 := ho2.lt
        have hzl102 := ht4.lt
        have hzl103 := hc7.lt
        have hzl104 := ho4.lt
        have hzl105 := ho6.lt
        have hzl106 := ht6.lt
        have hzl107 := hc12.lt
        have hzl108 := ho8.lt
        have hzl109 := ht7.lt
        have hzl110 := ho10.lt
        refine VL_call (d := 87) (f := 12) (by kernel_rfl) (by kernel_rfl) (by kernel_rfl) Try.call12 (got_any ab1 (gotA (walkA here (IntKind.wrap .i64 wait) q n) (IntKind.wrap .i64 t) (⟨0, 0, false, 0, ((gotA (gotA (walkA there (IntKind.wrap .i64 (1 + (IntKind.wrap .i64 wait))) q2 n2) (IntKind.wrap .i64 t) (⟨0, 0, false, 0, ((downA (newA here 1) true).here), zp⟩ : Om)) (IntKind.wrap .i64 t) (⟨1, 0, false, 0, ((downA (newA here 1) true).here), zp⟩ : Om)).here), zp⟩ : Om)) _ ht7 (IntKind.wrap .i64 t) (⟨1, 0, false, 0, ((gotA (gotA (walkA there (IntKind.wrap .i64 (1 + (IntKind.wrap .i64 wait))) q2 n2) (IntKind.wrap .i64 t) (⟨0, 0, false, 0, ((downA (newA here 1) true).here), zp⟩ : Om)) (IntKind.wrap .i64 t) (⟨1, 0, false, 0, ((downA (newA here 1) true).here), zp⟩ : Om)).here), zp⟩ : Om) (waits_got (walkA_waits _ _ _ _) _ _) (by simp only [gotA_here, walkA_here]; exact hbt)) ?_
        rintro _ w26 ⟨rfl, ht8, hc15⟩
        replace hS := Step.transNew hS hc15 (fun _ _ _ => by omega)
        replace ho1 := ho1.step hc15 (show ¬ b1 = ab1 by omega)
        replace ho2 := ho2.step hc15 (show ¬ b2 = ab1 by omega)
        replace ht4 := ht4.step hc15 (show ¬ ab3 = ab1 by omega)
        replace hc7 := hc7.step hc15 (show ¬ sb1 = ab1 by omega)
        replace ho4 := ho4.step hc15 (show ¬ b3 = ab1 by omega)
        replace ho6 := ho6.step hc15 (show ¬ b4 = ab1 by omega)
        replace ht6 := ht6.step hc15 (show ¬ ab2 = ab1 by omega)
        replace hc12 := hc12.step hc15 (show ¬ sb2 = ab1 by omega)
        replace ho8 := ho8.step hc15 (show ¬ b5 = ab1 by omega)
        replace ho10 := ho10.step hc15 (show ¬ b6 = ab1 by omega)
        have hzht8 := ht8.lt
        refine VL_end (by kernel_rfl) ?_
        refine VQ_block_normal ?_
        refine VQ_next ?_
        refine VC_region ?_
        refine VL_pure 2 [5, 13, 18, 19, 77, 78, 79] [(5, .int .u32 t), (13, .pointer (some ⟨ab1, 0, none⟩)), (18, .bool true), (19, .bool true), (77, .slice (some ⟨sb2, 0, none⟩) 2 2), (78, .int .i64 2), (79, .int .i64 2)] (by kernel_rfl) rfl ?_
        refine VL_end (by kernel_rfl) ?_
        refine VQ_round ?_
        refine VCL_round ?_
        refine VC_seq ?_
        refine VC_region ?_
        refine VL_pure 1 [5, 13, 18, 19, 77, 78, 79, 80] [(5, .int .u32 t), (13, .pointer (some ⟨ab1, 0, none⟩)), (18, .bool true), (19, .bool true), (77, .slice (some ⟨sb2, 0, none⟩) 2 2), (78, .int .i64 2), (79, .int .i64 2), (80, .bool false)] (by kernel_rfl) rfl ?_
        refine VL_end (by kernel_rfl) ?_
        refine VQ_next ?_
        refine VC_seq ?_
        refine VC_false (by kernel_rfl) ?_
        refine VC_exit ?_
        refine VQ_then_exit ?_
        refine VQ_then_exit ?_
        refine VQ_block_hit ?_
        refine VQ_next ?_
        refine VC_seq ?_
        refine VC_region ?_
        refine VL_pure 3 [18, 19, 90, 92] [(18, .bool true), (19, .bool true), (90, .pointer (some ⟨ab1, 0, none⟩)), (92, .int .i64 (IntKind.wrap .i64 t))] (by kernel_rfl) rfl ?_
        have hzs21 := hS.size
        have hzl111 := ho1.lt
        have hzl112 := ho2.lt
        have hzl113 := ht4.lt
        have hzl114 := hc7.lt
        have hzl115 := ho4.lt
        have hzl116 := ho6.lt
        have hzl117 := ht6.lt
        have hzl118 := hc12.lt
        have hzl119 := ho8.lt
        have hzl120 := ho10.lt
        have hzl121 := ht8.lt
        refine VL_call (d := 93) (f := 16) (by kernel_rfl) (by kernel_rfl) (by kernel_rfl) Try.call16 (state_any ab1 (gotA (gotA (walkA here (IntKind.wrap .i64 wait) q n) (IntKind.wrap .i64 t) (⟨0, 0, false, 0, ((gotA (gotA (walkA there (IntKind.wrap .i64 (1 + (IntKind.wrap .i64 wait))) q2 n2) (IntKind.wrap .i64 t) (⟨0, 0, false, 0, ((downA (newA here 1) true).here), zp⟩ : Om)) (IntKind.wrap .i64 t) (⟨1, 0, false, 0, ((downA (newA here 1) true).here), zp⟩ : Om)).here), zp⟩ : Om)) (IntKind.wrap .i64 t) (⟨1, 0, false, 0, ((gotA (gotA (walkA there (IntKind.wrap .i64 (1 + (IntKind.wrap .i64 wait))) q2 n2) (IntKind.wrap .i64 t) (⟨0, 0, false, 0, ((downA (newA here 1) true).here), zp⟩ : Om)) (IntKind.wrap .i64 t) (⟨1, 0, false, 0, ((downA (newA here 1) true).here), zp⟩ : Om)).here), zp⟩ : Om)) _ ht8 (IntKind.wrap .i64 t)) ?_
        rintro _ w27 ⟨rfl, hc16⟩
        replace hS := Step.trans hS hc16
        replace ho1 := ho1.no hc16
        replace ho2 := ho2.no hc16
        replace ht4 := ht4.no hc16
        replace hc7 := hc7.no hc16
        replace ho4 := ho4.no hc16
        replace ho6 := ho6.no hc16
        replace ht6 := ht6.no hc16
        replace hc12 := hc12.no hc16
        replace ho8 := ho8.no hc16
        replace ho10 := ho10.no hc16
        replace ht8 := ht8.no hc16
        rw [show behindA (gotA (gotA (walkA here (IntKind.wrap .i64 wait) q n) (IntKind.wrap .i64 t) (⟨0, 0, false, 0, ((gotA (gotA (walkA there (IntKind.wrap .i64 (1 + (IntKind.wrap .i64 wait))) q2 n2) (IntKind.wrap .i64 t) (⟨0, 0, false, 0, ((downA (newA here 1) true).here), zp⟩ : Om)) (IntKind.wrap .i64 t) (⟨1, 0, false, 0, ((downA (newA here 1) true).here), zp⟩ : Om)).here), zp⟩ : Om)) (IntKind.wrap .i64 t) (⟨1, 0, false, 0, ((gotA (gotA (walkA there (IntKind.wrap .i64 (1 + (IntKind.wrap .i64 wait))) q2 n2) (IntKind.wrap .i64 t) (⟨0, 0, false, 0, ((downA (newA here 1) true).here), zp⟩ : Om)) (IntKind.wrap .i64 t) (⟨1, 0, false, 0, ((downA (newA here 1) true).here), zp⟩ : Om)).here), zp⟩ : Om)) (IntKind.wrap .i64 t) = true from (told_b (waits_got (walkA_waits _ _ _ _) _ _) _ _)]
        refine VL_pure 9 [18, 19, 23] [(18, .bool true), (19, .bool true), (23, .bool true)] (by kernel_rfl) rfl ?_
        refine VL_end (by kernel_rfl) ?_
        refine VQ_next ?_
        refine VC_seq ?_
        refine VC_region ?_
        refine VL_pure 8 [12] [(12, .bool true)] (by kernel_rfl) rfl ?_
        refine VL_end (by kernel_rfl) ?_
        refine VQ_next ?_
        refine VC_ret ?_
        refine VQ_ret1 (.bool true) (.inr rfl) rfl rfl ?_
        exact ⟨rfl, hS⟩
      · have hzs22 := hS.size
        have hzl122 := ho1.lt
        have hzl123 := ho2.lt
        have hzl124 := ht1.lt
        have hzl125 := ht4.lt
        have hzl126 := hc7.lt
        have hzl127 := ho4.lt
        have hzl128 := ho6.lt
        have hzl129 := ht6.lt
        refine VL_call (d := 77) (f := 19) (by kernel_rfl) (by kernel_rfl) (by kernel_rfl) Try.call19 (sends_any ab2 (gotA (gotA (walkA there (IntKind.wrap .i64 (1 + (IntKind.wrap .i64 wait))) q2 n2) (IntKind.wrap .i64 t) (⟨0, 0, false, 0, ((downA (newA here 1) true).here), zp⟩ : Om)) (IntKind.wrap .i64 t) (⟨1, 0, false, 0, ((downA (newA here 1) true).here), zp⟩ : Om)) _ ht6 (IntKind.wrap .i64 t)) ?_
        rintro _ w28 ⟨sb3, rfl, hfsb3, hc17, hc18⟩
        replace hS := Step.trans hS hc18
        replace ho1 := ho1.no hc18
        replace ho2 := ho2.no hc18
        replace ht1 := ht1.no hc18
        replace ht4 := ht4.no hc18
        replace hc7 := hc7.no hc18
        replace ho4 := ho4.no hc18
        replace ho6 := ho6.no hc18
        replace ht6 := ht6.no hc18
        rw [show sendL (gotA (gotA (walkA there (IntKind.wrap .i64 (1 + (IntKind.wrap .i64 wait))) q2 n2) (IntKind.wrap .i64 t) (⟨0, 0, false, 0, ((downA (newA here 1) true).here), zp⟩ : Om)) (IntKind.wrap .i64 t) (⟨1, 0, false, 0, ((downA (newA here 1) true).here), zp⟩ : Om)) (IntKind.wrap .i64 t) = [(rdi (gotA (gotA (walkA there (IntKind.wrap .i64 (1 + (IntKind.wrap .i64 wait))) q2 n2) (IntKind.wrap .i64 t) (⟨0, 0, false, 0, ((downA (newA here 1) true).here), zp⟩ : Om)) (IntKind.wrap .i64 t) (⟨1, 0, false, 0, ((downA (newA here 1) true).here), zp⟩ : Om)))] from (send_2 hdn (told_ab (walkA_waits _ _ _ _) _ _ _).1)] at hc17 ⊢
        have hzsb3 := hc17.lt
        refine VL_pure 6 [5, 13, 18, 19, 77, 78, 79] [(5, .int .u32 t), (13, .pointer (some ⟨ab1, 0, none⟩)), (18, .bool true), (19, .bool true), (77, .slice (some ⟨sb3, 0, none⟩) 1 1), (78, .int .i64 1), (79, .int .i64 0)] (by kernel_rfl) rfl ?_
        refine VL_end (by kernel_rfl) ?_
        refine VQ_next ?_
        refine VC_block ?_
        refine VC_rounds ?_
        refine VCL_round ?_
        refine VC_seq ?_
        refine VC_region ?_
        refine VL_pure 1 [5, 13, 18, 19, 77, 78, 79, 80] [(5, .int .u32 t), (13, .pointer (some ⟨ab1, 0, none⟩)), (18, .bool true), (19, .bool true), (77, .slice (some ⟨sb3, 0, none⟩) 1 1), (78, .int .i64 1), (79, .int .i64 0), (80, .bool true)] (by kernel_rfl) rfl ?_
        refine VL_end (by kernel_rfl) ?_
        refine VQ_next ?_
        refine VC_seq ?_
        refine VC_true (by kernel_rfl) ?_
        refine VC_skip ?_
        refine VQ_next ?_
        refine VC_seq ?_
        refine VC_block ?_
        refine VC_seq ?_
        refine VC_region ?_
        refine VL_index (d := 81) (b := sb3) (o := 0) (len := 1) (sz := 36) (m := 0) (by kernel_rfl) (by kernel_rfl) 0 (by rfl) (by omega) 0 (by omega) ?_
        refine VL_load (d := 82) (t := 34) (a := ⟨sb3, 0, none⟩) (v := .agg #[.int .i64 1, .int .u8 0, .bool false, .int .u32 0, .int .u8 (((gotA (gotA (walkA there (IntKind.wrap .i64 (1 + (IntKind.wrap .i64 wait))) q2 n2) (IntKind.wrap .i64 t) (⟨0, 0, false, 0, ((downA (newA here 1) true).here), zp⟩ : Om)) (IntKind.wrap .i64 t) (⟨1, 0, false, 0, ((downA (newA here 1) true).here), zp⟩ : Om)).here) 0), .int .u8 (((gotA (gotA (walkA there (IntKind.wrap .i64 (1 + (IntKind.wrap .i64 wait))) q2 n2) (IntKind.wrap .i64 t) (⟨0, 0, false, 0, ((downA (newA here 1) true).here), zp⟩ : Om)) (IntKind.wrap .i64 t) (⟨1, 0, false, 0, ((downA (newA here 1) true).here), zp⟩ : Om)).here) 1), .int .u8 (((gotA (gotA (walkA there (IntKind.wrap .i64 (1 + (IntKind.wrap .i64 wait))) q2 n2) (IntKind.wrap .i64 t) (⟨0, 0, false, 0, ((downA (newA here 1) true).here), zp⟩ : Om)) (IntKind.wrap .i64 t) (⟨1, 0, false, 0, ((downA (newA here 1) true).here), zp⟩ : Om)).here) 2), .int .u8 (((gotA (gotA (walkA there (IntKind.wrap .i64 (1 + (IntKind.wrap .i64 wait))) q2 n2) (IntKind.wrap .i64 t) (⟨0, 0, false, 0, ((downA (newA here 1) true).here), zp⟩ : Om)) (IntKind.wrap .i64 t) (⟨1, 0, false, 0, ((downA (newA here 1) true).here), zp⟩ : Om)).here) 3), .int .u8 (((gotA (gotA (walkA there (IntKind.wrap .i64 (1 + (IntKind.wrap .i64 wait))) q2 n2) (IntKind.wrap .i64 t) (⟨0, 0, false, 0, ((downA (newA here 1) true).here), zp⟩ : Om)) (IntKind.wrap .i64 t) (⟨1, 0, false, 0, ((downA (newA here 1) true).here), zp⟩ : Om)).here) 4), .int .u8 (((gotA (gotA (walkA there (IntKind.wrap .i64 (1 + (IntKind.wrap .i64 wait))) q2 n2) (IntKind.wrap .i64 t) (⟨0, 0, false, 0, ((downA (newA here 1) true).here), zp⟩ : Om)) (IntKind.wrap .i64 t) (⟨1, 0, false, 0, ((downA (newA here 1) true).here), zp⟩ : Om)).here) 5), .int .u8 (((gotA (gotA (walkA there (IntKind.wrap .i64 (1 + (IntKind.wrap .i64 wait))) q2 n2) (IntKind.wrap .i64 t) (⟨0, 0, false, 0, ((downA (newA here 1) true).here), zp⟩ : Om)) (IntKind.wrap .i64 t) (⟨1, 0, false, 0, ((downA (newA here 1) true).here), zp⟩ : Om)).here) 6), .int .u8 (((gotA (gotA (walkA there (IntKind.wrap .i64 (1 + (IntKind.wrap .i64 wait))) q2 n2) (IntKind.wrap .i64 t) (⟨0, 0, false, 0, ((downA (newA here 1) true).here), zp⟩ : Om)) (IntKind.wrap .i64 t) (⟨1, 0, false, 0, ((downA (newA here 1) true).here), zp⟩ : Om)).here) 7), .int .u8 (((gotA (gotA (walkA there (IntKind.wrap .i64 (1 + (IntKind.wrap .i64 wait))) q2 n2) (IntKind.wrap .i64 t) (⟨0, 0, false, 0, ((downA (newA here 1) true).here), zp⟩ : Om)) (IntKind.wrap .i64 t) (⟨1, 0, false, 0, ((downA (newA here 1) true).here), zp⟩ : Om)).here) 8), .int .u8 (((gotA (gotA (walkA there (IntKind.wrap .i64 (1 + (IntKind.wrap .i64 wait))) q2 n2) (IntKind.wrap .i64 t) (⟨0, 0, false, 0, ((downA (newA here 1) true).here), zp⟩ : Om)) (IntKind.wrap .i64 t) (⟨1, 0, false, 0, ((downA (newA here 1) true).here), zp⟩ : Om)).here) 9), .int .u8 (((gotA (gotA (walkA there (IntKind.wrap .i64 (1 + (IntKind.wrap .i64 wait))) q2 n2) (IntKind.wrap .i64 t) (⟨0, 0, false, 0, ((downA (newA here 1) true).here), zp⟩ : Om)) (IntKind.wrap .i64 t) (⟨1, 0, false, 0, ((downA (newA here 1) true).here), zp⟩ : Om)).here) 10), .int .u8 (((gotA (gotA (walkA there (IntKind.wrap .i64 (1 + (IntKind.wrap .i64 wait))) q2 n2) (IntKind.wrap .i64 t) (⟨0, 0, false, 0, ((downA (newA here 1) true).here), zp⟩ : Om)) (IntKind.wrap .i64 t) (⟨1, 0, false, 0, ((downA (newA here 1) true).here), zp⟩ : Om)).here) 11), .int .u8 (((gotA (gotA (walkA there (IntKind.wrap .i64 (1 + (IntKind.wrap .i64 wait))) q2 n2) (IntKind.wrap .i64 t) (⟨0, 0, false, 0, ((downA (newA here 1) true).here), zp⟩ : Om)) (IntKind.wrap .i64 t) (⟨1, 0, false, 0, ((downA (newA here 1) true).here), zp⟩ : Om)).here) 12), .int .u8 (((gotA (gotA (walkA there (IntKind.wrap .i64 (1 + (IntKind.wrap .i64 wait))) q2 n2) (IntKind.wrap .i64 t) (⟨0, 0, false, 0, ((downA (newA here 1) true).here), zp⟩ : Om)) (IntKind.wrap .i64 t) (⟨1, 0, false, 0, ((downA (newA here 1) true).here), zp⟩ : Om)).here) 13), .int .u8 (((gotA (gotA (walkA there (IntKind.wrap .i64 (1 + (IntKind.wrap .i64 wait))) q2 n2) (IntKind.wrap .i64 t) (⟨0, 0, false, 0, ((downA (newA here 1) true).here), zp⟩ : Om)) (IntKind.wrap .i64 t) (⟨1, 0, false, 0, ((downA (newA here 1) true).here), zp⟩ : Om)).here) 14), .int .u8 (((gotA (gotA (walkA there (IntKind.wrap .i64 (1 + (IntKind.wrap .i64 wait))) q2 n2) (IntKind.wrap .i64 t) (⟨0, 0, false, 0, ((downA (newA here 1) true).here), zp⟩ : Om)) (IntKind.wrap .i64 t) (⟨1, 0, false, 0, ((downA (newA here 1) true).here), zp⟩ : Om)).here) 15), .int .u8 0, .int .u8 0, .int .u8 0, .int .u8 0, .int .u8 0, .int .u8 0, .int .u8 0, .int .u8 0, .int .u8 0, .int .u8 0, .int .u8 0, .int .u8 0, .int .u8 0, .int .u8 0, .int .u8 0, .int .u8 0]) (by kernel_rfl) (by kernel_rfl) (Loads.ownL hc17 (n := 36) (by kernel_rfl) (by kernel_rfl) (by kernel_rfl)) ?_
        have hzs23 := hS.size
        have hzl130 := ho1.lt
        have hzl131 := ho2.lt
        have hzl132 := ht1.lt
        have hzl133 := ht4.lt
        have hzl134 := hc7.lt
        have hzl135 := ho4.lt
        have hzl136 := ho6.lt
        have hzl137 := ht6.lt
        have hzl138 := hc17.lt
        refine VL_box (d := 21) (t := 34) (c := #[.int .i64 0, .int .u8 0, .bool false, .int .u32 0, .int .u8 0, .int .u8 0, .int .u8 0, .int .u8 0, .int .u8 0, .int .u8 0, .int .u8 0, .int .u8 0, .int .u8 0, .int .u8 0, .int .u8 0, .int .u8 0, .int .u8 0, .int .u8 0, .int .u8 0, .int .u8 0, .int .u8 0, .int .u8 0, .int .u8 0, .int .u8 0, .int .u8 0, .int .u8 0, .int .u8 0, .int .u8 0, .int .u8 0, .int .u8 0, .int .u8 0, .int .u8 0, .int .u8 0, .int .u8 0, .int .u8 0, .int .u8 0]) (by kernel_rfl) (by kernel_rfl) ?_
        intro b7 w29 hn7
        replace hS := Step.trans hS (hn7.step No)
        replace ho1 := ho1.no (hn7.step No)
        replace ho2 := ho2.no (hn7.step No)
        replace ht1 := ht1.no (hn7.step No)
        replace ht4 := ht4.no (hn7.step No)
        replace hc7 := hc7.no (hn7.step No)
        replace ho4 := ho4.no (hn7.step No)
        replace ho6 := ho6.no (hn7.step No)
        replace ht6 := ht6.no (hn7.step No)
        replace hc17 := hc17.no (hn7.step No)
        have ho11 := hn7.own
        have hzhn7 := hn7.size
        have hqhn7 := hn7.eqb
        refine VL_store (b := b7) (o := 0) (vs := [.int .i64 1, .int .u8 0, .bool false, .int .u32 0, .int .u8 (((gotA (gotA (walkA there (IntKind.wrap .i64 (1 + (IntKind.wrap .i64 wait))) q2 n2) (IntKind.wrap .i64 t) (⟨0, 0, false, 0, ((downA (newA here 1) true).here), zp⟩ : Om)) (IntKind.wrap .i64 t) (⟨1, 0, false, 0, ((downA (newA here 1) true).here), zp⟩ : Om)).here) 0), .int .u8 (((gotA (gotA (walkA there (IntKind.wrap .i64 (1 + (IntKind.wrap .i64 wait))) q2 n2) (IntKind.wrap .i64 t) (⟨0, 0, false, 0, ((downA (newA here 1) true).here), zp⟩ : Om)) (IntKind.wrap .i64 t) (⟨1, 0, false, 0, ((downA (newA here 1) true).here), zp⟩ : Om)).here) 1), .int .u8 (((gotA (gotA (walkA there (IntKind.wrap .i64 (1 + (IntKind.wrap .i64 wait))) q2 n2) (IntKind.wrap .i64 t) (⟨0, 0, false, 0, ((downA (newA here 1) true).here), zp⟩ : Om)) (IntKind.wrap .i64 t) (⟨1, 0, false, 0, ((downA (newA here 1) true).here), zp⟩ : Om)).here) 2), .int .u8 (((gotA (gotA (walkA there (IntKind.wrap .i64 (1 + (IntKind.wrap .i64 wait))) q2 n2) (IntKind.wrap .i64 t) (⟨0, 0, false, 0, ((downA (newA here 1) true).here), zp⟩ : Om)) (IntKind.wrap .i64 t) (⟨1, 0, false, 0, ((downA (newA here 1) true).here), zp⟩ : Om)).here) 3), .int .u8 (((gotA (gotA (walkA there (IntKind.wrap .i64 (1 + (IntKind.wrap .i64 wait))) q2 n2) (IntKind.wrap .i64 t) (⟨0, 0, false, 0, ((downA (newA here 1) true).here), zp⟩ : Om)) (IntKind.wrap .i64 t) (⟨1, 0, false, 0, ((downA (newA here 1) true).here), zp⟩ : Om)).here) 4), .int .u8 (((gotA (gotA (walkA there (IntKind.wrap .i64 (1 + (IntKind.wrap .i64 wait))) q2 n2) (IntKind.wrap .i64 t) (⟨0, 0, false, 0, ((downA (newA here 1) true).here), zp⟩ : Om)) (IntKind.wrap .i64 t) (⟨1, 0, false, 0, ((downA (newA here 1) true).here), zp⟩ : Om)).here) 5), .int .u8 (((gotA (gotA (walkA there (IntKind.wrap .i64 (1 + (IntKind.wrap .i64 wait))) q2 n2) (IntKind.wrap .i64 t) (⟨0, 0, false, 0, ((downA (newA here 1) true).here), zp⟩ : Om)) (IntKind.wrap .i64 t) (⟨1, 0, false, 0, ((downA (newA here 1) true).here), zp⟩ : Om)).here) 6), .int .u8 (((gotA (gotA (walkA there (IntKind.wrap .i64 (1 + (IntKind.wrap .i64 wait))) q2 n2) (IntKind.wrap .i64 t) (⟨0, 0, false, 0, ((downA (newA here 1) true).here), zp⟩ : Om)) (IntKind.wrap .i64 t) (⟨1, 0, false, 0, ((downA (newA here 1) true).here), zp⟩ : Om)).here) 7), .int .u8 (((gotA (gotA (walkA there (IntKind.wrap .i64 (1 + (IntKind.wrap .i64 wait))) q2 n2) (IntKind.wrap .i64 t) (⟨0, 0, false, 0, ((downA (newA here 1) true).here), zp⟩ : Om)) (IntKind.wrap .i64 t) (⟨1, 0, false, 0, ((downA (newA here 1) true).here), zp⟩ : Om)).here) 8), .int .u8 (((gotA (gotA (walkA there (IntKind.wrap .i64 (1 + (IntKind.wrap .i64 wait))) q2 n2) (IntKind.wrap .i64 t) (⟨0, 0, false, 0, ((downA (newA here 1) true).here), zp⟩ : Om)) (IntKind.wrap .i64 t) (⟨1, 0, false, 0, ((downA (newA here 1) true).here), zp⟩ : Om)).here) 9), .int .u8 (((gotA (gotA (walkA there (IntKind.wrap .i64 (1 + (IntKind.wrap .i64 wait))) q2 n2) (IntKind.wrap .i64 t) (⟨0, 0, false, 0, ((downA (newA here 1) true).here), zp⟩ : Om)) (IntKind.wrap .i64 t) (⟨1, 0, false, 0, ((downA (newA here 1) true).here), zp⟩ : Om)).here) 10), .int .u8 (((gotA (gotA (walkA there (IntKind.wrap .i64 (1 + (IntKind.wrap .i64 wait))) q2 n2) (IntKind.wrap .i64 t) (⟨0, 0, false, 0, ((downA (newA here 1) true).here), zp⟩ : Om)) (IntKind.wrap .i64 t) (⟨1, 0, false, 0, ((downA (newA here 1) true).here), zp⟩ : Om)).here) 11), .int .u8 (((gotA (gotA (walkA there (IntKind.wrap .i64 (1 + (IntKind.wrap .i64 wait))) q2 n2) (IntKind.wrap .i64 t) (⟨0, 0, false, 0, ((downA (newA here 1) true).here), zp⟩ : Om)) (IntKind.wrap .i64 t) (⟨1, 0, false, 0, ((downA (newA here 1) true).here), zp⟩ : Om)).here) 12), .int .u8 (((gotA (gotA (walkA there (IntKind.wrap .i64 (1 + (IntKind.wrap .i64 wait))) q2 n2) (IntKind.wrap .i64 t) (⟨0, 0, false, 0, ((downA (newA here 1) true).here), zp⟩ : Om)) (IntKind.wrap .i64 t) (⟨1, 0, false, 0, ((downA (newA here 1) true).here), zp⟩ : Om)).here) 13), .int .u8 (((gotA (gotA (walkA there (IntKind.wrap .i64 (1 + (IntKind.wrap .i64 wait))) q2 n2) (IntKind.wrap .i64 t) (⟨0, 0, false, 0, ((downA (newA here 1) true).here), zp⟩ : Om)) (IntKind.wrap .i64 t) (⟨1, 0, false, 0, ((downA (newA here 1) true).here), zp⟩ : Om)).here) 14), .int .u8 (((gotA (gotA (walkA there (IntKind.wrap .i64 (1 + (IntKind.wrap .i64 wait))) q2 n2) (IntKind.wrap .i64 t) (⟨0, 0, false, 0, ((downA (newA here 1) true).here), zp⟩ : Om)) (IntKind.wrap .i64 t) (⟨1, 0, false, 0, ((downA (newA here 1) true).here), zp⟩ : Om)).here) 15), .int .u8 0, .int .u8 0, .int .u8 0, .int .u8 0, .int .u8 0, .int .u8 0, .int .u8 0, .int .u8 0, .int .u8 0, .int .u8 0, .int .u8 0, .int .u8 0, .int .u8 0, .int .u8 0, .int .u8 0, .int .u8 0]) (by kernel_rfl) (by kernel_rfl) ho11 (Nat.le_of_ble_eq_true (by kernel_rfl)) ?_
        intro w30 hw5
        replace hS := Step.transNew hS hw5.step (fun _ _ _ => by omega)
        replace ho1 := ho1.step hw5.step (show ¬ b1 = b7 by omega)
        replace ho2 := ho2.step hw5.step (show ¬ b2 = b7 by omega)
        replace ht1 := ht1.step hw5.step (show ¬ ab1 = b7 by omega)
        replace ht4 := ht4.step hw5.step (show ¬ ab3 = b7 by omega)
        replace hc7 := hc7.step hw5.step (show ¬ sb1 = b7 by omega)
        replace ho4 := ho4.step hw5.step (show ¬ b3 = b7 by omega)
        replace ho6 := ho6.step hw5.step (show ¬ b4 = b7 by omega)
        replace ht6 := ht6.step hw5.step (show ¬ ab2 = b7 by omega)
        replace hc17 := hc17.step hw5.step (show ¬ sb3 = b7 by omega)
        have ho12 : Own w30 b7 #[.int .i64 1, .int .u8 0, .bool false, .int .u32 0, .int .u8 (((gotA (gotA (walkA there (IntKind.wrap .i64 (1 + (IntKind.wrap .i64 wait))) q2 n2) (IntKind.wrap .i64 t) (⟨0, 0, false, 0, ((downA (newA here 1) true).here), zp⟩ : Om)) (IntKind.wrap .i64 t) (⟨1, 0, false, 0, ((downA (newA here 1) true).here), zp⟩ : Om)).here) 0), .int .u8 (((gotA (gotA (walkA there (IntKind.wrap .i64 (1 + (IntKind.wrap .i64 wait))) q2 n2) (IntKind.wrap .i64 t) (⟨0, 0, false, 0, ((downA (newA here 1) true).here), zp⟩ : Om)) (IntKind.wrap .i64 t) (⟨1, 0, false, 0, ((downA (newA here 1) true).here), zp⟩ : Om)).here) 1), .int .u8 (((gotA (gotA (walkA there (IntKind.wrap .i64 (1 + (IntKind.wrap .i64 wait))) q2 n2) (IntKind.wrap .i64 t) (⟨0, 0, false, 0, ((downA (newA here 1) true).here), zp⟩ : Om)) (IntKind.wrap .i64 t) (⟨1, 0, false, 0, ((downA (newA here 1) true).here), zp⟩ : Om)).here) 2), .int .u8 (((gotA (gotA (walkA there (IntKind.wrap .i64 (1 + (IntKind.wrap .i64 wait))) q2 n2) (IntKind.wrap .i64 t) (⟨0, 0, false, 0, ((downA (newA here 1) true).here), zp⟩ : Om)) (IntKind.wrap .i64 t) (⟨1, 0, false, 0, ((downA (newA here 1) true).here), zp⟩ : Om)).here) 3), .int .u8 (((gotA (gotA (walkA there (IntKind.wrap .i64 (1 + (IntKind.wrap .i64 wait))) q2 n2) (IntKind.wrap .i64 t) (⟨0, 0, false, 0, ((downA (newA here 1) true).here), zp⟩ : Om)) (IntKind.wrap .i64 t) (⟨1, 0, false, 0, ((downA (newA here 1) true).here), zp⟩ : Om)).here) 4), .int .u8 (((gotA (gotA (walkA there (IntKind.wrap .i64 (1 + (IntKind.wrap .i64 wait))) q2 n2) (IntKind.wrap .i64 t) (⟨0, 0, false, 0, ((downA (newA here 1) true).here), zp⟩ : Om)) (IntKind.wrap .i64 t) (⟨1, 0, false, 0, ((downA (newA here 1) true).here), zp⟩ : Om)).here) 5), .int .u8 (((gotA (gotA (walkA there (IntKind.wrap .i64 (1 + (IntKind.wrap .i64 wait))) q2 n2) (IntKind.wrap .i64 t) (⟨0, 0, false, 0, ((downA (newA here 1) true).here), zp⟩ : Om)) (IntKind.wrap .i64 t) (⟨1, 0, false, 0, ((downA (newA here 1) true).here), zp⟩ : Om)).here) 6), .int .u8 (((gotA (gotA (walkA there (IntKind.wrap .i64 (1 + (IntKind.wrap .i64 wait))) q2 n2) (IntKind.wrap .i64 t) (⟨0, 0, false, 0, ((downA (newA here 1) true).here), zp⟩ : Om)) (IntKind.wrap .i64 t) (⟨1, 0, false, 0, ((downA (newA here 1) true).here), zp⟩ : Om)).here) 7), .int .u8 (((gotA (gotA (walkA there (IntKind.wrap .i64 (1 + (IntKind.wrap .i64 wait))) q2 n2) (IntKind.wrap .i64 t) (⟨0, 0, false, 0, ((downA (newA here 1) true).here), zp⟩ : Om)) (IntKind.wrap .i64 t) (⟨1, 0, false, 0, ((downA (newA here 1) true).here), zp⟩ : Om)).here) 8), .int .u8 (((gotA (gotA (walkA there (IntKind.wrap .i64 (1 + (IntKind.wrap .i64 wait))) q2 n2) (IntKind.wrap .i64 t) (⟨0, 0, false, 0, ((downA (newA here 1) true).here), zp⟩ : Om)) (IntKind.wrap .i64 t) (⟨1, 0, false, 0, ((downA (newA here 1) true).here), zp⟩ : Om)).here) 9), .int .u8 (((gotA (gotA (walkA there (IntKind.wrap .i64 (1 + (IntKind.wrap .i64 wait))) q2 n2) (IntKind.wrap .i64 t) (⟨0, 0, false, 0, ((downA (newA here 1) true).here), zp⟩ : Om)) (IntKind.wrap .i64 t) (⟨1, 0, false, 0, ((downA (newA here 1) true).here), zp⟩ : Om)).here) 10), .int .u8 (((gotA (gotA (walkA there (IntKind.wrap .i64 (1 + (IntKind.wrap .i64 wait))) q2 n2) (IntKind.wrap .i64 t) (⟨0, 0, false, 0, ((downA (newA here 1) true).here), zp⟩ : Om)) (IntKind.wrap .i64 t) (⟨1, 0, false, 0, ((downA (newA here 1) true).here), zp⟩ : Om)).here) 11), .int .u8 (((gotA (gotA (walkA there (IntKind.wrap .i64 (1 + (IntKind.wrap .i64 wait))) q2 n2) (IntKind.wrap .i64 t) (⟨0, 0, false, 0, ((downA (newA here 1) true).here), zp⟩ : Om)) (IntKind.wrap .i64 t) (⟨1, 0, false, 0, ((downA (newA here 1) true).here), zp⟩ : Om)).here) 12), .int .u8 (((gotA (gotA (walkA there (IntKind.wrap .i64 (1 + (IntKind.wrap .i64 wait))) q2 n2) (IntKind.wrap .i64 t) (⟨0, 0, false, 0, ((downA (newA here 1) true).here), zp⟩ : Om)) (IntKind.wrap .i64 t) (⟨1, 0, false, 0, ((downA (newA here 1) true).here), zp⟩ : Om)).here) 13), .int .u8 (((gotA (gotA (walkA there (IntKind.wrap .i64 (1 + (IntKind.wrap .i64 wait))) q2 n2) (IntKind.wrap .i64 t) (⟨0, 0, false, 0, ((downA (newA here 1) true).here), zp⟩ : Om)) (IntKind.wrap .i64 t) (⟨1, 0, false, 0, ((downA (newA here 1) true).here), zp⟩ : Om)).here) 14), .int .u8 (((gotA (gotA (walkA there (IntKind.wrap .i64 (1 + (IntKind.wrap .i64 wait))) q2 n2) (IntKind.wrap .i64 t) (⟨0, 0, false, 0, ((downA (newA here 1) true).here), zp⟩ : Om)) (IntKind.wrap .i64 t) (⟨1, 0, false, 0, ((downA (newA here 1) true).here), zp⟩ : Om)).here) 15), .int .u8 0, .int .u8 0, .int .u8 0, .int .u8 0, .int .u8 0, .int .u8 0, .int .u8 0, .int .u8 0, .int .u8 0, .int .u8 0, .int .u8 0, .int .u8 0, .int .u8 0, .int .u8 0, .int .u8 0, .int .u8 0] 34 := Own.cast hw5.own (by kernel_rfl)
        have hzhw5 := hw5.same
        refine VL_end (by kernel_rfl) ?_
        refine VQ_next ?_
        refine VC_region ?_
        refine VL_pure 3 [5, 13, 18, 19, 77, 78, 79, 21, 83, 85] [(5, .int .u32 t), (13, .pointer (some ⟨ab1, 0, none⟩)), (18, .bool true), (19, .bool true), (77, .slice (some ⟨sb3, 0, none⟩) 1 1), (78, .int .i64 1), (79, .int .i64 0), (21, .pointer (some ⟨b7, 0, none⟩)), (83, .pointer (some ⟨ab1, 0, none⟩)), (85, .int .i64 (IntKind.wrap .i64 t))] (by kernel_rfl) rfl ?_
        refine VL_load (d := 86) (t := 34) (a := ⟨b7, 0, none⟩) (v := .agg #[.int .i64 1, .int .u8 0, .bool false, .int .u32 0, .int .u8 (((gotA (gotA (walkA there (IntKind.wrap .i64 (1 + (IntKind.wrap .i64 wait))) q2 n2) (IntKind.wrap .i64 t) (⟨0, 0, false, 0, ((downA (newA here 1) true).here), zp⟩ : Om)) (IntKind.wrap .i64 t) (⟨1, 0, false, 0, ((downA (newA here 1) true).here), zp⟩ : Om)).here) 0), .int .u8 (((gotA (gotA (walkA there (IntKind.wrap .i64 (1 + (IntKind.wrap .i64 wait))) q2 n2) (IntKind.wrap .i64 t) (⟨0, 0, false, 0, ((downA (newA here 1) true).here), zp⟩ : Om)) (IntKind.wrap .i64 t) (⟨1, 0, false, 0, ((downA (newA here 1) true).here), zp⟩ : Om)).here) 1), .int .u8 (((gotA (gotA (walkA there (IntKind.wrap .i64 (1 + (IntKind.wrap .i64 wait))) q2 n2) (IntKind.wrap .i64 t) (⟨0, 0, false, 0, ((downA (newA here 1) true).here), zp⟩ : Om)) (IntKind.wrap .i64 t) (⟨1, 0, false, 0, ((downA (newA here 1) true).here), zp⟩ : Om)).here) 2), .int .u8 (((gotA (gotA (walkA there (IntKind.wrap .i64 (1 + (IntKind.wrap .i64 wait))) q2 n2) (IntKind.wrap .i64 t) (⟨0, 0, false, 0, ((downA (newA here 1) true).here), zp⟩ : Om)) (IntKind.wrap .i64 t) (⟨1, 0, false, 0, ((downA (newA here 1) true).here), zp⟩ : Om)).here) 3), .int .u8 (((gotA (gotA (walkA there (IntKind.wrap .i64 (1 + (IntKind.wrap .i64 wait))) q2 n2) (IntKind.wrap .i64 t) (⟨0, 0, false, 0, ((downA (newA here 1) true).here), zp⟩ : Om)) (IntKind.wrap .i64 t) (⟨1, 0, false, 0, ((downA (newA here 1) true).here), zp⟩ : Om)).here) 4), .int .u8 (((gotA (gotA (walkA there (IntKind.wrap .i64 (1 + (IntKind.wrap .i64 wait))) q2 n2) (IntKind.wrap .i64 t) (⟨0, 0, false, 0, ((downA (newA here 1) true).here), zp⟩ : Om)) (IntKind.wrap .i64 t) (⟨1, 0, false, 0, ((downA (newA here 1) true).here), zp⟩ : Om)).here) 5), .int .u8 (((gotA (gotA (walkA there (IntKind.wrap .i64 (1 + (IntKind.wrap .i64 wait))) q2 n2) (IntKind.wrap .i64 t) (⟨0, 0, false, 0, ((downA (newA here 1) true).here), zp⟩ : Om)) (IntKind.wrap .i64 t) (⟨1, 0, false, 0, ((downA (newA here 1) true).here), zp⟩ : Om)).here) 6), .int .u8 (((gotA (gotA (walkA there (IntKind.wrap .i64 (1 + (IntKind.wrap .i64 wait))) q2 n2) (IntKind.wrap .i64 t) (⟨0, 0, false, 0, ((downA (newA here 1) true).here), zp⟩ : Om)) (IntKind.wrap .i64 t) (⟨1, 0, false, 0, ((downA (newA here 1) true).here), zp⟩ : Om)).here) 7), .int .u8 (((gotA (gotA (walkA there (IntKind.wrap .i64 (1 + (IntKind.wrap .i64 wait))) q2 n2) (IntKind.wrap .i64 t) (⟨0, 0, false, 0, ((downA (newA here 1) true).here), zp⟩ : Om)) (IntKind.wrap .i64 t) (⟨1, 0, false, 0, ((downA (newA here 1) true).here), zp⟩ : Om)).here) 8), .int .u8 (((gotA (gotA (walkA there (IntKind.wrap .i64 (1 + (IntKind.wrap .i64 wait))) q2 n2) (IntKind.wrap .i64 t) (⟨0, 0, false, 0, ((downA (newA here 1) true).here), zp⟩ : Om)) (IntKind.wrap .i64 t) (⟨1, 0, false, 0, ((downA (newA here 1) true).here), zp⟩ : Om)).here) 9), .int .u8 (((gotA (gotA (walkA there (IntKind.wrap .i64 (1 + (IntKind.wrap .i64 wait))) q2 n2) (IntKind.wrap .i64 t) (⟨0, 0, false, 0, ((downA (newA here 1) true).here), zp⟩ : Om)) (IntKind.wrap .i64 t) (⟨1, 0, false, 0, ((downA (newA here 1) true).here), zp⟩ : Om)).here) 10), .int .u8 (((gotA (gotA (walkA there (IntKind.wrap .i64 (1 + (IntKind.wrap .i64 wait))) q2 n2) (IntKind.wrap .i64 t) (⟨0, 0, false, 0, ((downA (newA here 1) true).here), zp⟩ : Om)) (IntKind.wrap .i64 t) (⟨1, 0, false, 0, ((downA (newA here 1) true).here), zp⟩ : Om)).here) 11), .int .u8 (((gotA (gotA (walkA there (IntKind.wrap .i64 (1 + (IntKind.wrap .i64 wait))) q2 n2) (IntKind.wrap .i64 t) (⟨0, 0, false, 0, ((downA (newA here 1) true).here), zp⟩ : Om)) (IntKind.wrap .i64 t) (⟨1, 0, false, 0, ((downA (newA here 1) true).here), zp⟩ : Om)).here) 12), .int .u8 (((gotA (gotA (walkA there (IntKind.wrap .i64 (1 + (IntKind.wrap .i64 wait))) q2 n2) (IntKind.wrap .i64 t) (⟨0, 0, false, 0, ((downA (newA here 1) true).here), zp⟩ : Om)) (IntKind.wrap .i64 t) (⟨1, 0, false, 0, ((downA (newA here 1) true).here), zp⟩ : Om)).here) 13), .int .u8 (((gotA (gotA (walkA there (IntKind.wrap .i64 (1 + (IntKind.wrap .i64 wait))) q2 n2) (IntKind.wrap .i64 t) (⟨0, 0, false, 0, ((downA (newA here 1) true).here), zp⟩ : Om)) (IntKind.wrap .i64 t) (⟨1, 0, false, 0, ((downA (newA here 1) true).here), zp⟩ : Om)).here) 14), .int .u8 (((gotA (gotA (walkA there (IntKind.wrap .i64 (1 + (IntKind.wrap .i64 wait))) q2 n2) (IntKind.wrap .i64 t) (⟨0, 0, false, 0, ((downA (newA here 1) true).here), zp⟩ : Om)) (IntKind.wrap .i64 t) (⟨1, 0, false, 0, ((downA (newA here 1) true).here), zp⟩ : Om)).here) 15), .int .u8 0, .int .u8 0, .int .u8 0, .int .u8 0, .int .u8 0, .int .u8 0, .int .u8 0, .int .u8 0, .int .u8 0, .int .u8 0, .int .u8 0, .int .u8 0, .int .u8 0, .int .u8 0, .int .u8 0, .int .u8 0]) (by kernel_rfl) (by kernel_rfl) (Loads.ownL ho12 (n := 36) (by kernel_rfl) (by kernel_rfl) (by kernel_rfl)) ?_
        have hzs24 := hS.size
        have hzl139 := ho1.lt
        have hzl140 := ho2.lt
        have hzl141 := ht1.lt
        have hzl142 := ht4.lt
        have hzl143 := hc7.lt
        have hzl144 := ho4.lt
        have hzl145 := ho6.lt
        have hzl146 := ht6.lt
        have hzl147 := hc17.lt
        have hzl148 := ho12.lt
        refine VL_call (d := 87) (f := 12) (by kernel_rfl) (by kernel_rfl) (by kernel_rfl) Try.call12 (got_any ab1 (walkA here (IntKind.wrap .i64 wait) q n) _ ht1 (IntKind.wrap .i64 t) (⟨1, 0, false, 0, ((gotA (gotA (walkA there (IntKind.wrap .i64 (1 + (IntKind.wrap .i64 wait))) q2 n2) (IntKind.wrap .i64 t) (⟨0, 0, false, 0, ((downA (newA here 1) true).here), zp⟩ : Om)) (IntKind.wrap .i64 t) (⟨1, 0, false, 0, ((downA (newA here 1) true).here), zp⟩ : Om)).here), zp⟩ : Om) (walkA_waits _ _ _ _) (by simp only [gotA_here, walkA_here]; exact hbt)) ?_
        rintro _ w31 ⟨rfl, ht9, hc19⟩
        replace hS := Step.transNew hS hc19 (fun _ _ _ => by omega)
        replace ho1 := ho1.step hc19 (show ¬ b1 = ab1 by omega)
        replace ho2 := ho2.step hc19 (show ¬ b2 = ab1 by omega)
        replace ht4 := ht4.step hc19 (show ¬ ab3 = ab1 by omega)
        replace hc7 := hc7.step hc19 (show ¬ sb1 = ab1 by omega)
        replace ho4 := ho4.step hc19 (show ¬ b3 = ab1 by omega)
        replace ho6 := ho6.step hc19 (show ¬ b4 = ab1 by omega)
        replace ht6 := ht6.step hc19 (show ¬ ab2 = ab1 by omega)
        replace hc17 := hc17.step hc19 (show ¬ sb3 = ab1 by omega)
        replace ho12 := ho12.step hc19 (show ¬ b7 = ab1 by omega)
        have hzht9 := ht9.lt
        refine VL_end (by kernel_rfl) ?_
        refine VQ_block_normal ?_
        refine VQ_next ?_
        refine VC_region ?_
        refine VL_pure 2 [5, 13, 18, 19, 77, 78, 79] [(5, .int .u32 t), (13, .pointer (some ⟨ab1, 0, none⟩)), (18, .bool true), (19, .bool true), (77, .slice (some ⟨sb3, 0, none⟩) 1 1), (78, .int .i64 1), (79, .int .i64 1)] (by kernel_rfl) rfl ?_
        refine VL_end (by kernel_rfl) ?_
        refine VQ_round ?_
        refine VCL_round ?_
        refine VC_seq ?_
        refine VC_region ?_
        refine VL_pure 1 [5, 13, 18, 19, 77, 78, 79, 80] [(5, .int .u32 t), (13, .pointer (some ⟨ab1, 0, none⟩)), (18, .bool true), (19, .bool true), (77, .slice (some ⟨sb3, 0, none⟩) 1 1), (78, .int .i64 1), (79, .int .i64 1), (80, .bool false)] (by kernel_rfl) rfl ?_
        refine VL_end (by kernel_rfl) ?_
        refine VQ_next ?_
        refine VC_seq ?_
        refine VC_false (by kernel_rfl) ?_
        refine VC_exit ?_
        refine VQ_then_exit ?_
        refine VQ_then_exit ?_
        refine VQ_block_hit ?_
        refine VQ_next ?_
        refine VC_seq ?_
        refine VC_region ?_
        refine VL_pure 3 [18, 19, 90, 92] [(18, .bool true), (19, .bool true), (90, .pointer (some ⟨ab1, 0, none⟩)), (92, .int .i64 (IntKind.wrap .i64 t))] (by kernel_rfl) rfl ?_
        have hzs25 := hS.size
        have hzl149 := ho1.lt
        have hzl150 := ho2.lt
        have hzl151 := ht4.lt
        have hzl152 := hc7.lt
        have hzl153 := ho4.lt
        have hzl154 := ho6.lt
        have hzl155 := ht6.lt
        have hzl156 := hc17.lt
        have hzl157 := ho12.lt
        have hzl158 := ht9.lt
        refine VL_call (d := 93) (f := 16) (by kernel_rfl) (by kernel_rfl) (by kernel_rfl) Try.call16 (state_any ab1 (gotA (walkA here (IntKind.wrap .i64 wait) q n) (IntKind.wrap .i64 t) (⟨1, 0, false, 0, ((gotA (gotA (walkA there (IntKind.wrap .i64 (1 + (IntKind.wrap .i64 wait))) q2 n2) (IntKind.wrap .i64 t) (⟨0, 0, false, 0, ((downA (newA here 1) true).here), zp⟩ : Om)) (IntKind.wrap .i64 t) (⟨1, 0, false, 0, ((downA (newA here 1) true).here), zp⟩ : Om)).here), zp⟩ : Om)) _ ht9 (IntKind.wrap .i64 t)) ?_
        rintro _ w32 ⟨rfl, hc20⟩
        replace hS := Step.trans hS hc20
        replace ho1 := ho1.no hc20
        replace ho2 := ho2.no hc20
        replace ht4 := ht4.no hc20
        replace hc7 := hc7.no hc20
        replace ho4 := ho4.no hc20
        replace ho6 := ho6.no hc20
        replace ht6 := ht6.no hc20
        replace hc17 := hc17.no hc20
        replace ho12 := ho12.no hc20
        replace ht9 := ht9.no hc20
        rw [show behindA (gotA (walkA here (IntKind.wrap .i64 wait) q n) (IntKind.wrap .i64 t) (⟨1, 0, false, 0, ((gotA (gotA (walkA there (IntKind.wrap .i64 (1 + (IntKind.wrap .i64 wait))) q2 n2) (IntKind.wrap .i64 t) (⟨0, 0, false, 0, ((downA (newA here 1) true).here), zp⟩ : Om)) (IntKind.wrap .i64 t) (⟨1, 0, false, 0, ((downA (newA here 1) true).here), zp⟩ : Om)).here), zp⟩ : Om)) (IntKind.wrap .i64 t) = true from (told_b (walkA_waits _ _ _ _) _ _)]
        refine VL_pure 9 [18, 19, 23] [(18, .bool true), (19, .bool true), (23, .bool true)] (by kernel_rfl) rfl ?_
        refine VL_end (by kernel_rfl) ?_
        refine VQ_next ?_
        refine VC_seq ?_
        refine VC_region ?_
        refine VL_pure 8 [12] [(12, .bool true)] (by kernel_rfl) rfl ?_
        refine VL_end (by kernel_rfl) ?_
        refine VQ_next ?_
        refine VC_ret ?_
        refine VQ_ret1 (.bool true) (.inr rfl) rfl rfl ?_
        exact ⟨rfl, hS⟩

end Go.Proofs.Ytkimbomnbaogjaa
