/- Layer 21: AlarmRepeats. -/
import Derived.Test.YtkimbomnbaogjaaProg
import Derived.Test.YtkimbomnbaogjaaAl5
import Derived.Test.YtkimbomnbaogjaaVc8
set_option linter.unusedVariables false
set_option linter.unusedSimpArgs false
namespace Go.Proofs.Ytkimbomnbaogjaa
open Go.Vc Go.RowKit

set_option maxRecDepth 20000 in
set_option maxHeartbeats 1000000 in
theorem alarmRepeats_any (here : Nat → Int) (wait : Int) (A : Option Addr) (n cc : Nat) (q : Nat → OpA) (o : Om) (t u at_ : Int) (w : World) (hA : OpsAt w A n q) (h0 : 0 ≤ wait ∧ wait < 4294967296) (t0 : 0 ≤ t ∧ t < 4294967296) (u0 : 0 ≤ u ∧ u < 4294967296) (hp : inByte o.p) :
    CV Try.prog 8 #[.agg #[.int .u8 (here 0), .int .u8 (here 1), .int .u8 (here 2), .int .u8 (here 3), .int .u8 (here 4), .int .u8 (here 5), .int .u8 (here 6), .int .u8 (here 7), .int .u8 (here 8), .int .u8 (here 9), .int .u8 (here 10), .int .u8 (here 11), .int .u8 (here 12), .int .u8 (here 13), .int .u8 (here 14), .int .u8 (here 15)], .int .u32 wait, .slice A n cc, .agg #[.int .i64 o.k, .int .u8 o.d, .bool o.a, .int .u32 o.tg, .int .u8 (o.p 0), .int .u8 (o.p 1), .int .u8 (o.p 2), .int .u8 (o.p 3), .int .u8 (o.p 4), .int .u8 (o.p 5), .int .u8 (o.p 6), .int .u8 (o.p 7), .int .u8 (o.p 8), .int .u8 (o.p 9), .int .u8 (o.p 10), .int .u8 (o.p 11), .int .u8 (o.p 12), .int .u8 (o.p 13), .int .u8 (o.p 14), .int .u8 (o.p 15), .int .u8 (o.s 0), .int .u8 (o.s 1), .int .u8 (o.s 2), .int .u8 (o.s 3), .int .u8 (o.s 4), .int .u8 (o.s 5), .int .u8 (o.s 6), .int .u8 (o.s 7), .int .u8 (o.s 8), .int .u8 (o.s 9), .int .u8 (o.s 10), .int .u8 (o.s 11), .int .u8 (o.s 12), .int .u8 (o.s 13), .int .u8 (o.s 14), .int .u8 (o.s 15)], .int .u32 t, .int .u32 u, .int .i64 at_] w (fun x w1 => x = .bool true ∧ Step No w w1) := by
  have hS : Step No w w := Step.refl _ _
  have hwq := wrap_u32 h0
  have htq := wrap_u32 t0
  have huq := wrap_u32 u0
  refine CV_enter Try.f8 _ 129 [(0, .agg #[.int .u8 (here 0), .int .u8 (here 1), .int .u8 (here 2), .int .u8 (here 3), .int .u8 (here 4), .int .u8 (here 5), .int .u8 (here 6), .int .u8 (here 7), .int .u8 (here 8), .int .u8 (here 9), .int .u8 (here 10), .int .u8 (here 11), .int .u8 (here 12), .int .u8 (here 13), .int .u8 (here 14), .int .u8 (here 15)]), (1, .int .u32 wait), (2, .slice A n cc), (3, .agg #[.int .i64 o.k, .int .u8 o.d, .bool o.a, .int .u32 o.tg, .int .u8 (o.p 0), .int .u8 (o.p 1), .int .u8 (o.p 2), .int .u8 (o.p 3), .int .u8 (o.p 4), .int .u8 (o.p 5), .int .u8 (o.p 6), .int .u8 (o.p 7), .int .u8 (o.p 8), .int .u8 (o.p 9), .int .u8 (o.p 10), .int .u8 (o.p 11), .int .u8 (o.p 12), .int .u8 (o.p 13), .int .u8 (o.p 14), .int .u8 (o.p 15), .int .u8 (o.s 0), .int .u8 (o.s 1), .int .u8 (o.s 2), .int .u8 (o.s 3), .int .u8 (o.s 4), .int .u8 (o.s 5), .int .u8 (o.s 6), .int .u8 (o.s 7), .int .u8 (o.s 8), .int .u8 (o.s 9), .int .u8 (o.s 10), .int .u8 (o.s 11), .int .u8 (o.s 12), .int .u8 (o.s 13), .int .u8 (o.s 14), .int .u8 (o.s 15)]), (4, .int .u32 t), (5, .int .u32 u), (6, .int .i64 at_)] Try.func8 rfl rfl (by kernel_rfl) rfl ?_
  refine VC_seq ?_
  refine VC_region ?_
  have hzs1 := hS.size
  refine VL_box (d := 7) (t := 22) (c := #[.int .u8 (here 0), .int .u8 (here 1), .int .u8 (here 2), .int .u8 (here 3), .int .u8 (here 4), .int .u8 (here 5), .int .u8 (here 6), .int .u8 (here 7), .int .u8 (here 8), .int .u8 (here 9), .int .u8 (here 10), .int .u8 (here 11), .int .u8 (here 12), .int .u8 (here 13), .int .u8 (here 14), .int .u8 (here 15)]) (by kernel_rfl) (by kernel_rfl) ?_
  intro b1 w1 hn1
  replace hS := Step.trans hS (hn1.step No)
  have ho1 := hn1.own
  have hzhn1 := hn1.size
  have hqhn1 := hn1.eqb
  have hzs2 := hS.size
  have hzl1 := ho1.lt
  refine VL_box (d := 10) (t := 31) (c := #[.int .i64 o.k, .int .u8 o.d, .bool o.a, .int .u32 o.tg, .int .u8 (o.p 0), .int .u8 (o.p 1), .int .u8 (o.p 2), .int .u8 (o.p 3), .int .u8 (o.p 4), .int .u8 (o.p 5), .int .u8 (o.p 6), .int .u8 (o.p 7), .int .u8 (o.p 8), .int .u8 (o.p 9), .int .u8 (o.p 10), .int .u8 (o.p 11), .int .u8 (o.p 12), .int .u8 (o.p 13), .int .u8 (o.p 14), .int .u8 (o.p 15), .int .u8 (o.s 0), .int .u8 (o.s 1), .int .u8 (o.s 2), .int .u8 (o.s 3), .int .u8 (o.s 4), .int .u8 (o.s 5), .int .u8 (o.s 6), .int .u8 (o.s 7), .int .u8 (o.s 8), .int .u8 (o.s 9), .int .u8 (o.s 10), .int .u8 (o.s 11), .int .u8 (o.s 12), .int .u8 (o.s 13), .int .u8 (o.s 14), .int .u8 (o.s 15)]) (by kernel_rfl) (by kernel_rfl) ?_
  intro b2 w2 hn2
  replace hS := Step.trans hS (hn2.step No)
  replace ho1 := ho1.no (hn2.step No)
  have ho2 := hn2.own
  have hzhn2 := hn2.size
  have hqhn2 := hn2.eqb
  refine VL_pure 3 [1, 2, 4, 5, 6, 7, 10] [(1, .int .u32 wait), (2, .slice A n cc), (4, .int .u32 t), (5, .int .u32 u), (6, .int .i64 at_), (7, .pointer (some ⟨b1, 0, none⟩)), (10, .pointer (some ⟨b2, 0, none⟩))] (by kernel_rfl) rfl ?_
  refine VL_end (by kernel_rfl) ?_
  refine VQ_next ?_
  refine VC_seq ?_
  refine VC_seq ?_
  refine VC_region ?_
  have hzs3 := hS.size
  have hzl2 := ho1.lt
  have hzl3 := ho2.lt
  refine VL_call (d := 27) (f := 9) (args := #[]) (by kernel_rfl) (by kernel_rfl) (by kernel_rfl) Try.call9 (awake_any _) ?_
  rintro _ w3 ⟨rfl, hc1⟩
  replace hS := Step.trans hS hc1
  replace ho1 := ho1.no hc1
  replace ho2 := ho2.no hc1
  refine VL_pure 8 [1, 2, 4, 5, 6, 7, 10, 34] [(1, .int .u32 wait), (2, .slice A n cc), (4, .int .u32 t), (5, .int .u32 u), (6, .int .i64 at_), (7, .pointer (some ⟨b1, 0, none⟩)), (10, .pointer (some ⟨b2, 0, none⟩)), (34, .bool (decide (((n : Nat) : Int) > 100)))] (by kernel_rfl) rfl ?_
  refine VL_dec (((n : Nat) : Int) > 100) (fun b => [(1, .int .u32 wait), (2, .slice A n cc), (4, .int .u32 t), (5, .int .u32 u), (6, .int .i64 at_), (7, .pointer (some ⟨b1, 0, none⟩)), (10, .pointer (some ⟨b2, 0, none⟩)), (34, .bool b)]) rfl (fun hg1 => ?_) (fun hg1 => ?_)
  · refine VL_pure 12 [1, 2, 4, 5, 6, 7, 10, 38] [(1, .int .u32 wait), (2, .slice A n cc), (4, .int .u32 t), (5, .int .u32 u), (6, .int .i64 at_), (7, .pointer (some ⟨b1, 0, none⟩)), (10, .pointer (some ⟨b2, 0, none⟩)), (38, .bool true)] (by kernel_rfl) rfl ?_
    refine VL_end (by kernel_rfl) ?_
    refine VQ_next ?_
    refine VC_true (by kernel_rfl) ?_
    refine VC_seq ?_
    refine VC_region ?_
    have hzs4 := hS.size
    have hzl4 := ho1.lt
    have hzl5 := ho2.lt
    refine VL_call (d := 39) (f := 9) (args := #[]) (by kernel_rfl) (by kernel_rfl) (by kernel_rfl) Try.call9 (awake_any _) ?_
    rintro _ w4 ⟨rfl, hc2⟩
    replace hS := Step.trans hS hc2
    replace ho1 := ho1.no hc2
    replace ho2 := ho2.no hc2
    refine VL_pure 2 [14] [(14, .bool true)] (by kernel_rfl) rfl ?_
    refine VL_end (by kernel_rfl) ?_
    refine VQ_next ?_
    refine VC_ret ?_
    refine VQ_then_ret ?_
    refine VQ_ret1 (.bool true) (.inr rfl) rfl rfl ?_
    exact ⟨rfl, hS⟩
  · refine VL_pure 9 [1, 2, 4, 5, 6, 7, 10, 34, 35] [(1, .int .u32 wait), (2, .slice A n cc), (4, .int .u32 t), (5, .int .u32 u), (6, .int .i64 at_), (7, .pointer (some ⟨b1, 0, none⟩)), (10, .pointer (some ⟨b2, 0, none⟩)), (34, .bool false), (35, .pointer (some ⟨b2, 0, none⟩))] (by kernel_rfl) rfl ?_
    refine VL_load (d := 36) (t := 3) (a := ⟨b2, 0, none⟩) (v := .int .i64 o.k) (by kernel_rfl) (by kernel_rfl) (Loads.own1 ho2 (by kernel_rfl) (by rfl)) ?_
    refine VL_pure 12 [1, 2, 4, 5, 6, 7, 10, 38] [(1, .int .u32 wait), (2, .slice A n cc), (4, .int .u32 t), (5, .int .u32 u), (6, .int .i64 at_), (7, .pointer (some ⟨b1, 0, none⟩)), (10, .pointer (some ⟨b2, 0, none⟩)), (38, .bool (o.k == 8))] (by kernel_rfl) rfl ?_
    refine VL_end (by kernel_rfl) ?_
    refine VQ_next ?_
    refine VC_eq o.k 8 (by kernel_rfl) (fun h1 => ?_) (fun h1 => ?_)
    · refine VC_seq ?_
      refine VC_region ?_
      have hzs5 := hS.size
      have hzl6 := ho1.lt
      have hzl7 := ho2.lt
      refine VL_call (d := 39) (f := 9) (args := #[]) (by kernel_rfl) (by kernel_rfl) (by kernel_rfl) Try.call9 (awake_any _) ?_
      rintro _ w5 ⟨rfl, hc3⟩
      replace hS := Step.trans hS hc3
      replace ho1 := ho1.no hc3
      replace ho2 := ho2.no hc3
      refine VL_pure 2 [14] [(14, .bool true)] (by kernel_rfl) rfl ?_
      refine VL_end (by kernel_rfl) ?_
      refine VQ_next ?_
      refine VC_ret ?_
      refine VQ_then_ret ?_
      refine VQ_ret1 (.bool true) (.inr rfl) rfl rfl ?_
      exact ⟨rfl, hS⟩
    · refine VC_skip ?_
      refine VQ_next ?_
      refine VC_seq ?_
      have hzs6 := hS.size
      have hzl8 := ho1.lt
      have hzl9 := ho2.lt
      refine VC_ex [[], [], [1], [], [0, 1, 2, 3], [], [], [6], [], [0, 1, 2, 3, 4, 5, 6, 7, 8], [0, 1, 2, 3, 4, 5, 6, 7, 8, 9], [0, 1, 2, 3, 4, 5, 6, 7, 8, 9, 10]] 9 [.agg #[.int .u8 (here 0), .int .u8 (here 1), .int .u8 (here 2), .int .u8 (here 3), .int .u8 (here 4), .int .u8 (here 5), .int .u8 (here 6), .int .u8 (here 7), .int .u8 (here 8), .int .u8 (here 9), .int .u8 (here 10), .int .u8 (here 11), .int .u8 (here 12), .int .u8 (here 13), .int .u8 (here 14), .int .u8 (here 15)], .int .u32 wait, .int .i64 (IntKind.wrap .i64 wait), .slice A n cc, undef, .agg #[.int .u8 (here 0), .int .u8 (here 1), .int .u8 (here 2), .int .u8 (here 3), .int .u8 (here 4), .int .u8 (here 5), .int .u8 (here 6), .int .u8 (here 7), .int .u8 (here 8), .int .u8 (here 9), .int .u8 (here 10), .int .u8 (here 11), .int .u8 (here 12), .int .u8 (here 13), .int .u8 (here 14), .int .u8 (here 15)], .int .u32 wait, .int .i64 (IntKind.wrap .i64 wait), .slice A n cc] [1, 2, 3, 6, 7, 8] [0, 5] [4] (fun _ v x => ∃ b, v = .pointer (some ⟨b, 0, none⟩) ∧ ¬ b < w3.heap.size ∧ Own x b (alC (walkA here (IntKind.wrap .i64 wait) q n)) 62) (by kernel_rfl) (by kernel_rfl) (by kernel_rfl) (fun _ _ _ _ ⟨b, h1, h2, h3⟩ hs => ⟨b, h1, h2, h3.no hs⟩) (by kernel_rfl) (by kernel_rfl) (by kernel_rfl) (by kernel_rfl) ?_ ?_ ?_
      · intro w7 hs2
        replace hS := Step.trans hS hs2
        replace ho1 := ho1.no hs2
        replace ho2 := ho2.no hs2
        exact ⟨Det1_load (d := 40) (t := 22) (a := ⟨b1, 0, none⟩) (by kernel_rfl) (by kernel_rfl) (Loads.ownL ho1 (n := 16) (by kernel_rfl) (by kernel_rfl) (by kernel_rfl)), Det1_load (d := 45) (t := 22) (a := ⟨b1, 0, none⟩) (by kernel_rfl) (by kernel_rfl) (Loads.ownL ho1 (n := 16) (by kernel_rfl) (by kernel_rfl) (by kernel_rfl)), trivial⟩
      · intro w7 hs2
        have hzx := hs2.size
        replace hS := Step.trans hS hs2
        replace ho1 := ho1.no hs2
        replace ho2 := ho2.no hs2
        exact ⟨Ex1_call (d := 44) (f := 21) (by kernel_rfl) (by kernel_rfl) (by kernel_rfl) Try.call21 (walked_any here (IntKind.wrap .i64 wait) A n cc q _ (hA.no hS) (by omega)) (fun v w1 ⟨b, h1, h2, h3, h4⟩ => ⟨h4, b, h1, by omega, h3⟩), trivial⟩
      intro w8 us1 hs3 hB1
      obtain ⟨⟨ab1, heab1, hfab1, ht1⟩, -⟩ := hB1
      replace hS := Step.trans hS hs3
      replace ho1 := ho1.no hs3
      replace ho2 := ho2.no hs3
      refine VL_keep [1, 4, 5, 6, 10, 44, 45, 47, 48] [(1, .int .u32 wait), (4, .int .u32 t), (5, .int .u32 u), (6, .int .i64 at_), (10, .pointer (some ⟨b2, 0, none⟩)), (44, us1 4), (45, .agg #[.int .u8 (here 0), .int .u8 (here 1), .int .u8 (here 2), .int .u8 (here 3), .int .u8 (here 4), .int .u8 (here 5), .int .u8 (here 6), .int .u8 (here 7), .int .u8 (here 8), .int .u8 (here 9), .int .u8 (here 10), .int .u8 (here 11), .int .u8 (here 12), .int .u8 (here 13), .int .u8 (here 14), .int .u8 (here 15)]), (47, .int .i64 (IntKind.wrap .i64 wait)), (48, .slice A n cc)] (by kernel_rfl) ?_
      rw [heab1]
      have hzab1 := ht1.lt
      have hzs7 := hS.size
      have hzl10 := ho1.lt
      have hzl11 := ho2.lt
      have hzl12 := ht1.lt
      refine VL_call (d := 49) (f := 21) (by kernel_rfl) (by kernel_rfl) (by kernel_rfl) Try.call21 (walked_any here (IntKind.wrap .i64 wait) A n cc q _ (hA.no hS) (by omega)) ?_
      rintro _ w9 ⟨ab2, rfl, hfab2, ht2, hc4⟩
      replace hS := Step.trans hS hc4
      replace ho1 := ho1.no hc4
      replace ho2 := ho2.no hc4
      replace ht1 := ht1.no hc4
      have hzab2 := ht2.lt
      refine VL_pure 12 [1, 4, 5, 6, 10, 15, 16] [(1, .int .u32 wait), (4, .int .u32 t), (5, .int .u32 u), (6, .int .i64 at_), (10, .pointer (some ⟨b2, 0, none⟩)), (15, .pointer (some ⟨ab1, 0, none⟩)), (16, .pointer (some ⟨ab2, 0, none⟩))] (by kernel_rfl) rfl ?_
      refine VL_end (by kernel_rfl) ?_
      refine VQ_next ?_
      refine VC_seq ?_
      refine VC_region ?_
      refine VL_load (d := 50) (t := 31) (a := ⟨b2, 0, none⟩) (v := .agg #[.int .i64 o.k, .int .u8 o.d, .bool o.a, .int .u32 o.tg, .int .u8 (o.p 0), .int .u8 (o.p 1), .int .u8 (o.p 2), .int .u8 (o.p 3), .int .u8 (o.p 4), .int .u8 (o.p 5), .int .u8 (o.p 6), .int .u8 (o.p 7), .int .u8 (o.p 8), .int .u8 (o.p 9), .int .u8 (o.p 10), .int .u8 (o.p 11), .int .u8 (o.p 12), .int .u8 (o.p 13), .int .u8 (o.p 14), .int .u8 (o.p 15), .int .u8 (o.s 0), .int .u8 (o.s 1), .int .u8 (o.s 2), .int .u8 (o.s 3), .int .u8 (o.s 4), .int .u8 (o.s 5), .int .u8 (o.s 6), .int .u8 (o.s 7), .int .u8 (o.s 8), .int .u8 (o.s 9), .int .u8 (o.s 10), .int .u8 (o.s 11), .int .u8 (o.s 12), .int .u8 (o.s 13), .int .u8 (o.s 14), .int .u8 (o.s 15)]) (by kernel_rfl) (by kernel_rfl) (Loads.ownL ho2 (n := 36) (by kernel_rfl) (by kernel_rfl) (by kernel_rfl)) ?_
      have hzs8 := hS.size
      have hzl13 := ho1.lt
      have hzl14 := ho2.lt
      have hzl15 := ht1.lt
      have hzl16 := ht2.lt
      refine VL_box (d := 17) (t := 34) (c := #[.int .i64 0, .int .u8 0, .bool false, .int .u32 0, .int .u8 0, .int .u8 0, .int .u8 0, .int .u8 0, .int .u8 0, .int .u8 0, .int .u8 0, .int .u8 0, .int .u8 0, .int .u8 0, .int .u8 0, .int .u8 0, .int .u8 0, .int .u8 0, .int .u8 0, .int .u8 0, .int .u8 0, .int .u8 0, .int .u8 0, .int .u8 0, .int .u8 0, .int .u8 0, .int .u8 0, .int .u8 0, .int .u8 0, .int .u8 0, .int .u8 0, .int .u8 0, .int .u8 0, .int .u8 0, .int .u8 0, .int .u8 0]) (by kernel_rfl) (by kernel_rfl) ?_
      intro b3 w10 hn3
      replace hS := Step.trans hS (hn3.step No)
      replace ho1 := ho1.no (hn3.step No)
      replace ho2 := ho2.no (hn3.step No)
      replace ht1 := ht1.no (hn3.step No)
      replace ht2 := ht2.no (hn3.step No)
      have ho3 := hn3.own
      have hzhn3 := hn3.size
      have hqhn3 := hn3.eqb
      refine VL_store (b := b3) (o := 0) (vs := [.int .i64 o.k, .int .u8 o.d, .bool o.a, .int .u32 o.tg, .int .u8 (o.p 0), .int .u8 (o.p 1), .int .u8 (o.p 2), .int .u8 (o.p 3), .int .u8 (o.p 4), .int .u8 (o.p 5), .int .u8 (o.p 6), .int .u8 (o.p 7), .int .u8 (o.p 8), .int .u8 (o.p 9), .int .u8 (o.p 10), .int .u8 (o.p 11), .int .u8 (o.p 12), .int .u8 (o.p 13), .int .u8 (o.p 14), .int .u8 (o.p 15), .int .u8 (o.s 0), .int .u8 (o.s 1), .int .u8 (o.s 2), .int .u8 (o.s 3), .int .u8 (o.s 4), .int .u8 (o.s 5), .int .u8 (o.s 6), .int .u8 (o.s 7), .int .u8 (o.s 8), .int .u8 (o.s 9), .int .u8 (o.s 10), .int .u8 (o.s 11), .int .u8 (o.s 12), .int .u8 (o.s 13), .int .u8 (o.s 14), .int .u8 (o.s 15)]) (by kernel_rfl) (by kernel_rfl) ho3 (Nat.le_of_ble_eq_true (by kernel_rfl)) ?_
      intro w11 hw1
      replace hS := Step.transNew hS hw1.step (fun _ _ _ => by omega)
      replace ho1 := ho1.step hw1.step (show ¬ b1 = b3 by omega)
      replace ho2 := ho2.step hw1.step (show ¬ b2 = b3 by omega)
      replace ht1 := ht1.step hw1.step (show ¬ ab1 = b3 by omega)
      replace ht2 := ht2.step hw1.step (show ¬ ab2 = b3 by omega)
      have ho4 : Own w11 b3 #[.int .i64 o.k, .int .u8 o.d, .bool o.a, .int .u32 o.tg, .int .u8 (o.p 0), .int .u8 (o.p 1), .int .u8 (o.p 2), .int .u8 (o.p 3), .int .u8 (o.p 4), .int .u8 (o.p 5), .int .u8 (o.p 6), .int .u8 (o.p 7), .int .u8 (o.p 8), .int .u8 (o.p 9), .int .u8 (o.p 10), .int .u8 (o.p 11), .int .u8 (o.p 12), .int .u8 (o.p 13), .int .u8 (o.p 14), .int .u8 (o.p 15), .int .u8 (o.s 0), .int .u8 (o.s 1), .int .u8 (o.s 2), .int .u8 (o.s 3), .int .u8 (o.s 4), .int .u8 (o.s 5), .int .u8 (o.s 6), .int .u8 (o.s 7), .int .u8 (o.s 8), .int .u8 (o.s 9), .int .u8 (o.s 10), .int .u8 (o.s 11), .int .u8 (o.s 12), .int .u8 (o.s 13), .int .u8 (o.s 14), .int .u8 (o.s 15)] 34 := Own.cast hw1.own (by kernel_rfl)
      have hzhw1 := hw1.same
      refine VL_end (by kernel_rfl) ?_
      refine VQ_next ?_
      refine VC_seq ?_
      refine VC_region ?_
      refine VL_pure 3 [1, 4, 5, 6, 10, 15, 16, 17, 51, 53] [(1, .int .u32 wait), (4, .int .u32 t), (5, .int .u32 u), (6, .int .i64 at_), (10, .pointer (some ⟨b2, 0, none⟩)), (15, .pointer (some ⟨ab1, 0, none⟩)), (16, .pointer (some ⟨ab2, 0, none⟩)), (17, .pointer (some ⟨b3, 0, none⟩)), (51, .pointer (some ⟨ab1, 0, none⟩)), (53, .int .i64 (IntKind.wrap .i64 t))] (by kernel_rfl) rfl ?_
      refine VL_load (d := 54) (t := 34) (a := ⟨b3, 0, none⟩) (v := .agg #[.int .i64 o.k, .int .u8 o.d, .bool o.a, .int .u32 o.tg, .int .u8 (o.p 0), .int .u8 (o.p 1), .int .u8 (o.p 2), .int .u8 (o.p 3), .int .u8 (o.p 4), .int .u8 (o.p 5), .int .u8 (o.p 6), .int .u8 (o.p 7), .int .u8 (o.p 8), .int .u8 (o.p 9), .int .u8 (o.p 10), .int .u8 (o.p 11), .int .u8 (o.p 12), .int .u8 (o.p 13), .int .u8 (o.p 14), .int .u8 (o.p 15), .int .u8 (o.s 0), .int .u8 (o.s 1), .int .u8 (o.s 2), .int .u8 (o.s 3), .int .u8 (o.s 4), .int .u8 (o.s 5), .int .u8 (o.s 6), .int .u8 (o.s 7), .int .u8 (o.s 8), .int .u8 (o.s 9), .int .u8 (o.s 10), .int .u8 (o.s 11), .int .u8 (o.s 12), .int .u8 (o.s 13), .int .u8 (o.s 14), .int .u8 (o.s 15)]) (by kernel_rfl) (by kernel_rfl) (Loads.ownL ho4 (n := 36) (by kernel_rfl) (by kernel_rfl) (by kernel_rfl)) ?_
      have hzs9 := hS.size
      have hzl17 := ho1.lt
      have hzl18 := ho2.lt
      have hzl19 := ht1.lt
      have hzl20 := ht2.lt
      have hzl21 := ho4.lt
      refine VL_call (d := 55) (f := 12) (by kernel_rfl) (by kernel_rfl) (by kernel_rfl) Try.call12 (got_any ab1 (walkA here (IntKind.wrap .i64 wait) q n) _ ht1 (IntKind.wrap .i64 t) o (walkA_waits _ _ _ _) hp) ?_
      rintro _ w12 ⟨rfl, ht3, hc5⟩
      replace hS := Step.transNew hS hc5 (fun _ _ _ => by omega)
      replace ho1 := ho1.step hc5 (show ¬ b1 = ab1 by omega)
      replace ho2 := ho2.step hc5 (show ¬ b2 = ab1 by omega)
      replace ht2 := ht2.step hc5 (show ¬ ab2 = ab1 by omega)
      replace ho4 := ho4.step hc5 (show ¬ b3 = ab1 by omega)
      have hzht3 := ht3.lt
      refine VL_end (by kernel_rfl) ?_
      refine VQ_next ?_
      refine VC_seq ?_
      refine VC_region ?_
      refine VL_pure 3 [1, 4, 5, 6, 10, 15, 16, 17, 56, 58] [(1, .int .u32 wait), (4, .int .u32 t), (5, .int .u32 u), (6, .int .i64 at_), (10, .pointer (some ⟨b2, 0, none⟩)), (15, .pointer (some ⟨ab1, 0, none⟩)), (16, .pointer (some ⟨ab2, 0, none⟩)), (17, .pointer (some ⟨b3, 0, none⟩)), (56, .pointer (some ⟨ab2, 0, none⟩)), (58, .int .i64 (IntKind.wrap .i64 t))] (by kernel_rfl) rfl ?_
      refine VL_load (d := 59) (t := 34) (a := ⟨b3, 0, none⟩) (v := .agg #[.int .i64 o.k, .int .u8 o.d, .bool o.a, .int .u32 o.tg, .int .u8 (o.p 0), .int .u8 (o.p 1), .int .u8 (o.p 2), .int .u8 (o.p 3), .int .u8 (o.p 4), .int .u8 (o.p 5), .int .u8 (o.p 6), .int .u8 (o.p 7), .int .u8 (o.p 8), .int .u8 (o.p 9), .int .u8 (o.p 10), .int .u8 (o.p 11), .int .u8 (o.p 12), .int .u8 (o.p 13), .int .u8 (o.p 14), .int .u8 (o.p 15), .int .u8 (o.s 0), .int .u8 (o.s 1), .int .u8 (o.s 2), .int .u8 (o.s 3), .int .u8 (o.s 4), .int .u8 (o.s 5), .int .u8 (o.s 6), .int .u8 (o.s 7), .int .u8 (o.s 8), .int .u8 (o.s 9), .int .u8 (o.s 10), .int .u8 (o.s 11), .int .u8 (o.s 12), .int .u8 (o.s 13), .int .u8 (o.s 14), .int .u8 (o.s 15)]) (by kernel_rfl) (by kernel_rfl) (Loads.ownL ho4 (n := 36) (by kernel_rfl) (by kernel_rfl) (by kernel_rfl)) ?_
      have hzs10 := hS.size
      have hzl22 := ho1.lt
      have hzl23 := ho2.lt
      have hzl24 := ht2.lt
      have hzl25 := ho4.lt
      have hzl26 := ht3.lt
      refine VL_call (d := 60) (f := 12) (by kernel_rfl) (by kernel_rfl) (by kernel_rfl) Try.call12 (got_any ab2 (walkA here (IntKind.wrap .i64 wait) q n) _ ht2 (IntKind.wrap .i64 t) o (walkA_waits _ _ _ _) hp) ?_
      rintro _ w13 ⟨rfl, ht4, hc6⟩
      replace hS := Step.transNew hS hc6 (fun _ _ _ => by omega)
      replace ho1 := ho1.step hc6 (show ¬ b1 = ab2 by omega)
      replace ho2 := ho2.step hc6 (show ¬ b2 = ab2 by omega)
      replace ho4 := ho4.step hc6 (show ¬ b3 = ab2 by omega)
      replace ht3 := ht3.step hc6 (show ¬ ab1 = ab2 by omega)
      have hzht4 := ht4.lt
      refine VL_end (by kernel_rfl) ?_
      refine VQ_next ?_
      refine VC_seq ?_
      refine VC_region ?_
      refine VL_pure 3 [1, 4, 5, 6, 10, 15, 16, 17, 61, 63] [(1, .int .u32 wait), (4, .int .u32 t), (5, .int .u32 u), (6, .int .i64 at_), (10, .pointer (some ⟨b2, 0, none⟩)), (15, .pointer (some ⟨ab1, 0, none⟩)), (16, .pointer (some ⟨ab2, 0, none⟩)), (17, .pointer (some ⟨b3, 0, none⟩)), (61, .pointer (some ⟨ab2, 0, none⟩)), (63, .int .i64 (IntKind.wrap .i64 t))] (by kernel_rfl) rfl ?_
      refine VL_load (d := 64) (t := 34) (a := ⟨b3, 0, none⟩) (v := .agg #[.int .i64 o.k, .int .u8 o.d, .bool o.a, .int .u32 o.tg, .int .u8 (o.p 0), .int .u8 (o.p 1), .int .u8 (o.p 2), .int .u8 (o.p 3), .int .u8 (o.p 4), .int .u8 (o.p 5), .int .u8 (o.p 6), .int .u8 (o.p 7), .int .u8 (o.p 8), .int .u8 (o.p 9), .int .u8 (o.p 10), .int .u8 (o.p 11), .int .u8 (o.p 12), .int .u8 (o.p 13), .int .u8 (o.p 14), .int .u8 (o.p 15), .int .u8 (o.s 0), .int .u8 (o.s 1), .int .u8 (o.s 2), .int .u8 (o.s 3), .int .u8 (o.s 4), .int .u8 (o.s 5), .int .u8 (o.s 6), .int .u8 (o.s 7), .int .u8 (o.s 8), .int .u8 (o.s 9), .int .u8 (o.s 10), .int .u8 (o.s 11), .int .u8 (o.s 12), .int .u8 (o.s 13), .int .u8 (o.s 14), .int .u8 (o.s 15)]) (by kernel_rfl) (by kernel_rfl) (Loads.ownL ho4 (n := 36) (by kernel_rfl) (by kernel_rfl) (by kernel_rfl)) ?_
      have hzs11 := hS.size
      have hzl27 := ho1.lt
      have hzl28 := ho2.lt
      have hzl29 := ho4.lt
      have hzl30 := ht3.lt
      have hzl31 := ht4.lt
      refine VL_call (d := 65) (f := 12) (by kernel_rfl) (by kernel_rfl) (by kernel_rfl) Try.call12 (got_any ab2 (gotA (walkA here (IntKind.wrap .i64 wait) q n) (IntKind.wrap .i64 t) o) _ ht4 (IntKind.wrap .i64 t) o (waits_got (walkA_waits _ _ _ _) _ _) hp) ?_
      rintro _ w14 ⟨rfl, ht5, hc7⟩
      replace hS := Step.transNew hS hc7 (fun _ _ _ => by omega)
      replace ho1 := ho1.step hc7 (show ¬ b1 = ab2 by omega)
      replace ho2 := ho2.step hc7 (show ¬ b2 = ab2 by omega)
      replace ho4 := ho4.step hc7 (show ¬ b3 = ab2 by omega)
      replace ht3 := ht3.step hc7 (show ¬ ab1 = ab2 by omega)
      have hzht5 := ht5.lt
      refine VL_end (by kernel_rfl) ?_
      refine VQ_next ?_
      refine VC_seq ?_
      refine VC_region ?_
      refine VL_pure 2 [1, 4, 5, 6, 10, 15, 16, 17, 67, 68] [(1, .int .u32 wait), (4, .int .u32 t), (5, .int .u32 u), (6, .int .i64 at_), (10, .pointer (some ⟨b2, 0, none⟩)), (15, .pointer (some ⟨ab1, 0, none⟩)), (16, .pointer (some ⟨ab2, 0, none⟩)), (17, .pointer (some ⟨b3, 0, none⟩)), (67, .pointer (some ⟨ab1, 0, none⟩)), (68, .int .i64 at_)] (by kernel_rfl) rfl ?_
      have hzs12 := hS.size
      have hzl32 := ho1.lt
      have hzl33 := ho2.lt
      have hzl34 := ho4.lt
      have hzl35 := ht3.lt
      have hzl36 := ht5.lt
      refine VL_call (d := 69) (f := 16) (by kernel_rfl) (by kernel_rfl) (by kernel_rfl) Try.call16 (state_any ab1 (gotA (walkA here (IntKind.wrap .i64 wait) q n) (IntKind.wrap .i64 t) o) _ ht3 at_) ?_
      rintro _ w15 ⟨rfl, hc8⟩
      replace hS := Step.trans hS hc8
      replace ho1 := ho1.no hc8
      replace ho2 := ho2.no hc8
      replace ho4 := ho4.no hc8
      replace ht3 := ht3.no hc8
      replace ht5 := ht5.no hc8
      refine VL_pure 8 [1, 4, 5, 6, 10, 15, 16, 17, 18, 19] [(1, .int .u32 wait), (4, .int .u32 t), (5, .int .u32 u), (6, .int .i64 at_), (10, .pointer (some ⟨b2, 0, none⟩)), (15, .pointer (some ⟨ab1, 0, none⟩)), (16, .pointer (some ⟨ab2, 0, none⟩)), (17, .pointer (some ⟨b3, 0, none⟩)), (18, .bool (aheadA (gotA (walkA here (IntKind.wrap .i64 wait) q n) (IntKind.wrap .i64 t) o) at_)), (19, .bool (behindA (gotA (walkA here (IntKind.wrap .i64 wait) q n) (IntKind.wrap .i64 t) o) at_))] (by kernel_rfl) rfl ?_
      refine VL_end (by kernel_rfl) ?_
      refine VQ_next ?_
      refine VC_seq ?_
      refine VC_region ?_
      refine VL_pure 2 [1, 4, 5, 10, 15, 17, 18, 19, 73, 74] [(1, .int .u32 wait), (4, .int .u32 t), (5, .int .u32 u), (10, .pointer (some ⟨b2, 0, none⟩)), (15, .pointer (some ⟨ab1, 0, none⟩)), (17, .pointer (some ⟨b3, 0, none⟩)), (18, .bool (aheadA (gotA (walkA here (IntKind.wrap .i64 wait) q n) (IntKind.wrap .i64 t) o) at_)), (19, .bool (behindA (gotA (walkA here (IntKind.wrap .i64 wait) q n) (IntKind.wrap .i64 t) o) at_)), (73, .pointer (some ⟨ab2, 0, none⟩)), (74, .int .i64 at_)] (by kernel_rfl) rfl ?_
      have hzs13 := hS.size
      have hzl37 := ho1.lt
      have hzl38 := ho2.lt
      have hzl39 := ho4.lt
      have hzl40 := ht3.lt
      have hzl41 := ht5.lt
      refine VL_call (d := 75) (f := 16) (by kernel_rfl) (by kernel_rfl) (by kernel_rfl) Try.call16 (state_any ab2 (gotA (gotA (walkA here (IntKind.wrap .i64 wait) q n) (IntKind.wrap .i64 t) o) (IntKind.wrap .i64 t) o) _ ht5 at_) ?_
      rintro _ w16 ⟨rfl, hc9⟩
      replace hS := Step.trans hS hc9
      replace ho1 := ho1.no hc9
      replace ho2 := ho2.no hc9
      replace ho4 := ho4.no hc9
      replace ht3 := ht3.no hc9
      replace ht5 := ht5.no hc9
      rw [got_twice]
      refine VL_pure 8 [1, 4, 5, 10, 15, 17, 18, 19, 20, 21] [(1, .int .u32 wait), (4, .int .u32 t), (5, .int .u32 u), (10, .pointer (some ⟨b2, 0, none⟩)), (15, .pointer (some ⟨ab1, 0, none⟩)), (17, .pointer (some ⟨b3, 0, none⟩)), (18, .bool (aheadA (gotA (walkA here (IntKind.wrap .i64 wait) q n) (IntKind.wrap .i64 t) o) at_)), (19, .bool (behindA (gotA (walkA here (IntKind.wrap .i64 wait) q n) (IntKind.wrap .i64 t) o) at_)), (20, .bool (aheadA (gotA (walkA here (IntKind.wrap .i64 wait) q n) (IntKind.wrap .i64 t) o) at_)), (21, .bool (behindA (gotA (walkA here (IntKind.wrap .i64 wait) q n) (IntKind.wrap .i64 t) o) at_))] (by kernel_rfl) rfl ?_
      refine VL_end (by kernel_rfl) ?_
      refine VQ_next ?_
      refine VC_seq ?_
      refine VC_seq ?_
      refine VC_region ?_
      refine VL_pure 3 [1, 4, 5, 10, 15, 17, 19, 21, 80] [(1, .int .u32 wait), (4, .int .u32 t), (5, .int .u32 u), (10, .pointer (some ⟨b2, 0, none⟩)), (15, .pointer (some ⟨ab1, 0, none⟩)), (17, .pointer (some ⟨b3, 0, none⟩)), (19, .bool (behindA (gotA (walkA here (IntKind.wrap .i64 wait) q n) (IntKind.wrap .i64 t) o) at_)), (21, .bool (behindA (gotA (walkA here (IntKind.wrap .i64 wait) q n) (IntKind.wrap .i64 t) o) at_)), (80, .bool (!((aheadA (gotA (walkA here (IntKind.wrap .i64 wait) q n) (IntKind.wrap .i64 t) o) at_) == (aheadA (gotA (walkA here (IntKind.wrap .i64 wait) q n) (IntKind.wrap .i64 t) o) at_))))] (by kernel_rfl) rfl ?_
      refine VL_eq [(1, .int .u32 wait), (4, .int .u32 t), (5, .int .u32 u), (10, .pointer (some ⟨b2, 0, none⟩)), (15, .pointer (some ⟨ab1, 0, none⟩)), (17, .pointer (some ⟨b3, 0, none⟩)), (19, .bool (behindA (gotA (walkA here (IntKind.wrap .i64 wait) q n) (IntKind.wrap .i64 t) o) at_)), (21, .bool (behindA (gotA (walkA here (IntKind.wrap .i64 wait) q n) (IntKind.wrap .i64 t) o) at_)), (80, .bool false)] (by simp) ?_
      refine VL_pure 7 [1, 4, 5, 10, 15, 17, 81, 84] [(1, .int .u32 wait), (4, .int .u32 t), (5, .int .u32 u), (10, .pointer (some ⟨b2, 0, none⟩)), (15, .pointer (some ⟨ab1, 0, none⟩)), (17, .pointer (some ⟨b3, 0, none⟩)), (81, .bool false), (84, .bool (!((behindA (gotA (walkA here (IntKind.wrap .i64 wait) q n) (IntKind.wrap .i64 t) o) at_) == (behindA (gotA (walkA here (IntKind.wrap .i64 wait) q n) (IntKind.wrap .i64 t) o) at_))))] (by kernel_rfl) rfl ?_
      refine VL_eq [(1, .int .u32 wait), (4, .int .u32 t), (5, .int .u32 u), (10, .pointer (some ⟨b2, 0, none⟩)), (15, .pointer (some ⟨ab1, 0, none⟩)), (17, .pointer (some ⟨b3, 0, none⟩)), (81, .bool false), (84, .bool false)] (by simp) ?_
      refine VL_pure 8 [1, 4, 5, 10, 15, 17, 85] [(1, .int .u32 wait), (4, .int .u32 t), (5, .int .u32 u), (10, .pointer (some ⟨b2, 0, none⟩)), (15, .pointer (some ⟨ab1, 0, none⟩)), (17, .pointer (some ⟨b3, 0, none⟩)), (85, .bool false)] (by kernel_rfl) rfl ?_
      refine VL_end (by kernel_rfl) ?_
      refine VQ_next ?_
      refine VC_false (by kernel_rfl) ?_
      refine VC_skip ?_
      refine VQ_next ?_
      refine VC_seq ?_
      refine VC_seq ?_
      refine VC_region ?_
      refine VL_pure 1 [1, 4, 5, 15, 17, 86] [(1, .int .u32 wait), (4, .int .u32 t), (5, .int .u32 u), (15, .pointer (some ⟨ab1, 0, none⟩)), (17, .pointer (some ⟨b3, 0, none⟩)), (86, .pointer (some ⟨b2, 0, none⟩))] (by kernel_rfl) rfl ?_
      refine VL_load (d := 87) (t := 3) (a := ⟨b2, 0, none⟩) (v := .int .i64 o.k) (by kernel_rfl) (by kernel_rfl) (Loads.own1 ho2 (by kernel_rfl) (by rfl)) ?_
      refine VL_pure 4 [1, 4, 5, 15, 17, 89] [(1, .int .u32 wait), (4, .int .u32 t), (5, .int .u32 u), (15, .pointer (some ⟨ab1, 0, none⟩)), (17, .pointer (some ⟨b3, 0, none⟩)), (89, .bool (o.k != 0))] (by kernel_rfl) rfl ?_
      refine VL_bne o.k 0 (fun b => [(1, .int .u32 wait), (4, .int .u32 t), (5, .int .u32 u), (15, .pointer (some ⟨ab1, 0, none⟩)), (17, .pointer (some ⟨b3, 0, none⟩)), (89, .bool b)]) rfl (fun hg2 => ?_) (fun hg2 => ?_)
      · refine VL_pure 8 [1, 4, 5, 15, 17, 93] [(1, .int .u32 wait), (4, .int .u32 t), (5, .int .u32 u), (15, .pointer (some ⟨ab1, 0, none⟩)), (17, .pointer (some ⟨b3, 0, none⟩)), (93, .bool true)] (by kernel_rfl) rfl ?_
        refine VL_end (by kernel_rfl) ?_
        refine VQ_next ?_
        refine VC_true (by kernel_rfl) ?_
        refine VC_seq ?_
        refine VC_region ?_
        refine VL_pure 1 [14] [(14, .bool true)] (by kernel_rfl) rfl ?_
        refine VL_end (by kernel_rfl) ?_
        refine VQ_next ?_
        refine VC_ret ?_
        refine VQ_then_ret ?_
        refine VQ_ret1 (.bool true) (.inr rfl) rfl rfl ?_
        exact ⟨rfl, hS⟩
      · refine VL_load (d := 90) (t := 34) (a := ⟨b3, 0, none⟩) (v := .agg #[.int .i64 o.k, .int .u8 o.d, .bool o.a, .int .u32 o.tg, .int .u8 (o.p 0), .int .u8 (o.p 1), .int .u8 (o.p 2), .int .u8 (o.p 3), .int .u8 (o.p 4), .int .u8 (o.p 5), .int .u8 (o.p 6), .int .u8 (o.p 7), .int .u8 (o.p 8), .int .u8 (o.p 9), .int .u8 (o.p 10), .int .u8 (o.p 11), .int .u8 (o.p 12), .int .u8 (o.p 13), .int .u8 (o.p 14), .int .u8 (o.p 15), .int .u8 (o.s 0), .int .u8 (o.s 1), .int .u8 (o.s 2), .int .u8 (o.s 3), .int .u8 (o.s 4), .int .u8 (o.s 5), .int .u8 (o.s 6), .int .u8 (o.s 7), .int .u8 (o.s 8), .int .u8 (o.s 9), .int .u8 (o.s 10), .int .u8 (o.s 11), .int .u8 (o.s 12), .int .u8 (o.s 13), .int .u8 (o.s 14), .int .u8 (o.s 15)]) (by kernel_rfl) (by kernel_rfl) (Loads.ownL ho4 (n := 36) (by kernel_rfl) (by kernel_rfl) (by kernel_rfl)) ?_
        have hzs14 := hS.size
        have hzl42 := ho1.lt
        have hzl43 := ho2.lt
        have hzl44 := ho4.lt
        have hzl45 := ht3.lt
        have hzl46 := ht5.lt
        refine VL_call (d := 91) (f := 22) (by kernel_rfl) (by kernel_rfl) (by kernel_rfl) Try.call22 (right_any o _) ?_
        rintro _ w17 ⟨rfl, hc10⟩
        replace hS := Step.trans hS hc10
        replace ho1 := ho1.no hc10
        replace ho2 := ho2.no hc10
        replace ho4 := ho4.no hc10
        replace ht3 := ht3.no hc10
        replace ht5 := ht5.no hc10
        refine VL_pure 8 [1, 4, 5, 15, 17, 93] [(1, .int .u32 wait), (4, .int .u32 t), (5, .int .u32 u), (15, .pointer (some ⟨ab1, 0, none⟩)), (17, .pointer (some ⟨b3, 0, none⟩)), (93, .bool (!(rightO o)))] (by kernel_rfl) rfl ?_
        refine VL_end (by kernel_rfl) ?_
        refine VQ_next ?_
        refine VC_cond (!(rightO o)) (by kernel_rfl) (fun h2 => ?_) (fun h2 => ?_)
        · try simp only [Bool.and_eq_true, Bool.or_eq_true, decide_eq_true_eq, Bool.not_eq_true', decide_eq_false_iff_not, Bool.and_eq_false_iff, Bool.or_eq_false_iff, beq_iff_eq, bne_iff_ne, beq_eq_false_iff_ne, bne_eq_false_iff_eq, Bool.not_eq_eq_eq_not, Bool.not_true, Bool.not_false] at h2
          refine VC_seq ?_
          refine VC_region ?_
          refine VL_pure 1 [14] [(14, .bool true)] (by kernel_rfl) rfl ?_
          refine VL_end (by kernel_rfl) ?_
          refine VQ_next ?_
          refine VC_ret ?_
          refine VQ_then_ret ?_
          refine VQ_ret1 (.bool true) (.inr rfl) rfl rfl ?_
          exact ⟨rfl, hS⟩
        · try simp only [Bool.and_eq_true, Bool.or_eq_true, decide_eq_true_eq, Bool.not_eq_true', decide_eq_false_iff_not, Bool.and_eq_false_iff, Bool.or_eq_false_iff, beq_iff_eq, bne_iff_ne, beq_eq_false_iff_ne, bne_eq_false_iff_eq, Bool.not_eq_eq_eq_not, Bool.not_true, Bool.not_false] at h2
          refine VC_skip ?_
          refine VQ_next ?_
          refine VC_seq ?_
          refine VC_region ?_
          refine VL_pure 6 [1, 15, 17, 22] [(1, .int .u32 wait), (15, .pointer (some ⟨ab1, 0, none⟩)), (17, .pointer (some ⟨b3, 0, none⟩)), (22, .int .i64 (imax (IntKind.wrap .i64 t) (IntKind.wrap .i64 u)))] (by kernel_rfl) rfl ?_
          refine VL_end (by kernel_rfl) ?_
          refine VQ_next ?_
          refine VC_seq ?_
          refine VC_region ?_
          refine VL_pure 2 [1, 15, 17, 22, 99, 100] [(1, .int .u32 wait), (15, .pointer (some ⟨ab1, 0, none⟩)), (17, .pointer (some ⟨b3, 0, none⟩)), (22, .int .i64 (imax (IntKind.wrap .i64 t) (IntKind.wrap .i64 u))), (99, .pointer (some ⟨ab1, 0, none⟩)), (100, .int .i64 (imax (IntKind.wrap .i64 t) (IntKind.wrap .i64 u)))] (by kernel_rfl) rfl ?_
          refine VL_load (d := 101) (t := 34) (a := ⟨b3, 0, none⟩) (v := .agg #[.int .i64 o.k, .int .u8 o.d, .bool o.a, .int .u32 o.tg, .int .u8 (o.p 0), .int .u8 (o.p 1), .int .u8 (o.p 2), .int .u8 (o.p 3), .int .u8 (o.p 4), .int .u8 (o.p 5), .int .u8 (o.p 6), .int .u8 (o.p 7), .int .u8 (o.p 8), .int .u8 (o.p 9), .int .u8 (o.p 10), .int .u8 (o.p 11), .int .u8 (o.p 12), .int .u8 (o.p 13), .int .u8 (o.p 14), .int .u8 (o.p 15), .int .u8 (o.s 0), .int .u8 (o.s 1), .int .u8 (o.s 2), .int .u8 (o.s 3), .int .u8 (o.s 4), .int .u8 (o.s 5), .int .u8 (o.s 6), .int .u8 (o.s 7), .int .u8 (o.s 8), .int .u8 (o.s 9), .int .u8 (o.s 10), .int .u8 (o.s 11), .int .u8 (o.s 12), .int .u8 (o.s 13), .int .u8 (o.s 14), .int .u8 (o.s 15)]) (by kernel_rfl) (by kernel_rfl) (Loads.ownL ho4 (n := 36) (by kernel_rfl) (by kernel_rfl) (by kernel_rfl)) ?_
          have hzs15 := hS.size
          have hzl47 := ho1.lt
          have hzl48 := ho2.lt
          have hzl49 := ho4.lt
          have hzl50 := ht3.lt
          have hzl51 := ht5.lt
          refine VL_call (d := 102) (f := 12) (by kernel_rfl) (by kernel_rfl) (by kernel_rfl) Try.call12 (got_any ab1 (gotA (walkA here (IntKind.wrap .i64 wait) q n) (IntKind.wrap .i64 t) o) _ ht3 (imax (IntKind.wrap .i64 t) (IntKind.wrap .i64 u)) o (waits_got (walkA_waits _ _ _ _) _ _) hp) ?_
          rintro _ w18 ⟨rfl, ht6, hc11⟩
          replace hS := Step.transNew hS hc11 (fun _ _ _ => by omega)
          replace ho1 := ho1.step hc11 (show ¬ b1 = ab1 by omega)
          replace ho2 := ho2.step hc11 (show ¬ b2 = ab1 by omega)
          replace ho4 := ho4.step hc11 (show ¬ b3 = ab1 by omega)
          replace ht5 := ht5.step hc11 (show ¬ ab2 = ab1 by omega)
          have hzht6 := ht6.lt
          refine VL_end (by kernel_rfl) ?_
          refine VQ_next ?_
          refine VC_seq ?_
          refine VC_region ?_
          refine VL_pure 7 [1, 15, 22, 104, 110] [(1, .int .u32 wait), (15, .pointer (some ⟨ab1, 0, none⟩)), (22, .int .i64 (imax (IntKind.wrap .i64 t) (IntKind.wrap .i64 u))), (104, .pointer (some ⟨ab1, 0, none⟩)), (110, .int .i64 (IntKind.wrap .i64 ((IntKind.wrap .i64 ((imax (IntKind.wrap .i64 t) (IntKind.wrap .i64 u)) + (imax 1 (IntKind.wrap .i64 wait)))) - 1)))] (by kernel_rfl) rfl ?_
          have hzs16 := hS.size
          have hzl52 := ho1.lt
          have hzl53 := ho2.lt
          have hzl54 := ho4.lt
          have hzl55 := ht5.lt
          have hzl56 := ht6.lt
          refine VL_call (d := 111) (f := 16) (by kernel_rfl) (by kernel_rfl) (by kernel_rfl) Try.call16 (state_any ab1 (gotA (gotA (walkA here (IntKind.wrap .i64 wait) q n) (IntKind.wrap .i64 t) o) (imax (IntKind.wrap .i64 t) (IntKind.wrap .i64 u)) o) _ ht6 (IntKind.wrap .i64 ((IntKind.wrap .i64 ((imax (IntKind.wrap .i64 t) (IntKind.wrap .i64 u)) + (imax 1 (IntKind.wrap .i64 wait)))) - 1))) ?_
          rintro _ w19 ⟨rfl, hc12⟩
          replace hS := Step.trans hS hc12
          replace ho1 := ho1.no hc12
          replace ho2 := ho2.no hc12
          replace ho4 := ho4.no hc12
          replace ht5 := ht5.no hc12
          replace ht6 := ht6.no hc12
          rw [show aheadA (gotA (gotA (walkA here (IntKind.wrap .i64 wait) q n) (IntKind.wrap .i64 t) o) (imax (IntKind.wrap .i64 t) (IntKind.wrap .i64 u)) o) (IntKind.wrap .i64 ((IntKind.wrap .i64 ((imax (IntKind.wrap .i64 t) (IntKind.wrap .i64 u)) + (imax 1 (IntKind.wrap .i64 wait)))) - 1)) = true from (by simp only [hwq, htq, huq]; exact rep_1 (by rw [gotA_wt, walkA_wt]) h0.1 h0.2 (imax_bd t0 u0).1 (imax_bd t0 u0).2 ‹_› ‹_›)]
          refine VL_pure 13 [1, 15, 22, 23] [(1, .int .u32 wait), (15, .pointer (some ⟨ab1, 0, none⟩)), (22, .int .i64 (imax (IntKind.wrap .i64 t) (IntKind.wrap .i64 u))), (23, .bool true)] (by kernel_rfl) rfl ?_
          refine VL_end (by kernel_rfl) ?_
          refine VQ_next ?_
          refine VC_seq ?_
          refine VC_region ?_
          refine VL_pure 6 [23, 115, 120] [(23, .bool true), (115, .pointer (some ⟨ab1, 0, none⟩)), (120, .int .i64 (IntKind.wrap .i64 ((imax (IntKind.wrap .i64 t) (IntKind.wrap .i64 u)) + (imax 1 (IntKind.wrap .i64 wait)))))] (by kernel_rfl) rfl ?_
          have hzs17 := hS.size
          have hzl57 := ho1.lt
          have hzl58 := ho2.lt
          have hzl59 := ho4.lt
          have hzl60 := ht5.lt
          have hzl61 := ht6.lt
          refine VL_call (d := 121) (f := 16) (by kernel_rfl) (by kernel_rfl) (by kernel_rfl) Try.call16 (state_any ab1 (gotA (gotA (walkA here (IntKind.wrap .i64 wait) q n) (IntKind.wrap .i64 t) o) (imax (IntKind.wrap .i64 t) (IntKind.wrap .i64 u)) o) _ ht6 (IntKind.wrap .i64 ((imax (IntKind.wrap .i64 t) (IntKind.wrap .i64 u)) + (imax 1 (IntKind.wrap .i64 wait))))) ?_
          rintro _ w20 ⟨rfl, hc13⟩
          replace hS := Step.trans hS hc13
          replace ho1 := ho1.no hc13
          replace ho2 := ho2.no hc13
          replace ho4 := ho4.no hc13
          replace ht5 := ht5.no hc13
          replace ht6 := ht6.no hc13
          rw [show aheadA (gotA (gotA (walkA here (IntKind.wrap .i64 wait) q n) (IntKind.wrap .i64 t) o) (imax (IntKind.wrap .i64 t) (IntKind.wrap .i64 u)) o) (IntKind.wrap .i64 ((imax (IntKind.wrap .i64 t) (IntKind.wrap .i64 u)) + (imax 1 (IntKind.wrap .i64 wait)))) = false from (by simp only [hwq, htq, huq]; exact rep_2 (by rw [gotA_wt, walkA_wt]) h0.1 h0.2 (imax_bd t0 u0).1 (imax_bd t0 u0).2 ‹_› ‹_›)]
          refine VL_pure 12 [23, 25] [(23, .bool true), (25, .bool false)] (by kernel_rfl) rfl ?_
          refine VL_end (by kernel_rfl) ?_
          refine VQ_next ?_
          refine VC_seq ?_
          refine VC_region ?_
          refine VL_pure 6 [14] [(14, .bool true)] (by kernel_rfl) rfl ?_
          refine VL_end (by kernel_rfl) ?_
          refine VQ_next ?_
          refine VC_ret ?_
          refine VQ_ret1 (.bool true) (.inr rfl) rfl rfl ?_
          exact ⟨rfl, hS⟩

end Go.Proofs.Ytkimbomnbaogjaa
