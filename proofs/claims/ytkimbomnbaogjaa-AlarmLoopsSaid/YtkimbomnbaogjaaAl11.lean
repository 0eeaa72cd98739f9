/- Layer 21: AlarmLoops. -/
import Derived.Test.YtkimbomnbaogjaaProg
import Derived.Test.YtkimbomnbaogjaaAl5
import Derived.Test.YtkimbomnbaogjaaVc8
import Derived.Test.YtkimbomnbaogjaaAl10
import Derived.Test.YtkimbomnbaogjaaAl12
set_option linter.unusedVariables false
set_option linter.unusedSimpArgs false
namespace Go.Proofs.Ytkimbomnbaogjaa
open Go.Vc Go.RowKit

set_option maxRecDepth 20000 in
set_option maxHeartbeats 1000000 in
theorem alarmLoops_any (here : Nat → Int) (wait : Int) (A : Option Addr) (n cc : Nat) (q : Nat → OpA) (o : Om) (t : Int) (w : World) (hA : OpsAt w A n q) (hp : inByte o.p) :
    CV Try.prog 7 #[.agg #[.int .u8 (here 0), .int .u8 (here 1), .int .u8 (here 2), .int .u8 (here 3), .int .u8 (here 4), .int .u8 (here 5), .int .u8 (here 6), .int .u8 (here 7), .int .u8 (here 8), .int .u8 (here 9), .int .u8 (here 10), .int .u8 (here 11), .int .u8 (here 12), .int .u8 (here 13), .int .u8 (here 14), .int .u8 (here 15)], .int .i64 wait, .slice A n cc, .agg #[.int .i64 o.k, .int .u8 o.d, .bool o.a, .int .u32 o.tg, .int .u8 (o.p 0), .int .u8 (o.p 1), .int .u8 (o.p 2), .int .u8 (o.p 3), .int .u8 (o.p 4), .int .u8 (o.p 5), .int .u8 (o.p 6), .int .u8 (o.p 7), .int .u8 (o.p 8), .int .u8 (o.p 9), .int .u8 (o.p 10), .int .u8 (o.p 11), .int .u8 (o.p 12), .int .u8 (o.p 13), .int .u8 (o.p 14), .int .u8 (o.p 15), .int .u8 (o.s 0), .int .u8 (o.s 1), .int .u8 (o.s 2), .int .u8 (o.s 3), .int .u8 (o.s 4), .int .u8 (o.s 5), .int .u8 (o.s 6), .int .u8 (o.s 7), .int .u8 (o.s 8), .int .u8 (o.s 9), .int .u8 (o.s 10), .int .u8 (o.s 11), .int .u8 (o.s 12), .int .u8 (o.s 13), .int .u8 (o.s 14), .int .u8 (o.s 15)], .int .i64 t] w (fun x w1 => x = .bool true ∧ Step No w w1) := by
  have hS : Step No w w := Step.refl _ _
  refine CV_enter Try.f7 _ 165 [(0, .agg #[.int .u8 (here 0), .int .u8 (here 1), .int .u8 (here 2), .int .u8 (here 3), .int .u8 (here 4), .int .u8 (here 5), .int .u8 (here 6), .int .u8 (here 7), .int .u8 (here 8), .int .u8 (here 9), .int .u8 (here 10), .int .u8 (here 11), .int .u8 (here 12), .int .u8 (here 13), .int .u8 (here 14), .int .u8 (here 15)]), (1, .int .i64 wait), (2, .slice A n cc), (3, .agg #[.int .i64 o.k, .int .u8 o.d, .bool o.a, .int .u32 o.tg, .int .u8 (o.p 0), .int .u8 (o.p 1), .int .u8 (o.p 2), .int .u8 (o.p 3), .int .u8 (o.p 4), .int .u8 (o.p 5), .int .u8 (o.p 6), .int .u8 (o.p 7), .int .u8 (o.p 8), .int .u8 (o.p 9), .int .u8 (o.p 10), .int .u8 (o.p 11), .int .u8 (o.p 12), .int .u8 (o.p 13), .int .u8 (o.p 14), .int .u8 (o.p 15), .int .u8 (o.s 0), .int .u8 (o.s 1), .int .u8 (o.s 2), .int .u8 (o.s 3), .int .u8 (o.s 4), .int .u8 (o.s 5), .int .u8 (o.s 6), .int .u8 (o.s 7), .int .u8 (o.s 8), .int .u8 (o.s 9), .int .u8 (o.s 10), .int .u8 (o.s 11), .int .u8 (o.s 12), .int .u8 (o.s 13), .int .u8 (o.s 14), .int .u8 (o.s 15)]), (4, .int .i64 t)] Try.func7 rfl rfl (by kernel_rfl) rfl ?_
  refine VC_seq ?_
  refine VC_region ?_
  have hzs1 := hS.size
  refine VL_box (d := 5) (t := 22) (c := #[.int .u8 (here 0), .int .u8 (here 1), .int .u8 (here 2), .int .u8 (here 3), .int .u8 (here 4), .int .u8 (here 5), .int .u8 (here 6), .int .u8 (here 7), .int .u8 (here 8), .int .u8 (here 9), .int .u8 (here 10), .int .u8 (here 11), .int .u8 (here 12), .int .u8 (here 13), .int .u8 (here 14), .int .u8 (here 15)]) (by kernel_rfl) (by kernel_rfl) ?_
  intro b1 w1 hn1
  replace hS := Step.trans hS (hn1.step No)
  have ho1 := hn1.own
  have hzhn1 := hn1.size
  have hqhn1 := hn1.eqb
  have hzs2 := hS.size
  have hzl1 := ho1.lt
  refine VL_box (d := 8) (t := 31) (c := #[.int .i64 o.k, .int .u8 o.d, .bool o.a, .int .u32 o.tg, .int .u8 (o.p 0), .int .u8 (o.p 1), .int .u8 (o.p 2), .int .u8 (o.p 3), .int .u8 (o.p 4), .int .u8 (o.p 5), .int .u8 (o.p 6), .int .u8 (o.p 7), .int .u8 (o.p 8), .int .u8 (o.p 9), .int .u8 (o.p 10), .int .u8 (o.p 11), .int .u8 (o.p 12), .int .u8 (o.p 13), .int .u8 (o.p 14), .int .u8 (o.p 15), .int .u8 (o.s 0), .int .u8 (o.s 1), .int .u8 (o.s 2), .int .u8 (o.s 3), .int .u8 (o.s 4), .int .u8 (o.s 5), .int .u8 (o.s 6), .int .u8 (o.s 7), .int .u8 (o.s 8), .int .u8 (o.s 9), .int .u8 (o.s 10), .int .u8 (o.s 11), .int .u8 (o.s 12), .int .u8 (o.s 13), .int .u8 (o.s 14), .int .u8 (o.s 15)]) (by kernel_rfl) (by kernel_rfl) ?_
  intro b2 w2 hn2
  replace hS := Step.trans hS (hn2.step No)
  replace ho1 := ho1.no (hn2.step No)
  have ho2 := hn2.own
  have hzhn2 := hn2.size
  have hqhn2 := hn2.eqb
  refine VL_pure 3 [1, 2, 4, 5, 8] [(1, .int .i64 wait), (2, .slice A n cc), (4, .int .i64 t), (5, .pointer (some ⟨b1, 0, none⟩)), (8, .pointer (some ⟨b2, 0, none⟩))] (by kernel_rfl) rfl ?_
  refine VL_end (by kernel_rfl) ?_
  refine VQ_next ?_
  refine VC_seq ?_
  refine VC_seq ?_
  refine VC_region ?_
  have hzs3 := hS.size
  have hzl2 := ho1.lt
  have hzl3 := ho2.lt
  refine VL_call (d := 24) (f := 9) (args := #[]) (by kernel_rfl) (by kernel_rfl) (by kernel_rfl) Try.call9 (awake_any _) ?_
  rintro _ w3 ⟨rfl, hc1⟩
  replace hS := Step.trans hS hc1
  replace ho1 := ho1.no hc1
  replace ho2 := ho2.no hc1
  refine VL_pure 7 [1, 2, 4, 5, 8, 30] [(1, .int .i64 wait), (2, .slice A n cc), (4, .int .i64 t), (5, .pointer (some ⟨b1, 0, none⟩)), (8, .pointer (some ⟨b2, 0, none⟩)), (30, .bool (decide (((n : Nat) : Int) > 100)))] (by kernel_rfl) rfl ?_
  refine VL_end (by kernel_rfl) ?_
  refine VQ_next ?_
  refine VC_dec (((n : Nat) : Int) > 100) (by kernel_rfl) (fun h1 => ?_) (fun h1 => ?_)
  · refine VC_seq ?_
    refine VC_region ?_
    have hzs4 := hS.size
    have hzl4 := ho1.lt
    have hzl5 := ho2.lt
    refine VL_call (d := 31) (f := 9) (args := #[]) (by kernel_rfl) (by kernel_rfl) (by kernel_rfl) Try.call9 (awake_any _) ?_
    rintro _ w4 ⟨rfl, hc2⟩
    replace hS := Step.trans hS hc2
    replace ho1 := ho1.no hc2
    replace ho2 := ho2.no hc2
    refine VL_pure 2 [10] [(10, .bool true)] (by kernel_rfl) rfl ?_
    refine VL_end (by kernel_rfl) ?_
    refine VQ_next ?_
    refine VC_ret ?_
    refine VQ_then_ret ?_
    refine VQ_ret1 (.bool true) (.inr rfl) rfl rfl ?_
    exact ⟨rfl, hS⟩
  · refine VC_skip ?_
    refine VQ_next ?_
    refine VC_seq ?_
    refine VC_region ?_
    refine VL_load (d := 32) (t := 22) (a := ⟨b1, 0, none⟩) (v := .agg #[.int .u8 (here 0), .int .u8 (here 1), .int .u8 (here 2), .int .u8 (here 3), .int .u8 (here 4), .int .u8 (here 5), .int .u8 (here 6), .int .u8 (here 7), .int .u8 (here 8), .int .u8 (here 9), .int .u8 (here 10), .int .u8 (here 11), .int .u8 (here 12), .int .u8 (here 13), .int .u8 (here 14), .int .u8 (here 15)]) (by kernel_rfl) (by kernel_rfl) (Loads.ownL ho1 (n := 16) (by kernel_rfl) (by kernel_rfl) (by kernel_rfl)) ?_
    refine VL_pure 3 [4, 5, 8, 32, 33, 34] [(4, .int .i64 t), (5, .pointer (some ⟨b1, 0, none⟩)), (8, .pointer (some ⟨b2, 0, none⟩)), (32, .agg #[.int .u8 (here 0), .int .u8 (here 1), .int .u8 (here 2), .int .u8 (here 3), .int .u8 (here 4), .int .u8 (here 5), .int .u8 (here 6), .int .u8 (here 7), .int .u8 (here 8), .int .u8 (here 9), .int .u8 (here 10), .int .u8 (here 11), .int .u8 (here 12), .int .u8 (here 13), .int .u8 (here 14), .int .u8 (here 15)]), (33, .int .i64 wait), (34, .slice A n cc)] (by kernel_rfl) rfl ?_
    have hzs5 := hS.size
    have hzl6 := ho1.lt
    have hzl7 := ho2.lt
    refine VL_call (d := 35) (f := 21) (by kernel_rfl) (by kernel_rfl) (by kernel_rfl) Try.call21 (walked_any here wait A n cc q _ (hA.no hS) (by omega)) ?_
    rintro _ w5 ⟨ab1, rfl, hfab1, ht1, hc3⟩
    replace hS := Step.trans hS hc3
    replace ho1 := ho1.no hc3
    replace ho2 := ho2.no hc3
    have hzab1 := ht1.lt
    refine VL_pure 5 [4, 5, 8, 11] [(4, .int .i64 t), (5, .pointer (some ⟨b1, 0, none⟩)), (8, .pointer (some ⟨b2, 0, none⟩)), (11, .pointer (some ⟨ab1, 0, none⟩))] (by kernel_rfl) rfl ?_
    refine VL_end (by kernel_rfl) ?_
    refine VQ_next ?_
    refine VC_seq ?_
    refine VC_region ?_
    refine VL_pure 2 [4, 5, 8, 11, 37, 38] [(4, .int .i64 t), (5, .pointer (some ⟨b1, 0, none⟩)), (8, .pointer (some ⟨b2, 0, none⟩)), (11, .pointer (some ⟨ab1, 0, none⟩)), (37, .pointer (some ⟨ab1, 0, none⟩)), (38, .int .i64 t)] (by kernel_rfl) rfl ?_
    have hzs6 := hS.size
    have hzl8 := ho1.lt
    have hzl9 := ho2.lt
    have hzl10 := ht1.lt
    refine VL_call (d := 39) (f := 16) (by kernel_rfl) (by kernel_rfl) (by kernel_rfl) Try.call16 (state_any ab1 (walkA here wait q n) _ ht1 t) ?_
    rintro _ w6 ⟨rfl, hc4⟩
    replace hS := Step.trans hS hc4
    replace ho1 := ho1.no hc4
    replace ho2 := ho2.no hc4
    replace ht1 := ht1.no hc4
    refine VL_pure 8 [4, 5, 8, 11, 12, 13] [(4, .int .i64 t), (5, .pointer (some ⟨b1, 0, none⟩)), (8, .pointer (some ⟨b2, 0, none⟩)), (11, .pointer (some ⟨ab1, 0, none⟩)), (12, .bool (aheadA (walkA here wait q n) t)), (13, .bool (behindA (walkA here wait q n) t))] (by kernel_rfl) rfl ?_
    refine VL_end (by kernel_rfl) ?_
    refine VQ_next ?_
    refine VC_seq ?_
    refine VC_region ?_
    refine VL_pure 2 [4, 5, 8, 11, 12, 13, 43, 44] [(4, .int .i64 t), (5, .pointer (some ⟨b1, 0, none⟩)), (8, .pointer (some ⟨b2, 0, none⟩)), (11, .pointer (some ⟨ab1, 0, none⟩)), (12, .bool (aheadA (walkA here wait q n) t)), (13, .bool (behindA (walkA here wait q n) t)), (43, .pointer (some ⟨ab1, 0, none⟩)), (44, .int .i64 t)] (by kernel_rfl) rfl ?_
    refine VL_load (d := 45) (t := 31) (a := ⟨b2, 0, none⟩) (v := .agg #[.int .i64 o.k, .int .u8 o.d, .bool o.a, .int .u32 o.tg, .int .u8 (o.p 0), .int .u8 (o.p 1), .int .u8 (o.p 2), .int .u8 (o.p 3), .int .u8 (o.p 4), .int .u8 (o.p 5), .int .u8 (o.p 6), .int .u8 (o.p 7), .int .u8 (o.p 8), .int .u8 (o.p 9), .int .u8 (o.p 10), .int .u8 (o.p 11), .int .u8 (o.p 12), .int .u8 (o.p 13), .int .u8 (o.p 14), .int .u8 (o.p 15), .int .u8 (o.s 0), .int .u8 (o.s 1), .int .u8 (o.s 2), .int .u8 (o.s 3), .int .u8 (o.s 4), .int .u8 (o.s 5), .int .u8 (o.s 6), .int .u8 (o.s 7), .int .u8 (o.s 8), .int .u8 (o.s 9), .int .u8 (o.s 10), .int .u8 (o.s 11), .int .u8 (o.s 12), .int .u8 (o.s 13), .int .u8 (o.s 14), .int .u8 (o.s 15)]) (by kernel_rfl) (by kernel_rfl) (Loads.ownL ho2 (n := 36) (by kernel_rfl) (by kernel_rfl) (by kernel_rfl)) ?_
    have hzs7 := hS.size
    have hzl11 := ho1.lt
    have hzl12 := ho2.lt
    have hzl13 := ht1.lt
    refine VL_call (d := 46) (f := 12) (by kernel_rfl) (by kernel_rfl) (by kernel_rfl) Try.call12 (got_any ab1 (walkA here wait q n) _ ht1 t o (walkA_waits _ _ _ _) hp) ?_
    rintro _ w7 ⟨rfl, ht2, hc5⟩
    replace hS := Step.transNew hS hc5 (fun _ _ _ => by omega)
    replace ho1 := ho1.step hc5 (show ¬ b1 = ab1 by omega)
    replace ho2 := ho2.step hc5 (show ¬ b2 = ab1 by omega)
    have hzht2 := ht2.lt
    refine VL_pure 7 [4, 5, 8, 11, 12, 13, 47, 48] [(4, .int .i64 t), (5, .pointer (some ⟨b1, 0, none⟩)), (8, .pointer (some ⟨b2, 0, none⟩)), (11, .pointer (some ⟨ab1, 0, none⟩)), (12, .bool (aheadA (walkA here wait q n) t)), (13, .bool (behindA (walkA here wait q n) t)), (47, .agg #[.int .i64 ((gotV (walkA here wait q n) o).k), .int .u8 ((gotV (walkA here wait q n) o).d), .bool ((gotV (walkA here wait q n) o).a), .int .u32 ((gotV (walkA here wait q n) o).tg), .int .u8 (((gotV (walkA here wait q n) o).p) 0), .int .u8 (((gotV (walkA here wait q n) o).p) 1), .int .u8 (((gotV (walkA here wait q n) o).p) 2), .int .u8 (((gotV (walkA here wait q n) o).p) 3), .int .u8 (((gotV (walkA here wait q n) o).p) 4), .int .u8 (((gotV (walkA here wait q n) o).p) 5), .int .u8 (((gotV (walkA here wait q n) o).p) 6), .int .u8 (((gotV (walkA here wait q n) o).p) 7), .int .u8 (((gotV (walkA here wait q n) o).p) 8), .int .u8 (((gotV (walkA here wait q n) o).p) 9), .int .u8 (((gotV (walkA here wait q n) o).p) 10), .int .u8 (((gotV (walkA here wait q n) o).p) 11), .int .u8 (((gotV (walkA here wait q n) o).p) 12), .int .u8 (((gotV (walkA here wait q n) o).p) 13), .int .u8 (((gotV (walkA here wait q n) o).p) 14), .int .u8 (((gotV (walkA here wait q n) o).p) 15), .int .u8 (((gotV (walkA here wait q n) o).s) 0), .int .u8 (((gotV (walkA here wait q n) o).s) 1), .int .u8 (((gotV (walkA here wait q n) o).s) 2), .int .u8 (((gotV (walkA here wait q n) o).s) 3), .int .u8 (((gotV (walkA here wait q n) o).s) 4), .int .u8 (((gotV (walkA here wait q n) o).s) 5), .int .u8 (((gotV (walkA here wait q n) o).s) 6), .int .u8 (((gotV (walkA here wait q n) o).s) 7), .int .u8 (((gotV (walkA here wait q n) o).s) 8), .int .u8 (((gotV (walkA here wait q n) o).s) 9), .int .u8 (((gotV (walkA here wait q n) o).s) 10), .int .u8 (((gotV (walkA here wait q n) o).s) 11), .int .u8 (((gotV (walkA here wait q n) o).s) 12), .int .u8 (((gotV (walkA here wait q n) o).s) 13), .int .u8 (((gotV (walkA here wait q n) o).s) 14), .int .u8 (((gotV (walkA here wait q n) o).s) 15)]), (48, .bool (gotB (walkA here wait q n) o))] (by kernel_rfl) rfl ?_
    have hzs8 := hS.size
    have hzl14 := ho1.lt
    have hzl15 := ho2.lt
    have hzl16 := ht2.lt
    refine VL_box (d := 14) (t := 34) (c := #[.int .i64 0, .int .u8 0, .bool false, .int .u32 0, .int .u8 0, .int .u8 0, .int .u8 0, .int .u8 0, .int .u8 0, .int .u8 0, .int .u8 0, .int .u8 0, .int .u8 0, .int .u8 0, .int .u8 0, .int .u8 0, .int .u8 0, .int .u8 0, .int .u8 0, .int .u8 0, .int .u8 0, .int .u8 0, .int .u8 0, .int .u8 0, .int .u8 0, .int .u8 0, .int .u8 0, .int .u8 0, .int .u8 0, .int .u8 0, .int .u8 0, .int .u8 0, .int .u8 0, .int .u8 0, .int .u8 0, .int .u8 0]) (by kernel_rfl) (by kernel_rfl) ?_
    intro b3 w8 hn3
    replace hS := Step.trans hS (hn3.step No)
    replace ho1 := ho1.no (hn3.step No)
    replace ho2 := ho2.no (hn3.step No)
    replace ht2 := ht2.no (hn3.step No)
    have ho3 := hn3.own
    have hzhn3 := hn3.size
    have hqhn3 := hn3.eqb
    refine VL_store (b := b3) (o := 0) (vs := [.int .i64 ((gotV (walkA here wait q n) o).k), .int .u8 ((gotV (walkA here wait q n) o).d), .bool ((gotV (walkA here wait q n) o).a), .int .u32 ((gotV (walkA here wait q n) o).tg), .int .u8 (((gotV (walkA here wait q n) o).p) 0), .int .u8 (((gotV (walkA here wait q n) o).p) 1), .int .u8 (((gotV (walkA here wait q n) o).p) 2), .int .u8 (((gotV (walkA here wait q n) o).p) 3), .int .u8 (((gotV (walkA here wait q n) o).p) 4), .int .u8 (((gotV (walkA here wait q n) o).p) 5), .int .u8 (((gotV (walkA here wait q n) o).p) 6), .int .u8 (((gotV (walkA here wait q n) o).p) 7), .int .u8 (((gotV (walkA here wait q n) o).p) 8), .int .u8 (((gotV (walkA here wait q n) o).p) 9), .int .u8 (((gotV (walkA here wait q n) o).p) 10), .int .u8 (((gotV (walkA here wait q n) o).p) 11), .int .u8 (((gotV (walkA here wait q n) o).p) 12), .int .u8 (((gotV (walkA here wait q n) o).p) 13), .int .u8 (((gotV (walkA here wait q n) o).p) 14), .int .u8 (((gotV (walkA here wait q n) o).p) 15), .int .u8 (((gotV (walkA here wait q n) o).s) 0), .int .u8 (((gotV (walkA here wait q n) o).s) 1), .int .u8 (((gotV (walkA here wait q n) o).s) 2), .int .u8 (((gotV (walkA here wait q n) o).s) 3), .int .u8 (((gotV (walkA here wait q n) o).s) 4), .int .u8 (((gotV (walkA here wait q n) o).s) 5), .int .u8 (((gotV (walkA here wait q n) o).s) 6), .int .u8 (((gotV (walkA here wait q n) o).s) 7), .int .u8 (((gotV (walkA here wait q n) o).s) 8), .int .u8 (((gotV (walkA here wait q n) o).s) 9), .int .u8 (((gotV (walkA here wait q n) o).s) 10), .int .u8 (((gotV (walkA here wait q n) o).s) 11), .int .u8 (((gotV (walkA here wait q n) o).s) 12), .int .u8 (((gotV (walkA here wait q n) o).s) 13), .int .u8 (((gotV (walkA here wait q n) o).s) 14), .int .u8 (((gotV (walkA here wait q n) o).s) 15)]) (by kernel_rfl) (by kernel_rfl) ho3 (Nat.le_of_ble_eq_true (by kernel_rfl)) ?_
    intro w9 hw1
    replace hS := Step.transNew hS hw1.step (fun _ _ _ => by omega)
    replace ho1 := ho1.step hw1.step (show ¬ b1 = b3 by omega)
    replace ho2 := ho2.step hw1.step (show ¬ b2 = b3 by omega)
    replace ht2 := ht2.step hw1.step (show ¬ ab1 = b3 by omega)
    have ho4 : Own w9 b3 #[.int .i64 ((gotV (walkA here wait q n) o).k), .int .u8 ((gotV (walkA here wait q n) o).d), .bool ((gotV (walkA here wait q n) o).a), .int .u32 ((gotV (walkA here wait q n) o).tg), .int .u8 (((gotV (walkA here wait q n) o).p) 0), .int .u8 (((gotV (walkA here wait q n) o).p) 1), .int .u8 (((gotV (walkA here wait q n) o).p) 2), .int .u8 (((gotV (walkA here wait q n) o).p) 3), .int .u8 (((gotV (walkA here wait q n) o).p) 4), .int .u8 (((gotV (walkA here wait q n) o).p) 5), .int .u8 (((gotV (walkA here wait q n) o).p) 6), .int .u8 (((gotV (walkA here wait q n) o).p) 7), .int .u8 (((gotV (walkA here wait q n) o).p) 8), .int .u8 (((gotV (walkA here wait q n) o).p) 9), .int .u8 (((gotV (walkA here wait q n) o).p) 10), .int .u8 (((gotV (walkA here wait q n) o).p) 11), .int .u8 (((gotV (walkA here wait q n) o).p) 12), .int .u8 (((gotV (walkA here wait q n) o).p) 13), .int .u8 (((gotV (walkA here wait q n) o).p) 14), .int .u8 (((gotV (walkA here wait q n) o).p) 15), .int .u8 (((gotV (walkA here wait q n) o).s) 0), .int .u8 (((gotV (walkA here wait q n) o).s) 1), .int .u8 (((gotV (walkA here wait q n) o).s) 2), .int .u8 (((gotV (walkA here wait q n) o).s) 3), .int .u8 (((gotV (walkA here wait q n) o).s) 4), .int .u8 (((gotV (walkA here wait q n) o).s) 5), .int .u8 (((gotV (walkA here wait q n) o).s) 6), .int .u8 (((gotV (walkA here wait q n) o).s) 7), .int .u8 (((gotV (walkA here wait q n) o).s) 8), .int .u8 (((gotV (walkA here wait q n) o).s) 9), .int .u8 (((gotV (walkA here wait q n) o).s) 10), .int .u8 (((gotV (walkA here wait q n) o).s) 11), .int .u8 (((gotV (walkA here wait q n) o).s) 12), .int .u8 (((gotV (walkA here wait q n) o).s) 13), .int .u8 (((gotV (walkA here wait q n) o).s) 14), .int .u8 (((gotV (walkA here wait q n) o).s) 15)] 34 := Own.cast hw1.own (by kernel_rfl)
    have hzhw1 := hw1.same
    refine VL_pure 10 [4, 5, 8, 11, 12, 13, 14, 15] [(4, .int .i64 t), (5, .pointer (some ⟨b1, 0, none⟩)), (8, .pointer (some ⟨b2, 0, none⟩)), (11, .pointer (some ⟨ab1, 0, none⟩)), (12, .bool (aheadA (walkA here wait q n) t)), (13, .bool (behindA (walkA here wait q n) t)), (14, .pointer (some ⟨b3, 0, none⟩)), (15, .bool (gotB (walkA here wait q n) o))] (by kernel_rfl) rfl ?_
    refine VL_end (by kernel_rfl) ?_
    refine VQ_next ?_
    refine VC_seq ?_
    refine VC_region ?_
    refine VL_pure 2 [4, 5, 8, 12, 13, 14, 15, 50, 51] [(4, .int .i64 t), (5, .pointer (some ⟨b1, 0, none⟩)), (8, .pointer (some ⟨b2, 0, none⟩)), (12, .bool (aheadA (walkA here wait q n) t)), (13, .bool (behindA (walkA here wait q n) t)), (14, .pointer (some ⟨b3, 0, none⟩)), (15, .bool (gotB (walkA here wait q n) o)), (50, .pointer (some ⟨ab1, 0, none⟩)), (51, .int .i64 t)] (by kernel_rfl) rfl ?_
    have hzs9 := hS.size
    have hzl17 := ho1.lt
    have hzl18 := ho2.lt
    have hzl19 := ht2.lt
    have hzl20 := ho4.lt
    refine VL_call (d := 52) (f := 16) (by kernel_rfl) (by kernel_rfl) (by kernel_rfl) Try.call16 (state_any ab1 (gotA (walkA here wait q n) t o) _ ht2 t) ?_
    rintro _ w10 ⟨rfl, hc6⟩
    replace hS := Step.trans hS hc6
    replace ho1 := ho1.no hc6
    replace ho2 := ho2.no hc6
    replace ht2 := ht2.no hc6
    replace ho4 := ho4.no hc6
    refine VL_pure 8 [4, 5, 8, 12, 13, 14, 15, 16, 17] [(4, .int .i64 t), (5, .pointer (some ⟨b1, 0, none⟩)), (8, .pointer (some ⟨b2, 0, none⟩)), (12, .bool (aheadA (walkA here wait q n) t)), (13, .bool (behindA (walkA here wait q n) t)), (14, .pointer (some ⟨b3, 0, none⟩)), (15, .bool (gotB (walkA here wait q n) o)), (16, .bool (aheadA (gotA (walkA here wait q n) t o) t)), (17, .bool (behindA (gotA (walkA here wait q n) t o) t))] (by kernel_rfl) rfl ?_
    refine VL_end (by kernel_rfl) ?_
    refine VQ_next ?_
    refine VC_seq ?_
    refine VC_region ?_
    refine VL_pure 1 [4, 5, 8, 12, 13, 14, 15, 16, 17, 18] [(4, .int .i64 t), (5, .pointer (some ⟨b1, 0, none⟩)), (8, .pointer (some ⟨b2, 0, none⟩)), (12, .bool (aheadA (walkA here wait q n) t)), (13, .bool (behindA (walkA here wait q n) t)), (14, .pointer (some ⟨b3, 0, none⟩)), (15, .bool (gotB (walkA here wait q n) o)), (16, .bool (aheadA (gotA (walkA here wait q n) t o) t)), (17, .bool (behindA (gotA (walkA here wait q n) t o) t)), (18, .pointer none)] (by kernel_rfl) rfl ?_
    refine VL_end (by kernel_rfl) ?_
    refine VQ_next ?_
    refine VC_seq ?_
    refine VC_region ?_
    refine VL_pure 1 [4, 5, 8, 12, 13, 14, 15, 16, 17, 18, 55] [(4, .int .i64 t), (5, .pointer (some ⟨b1, 0, none⟩)), (8, .pointer (some ⟨b2, 0, none⟩)), (12, .bool (aheadA (walkA here wait q n) t)), (13, .bool (behindA (walkA here wait q n) t)), (14, .pointer (some ⟨b3, 0, none⟩)), (15, .bool (gotB (walkA here wait q n) o)), (16, .bool (aheadA (gotA (walkA here wait q n) t o) t)), (17, .bool (behindA (gotA (walkA here wait q n) t o) t)), (18, .pointer none), (55, .pointer none)] (by kernel_rfl) rfl ?_
    have hzs10 := hS.size
    have hzl21 := ho1.lt
    have hzl22 := ho2.lt
    have hzl23 := ht2.lt
    have hzl24 := ho4.lt
    refine VL_call (d := 56) (f := 15) (by kernel_rfl) (by kernel_rfl) (by kernel_rfl) Try.call15 (down_nil true _) ?_
    rintro _ w11 ⟨rfl, hc7⟩
    replace hS := Step.trans hS hc7
    replace ho1 := ho1.no hc7
    replace ho2 := ho2.no hc7
    replace ht2 := ht2.no hc7
    replace ho4 := ho4.no hc7
    refine VL_end (by kernel_rfl) ?_
    refine VQ_next ?_
    refine VC_seq ?_
    refine VC_region ?_
    refine VL_pure 2 [4, 5, 8, 12, 13, 14, 15, 16, 17, 18, 57, 58] [(4, .int .i64 t), (5, .pointer (some ⟨b1, 0, none⟩)), (8, .pointer (some ⟨b2, 0, none⟩)), (12, .bool (aheadA (walkA here wait q n) t)), (13, .bool (behindA (walkA here wait q n) t)), (14, .pointer (some ⟨b3, 0, none⟩)), (15, .bool (gotB (walkA here wait q n) o)), (16, .bool (aheadA (gotA (walkA here wait q n) t o) t)), (17, .bool (behindA (gotA (walkA here wait q n) t o) t)), (18, .pointer none), (57, .pointer none), (58, .int .i64 t)] (by kernel_rfl) rfl ?_
    have hzs11 := hS.size
    have hzl25 := ho1.lt
    have hzl26 := ho2.lt
    have hzl27 := ht2.lt
    have hzl28 := ho4.lt
    refine VL_call (d := 59) (f := 14) (by kernel_rfl) (by kernel_rfl) (by kernel_rfl) Try.call14 (user_nil t _) ?_
    rintro _ w12 ⟨rfl, hc8⟩
    replace hS := Step.trans hS hc8
    replace ho1 := ho1.no hc8
    replace ho2 := ho2.no hc8
    replace ht2 := ht2.no hc8
    replace ho4 := ho4.no hc8
    refine VL_end (by kernel_rfl) ?_
    refine VQ_next ?_
    refine VC_seq ?_
    refine VC_region ?_
    refine VL_pure 2 [4, 5, 8, 12, 13, 14, 15, 16, 17, 18, 61, 62] [(4, .int .i64 t), (5, .pointer (some ⟨b1, 0, none⟩)), (8, .pointer (some ⟨b2, 0, none⟩)), (12, .bool (aheadA (walkA here wait q n) t)), (13, .bool (behindA (walkA here wait q n) t)), (14, .pointer (some ⟨b3, 0, none⟩)), (15, .bool (gotB (walkA here wait q n) o)), (16, .bool (aheadA (gotA (walkA here wait q n) t o) t)), (17, .bool (behindA (gotA (walkA here wait q n) t o) t)), (18, .pointer none), (61, .pointer none), (62, .int .i64 t)] (by kernel_rfl) rfl ?_
    refine VL_load (d := 63) (t := 31) (a := ⟨b2, 0, none⟩) (v := .agg #[.int .i64 o.k, .int .u8 o.d, .bool o.a, .int .u32 o.tg, .int .u8 (o.p 0), .int .u8 (o.p 1), .int .u8 (o.p 2), .int .u8 (o.p 3), .int .u8 (o.p 4), .int .u8 (o.p 5), .int .u8 (o.p 6), .int .u8 (o.p 7), .int .u8 (o.p 8), .int .u8 (o.p 9), .int .u8 (o.p 10), .int .u8 (o.p 11), .int .u8 (o.p 12), .int .u8 (o.p 13), .int .u8 (o.p 14), .int .u8 (o.p 15), .int .u8 (o.s 0), .int .u8 (o.s 1), .int .u8 (o.s 2), .int .u8 (o.s 3), .int .u8 (o.s 4), .int .u8 (o.s 5), .int .u8 (o.s 6), .int .u8 (o.s 7), .int .u8 (o.s 8), .int .u8 (o.s 9), .int .u8 (o.s 10), .int .u8 (o.s 11), .int .u8 (o.s 12), .int .u8 (o.s 13), .int .u8 (o.s 14), .int .u8 (o.s 15)]) (by kernel_rfl) (by kernel_rfl) (Loads.ownL ho2 (n := 36) (by kernel_rfl) (by kernel_rfl) (by kernel_rfl)) ?_
    have hzs12 := hS.size
    have hzl29 := ho1.lt
    have hzl30 := ho2.lt
    have hzl31 := ht2.lt
    have hzl32 := ho4.lt
    refine VL_call (d := 64) (f := 12) (by kernel_rfl) (by kernel_rfl) (by kernel_rfl) Try.call12 (got_nil t o _) ?_
    rintro _ w13 ⟨rfl, hc9⟩
    replace hS := Step.trans hS hc9
    replace ho1 := ho1.no hc9
    replace ho2 := ho2.no hc9
    replace ht2 := ht2.no hc9
    replace ho4 := ho4.no hc9
    refine VL_pure 7 [4, 5, 8, 12, 13, 14, 15, 16, 17, 18, 65, 66] [(4, .int .i64 t), (5, .pointer (some ⟨b1, 0, none⟩)), (8, .pointer (some ⟨b2, 0, none⟩)), (12, .bool (aheadA (walkA here wait q n) t)), (13, .bool (behindA (walkA here wait q n) t)), (14, .pointer (some ⟨b3, 0, none⟩)), (15, .bool (gotB (walkA here wait q n) o)), (16, .bool (aheadA (gotA (walkA here wait q n) t o) t)), (17, .bool (behindA (gotA (walkA here wait q n) t o) t)), (18, .pointer none), (65, .agg #[.int .i64 zeroO.k, .int .u8 zeroO.d, .bool zeroO.a, .int .u32 zeroO.tg, .int .u8 (zeroO.p 0), .int .u8 (zeroO.p 1), .int .u8 (zeroO.p 2), .int .u8 (zeroO.p 3), .int .u8 (zeroO.p 4), .int .u8 (zeroO.p 5), .int .u8 (zeroO.p 6), .int .u8 (zeroO.p 7), .int .u8 (zeroO.p 8), .int .u8 (zeroO.p 9), .int .u8 (zeroO.p 10), .int .u8 (zeroO.p 11), .int .u8 (zeroO.p 12), .int .u8 (zeroO.p 13), .int .u8 (zeroO.p 14), .int .u8 (zeroO.p 15), .int .u8 (zeroO.s 0), .int .u8 (zeroO.s 1), .int .u8 (zeroO.s 2), .int .u8 (zeroO.s 3), .int .u8 (zeroO.s 4), .int .u8 (zeroO.s 5), .int .u8 (zeroO.s 6), .int .u8 (zeroO.s 7), .int .u8 (zeroO.s 8), .int .u8 (zeroO.s 9), .int .u8 (zeroO.s 10), .int .u8 (zeroO.s 11), .int .u8 (zeroO.s 12), .int .u8 (zeroO.s 13), .int .u8 (zeroO.s 14), .int .u8 (zeroO.s 15)]), (66, .bool false)] (by kernel_rfl) rfl ?_
    have hzs13 := hS.size
    have hzl33 := ho1.lt
    have hzl34 := ho2.lt
    have hzl35 := ht2.lt
    have hzl36 := ho4.lt
    refine VL_box (d := 19) (t := 34) (c := #[.int .i64 0, .int .u8 0, .bool false, .int .u32 0, .int .u8 0, .int .u8 0, .int .u8 0, .int .u8 0, .int .u8 0, .int .u8 0, .int .u8 0, .int .u8 0, .int .u8 0, .int .u8 0, .int .u8 0, .int .u8 0, .int .u8 0, .int .u8 0, .int .u8 0, .int .u8 0, .int .u8 0, .int .u8 0, .int .u8 0, .int .u8 0, .int .u8 0, .int .u8 0, .int .u8 0, .int .u8 0, .int .u8 0, .int .u8 0, .int .u8 0, .int .u8 0, .int .u8 0, .int .u8 0, .int .u8 0, .int .u8 0]) (by kernel_rfl) (by kernel_rfl) ?_
    intro b4 w14 hn4
    replace hS := Step.trans hS (hn4.step No)
    replace ho1 := ho1.no (hn4.step No)
    replace ho2 := ho2.no (hn4.step No)
    replace ht2 := ht2.no (hn4.step No)
    replace ho4 := ho4.no (hn4.step No)
    have ho5 := hn4.own
    have hzhn4 := hn4.size
    have hqhn4 := hn4.eqb
    refine VL_store (b := b4) (o := 0) (vs := [.int .i64 zeroO.k, .int .u8 zeroO.d, .bool zeroO.a, .int .u32 zeroO.tg, .int .u8 (zeroO.p 0), .int .u8 (zeroO.p 1), .int .u8 (zeroO.p 2), .int .u8 (zeroO.p 3), .int .u8 (zeroO.p 4), .int .u8 (zeroO.p 5), .int .u8 (zeroO.p 6), .int .u8 (zeroO.p 7), .int .u8 (zeroO.p 8), .int .u8 (zeroO.p 9), .int .u8 (zeroO.p 10), .int .u8 (zeroO.p 11), .int .u8 (zeroO.p 12), .int .u8 (zeroO.p 13), .int .u8 (zeroO.p 14), .int .u8 (zeroO.p 15), .int .u8 (zeroO.s 0), .int .u8 (zeroO.s 1), .int .u8 (zeroO.s 2), .int .u8 (zeroO.s 3), .int .u8 (zeroO.s 4), .int .u8 (zeroO.s 5), .int .u8 (zeroO.s 6), .int .u8 (zeroO.s 7), .int .u8 (zeroO.s 8), .int .u8 (zeroO.s 9), .int .u8 (zeroO.s 10), .int .u8 (zeroO.s 11), .int .u8 (zeroO.s 12), .int .u8 (zeroO.s 13), .int .u8 (zeroO.s 14), .int .u8 (zeroO.s 15)]) (by kernel_rfl) (by kernel_rfl) ho5 (Nat.le_of_ble_eq_true (by kernel_rfl)) ?_
    intro w15 hw2
    replace hS := Step.transNew hS hw2.step (fun _ _ _ => by omega)
    replace ho1 := ho1.step hw2.step (show ¬ b1 = b4 by omega)
    replace ho2 := ho2.step hw2.step (show ¬ b2 = b4 by omega)
    replace ht2 := ht2.step hw2.step (show ¬ ab1 = b4 by omega)
    replace ho4 := ho4.step hw2.step (show ¬ b3 = b4 by omega)
    have ho6 : Own w15 b4 #[.int .i64 zeroO.k, .int .u8 zeroO.d, .bool zeroO.a, .int .u32 zeroO.tg, .int .u8 (zeroO.p 0), .int .u8 (zeroO.p 1), .int .u8 (zeroO.p 2), .int .u8 (zeroO.p 3), .int .u8 (zeroO.p 4), .int .u8 (zeroO.p 5), .int .u8 (zeroO.p 6), .int .u8 (zeroO.p 7), .int .u8 (zeroO.p 8), .int .u8 (zeroO.p 9), .int .u8 (zeroO.p 10), .int .u8 (zeroO.p 11), .int .u8 (zeroO.p 12), .int .u8 (zeroO.p 13), .int .u8 (zeroO.p 14), .int .u8 (zeroO.p 15), .int .u8 (zeroO.s 0), .int .u8 (zeroO.s 1), .int .u8 (zeroO.s 2), .int .u8 (zeroO.s 3), .int .u8 (zeroO.s 4), .int .u8 (zeroO.s 5), .int .u8 (zeroO.s 6), .int .u8 (zeroO.s 7), .int .u8 (zeroO.s 8), .int .u8 (zeroO.s 9), .int .u8 (zeroO.s 10), .int .u8 (zeroO.s 11), .int .u8 (zeroO.s 12), .int .u8 (zeroO.s 13), .int .u8 (zeroO.s 14), .int .u8 (zeroO.s 15)] 34 := Own.cast hw2.own (by kernel_rfl)
    have hzhw2 := hw2.same
    refine VL_pure 10 [4, 5, 8, 12, 13, 14, 15, 16, 17, 18, 20] [(4, .int .i64 t), (5, .pointer (some ⟨b1, 0, none⟩)), (8, .pointer (some ⟨b2, 0, none⟩)), (12, .bool (aheadA (walkA here wait q n) t)), (13, .bool (behindA (walkA here wait q n) t)), (14, .pointer (some ⟨b3, 0, none⟩)), (15, .bool (gotB (walkA here wait q n) o)), (16, .bool (aheadA (gotA (walkA here wait q n) t o) t)), (17, .bool (behindA (gotA (walkA here wait q n) t o) t)), (18, .pointer none), (20, .bool false)] (by kernel_rfl) rfl ?_
    refine VL_end (by kernel_rfl) ?_
    refine VQ_next ?_
    refine VC_seq ?_
    refine VC_region ?_
    refine VL_pure 2 [4, 5, 8, 12, 13, 14, 15, 16, 17, 18, 20, 68, 69] [(4, .int .i64 t), (5, .pointer (some ⟨b1, 0, none⟩)), (8, .pointer (some ⟨b2, 0, none⟩)), (12, .bool (aheadA (walkA here wait q n) t)), (13, .bool (behindA (walkA here wait q n) t)), (14, .pointer (some ⟨b3, 0, none⟩)), (15, .bool (gotB (walkA here wait q n) o)), (16, .bool (aheadA (gotA (walkA here wait q n) t o) t)), (17, .bool (behindA (gotA (walkA here wait q n) t o) t)), (18, .pointer none), (20, .bool false), (68, .pointer none), (69, .int .i64 t)] (by kernel_rfl) rfl ?_
    have hzs14 := hS.size
    have hzl37 := ho1.lt
    have hzl38 := ho2.lt
    have hzl39 := ht2.lt
    have hzl40 := ho4.lt
    have hzl41 := ho6.lt
    refine VL_call (d := 70) (f := 16) (by kernel_rfl) (by kernel_rfl) (by kernel_rfl) Try.call16 (state_nil t _) ?_
    rintro _ w16 ⟨rfl, hc10⟩
    replace hS := Step.trans hS hc10
    replace ho1 := ho1.no hc10
    replace ho2 := ho2.no hc10
    replace ht2 := ht2.no hc10
    replace ho4 := ho4.no hc10
    replace ho6 := ho6.no hc10
    refine VL_pure 8 [4, 5, 8, 12, 13, 14, 15, 16, 17, 18, 20, 21, 22] [(4, .int .i64 t), (5, .pointer (some ⟨b1, 0, none⟩)), (8, .pointer (some ⟨b2, 0, none⟩)), (12, .bool (aheadA (walkA here wait q n) t)), (13, .bool (behindA (walkA here wait q n) t)), (14, .pointer (some ⟨b3, 0, none⟩)), (15, .bool (gotB (walkA here wait q n) o)), (16, .bool (aheadA (gotA (walkA here wait q n) t o) t)), (17, .bool (behindA (gotA (walkA here wait q n) t o) t)), (18, .pointer none), (20, .bool false), (21, .bool false), (22, .bool false)] (by kernel_rfl) rfl ?_
    refine VL_end (by kernel_rfl) ?_
    refine VQ_next ?_
    refine VC_seq ?_
    refine VC_seq ?_
    refine VC_region ?_
    refine VL_pure 10 [5, 8, 12, 13, 14, 15, 16, 17, 80, 81, 82] [(5, .pointer (some ⟨b1, 0, none⟩)), (8, .pointer (some ⟨b2, 0, none⟩)), (12, .bool (aheadA (walkA here wait q n) t)), (13, .bool (behindA (walkA here wait q n) t)), (14, .pointer (some ⟨b3, 0, none⟩)), (15, .bool (gotB (walkA here wait q n) o)), (16, .bool (aheadA (gotA (walkA here wait q n) t o) t)), (17, .bool (behindA (gotA (walkA here wait q n) t o) t)), (80, .bool false), (81, .pointer none), (82, .int .i64 t)] (by kernel_rfl) rfl ?_
    have hzs15 := hS.size
    have hzl42 := ho1.lt
    have hzl43 := ho2.lt
    have hzl44 := ht2.lt
    have hzl45 := ho4.lt
    have hzl46 := ho6.lt
    refine VL_call (d := 83) (f := 19) (by kernel_rfl) (by kernel_rfl) (by kernel_rfl) Try.call19 (sends_nil t _) ?_
    rintro _ w17 ⟨rfl, hc11⟩
    replace hS := Step.trans hS hc11
    replace ho1 := ho1.no hc11
    replace ho2 := ho2.no hc11
    replace ht2 := ht2.no hc11
    replace ho4 := ho4.no hc11
    replace ho6 := ho6.no hc11
    refine VL_pure 14 [5, 8, 12, 13, 14, 15, 16, 17, 86] [(5, .pointer (some ⟨b1, 0, none⟩)), (8, .pointer (some ⟨b2, 0, none⟩)), (12, .bool (aheadA (walkA here wait q n) t)), (13, .bool (behindA (walkA here wait q n) t)), (14, .pointer (some ⟨b3, 0, none⟩)), (15, .bool (gotB (walkA here wait q n) o)), (16, .bool (aheadA (gotA (walkA here wait q n) t o) t)), (17, .bool (behindA (gotA (walkA here wait q n) t o) t)), (86, .bool false)] (by kernel_rfl) rfl ?_
    refine VL_end (by kernel_rfl) ?_
    refine VQ_next ?_
    refine VC_false (by kernel_rfl) ?_
    refine VC_skip ?_
    refine VQ_next ?_
    refine VC_seq ?_
    refine VC_seq ?_
    refine VC_region ?_
    refine VL_pure 1 [5, 8, 12, 13, 14, 15, 16, 17, 87] [(5, .pointer (some ⟨b1, 0, none⟩)), (8, .pointer (some ⟨b2, 0, none⟩)), (12, .bool (aheadA (walkA here wait q n) t)), (13, .bool (behindA (walkA here wait q n) t)), (14, .pointer (some ⟨b3, 0, none⟩)), (15, .bool (gotB (walkA here wait q n) o)), (16, .bool (aheadA (gotA (walkA here wait q n) t o) t)), (17, .bool (behindA (gotA (walkA here wait q n) t o) t)), (87, .pointer (some ⟨b2, 0, none⟩))] (by kernel_rfl) rfl ?_
    refine VL_load (d := 88) (t := 3) (a := ⟨b2, 0, none⟩) (v := .int .i64 o.k) (by kernel_rfl) (by kernel_rfl) (Loads.own1 ho2 (by kernel_rfl) (by rfl)) ?_
    refine VL_pure 4 [5, 8, 12, 13, 14, 15, 16, 17, 90] [(5, .pointer (some ⟨b1, 0, none⟩)), (8, .pointer (some ⟨b2, 0, none⟩)), (12, .bool (aheadA (walkA here wait q n) t)), (13, .bool (behindA (walkA here wait q n) t)), (14, .pointer (some ⟨b3, 0, none⟩)), (15, .bool (gotB (walkA here wait q n) o)), (16, .bool (aheadA (gotA (walkA here wait q n) t o) t)), (17, .bool (behindA (gotA (walkA here wait q n) t o) t)), (90, .bool (o.k != 8))] (by kernel_rfl) rfl ?_
    refine VL_bne o.k 8 (fun b => [(5, .pointer (some ⟨b1, 0, none⟩)), (8, .pointer (some ⟨b2, 0, none⟩)), (12, .bool (aheadA (walkA here wait q n) t)), (13, .bool (behindA (walkA here wait q n) t)), (14, .pointer (some ⟨b3, 0, none⟩)), (15, .bool (gotB (walkA here wait q n) o)), (16, .bool (aheadA (gotA (walkA here wait q n) t o) t)), (17, .bool (behindA (gotA (walkA here wait q n) t o) t)), (90, .bool b)]) rfl (fun hg1 => ?_) (fun hg1 => ?_)
    · refine VL_pure 8 [5, 8, 12, 13, 14, 15, 16, 17, 94] [(5, .pointer (some ⟨b1, 0, none⟩)), (8, .pointer (some ⟨b2, 0, none⟩)), (12, .bool (aheadA (walkA here wait q n) t)), (13, .bool (behindA (walkA here wait q n) t)), (14, .pointer (some ⟨b3, 0, none⟩)), (15, .bool (gotB (walkA here wait q n) o)), (16, .bool (aheadA (gotA (walkA here wait q n) t o) t)), (17, .bool (behindA (gotA (walkA here wait q n) t o) t)), (94, .bool true)] (by kernel_rfl) rfl ?_
      refine VL_end (by kernel_rfl) ?_
      refine VQ_next ?_
      refine VC_true (by kernel_rfl) ?_
      refine VC_seq ?_
      refine VC_region ?_
      refine VL_pure 1 [8, 12, 13, 14, 16, 17, 95] [(8, .pointer (some ⟨b2, 0, none⟩)), (12, .bool (aheadA (walkA here wait q n) t)), (13, .bool (behindA (walkA here wait q n) t)), (14, .pointer (some ⟨b3, 0, none⟩)), (16, .bool (aheadA (gotA (walkA here wait q n) t o) t)), (17, .bool (behindA (gotA (walkA here wait q n) t o) t)), (95, .bool (gotB (walkA here wait q n) o))] (by kernel_rfl) rfl ?_
      have hno : o.k ≠ 8 ∨ rightO o = false := by first | exact .inl ‹_› | exact .inr ‹_›
      refine VL_eq [(8, .pointer (some ⟨b2, 0, none⟩)), (12, .bool (aheadA (walkA here wait q n) t)), (13, .bool (behindA (walkA here wait q n) t)), (14, .pointer (some ⟨b3, 0, none⟩)), (16, .bool (aheadA (gotA (walkA here wait q n) t o) t)), (17, .bool (behindA (gotA (walkA here wait q n) t o) t)), (95, .bool false)] (by rw [gotB_no hno]) ?_
      refine VL_pure 3 [8, 12, 13, 14, 16, 17, 97] [(8, .pointer (some ⟨b2, 0, none⟩)), (12, .bool (aheadA (walkA here wait q n) t)), (13, .bool (behindA (walkA here wait q n) t)), (14, .pointer (some ⟨b3, 0, none⟩)), (16, .bool (aheadA (gotA (walkA here wait q n) t o) t)), (17, .bool (behindA (gotA (walkA here wait q n) t o) t)), (97, .bool true)] (by kernel_rfl) rfl ?_
      refine VL_load (d := 98) (t := 34) (a := ⟨b3, 0, none⟩) (v := .agg #[.int .i64 ((gotV (walkA here wait q n) o).k), .int .u8 ((gotV (walkA here wait q n) o).d), .bool ((gotV (walkA here wait q n) o).a), .int .u32 ((gotV (walkA here wait q n) o).tg), .int .u8 (((gotV (walkA here wait q n) o).p) 0), .int .u8 (((gotV (walkA here wait q n) o).p) 1), .int .u8 (((gotV (walkA here wait q n) o).p) 2), .int .u8 (((gotV (walkA here wait q n) o).p) 3), .int .u8 (((gotV (walkA here wait q n) o).p) 4), .int .u8 (((gotV (walkA here wait q n) o).p) 5), .int .u8 (((gotV (walkA here wait q n) o).p) 6), .int .u8 (((gotV (walkA here wait q n) o).p) 7), .int .u8 (((gotV (walkA here wait q n) o).p) 8), .int .u8 (((gotV (walkA here wait q n) o).p) 9), .int .u8 (((gotV (walkA here wait q n) o).p) 10), .int .u8 (((gotV (walkA here wait q n) o).p) 11), .int .u8 (((gotV (walkA here wait q n) o).p) 12), .int .u8 (((gotV (walkA here wait q n) o).p) 13), .int .u8 (((gotV (walkA here wait q n) o).p) 14), .int .u8 (((gotV (walkA here wait q n) o).p) 15), .int .u8 (((gotV (walkA here wait q n) o).s) 0), .int .u8 (((gotV (walkA here wait q n) o).s) 1), .int .u8 (((gotV (walkA here wait q n) o).s) 2), .int .u8 (((gotV (walkA here wait q n) o).s) 3), .int .u8 (((gotV (walkA here wait q n) o).s) 4), .int .u8 (((gotV (walkA here wait q n) o).s) 5), .int .u8 (((gotV (walkA here wait q n) o).s) 6), .int .u8 (((gotV (walkA here wait q n) o).s) 7), .int .u8 (((gotV (walkA here wait q n) o).s) 8), .int .u8 (((gotV (walkA here wait q n) o).s) 9), .int .u8 (((gotV (walkA here wait q n) o).s) 10), .int .u8 (((gotV (walkA here wait q n) o).s) 11), .int .u8 (((gotV (walkA here wait q n) o).s) 12), .int .u8 (((gotV (walkA here wait q n) o).s) 13), .int .u8 (((gotV (walkA here wait q n) o).s) 14), .int .u8 (((gotV (walkA here wait q n) o).s) 15)]) (by kernel_rfl) (by kernel_rfl) (Loads.ownL ho4 (n := 36) (by kernel_rfl) (by kernel_rfl) (by kernel_rfl)) ?_
      refine VL_pure 5 [8, 12, 13, 16, 17, 97, 98, 99] [(8, .pointer (some ⟨b2, 0, none⟩)), (12, .bool (aheadA (walkA here wait q n) t)), (13, .bool (behindA (walkA here wait q n) t)), (16, .bool (aheadA (gotA (walkA here wait q n) t o) t)), (17, .bool (behindA (gotA (walkA here wait q n) t o) t)), (97, .bool true), (98, .agg #[.int .i64 ((gotV (walkA here wait q n) o).k), .int .u8 ((gotV (walkA here wait q n) o).d), .bool ((gotV (walkA here wait q n) o).a), .int .u32 ((gotV (walkA here wait q n) o).tg), .int .u8 (((gotV (walkA here wait q n) o).p) 0), .int .u8 (((gotV (walkA here wait q n) o).p) 1), .int .u8 (((gotV (walkA here wait q n) o).p) 2), .int .u8 (((gotV (walkA here wait q n) o).p) 3), .int .u8 (((gotV (walkA here wait q n) o).p) 4), .int .u8 (((gotV (walkA here wait q n) o).p) 5), .int .u8 (((gotV (walkA here wait q n) o).p) 6), .int .u8 (((gotV (walkA here wait q n) o).p) 7), .int .u8 (((gotV (walkA here wait q n) o).p) 8), .int .u8 (((gotV (walkA here wait q n) o).p) 9), .int .u8 (((gotV (walkA here wait q n) o).p) 10), .int .u8 (((gotV (walkA here wait q n) o).p) 11), .int .u8 (((gotV (walkA here wait q n) o).p) 12), .int .u8 (((gotV (walkA here wait q n) o).p) 13), .int .u8 (((gotV (walkA here wait q n) o).p) 14), .int .u8 (((gotV (walkA here wait q n) o).p) 15), .int .u8 (((gotV (walkA here wait q n) o).s) 0), .int .u8 (((gotV (walkA here wait q n) o).s) 1), .int .u8 (((gotV (walkA here wait q n) o).s) 2), .int .u8 (((gotV (walkA here wait q n) o).s) 3), .int .u8 (((gotV (walkA here wait q n) o).s) 4), .int .u8 (((gotV (walkA here wait q n) o).s) 5), .int .u8 (((gotV (walkA here wait q n) o).s) 6), .int .u8 (((gotV (walkA here wait q n) o).s) 7), .int .u8 (((gotV (walkA here wait q n) o).s) 8), .int .u8 (((gotV (walkA here wait q n) o).s) 9), .int .u8 (((gotV (walkA here wait q n) o).s) 10), .int .u8 (((gotV (walkA here wait q n) o).s) 11), .int .u8 (((gotV (walkA here wait q n) o).s) 12), .int .u8 (((gotV (walkA here wait q n) o).s) 13), .int .u8 (((gotV (walkA here wait q n) o).s) 14), .int .u8 (((gotV (walkA here wait q n) o).s) 15)]), (99, .agg #[.int .i64 0, .int .u8 0, .bool false, .int .u32 0, .int .u8 0, .int .u8 0, .int .u8 0, .int .u8 0, .int .u8 0, .int .u8 0, .int .u8 0, .int .u8 0, .int .u8 0, .int .u8 0, .int .u8 0, .int .u8 0, .int .u8 0, .int .u8 0, .int .u8 0, .int .u8 0, .int .u8 0, .int .u8 0, .int .u8 0, .int .u8 0, .int .u8 0, .int .u8 0, .int .u8 0, .int .u8 0, .int .u8 0, .int .u8 0, .int .u8 0, .int .u8 0, .int .u8 0, .int .u8 0, .int .u8 0, .int .u8 0])] (by kernel_rfl) rfl ?_
      refine VL_agEq (d := 100) (dd := 9) (ls := ([.int .i64] ++ [.int .u8] ++ [.bool] ++ [.int .u32] ++ (rep 16 [.int .u8]) ++ (rep 16 [.int .u8]) ++ [])) (pos := true) (t := 34) (xs := #[.int .i64 ((gotV (walkA here wait q n) o).k), .int .u8 ((gotV (walkA here wait q n) o).d), .bool ((gotV (walkA here wait q n) o).a), .int .u32 ((gotV (walkA here wait q n) o).tg), .int .u8 (((gotV (walkA here wait q n) o).p) 0), .int .u8 (((gotV (walkA here wait q n) o).p) 1), .int .u8 (((gotV (walkA here wait q n) o).p) 2), .int .u8 (((gotV (walkA here wait q n) o).p) 3), .int .u8 (((gotV (walkA here wait q n) o).p) 4), .int .u8 (((gotV (walkA here wait q n) o).p) 5), .int .u8 (((gotV (walkA here wait q n) o).p) 6), .int .u8 (((gotV (walkA here wait q n) o).p) 7), .int .u8 (((gotV (walkA here wait q n) o).p) 8), .int .u8 (((gotV (walkA here wait q n) o).p) 9), .int .u8 (((gotV (walkA here wait q n) o).p) 10), .int .u8 (((gotV (walkA here wait q n) o).p) 11), .int .u8 (((gotV (walkA here wait q n) o).p) 12), .int .u8 (((gotV (walkA here wait q n) o).p) 13), .int .u8 (((gotV (walkA here wait q n) o).p) 14), .int .u8 (((gotV (walkA here wait q n) o).p) 15), .int .u8 (((gotV (walkA here wait q n) o).s) 0), .int .u8 (((gotV (walkA here wait q n) o).s) 1), .int .u8 (((gotV (walkA here wait q n) o).s) 2), .int .u8 (((gotV (walkA here wait q n) o).s) 3), .int .u8 (((gotV (walkA here wait q n) o).s) 4), .int .u8 (((gotV (walkA here wait q n) o).s) 5), .int .u8 (((gotV (walkA here wait q n) o).s) 6), .int .u8 (((gotV (walkA here wait q n) o).s) 7), .int .u8 (((gotV (walkA here wait q n) o).s) 8), .int .u8 (((gotV (walkA here wait q n) o).s) 9), .int .u8 (((gotV (walkA here wait q n) o).s) 10), .int .u8 (((gotV (walkA here wait q n) o).s) 11), .int .u8 (((gotV (walkA here wait q n) o).s) 12), .int .u8 (((gotV (walkA here wait q n) o).s) 13), .int .u8 (((gotV (walkA here wait q n) o).s) 14), .int .u8 (((gotV (walkA here wait q n) o).s) 15)]) (ys := #[.int .i64 0, .int .u8 0, .bool false, .int .u32 0, .int .u8 0, .int .u8 0, .int .u8 0, .int .u8 0, .int .u8 0, .int .u8 0, .int .u8 0, .int .u8 0, .int .u8 0, .int .u8 0, .int .u8 0, .int .u8 0, .int .u8 0, .int .u8 0, .int .u8 0, .int .u8 0, .int .u8 0, .int .u8 0, .int .u8 0, .int .u8 0, .int .u8 0, .int .u8 0, .int .u8 0, .int .u8 0, .int .u8 0, .int .u8 0, .int .u8 0, .int .u8 0, .int .u8 0, .int .u8 0, .int .u8 0, .int .u8 0]) (by kernel_rfl) (by kernel_rfl) (by kernel_rfl) (by kernel_rfl) (by first | exact ⟨⟨_, rfl⟩, ⟨_, rfl⟩, ⟨_, rfl⟩, ⟨_, rfl⟩, ⟨_, rfl⟩, ⟨_, rfl⟩, ⟨_, rfl⟩, ⟨_, rfl⟩, ⟨_, rfl⟩, ⟨_, rfl⟩, ⟨_, rfl⟩, ⟨_, rfl⟩, ⟨_, rfl⟩, ⟨_, rfl⟩, ⟨_, rfl⟩, ⟨_, rfl⟩, ⟨_, rfl⟩, ⟨_, rfl⟩, ⟨_, rfl⟩, ⟨_, rfl⟩, ⟨_, rfl⟩, ⟨_, rfl⟩, ⟨_, rfl⟩, ⟨_, rfl⟩, ⟨_, rfl⟩, ⟨_, rfl⟩, ⟨_, rfl⟩, ⟨_, rfl⟩, ⟨_, rfl⟩, ⟨_, rfl⟩, ⟨_, rfl⟩, ⟨_, rfl⟩, ⟨_, rfl⟩, ⟨_, rfl⟩, ⟨_, rfl⟩, ⟨_, rfl⟩, trivial⟩ | trivial) (by first | exact ⟨⟨_, rfl⟩, ⟨_, rfl⟩, ⟨_, rfl⟩, ⟨_, rfl⟩, ⟨_, rfl⟩, ⟨_, rfl⟩, ⟨_, rfl⟩, ⟨_, rfl⟩, ⟨_, rfl⟩, ⟨_, rfl⟩, ⟨_, rfl⟩, ⟨_, rfl⟩, ⟨_, rfl⟩, ⟨_, rfl⟩, ⟨_, rfl⟩, ⟨_, rfl⟩, ⟨_, rfl⟩, ⟨_, rfl⟩, ⟨_, rfl⟩, ⟨_, rfl⟩, ⟨_, rfl⟩, ⟨_, rfl⟩, ⟨_, rfl⟩, ⟨_, rfl⟩, ⟨_, rfl⟩, ⟨_, rfl⟩, ⟨_, rfl⟩, ⟨_, rfl⟩, ⟨_, rfl⟩, ⟨_, rfl⟩, ⟨_, rfl⟩, ⟨_, rfl⟩, ⟨_, rfl⟩, ⟨_, rfl⟩, ⟨_, rfl⟩, ⟨_, rfl⟩, trivial⟩ | trivial) true (by show omEq (gotV _ o) zeroO = true; rw [gotV_no ‹_›]; kernel_rfl) ?_
      refine VL_pure 8 [8, 12, 13, 16, 17, 102] [(8, .pointer (some ⟨b2, 0, none⟩)), (12, .bool (aheadA (walkA here wait q n) t)), (13, .bool (behindA (walkA here wait q n) t)), (16, .bool (aheadA (gotA (walkA here wait q n) t o) t)), (17, .bool (behindA (gotA (walkA here wait q n) t o) t)), (102, .bool true)] (by kernel_rfl) rfl ?_
      refine VL_load (d := 103) (t := 31) (a := ⟨b2, 0, none⟩) (v := .agg #[.int .i64 o.k, .int .u8 o.d, .bool o.a, .int .u32 o.tg, .int .u8 (o.p 0), .int .u8 (o.p 1), .int .u8 (o.p 2), .int .u8 (o.p 3), .int .u8 (o.p 4), .int .u8 (o.p 5), .int .u8 (o.p 6), .int .u8 (o.p 7), .int .u8 (o.p 8), .int .u8 (o.p 9), .int .u8 (o.p 10), .int .u8 (o.p 11), .int .u8 (o.p 12), .int .u8 (o.p 13), .int .u8 (o.p 14), .int .u8 (o.p 15), .int .u8 (o.s 0), .int .u8 (o.s 1), .int .u8 (o.s 2), .int .u8 (o.s 3), .int .u8 (o.s 4), .int .u8 (o.s 5), .int .u8 (o.s 6), .int .u8 (o.s 7), .int .u8 (o.s 8), .int .u8 (o.s 9), .int .u8 (o.s 10), .int .u8 (o.s 11), .int .u8 (o.s 12), .int .u8 (o.s 13), .int .u8 (o.s 14), .int .u8 (o.s 15)]) (by kernel_rfl) (by kernel_rfl) (Loads.ownL ho2 (n := 36) (by kernel_rfl) (by kernel_rfl) (by kernel_rfl)) ?_
      have hzs16 := hS.size
      have hzl47 := ho1.lt
      have hzl48 := ho2.lt
      have hzl49 := ht2.lt
      have hzl50 := ho4.lt
      have hzl51 := ho6.lt
      refine VL_call (d := 104) (f := 22) (by kernel_rfl) (by kernel_rfl) (by kernel_rfl) Try.call22 (right_any o _) ?_
      rintro _ w18 ⟨rfl, hc12⟩
      replace hS := Step.trans hS hc12
      replace ho1 := ho1.no hc12
      replace ho2 := ho2.no hc12
      replace ht2 := ht2.no hc12
      replace ho4 := ho4.no hc12
      replace ho6 := ho6.no hc12
      refine VL_pure 11 [12, 13, 16, 17, 102, 105] [(12, .bool (aheadA (walkA here wait q n) t)), (13, .bool (behindA (walkA here wait q n) t)), (16, .bool (aheadA (gotA (walkA here wait q n) t o) t)), (17, .bool (behindA (gotA (walkA here wait q n) t o) t)), (102, .bool true), (105, .bool (rightO o))] (by kernel_rfl) rfl ?_
      refine VL_bool (rightO o) (fun b => [(12, .bool (aheadA (walkA here wait q n) t)), (13, .bool (behindA (walkA here wait q n) t)), (16, .bool (aheadA (gotA (walkA here wait q n) t o) t)), (17, .bool (behindA (gotA (walkA here wait q n) t o) t)), (102, .bool true), (105, .bool b)]) rfl (fun hg2 => ?_) (fun hg2 => ?_)
      · refine VL_pure 14 [13, 17, 102, 105, 108] [(13, .bool (behindA (walkA here wait q n) t)), (17, .bool (behindA (gotA (walkA here wait q n) t o) t)), (102, .bool true), (105, .bool true), (108, undef)] (by kernel_rfl) rfl ?_
        refine VL_pure 18 [102, 105, 109, 112] [(102, .bool true), (105, .bool true), (109, undef), (112, undef)] (by kernel_rfl) rfl ?_
        refine VL_pure 22 [10] [(10, .bool true)] (by kernel_rfl) rfl ?_
        refine VL_end (by kernel_rfl) ?_
        refine VQ_next ?_
        refine VC_ret ?_
        refine VQ_then_ret ?_
        refine VQ_ret1 (.bool true) (.inr rfl) rfl rfl ?_
        exact ⟨rfl, hS⟩
      · refine VL_pure 14 [13, 17, 102, 105, 108] [(13, .bool (behindA (walkA here wait q n) t)), (17, .bool (behindA (gotA (walkA here wait q n) t o) t)), (102, .bool true), (105, .bool false), (108, .bool ((aheadA (walkA here wait q n) t) == (aheadA (gotA (walkA here wait q n) t o) t)))] (by kernel_rfl) rfl ?_
        refine VL_eq [(13, .bool (behindA (walkA here wait q n) t)), (17, .bool (behindA (gotA (walkA here wait q n) t o) t)), (102, .bool true), (105, .bool false), (108, .bool true)] (by rw [(got_no ‹_›).1]; simp) ?_
        refine VL_pure 18 [102, 105, 109, 112] [(102, .bool true), (105, .bool false), (109, .bool true), (112, .bool ((behindA (walkA here wait q n) t) == (behindA (gotA (walkA here wait q n) t o) t)))] (by kernel_rfl) rfl ?_
        refine VL_eq [(102, .bool true), (105, .bool false), (109, .bool true), (112, .bool true)] (by rw [(got_no ‹_›).1]; simp) ?_
        refine VL_pure 22 [10] [(10, .bool true)] (by kernel_rfl) rfl ?_
        refine VL_end (by kernel_rfl) ?_
        refine VQ_next ?_
        refine VC_ret ?_
        refine VQ_then_ret ?_
        refine VQ_ret1 (.bool true) (.inr rfl) rfl rfl ?_
        exact ⟨rfl, hS⟩
    · refine VL_load (d := 91) (t := 31) (a := ⟨b2, 0, none⟩) (v := .agg #[.int .i64 o.k, .int .u8 o.d, .bool o.a, .int .u32 o.tg, .int .u8 (o.p 0), .int .u8 (o.p 1), .int .u8 (o.p 2), .int .u8 (o.p 3), .int .u8 (o.p 4), .int .u8 (o.p 5), .int .u8 (o.p 6), .int .u8 (o.p 7), .int .u8 (o.p 8), .int .u8 (o.p 9), .int .u8 (o.p 10), .int .u8 (o.p 11), .int .u8 (o.p 12), .int .u8 (o.p 13), .int .u8 (o.p 14), .int .u8 (o.p 15), .int .u8 (o.s 0), .int .u8 (o.s 1), .int .u8 (o.s 2), .int .u8 (o.s 3), .int .u8 (o.s 4), .int .u8 (o.s 5), .int .u8 (o.s 6), .int .u8 (o.s 7), .int .u8 (o.s 8), .int .u8 (o.s 9), .int .u8 (o.s 10), .int .u8 (o.s 11), .int .u8 (o.s 12), .int .u8 (o.s 13), .int .u8 (o.s 14), .int .u8 (o.s 15)]) (by kernel_rfl) (by kernel_rfl) (Loads.ownL ho2 (n := 36) (by kernel_rfl) (by kernel_rfl) (by kernel_rfl)) ?_
      have hzs17 := hS.size
      have hzl52 := ho1.lt
      have hzl53 := ho2.lt
      have hzl54 := ht2.lt
      have hzl55 := ho4.lt
      have hzl56 := ho6.lt
      refine VL_call (d := 92) (f := 22) (by kernel_rfl) (by kernel_rfl) (by kernel_rfl) Try.call22 (right_any o _) ?_
      rintro _ w19 ⟨rfl, hc13⟩
      replace hS := Step.trans hS hc13
      replace ho1 := ho1.no hc13
      replace ho2 := ho2.no hc13
      replace ht2 := ht2.no hc13
      replace ho4 := ho4.no hc13
      replace ho6 := ho6.no hc13
      refine VL_pure 8 [5, 8, 12, 13, 14, 15, 16, 17, 94] [(5, .pointer (some ⟨b1, 0, none⟩)), (8, .pointer (some ⟨b2, 0, none⟩)), (12, .bool (aheadA (walkA here wait q n) t)), (13, .bool (behindA (walkA here wait q n) t)), (14, .pointer (some ⟨b3, 0, none⟩)), (15, .bool (gotB (walkA here wait q n) o)), (16, .bool (aheadA (gotA (walkA here wait q n) t o) t)), (17, .bool (behindA (gotA (walkA here wait q n) t o) t)), (94, .bool (!(rightO o)))] (by kernel_rfl) rfl ?_
      refine VL_end (by kernel_rfl) ?_
      refine VQ_next ?_
      refine VC_cond (!(rightO o)) (by kernel_rfl) (fun h2 => ?_) (fun h2 => ?_)
      · try simp only [Bool.and_eq_true, Bool.or_eq_true, decide_eq_true_eq, Bool.not_eq_true', decide_eq_false_iff_not, Bool.and_eq_false_iff, Bool.or_eq_false_iff, beq_iff_eq, bne_iff_ne, beq_eq_false_iff_ne, bne_eq_false_iff_eq, Bool.not_eq_eq_eq_not, Bool.not_true, Bool.not_false] at h2
        refine VC_seq ?_
        refine VC_region ?_
        refine VL_pure 1 [8, 12, 13, 14, 16, 17, 95] [(8, .pointer (some ⟨b2, 0, none⟩)), (12, .bool (aheadA (walkA here wait q n) t)), (13, .bool (behindA (walkA here wait q n) t)), (14, .pointer (some ⟨b3, 0, none⟩)), (16, .bool (aheadA (gotA (walkA here wait q n) t o) t)), (17, .bool (behindA (gotA (walkA here wait q n) t o) t)), (95, .bool (gotB (walkA here wait q n) o))] (by kernel_rfl) rfl ?_
        have hno : o.k ≠ 8 ∨ rightO o = false := by first | exact .inl ‹_› | exact .inr ‹_›
        refine VL_eq [(8, .pointer (some ⟨b2, 0, none⟩)), (12, .bool (aheadA (walkA here wait q n) t)), (13, .bool (behindA (walkA here wait q n) t)), (14, .pointer (some ⟨b3, 0, none⟩)), (16, .bool (aheadA (gotA (walkA here wait q n) t o) t)), (17, .bool (behindA (gotA (walkA here wait q n) t o) t)), (95, .bool false)] (by rw [gotB_no hno]) ?_
        refine VL_pure 3 [8, 12, 13, 14, 16, 17, 97] [(8, .pointer (some ⟨b2, 0, none⟩)), (12, .bool (aheadA (walkA here wait q n) t)), (13, .bool (behindA (walkA here wait q n) t)), (14, .pointer (some ⟨b3, 0, none⟩)), (16, .bool (aheadA (gotA (walkA here wait q n) t o) t)), (17, .bool (behindA (gotA (walkA here wait q n) t o) t)), (97, .bool true)] (by kernel_rfl) rfl ?_
        refine VL_load (d := 98) (t := 34) (a := ⟨b3, 0, none⟩) (v := .agg #[.int .i64 ((gotV (walkA here wait q n) o).k), .int .u8 ((gotV (walkA here wait q n) o).d), .bool ((gotV (walkA here wait q n) o).a), .int .u32 ((gotV (walkA here wait q n) o).tg), .int .u8 (((gotV (walkA here wait q n) o).p) 0), .int .u8 (((gotV (walkA here wait q n) o).p) 1), .int .u8 (((gotV (walkA here wait q n) o).p) 2), .int .u8 (((gotV (walkA here wait q n) o).p) 3), .int .u8 (((gotV (walkA here wait q n) o).p) 4), .int .u8 (((gotV (walkA here wait q n) o).p) 5), .int .u8 (((gotV (walkA here wait q n) o).p) 6), .int .u8 (((gotV (walkA here wait q n) o).p) 7), .int .u8 (((gotV (walkA here wait q n) o).p) 8), .int .u8 (((gotV (walkA here wait q n) o).p) 9), .int .u8 (((gotV (walkA here wait q n) o).p) 10), .int .u8 (((gotV (walkA here wait q n) o).p) 11), .int .u8 (((gotV (walkA here wait q n) o).p) 12), .int .u8 (((gotV (walkA here wait q n) o).p) 13), .int .u8 (((gotV (walkA here wait q n) o).p) 14), .int .u8 (((gotV (walkA here wait q n) o).p) 15), .int .u8 (((gotV (walkA here wait q n) o).s) 0), .int .u8 (((gotV (walkA here wait q n) o).s) 1), .int .u8 (((gotV (walkA here wait q n) o).s) 2), .int .u8 (((gotV (walkA here wait q n) o).s) 3), .int .u8 (((gotV (walkA here wait q n) o).s) 4), .int .u8 (((gotV (walkA here wait q n) o).s) 5), .int .u8 (((gotV (walkA here wait q n) o).s) 6), .int .u8 (((gotV (walkA here wait q n) o).s) 7), .int .u8 (((gotV (walkA here wait q n) o).s) 8), .int .u8 (((gotV (walkA here wait q n) o).s) 9), .int .u8 (((gotV (walkA here wait q n) o).s) 10), .int .u8 (((gotV (walkA here wait q n) o).s) 11), .int .u8 (((gotV (walkA here wait q n) o).s) 12), .int .u8 (((gotV (walkA here wait q n) o).s) 13), .int .u8 (((gotV (walkA here wait q n) o).s) 14), .int .u8 (((gotV (walkA here wait q n) o).s) 15)]) (by kernel_rfl) (by kernel_rfl) (Loads.ownL ho4 (n := 36) (by kernel_rfl) (by kernel_rfl) (by kernel_rfl)) ?_
        refine VL_pure 5 [8, 12, 13, 16, 17, 97, 98, 99] [(8, .pointer (some ⟨b2, 0, none⟩)), (12, .bool (aheadA (walkA here wait q n) t)), (13, .bool (behindA (walkA here wait q n) t)), (16, .bool (aheadA (gotA (walkA here wait q n) t o) t)), (17, .bool (behindA (gotA (walkA here wait q n) t o) t)), (97, .bool true), (98, .agg #[.int .i64 ((gotV (walkA here wait q n) o).k), .int .u8 ((gotV (walkA here wait q n) o).d), .bool ((gotV (walkA here wait q n) o).a), .int .u32 ((gotV (walkA here wait q n) o).tg), .int .u8 (((gotV (walkA here wait q n) o).p) 0), .int .u8 (((gotV (walkA here wait q n) o).p) 1), .int .u8 (((gotV (walkA here wait q n) o).p) 2), .int .u8 (((gotV (walkA here wait q n) o).p) 3), .int .u8 (((gotV (walkA here wait q n) o).p) 4), .int .u8 (((gotV (walkA here wait q n) o).p) 5), .int .u8 (((gotV (walkA here wait q n) o).p) 6), .int .u8 (((gotV (walkA here wait q n) o).p) 7), .int .u8 (((gotV (walkA here wait q n) o).p) 8), .int .u8 (((gotV (walkA here wait q n) o).p) 9), .int .u8 (((gotV (walkA here wait q n) o).p) 10), .int .u8 (((gotV (walkA here wait q n) o).p) 11), .int .u8 (((gotV (walkA here wait q n) o).p) 12), .int .u8 (((gotV (walkA here wait q n) o).p) 13), .int .u8 (((gotV (walkA here wait q n) o).p) 14), .int .u8 (((gotV (walkA here wait q n) o).p) 15), .int .u8 (((gotV (walkA here wait q n) o).s) 0), .int .u8 (((gotV (walkA here wait q n) o).s) 1), .int .u8 (((gotV (walkA here wait q n) o).s) 2), .int .u8 (((gotV (walkA here wait q n) o).s) 3), .int .u8 (((gotV (walkA here wait q n) o).s) 4), .int .u8 (((gotV (walkA here wait q n) o).s) 5), .int .u8 (((gotV (walkA here wait q n) o).s) 6), .int .u8 (((gotV (walkA here wait q n) o).s) 7), .int .u8 (((gotV (walkA here wait q n) o).s) 8), .int .u8 (((gotV (walkA here wait q n) o).s) 9), .int .u8 (((gotV (walkA here wait q n) o).s) 10), .int .u8 (((gotV (walkA here wait q n) o).s) 11), .int .u8 (((gotV (walkA here wait q n) o).s) 12), .int .u8 (((gotV (walkA here wait q n) o).s) 13), .int .u8 (((gotV (walkA here wait q n) o).s) 14), .int .u8 (((gotV (walkA here wait q n) o).s) 15)]), (99, .agg #[.int .i64 0, .int .u8 0, .bool false, .int .u32 0, .int .u8 0, .int .u8 0, .int .u8 0, .int .u8 0, .int .u8 0, .int .u8 0, .int .u8 0, .int .u8 0, .int .u8 0, .int .u8 0, .int .u8 0, .int .u8 0, .int .u8 0, .int .u8 0, .int .u8 0, .int .u8 0, .int .u8 0, .int .u8 0, .int .u8 0, .int .u8 0, .int .u8 0, .int .u8 0, .int .u8 0, .int .u8 0, .int .u8 0, .int .u8 0, .int .u8 0, .int .u8 0, .int .u8 0, .int .u8 0, .int .u8 0, .int .u8 0])] (by kernel_rfl) rfl ?_
        refine VL_agEq (d := 100) (dd := 9) (ls := ([.int .i64] ++ [.int .u8] ++ [.bool] ++ [.int .u32] ++ (rep 16 [.int .u8]) ++ (rep 16 [.int .u8]) ++ [])) (pos := true) (t := 34) (xs := #[.int .i64 ((gotV (walkA here wait q n) o).k), .int .u8 ((gotV (walkA here wait q n) o).d), .bool ((gotV (walkA here wait q n) o).a), .int .u32 ((gotV (walkA here wait q n) o).tg), .int .u8 (((gotV (walkA here wait q n) o).p) 0), .int .u8 (((gotV (walkA here wait q n) o).p) 1), .int .u8 (((gotV (walkA here wait q n) o).p) 2), .int .u8 (((gotV (walkA here wait q n) o).p) 3), .int .u8 (((gotV (walkA here wait q n) o).p) 4), .int .u8 (((gotV (walkA here wait q n) o).p) 5), .int .u8 (((gotV (walkA here wait q n) o).p) 6), .int .u8 (((gotV (walkA here wait q n) o).p) 7), .int .u8 (((gotV (walkA here wait q n) o).p) 8), .int .u8 (((gotV (walkA here wait q n) o).p) 9), .int .u8 (((gotV (walkA here wait q n) o).p) 10), .int .u8 (((gotV (walkA here wait q n) o).p) 11), .int .u8 (((gotV (walkA here wait q n) o).p) 12), .int .u8 (((gotV (walkA here wait q n) o).p) 13), .int .u8 (((gotV (walkA here wait q n) o).p) 14), .int .u8 (((gotV (walkA here wait q n) o).p) 15), .int .u8 (((gotV (walkA here wait q n) o).s) 0), .int .u8 (((gotV (walkA here wait q n) o).s) 1), .int .u8 (((gotV (walkA here wait q n) o).s) 2), .int .u8 (((gotV (walkA here wait q n) o).s) 3), .int .u8 (((gotV (walkA here wait q n) o).s) 4), .int .u8 (((gotV (walkA here wait q n) o).s) 5), .int .u8 (((gotV (walkA here wait q n) o).s) 6), .int .u8 (((gotV (walkA here wait q n) o).s) 7), .int .u8 (((gotV (walkA here wait q n) o).s) 8), .int .u8 (((gotV (walkA here wait q n) o).s) 9), .int .u8 (((gotV (walkA here wait q n) o).s) 10), .int .u8 (((gotV (walkA here wait q n) o).s) 11), .int .u8 (((gotV (walkA here wait q n) o).s) 12), .int .u8 (((gotV (walkA here wait q n) o).s) 13), .int .u8 (((gotV (walkA here wait q n) o).s) 14), .int .u8 (((gotV (walkA here wait q n) o).s) 15)]) (ys := #[.int .i64 0, .int .u8 0, .bool false, .int .u32 0, .int .u8 0, .int .u8 0, .int .u8 0, .int .u8 0, .int .u8 0, .int .u8 0, .int .u8 0, .int .u8 0, .int .u8 0, .int .u8 0, .int .u8 0, .int .u8 0, .int .u8 0, .int .u8 0, .int .u8 0, .int .u8 0, .int .u8 0, .int .u8 0, .int .u8 0, .int .u8 0, .int .u8 0, .int .u8 0, .int .u8 0, .int .u8 0, .int .u8 0, .int .u8 0, .int .u8 0, .int .u8 0, .int .u8 0, .int .u8 0, .int .u8 0, .int .u8 0]) (by kernel_rfl) (by kernel_rfl) (by kernel_rfl) (by kernel_rfl) (by first | exact ⟨⟨_, rfl⟩, ⟨_, rfl⟩, ⟨_, rfl⟩, ⟨_, rfl⟩, ⟨_, rfl⟩, ⟨_, rfl⟩, ⟨_, rfl⟩, ⟨_, rfl⟩, ⟨_, rfl⟩, ⟨_, rfl⟩, ⟨_, rfl⟩, ⟨_, rfl⟩, ⟨_, rfl⟩, ⟨_, rfl⟩, ⟨_, rfl⟩, ⟨_, rfl⟩, ⟨_, rfl⟩, ⟨_, rfl⟩, ⟨_, rfl⟩, ⟨_, rfl⟩, ⟨_, rfl⟩, ⟨_, rfl⟩, ⟨_, rfl⟩, ⟨_, rfl⟩, ⟨_, rfl⟩, ⟨_, rfl⟩, ⟨_, rfl⟩, ⟨_, rfl⟩, ⟨_, rfl⟩, ⟨_, rfl⟩, ⟨_, rfl⟩, ⟨_, rfl⟩, ⟨_, rfl⟩, ⟨_, rfl⟩, ⟨_, rfl⟩, ⟨_, rfl⟩, trivial⟩ | trivial) (by first | exact ⟨⟨_, rfl⟩, ⟨_, rfl⟩, ⟨_, rfl⟩, ⟨_, rfl⟩, ⟨_, rfl⟩, ⟨_, rfl⟩, ⟨_, rfl⟩, ⟨_, rfl⟩, ⟨_, rfl⟩, ⟨_, rfl⟩, ⟨_, rfl⟩, ⟨_, rfl⟩, ⟨_, rfl⟩, ⟨_, rfl⟩, ⟨_, rfl⟩, ⟨_, rfl⟩, ⟨_, rfl⟩, ⟨_, rfl⟩, ⟨_, rfl⟩, ⟨_, rfl⟩, ⟨_, rfl⟩, ⟨_, rfl⟩, ⟨_, rfl⟩, ⟨_, rfl⟩, ⟨_, rfl⟩, ⟨_, rfl⟩, ⟨_, rfl⟩, ⟨_, rfl⟩, ⟨_, rfl⟩, ⟨_, rfl⟩, ⟨_, rfl⟩, ⟨_, rfl⟩, ⟨_, rfl⟩, ⟨_, rfl⟩, ⟨_, rfl⟩, ⟨_, rfl⟩, trivial⟩ | trivial) true (by show omEq (gotV _ o) zeroO = true; rw [gotV_no ‹_›]; kernel_rfl) ?_
        refine VL_pure 8 [8, 12, 13, 16, 17, 102] [(8, .pointer (some ⟨b2, 0, none⟩)), (12, .bool (aheadA (walkA here wait q n) t)), (13, .bool (behindA (walkA here wait q n) t)), (16, .bool (aheadA (gotA (walkA here wait q n) t o) t)), (17, .bool (behindA (gotA (walkA here wait q n) t o) t)), (102, .bool true)] (by kernel_rfl) rfl ?_
        refine VL_load (d := 103) (t := 31) (a := ⟨b2, 0, none⟩) (v := .agg #[.int .i64 o.k, .int .u8 o.d, .bool o.a, .int .u32 o.tg, .int .u8 (o.p 0), .int .u8 (o.p 1), .int .u8 (o.p 2), .int .u8 (o.p 3), .int .u8 (o.p 4), .int .u8 (o.p 5), .int .u8 (o.p 6), .int .u8 (o.p 7), .int .u8 (o.p 8), .int .u8 (o.p 9), .int .u8 (o.p 10), .int .u8 (o.p 11), .int .u8 (o.p 12), .int .u8 (o.p 13), .int .u8 (o.p 14), .int .u8 (o.p 15), .int .u8 (o.s 0), .int .u8 (o.s 1), .int .u8 (o.s 2), .int .u8 (o.s 3), .int .u8 (o.s 4), .int .u8 (o.s 5), .int .u8 (o.s 6), .int .u8 (o.s 7), .int .u8 (o.s 8), .int .u8 (o.s 9), .int .u8 (o.s 10), .int .u8 (o.s 11), .int .u8 (o.s 12), .int .u8 (o.s 13), .int .u8 (o.s 14), .int .u8 (o.s 15)]) (by kernel_rfl) (by kernel_rfl) (Loads.ownL ho2 (n := 36) (by kernel_rfl) (by kernel_rfl) (by kernel_rfl)) ?_
        have hzs18 := hS.size
        have hzl57 := ho1.lt
        have hzl58 := ho2.lt
        have hzl59 := ht2.lt
        have hzl60 := ho4.lt
        have hzl61 := ho6.lt
        refine VL_call (d := 104) (f := 22) (by kernel_rfl) (by kernel_rfl) (by kernel_rfl) Try.call22 (right_any o _) ?_
        rintro _ w20 ⟨rfl, hc14⟩
        replace hS := Step.trans hS hc14
        replace ho1 := ho1.no hc14
        replace ho2 := ho2.no hc14
        replace ht2 := ht2.no hc14
        replace ho4 := ho4.no hc14
        replace ho6 := ho6.no hc14
        refine VL_pure 11 [12, 13, 16, 17, 102, 105] [(12, .bool (aheadA (walkA here wait q n) t)), (13, .bool (behindA (walkA here wait q n) t)), (16, .bool (aheadA (gotA (walkA here wait q n) t o) t)), (17, .bool (behindA (gotA (walkA here wait q n) t o) t)), (102, .bool true), (105, .bool (rightO o))] (by kernel_rfl) rfl ?_
        refine VL_bool (rightO o) (fun b => [(12, .bool (aheadA (walkA here wait q n) t)), (13, .bool (behindA (walkA here wait q n) t)), (16, .bool (aheadA (gotA (walkA here wait q n) t o) t)), (17, .bool (behindA (gotA (walkA here wait q n) t o) t)), (102, .bool true), (105, .bool b)]) rfl (fun hg3 => ?_) (fun hg3 => ?_)
        · refine VL_pure 14 [13, 17, 102, 105, 108] [(13, .bool (behindA (walkA here wait q n) t)), (17, .bool (behindA (gotA (walkA here wait q n) t o) t)), (102, .bool true), (105, .bool true), (108, undef)] (by kernel_rfl) rfl ?_
          refine VL_pure 18 [102, 105, 109, 112] [(102, .bool true), (105, .bool true), (109, undef), (112, undef)] (by kernel_rfl) rfl ?_
          refine VL_pure 22 [10] [(10, .bool true)] (by kernel_rfl) rfl ?_
          refine VL_end (by kernel_rfl) ?_
          refine VQ_next ?_
          refine VC_ret ?_
          refine VQ_then_ret ?_
          refine VQ_ret1 (.bool true) (.inr rfl) rfl rfl ?_
          exact ⟨rfl, hS⟩
        · refine VL_pure 14 [13, 17, 102, 105, 108] [(13, .bool (behindA (walkA here wait q n) t)), (17, .bool (behindA (gotA (walkA here wait q n) t o) t)), (102, .bool true), (105, .bool false), (108, .bool ((aheadA (walkA here wait q n) t) == (aheadA (gotA (walkA here wait q n) t o) t)))] (by kernel_rfl) rfl ?_
          refine VL_eq [(13, .bool (behindA (walkA here wait q n) t)), (17, .bool (behindA (gotA (walkA here wait q n) t o) t)), (102, .bool true), (105, .bool false), (108, .bool true)] (by rw [(got_no ‹_›).1]; simp) ?_
          refine VL_pure 18 [102, 105, 109, 112] [(102, .bool true), (105, .bool false), (109, .bool true), (112, .bool ((behindA (walkA here wait q n) t) == (behindA (gotA (walkA here wait q n) t o) t)))] (by kernel_rfl) rfl ?_
          refine VL_eq [(102, .bool true), (105, .bool false), (109, .bool true), (112, .bool true)] (by rw [(got_no ‹_›).1]; simp) ?_
          refine VL_pure 22 [10] [(10, .bool true)] (by kernel_rfl) rfl ?_
          refine VL_end (by kernel_rfl) ?_
          refine VQ_next ?_
          refine VC_ret ?_
          refine VQ_then_ret ?_
          refine VQ_ret1 (.bool true) (.inr rfl) rfl rfl ?_
          exact ⟨rfl, hS⟩
      · try simp only [Bool.and_eq_true, Bool.or_eq_true, decide_eq_true_eq, Bool.not_eq_true', decide_eq_false_iff_not, Bool.and_eq_false_iff, Bool.or_eq_false_iff, beq_iff_eq, bne_iff_ne, beq_eq_false_iff_ne, bne_eq_false_iff_eq, Bool.not_eq_eq_eq_not, Bool.not_true, Bool.not_false] at h2
        refine VC_skip ?_
        refine VQ_next ?_
        refine VC_seq ?_
        have hs8 : gotA (walkA here wait q n) t o = (walkA here wait q n) := gotA_not (by omega) (by omega) (by omega)
        rcases Bool.eq_false_or_eq_true o.a with hoa | hoa
        · rcases Bool.eq_false_or_eq_true (plEq o.p here) with hpe | hpe
          · have hoa91 := ho2
            rw [hoa] at hoa91
            refine VC_det [[], [0], [0, 1], [0, 1, 2], [0, 1, 2, 3], [0, 1, 2], [0, 1, 2, 3, 4, 5], [0, 1, 2, 3, 4, 5, 6], [0, 1, 2, 3, 4, 5, 6, 7], [0, 1, 2, 3, 4, 5, 6, 7, 8], [0, 1, 2, 3, 4, 5, 6, 7], [0, 1, 2, 3, 4, 5, 6, 7, 8, 9, 10], [0, 1, 2, 3, 4, 5, 6, 7, 8, 9, 10, 11], [0, 1, 2, 3, 4, 5, 6, 7, 8, 9, 10, 11, 12], [0, 1, 2, 3, 4, 5, 6, 7, 8, 9, 10, 11, 12, 13]] 11 [.pointer (some ⟨b2, 2, none⟩), .bool true, .bool true, .pointer (some ⟨b2, 4, none⟩), .agg #[.int .u8 (o.p 0), .int .u8 (o.p 1), .int .u8 (o.p 2), .int .u8 (o.p 3), .int .u8 (o.p 4), .int .u8 (o.p 5), .int .u8 (o.p 6), .int .u8 (o.p 7), .int .u8 (o.p 8), .int .u8 (o.p 9), .int .u8 (o.p 10), .int .u8 (o.p 11), .int .u8 (o.p 12), .int .u8 (o.p 13), .int .u8 (o.p 14), .int .u8 (o.p 15)], .agg #[.int .u8 (here 0), .int .u8 (here 1), .int .u8 (here 2), .int .u8 (here 3), .int .u8 (here 4), .int .u8 (here 5), .int .u8 (here 6), .int .u8 (here 7), .int .u8 (here 8), .int .u8 (here 9), .int .u8 (here 10), .int .u8 (here 11), .int .u8 (here 12), .int .u8 (here 13), .int .u8 (here 14), .int .u8 (here 15)], .bool true, .bool true, undef, undef, undef] [0, 2, 3, 7, 8, 9, 10] [1, 4, 5, 6] (by kernel_rfl) (by kernel_rfl) (by kernel_rfl) (by kernel_rfl) ?_ ?_
            · intro w21 hs1
              replace hS := Step.trans hS hs1
              replace ho1 := ho1.no hs1
              replace ho2 := ho2.no hs1
              replace ht2 := ht2.no hs1
              replace ho4 := ho4.no hs1
              replace ho6 := ho6.no hs1
              replace hoa91 := hoa91.no hs1
              exact ⟨Det1_load (d := 117) (t := 4) (a := ⟨b2, 2, none⟩) (by kernel_rfl) (by kernel_rfl) (Loads.own1 hoa91 (by kernel_rfl) (by rfl)), Det1_load (d := 120) (t := 22) (a := ⟨b2, 4, none⟩) (by kernel_rfl) (by kernel_rfl) (Loads.ownL hoa91 (n := 16) (by kernel_rfl) (by kernel_rfl) (by kernel_rfl)), Det1_load (d := 121) (t := 22) (a := ⟨b1, 0, none⟩) (by kernel_rfl) (by kernel_rfl) (Loads.ownL ho1 (n := 16) (by kernel_rfl) (by kernel_rfl) (by kernel_rfl)), Det1_eq (d := 122) (dd := 9) (ls := (rep 16 [.int .u8])) (pos := true) (t := 22) (xs := #[.int .u8 (o.p 0), .int .u8 (o.p 1), .int .u8 (o.p 2), .int .u8 (o.p 3), .int .u8 (o.p 4), .int .u8 (o.p 5), .int .u8 (o.p 6), .int .u8 (o.p 7), .int .u8 (o.p 8), .int .u8 (o.p 9), .int .u8 (o.p 10), .int .u8 (o.p 11), .int .u8 (o.p 12), .int .u8 (o.p 13), .int .u8 (o.p 14), .int .u8 (o.p 15)]) (ys := #[.int .u8 (here 0), .int .u8 (here 1), .int .u8 (here 2), .int .u8 (here 3), .int .u8 (here 4), .int .u8 (here 5), .int .u8 (here 6), .int .u8 (here 7), .int .u8 (here 8), .int .u8 (here 9), .int .u8 (here 10), .int .u8 (here 11), .int .u8 (here 12), .int .u8 (here 13), .int .u8 (here 14), .int .u8 (here 15)]) (by kernel_rfl) (by kernel_rfl) (by kernel_rfl) (by kernel_rfl) (by first | exact ⟨⟨_, rfl⟩, ⟨_, rfl⟩, ⟨_, rfl⟩, ⟨_, rfl⟩, ⟨_, rfl⟩, ⟨_, rfl⟩, ⟨_, rfl⟩, ⟨_, rfl⟩, ⟨_, rfl⟩, ⟨_, rfl⟩, ⟨_, rfl⟩, ⟨_, rfl⟩, ⟨_, rfl⟩, ⟨_, rfl⟩, ⟨_, rfl⟩, ⟨_, rfl⟩, trivial⟩ | trivial) (by first | exact ⟨⟨_, rfl⟩, ⟨_, rfl⟩, ⟨_, rfl⟩, ⟨_, rfl⟩, ⟨_, rfl⟩, ⟨_, rfl⟩, ⟨_, rfl⟩, ⟨_, rfl⟩, ⟨_, rfl⟩, ⟨_, rfl⟩, ⟨_, rfl⟩, ⟨_, rfl⟩, ⟨_, rfl⟩, ⟨_, rfl⟩, ⟨_, rfl⟩, ⟨_, rfl⟩, trivial⟩ | trivial) true (by exact hpe), trivial⟩
            intro w21 hs1
            replace hS := Step.trans hS hs1
            replace ho1 := ho1.no hs1
            replace ho2 := ho2.no hs1
            replace ht2 := ht2.no hs1
            replace ho4 := ho4.no hs1
            replace ho6 := ho6.no hs1
            replace hoa91 := hoa91.no hs1
            refine VL_keep [5, 8, 12, 13, 14, 15, 16, 17, 118, 123, 125, 126] [(5, .pointer (some ⟨b1, 0, none⟩)), (8, .pointer (some ⟨b2, 0, none⟩)), (12, .bool (aheadA (walkA here wait q n) t)), (13, .bool (behindA (walkA here wait q n) t)), (14, .pointer (some ⟨b3, 0, none⟩)), (15, .bool (gotB (walkA here wait q n) o)), (16, .bool (aheadA (gotA (walkA here wait q n) t o) t)), (17, .bool (behindA (gotA (walkA here wait q n) t o) t)), (118, .bool true), (123, .bool true), (125, undef), (126, undef)] (by kernel_rfl) ?_
            refine VL_pure 15 [5, 8, 12, 13, 14, 15, 16, 17, 23] [(5, .pointer (some ⟨b1, 0, none⟩)), (8, .pointer (some ⟨b2, 0, none⟩)), (12, .bool (aheadA (walkA here wait q n) t)), (13, .bool (behindA (walkA here wait q n) t)), (14, .pointer (some ⟨b3, 0, none⟩)), (15, .bool (gotB (walkA here wait q n) o)), (16, .bool (aheadA (gotA (walkA here wait q n) t o) t)), (17, .bool (behindA (gotA (walkA here wait q n) t o) t)), (23, .bool true)] (by kernel_rfl) rfl ?_
            refine VL_end (by kernel_rfl) ?_
            refine VQ_next ?_
            refine VC_seq ?_
            refine VC_region ?_
            refine VL_pure 3 [5, 8, 13, 14, 15, 17, 23, 132] [(5, .pointer (some ⟨b1, 0, none⟩)), (8, .pointer (some ⟨b2, 0, none⟩)), (13, .bool (behindA (walkA here wait q n) t)), (14, .pointer (some ⟨b3, 0, none⟩)), (15, .bool (gotB (walkA here wait q n) o)), (17, .bool (behindA (gotA (walkA here wait q n) t o) t)), (23, .bool true), (132, .bool ((aheadA (walkA here wait q n) t) == (aheadA (gotA (walkA here wait q n) t o) t)))] (by kernel_rfl) rfl ?_
            refine VL_eq [(5, .pointer (some ⟨b1, 0, none⟩)), (8, .pointer (some ⟨b2, 0, none⟩)), (13, .bool (behindA (walkA here wait q n) t)), (14, .pointer (some ⟨b3, 0, none⟩)), (15, .bool (gotB (walkA here wait q n) o)), (17, .bool (behindA (gotA (walkA here wait q n) t o) t)), (23, .bool true), (132, .bool true)] (by rw [hs8]; simp) ?_
            refine VL_pure 7 [5, 8, 14, 15, 23, 133, 136] [(5, .pointer (some ⟨b1, 0, none⟩)), (8, .pointer (some ⟨b2, 0, none⟩)), (14, .pointer (some ⟨b3, 0, none⟩)), (15, .bool (gotB (walkA here wait q n) o)), (23, .bool true), (133, .bool true), (136, .bool ((behindA (walkA here wait q n) t) == (behindA (gotA (walkA here wait q n) t o) t)))] (by kernel_rfl) rfl ?_
            refine VL_eq [(5, .pointer (some ⟨b1, 0, none⟩)), (8, .pointer (some ⟨b2, 0, none⟩)), (14, .pointer (some ⟨b3, 0, none⟩)), (15, .bool (gotB (walkA here wait q n) o)), (23, .bool true), (133, .bool true), (136, .bool true)] (by rw [hs8]; simp) ?_
            refine VL_pure 12 [5, 8, 14, 15, 138, 141] [(5, .pointer (some ⟨b1, 0, none⟩)), (8, .pointer (some ⟨b2, 0, none⟩)), (14, .pointer (some ⟨b3, 0, none⟩)), (15, .bool (gotB (walkA here wait q n) o)), (138, .bool true), (141, .bool ((gotB (walkA here wait q n) o) == true))] (by kernel_rfl) rfl ?_
            refine VL_eq [(5, .pointer (some ⟨b1, 0, none⟩)), (8, .pointer (some ⟨b2, 0, none⟩)), (14, .pointer (some ⟨b3, 0, none⟩)), (15, .bool (gotB (walkA here wait q n) o)), (138, .bool true), (141, .bool true)] (by rw [gotB_8 ‹_› ‹_›, walkA_here, hoa]; simp [*]) ?_
            refine VL_pure 17 [5, 8, 14, 143, 146] [(5, .pointer (some ⟨b1, 0, none⟩)), (8, .pointer (some ⟨b2, 0, none⟩)), (14, .pointer (some ⟨b3, 0, none⟩)), (143, .bool true), (146, .bool (!(gotB (walkA here wait q n) o)))] (by kernel_rfl) rfl ?_
            refine VL_bool (gotB (walkA here wait q n) o) (fun b => [(5, .pointer (some ⟨b1, 0, none⟩)), (8, .pointer (some ⟨b2, 0, none⟩)), (14, .pointer (some ⟨b3, 0, none⟩)), (143, .bool true), (146, .bool (!b))]) rfl (fun hg4 => ?_) (fun hg4 => ?_)
            · refine VL_pure 18 [5, 8, 14, 143, 146, 147] [(5, .pointer (some ⟨b1, 0, none⟩)), (8, .pointer (some ⟨b2, 0, none⟩)), (14, .pointer (some ⟨b3, 0, none⟩)), (143, .bool true), (146, .bool false), (147, .pointer (some ⟨b3, 3, none⟩))] (by kernel_rfl) rfl ?_
              refine VL_load (d := 148) (t := 29) (a := ⟨b3, 3, none⟩) (v := .int .u32 ((gotV (walkA here wait q n) o).tg)) (by kernel_rfl) (by kernel_rfl) (Loads.own1 ho4 (by kernel_rfl) (by rfl)) ?_
              refine VL_pure 20 [5, 14, 143, 146, 148, 149] [(5, .pointer (some ⟨b1, 0, none⟩)), (14, .pointer (some ⟨b3, 0, none⟩)), (143, .bool true), (146, .bool false), (148, .int .u32 ((gotV (walkA here wait q n) o).tg)), (149, .pointer (some ⟨b2, 3, none⟩))] (by kernel_rfl) rfl ?_
              refine VL_load (d := 150) (t := 29) (a := ⟨b2, 3, none⟩) (v := .int .u32 o.tg) (by kernel_rfl) (by kernel_rfl) (Loads.own1 hoa91 (by kernel_rfl) (by rfl)) ?_
              refine VL_pure 22 [5, 14, 143, 146, 151] [(5, .pointer (some ⟨b1, 0, none⟩)), (14, .pointer (some ⟨b3, 0, none⟩)), (143, .bool true), (146, .bool false), (151, .bool (((gotV (walkA here wait q n) o).tg) == o.tg))] (by kernel_rfl) rfl ?_
              refine VL_eq [(5, .pointer (some ⟨b1, 0, none⟩)), (14, .pointer (some ⟨b3, 0, none⟩)), (143, .bool true), (146, .bool false), (151, .bool true)] (by rw [gotV_tg ‹_›]; simp) ?_
              refine VL_pure 24 [5, 14, 143, 146, 152, 153] [(5, .pointer (some ⟨b1, 0, none⟩)), (14, .pointer (some ⟨b3, 0, none⟩)), (143, .bool true), (146, .bool false), (152, .bool true), (153, .pointer (some ⟨b3, 4, none⟩))] (by kernel_rfl) rfl ?_
              refine VL_load (d := 154) (t := 22) (a := ⟨b3, 4, none⟩) (v := .agg #[.int .u8 (((gotV (walkA here wait q n) o).p) 0), .int .u8 (((gotV (walkA here wait q n) o).p) 1), .int .u8 (((gotV (walkA here wait q n) o).p) 2), .int .u8 (((gotV (walkA here wait q n) o).p) 3), .int .u8 (((gotV (walkA here wait q n) o).p) 4), .int .u8 (((gotV (walkA here wait q n) o).p) 5), .int .u8 (((gotV (walkA here wait q n) o).p) 6), .int .u8 (((gotV (walkA here wait q n) o).p) 7), .int .u8 (((gotV (walkA here wait q n) o).p) 8), .int .u8 (((gotV (walkA here wait q n) o).p) 9), .int .u8 (((gotV (walkA here wait q n) o).p) 10), .int .u8 (((gotV (walkA here wait q n) o).p) 11), .int .u8 (((gotV (walkA here wait q n) o).p) 12), .int .u8 (((gotV (walkA here wait q n) o).p) 13), .int .u8 (((gotV (walkA here wait q n) o).p) 14), .int .u8 (((gotV (walkA here wait q n) o).p) 15)]) (by kernel_rfl) (by kernel_rfl) (Loads.ownL ho4 (n := 16) (by kernel_rfl) (by kernel_rfl) (by kernel_rfl)) ?_
              refine VL_load (d := 155) (t := 22) (a := ⟨b1, 0, none⟩) (v := .agg #[.int .u8 (here 0), .int .u8 (here 1), .int .u8 (here 2), .int .u8 (here 3), .int .u8 (here 4), .int .u8 (here 5), .int .u8 (here 6), .int .u8 (here 7), .int .u8 (here 8), .int .u8 (here 9), .int .u8 (here 10), .int .u8 (here 11), .int .u8 (here 12), .int .u8 (here 13), .int .u8 (here 14), .int .u8 (here 15)]) (by kernel_rfl) (by kernel_rfl) (Loads.ownL ho1 (n := 16) (by kernel_rfl) (by kernel_rfl) (by kernel_rfl)) ?_
              refine VL_agEq (d := 156) (dd := 9) (ls := (rep 16 [.int .u8])) (pos := true) (t := 22) (xs := #[.int .u8 (((gotV (walkA here wait q n) o).p) 0), .int .u8 (((gotV (walkA here wait q n) o).p) 1), .int .u8 (((gotV (walkA here wait q n) o).p) 2), .int .u8 (((gotV (walkA here wait q n) o).p) 3), .int .u8 (((gotV (walkA here wait q n) o).p) 4), .int .u8 (((gotV (walkA here wait q n) o).p) 5), .int .u8 (((gotV (walkA here wait q n) o).p) 6), .int .u8 (((gotV (walkA here wait q n) o).p) 7), .int .u8 (((gotV (walkA here wait q n) o).p) 8), .int .u8 (((gotV (walkA here wait q n) o).p) 9), .int .u8 (((gotV (walkA here wait q n) o).p) 10), .int .u8 (((gotV (walkA here wait q n) o).p) 11), .int .u8 (((gotV (walkA here wait q n) o).p) 12), .int .u8 (((gotV (walkA here wait q n) o).p) 13), .int .u8 (((gotV (walkA here wait q n) o).p) 14), .int .u8 (((gotV (walkA here wait q n) o).p) 15)]) (ys := #[.int .u8 (here 0), .int .u8 (here 1), .int .u8 (here 2), .int .u8 (here 3), .int .u8 (here 4), .int .u8 (here 5), .int .u8 (here 6), .int .u8 (here 7), .int .u8 (here 8), .int .u8 (here 9), .int .u8 (here 10), .int .u8 (here 11), .int .u8 (here 12), .int .u8 (here 13), .int .u8 (here 14), .int .u8 (here 15)]) (by kernel_rfl) (by kernel_rfl) (by kernel_rfl) (by kernel_rfl) (by first | exact ⟨⟨_, rfl⟩, ⟨_, rfl⟩, ⟨_, rfl⟩, ⟨_, rfl⟩, ⟨_, rfl⟩, ⟨_, rfl⟩, ⟨_, rfl⟩, ⟨_, rfl⟩, ⟨_, rfl⟩, ⟨_, rfl⟩, ⟨_, rfl⟩, ⟨_, rfl⟩, ⟨_, rfl⟩, ⟨_, rfl⟩, ⟨_, rfl⟩, ⟨_, rfl⟩, trivial⟩ | trivial) (by first | exact ⟨⟨_, rfl⟩, ⟨_, rfl⟩, ⟨_, rfl⟩, ⟨_, rfl⟩, ⟨_, rfl⟩, ⟨_, rfl⟩, ⟨_, rfl⟩, ⟨_, rfl⟩, ⟨_, rfl⟩, ⟨_, rfl⟩, ⟨_, rfl⟩, ⟨_, rfl⟩, ⟨_, rfl⟩, ⟨_, rfl⟩, ⟨_, rfl⟩, ⟨_, rfl⟩, trivial⟩ | trivial) true (by exact gotV_place ‹_› (walkA_here _ _ _ _)) ?_
              refine VL_pure 30 [143, 146, 158, 159] [(143, .bool true), (146, .bool false), (158, .bool true), (159, .pointer (some ⟨b3, 2, none⟩))] (by kernel_rfl) rfl ?_
              refine VL_load (d := 160) (t := 4) (a := ⟨b3, 2, none⟩) (v := .bool ((gotV (walkA here wait q n) o).a)) (by kernel_rfl) (by kernel_rfl) (Loads.own1 ho4 (by kernel_rfl) (by rfl)) ?_
              refine VL_pure 32 [143, 146, 158, 161] [(143, .bool true), (146, .bool false), (158, .bool true), (161, .bool (!((gotV (walkA here wait q n) o).a)))] (by kernel_rfl) rfl ?_
              refine VL_eq [(143, .bool true), (146, .bool false), (158, .bool true), (161, .bool true)] (by rw [gotV_a ‹_›]; rfl) ?_
              refine VL_pure 36 [10] [(10, .bool true)] (by kernel_rfl) rfl ?_
              refine VL_end (by kernel_rfl) ?_
              refine VQ_next ?_
              refine VC_ret ?_
              refine VQ_ret1 (.bool true) (.inr rfl) rfl rfl ?_
              exact ⟨rfl, hS⟩
            · refine VL_pure 22 [5, 14, 143, 146, 151] [(5, .pointer (some ⟨b1, 0, none⟩)), (14, .pointer (some ⟨b3, 0, none⟩)), (143, .bool true), (146, .bool true), (151, undef)] (by kernel_rfl) rfl ?_
              refine VL_pure 32 [143, 146, 158, 161] [(143, .bool true), (146, .bool true), (158, undef), (161, undef)] (by kernel_rfl) rfl ?_
              refine VL_pure 36 [10] [(10, .bool true)] (by kernel_rfl) rfl ?_
              refine VL_end (by kernel_rfl) ?_
              refine VQ_next ?_
              refine VC_ret ?_
              refine VQ_ret1 (.bool true) (.inr rfl) rfl rfl ?_
              exact ⟨rfl, hS⟩
          · have hoa92 := ho2
            rw [hoa] at hoa92
            refine VC_det [[], [0], [0, 1], [0, 1, 2], [0, 1, 2, 3], [0, 1, 2], [0, 1, 2, 3, 4, 5], [0, 1, 2, 3, 4, 5, 6], [0, 1, 2, 3, 4, 5, 6, 7], [0, 1, 2, 3, 4, 5, 6, 7, 8], [0, 1, 2, 3, 4, 5, 6, 7], [0, 1, 2, 3, 4, 5, 6, 7, 8, 9, 10], [0, 1, 2, 3, 4, 5, 6, 7, 8, 9, 10, 11], [0, 1, 2, 3, 4, 5, 6, 7, 8, 9, 10, 11, 12], [0, 1, 2, 3, 4, 5, 6, 7, 8, 9, 10, 11, 12, 13]] 11 [.pointer (some ⟨b2, 2, none⟩), .bool true, .bool true, .pointer (some ⟨b2, 4, none⟩), .agg #[.int .u8 (o.p 0), .int .u8 (o.p 1), .int .u8 (o.p 2), .int .u8 (o.p 3), .int .u8 (o.p 4), .int .u8 (o.p 5), .int .u8 (o.p 6), .int .u8 (o.p 7), .int .u8 (o.p 8), .int .u8 (o.p 9), .int .u8 (o.p 10), .int .u8 (o.p 11), .int .u8 (o.p 12), .int .u8 (o.p 13), .int .u8 (o.p 14), .int .u8 (o.p 15)], .agg #[.int .u8 (here 0), .int .u8 (here 1), .int .u8 (here 2), .int .u8 (here 3), .int .u8 (here 4), .int .u8 (here 5), .int .u8 (here 6), .int .u8 (here 7), .int .u8 (here 8), .int .u8 (here 9), .int .u8 (here 10), .int .u8 (here 11), .int .u8 (here 12), .int .u8 (here 13), .int .u8 (here 14), .int .u8 (here 15)], .bool false, .bool false, .pointer (some ⟨b2, 4, none⟩), .agg #[.int .u8 (o.p 0), .int .u8 (o.p 1), .int .u8 (o.p 2), .int .u8 (o.p 3), .int .u8 (o.p 4), .int .u8 (o.p 5), .int .u8 (o.p 6), .int .u8 (o.p 7), .int .u8 (o.p 8), .int .u8 (o.p 9), .int .u8 (o.p 10), .int .u8 (o.p 11), .int .u8 (o.p 12), .int .u8 (o.p 13), .int .u8 (o.p 14), .int .u8 (o.p 15)], .agg #[.int .u8 (ones 0), .int .u8 (ones 1), .int .u8 (ones 2), .int .u8 (ones 3), .int .u8 (ones 4), .int .u8 (ones 5), .int .u8 (ones 6), .int .u8 (ones 7), .int .u8 (ones 8), .int .u8 (ones 9), .int .u8 (ones 10), .int .u8 (ones 11), .int .u8 (ones 12), .int .u8 (ones 13), .int .u8 (ones 14), .int .u8 (ones 15)]] [0, 2, 3, 7, 8] [1, 4, 5, 6, 9, 10] (by kernel_rfl) (by kernel_rfl) (by kernel_rfl) (by kernel_rfl) ?_ ?_
            · intro w22 hs2
              replace hS := Step.trans hS hs2
              replace ho1 := ho1.no hs2
              replace ho2 := ho2.no hs2
              replace ht2 := ht2.no hs2
              replace ho4 := ho4.no hs2
              replace ho6 := ho6.no hs2
              replace hoa92 := hoa92.no hs2
              exact ⟨Det1_load (d := 117) (t := 4) (a := ⟨b2, 2, none⟩) (by kernel_rfl) (by kernel_rfl) (Loads.own1 hoa92 (by kernel_rfl) (by rfl)), Det1_load (d := 120) (t := 22) (a := ⟨b2, 4, none⟩) (by kernel_rfl) (by kernel_rfl) (Loads.ownL hoa92 (n := 16) (by kernel_rfl) (by kernel_rfl) (by kernel_rfl)), Det1_load (d := 121) (t := 22) (a := ⟨b1, 0, none⟩) (by kernel_rfl) (by kernel_rfl) (Loads.ownL ho1 (n := 16) (by kernel_rfl) (by kernel_rfl) (by kernel_rfl)), Det1_eq (d := 122) (dd := 9) (ls := (rep 16 [.int .u8])) (pos := true) (t := 22) (xs := #[.int .u8 (o.p 0), .int .u8 (o.p 1), .int .u8 (o.p 2), .int .u8 (o.p 3), .int .u8 (o.p 4), .int .u8 (o.p 5), .int .u8 (o.p 6), .int .u8 (o.p 7), .int .u8 (o.p 8), .int .u8 (o.p 9), .int .u8 (o.p 10), .int .u8 (o.p 11), .int .u8 (o.p 12), .int .u8 (o.p 13), .int .u8 (o.p 14), .int .u8 (o.p 15)]) (ys := #[.int .u8 (here 0), .int .u8 (here 1), .int .u8 (here 2), .int .u8 (here 3), .int .u8 (here 4), .int .u8 (here 5), .int .u8 (here 6), .int .u8 (here 7), .int .u8 (here 8), .int .u8 (here 9), .int .u8 (here 10), .int .u8 (here 11), .int .u8 (here 12), .int .u8 (here 13), .int .u8 (here 14), .int .u8 (here 15)]) (by kernel_rfl) (by kernel_rfl) (by kernel_rfl) (by kernel_rfl) (by first | exact ⟨⟨_, rfl⟩, ⟨_, rfl⟩, ⟨_, rfl⟩, ⟨_, rfl⟩, ⟨_, rfl⟩, ⟨_, rfl⟩, ⟨_, rfl⟩, ⟨_, rfl⟩, ⟨_, rfl⟩, ⟨_, rfl⟩, ⟨_, rfl⟩, ⟨_, rfl⟩, ⟨_, rfl⟩, ⟨_, rfl⟩, ⟨_, rfl⟩, ⟨_, rfl⟩, trivial⟩ | trivial) (by first | exact ⟨⟨_, rfl⟩, ⟨_, rfl⟩, ⟨_, rfl⟩, ⟨_, rfl⟩, ⟨_, rfl⟩, ⟨_, rfl⟩, ⟨_, rfl⟩, ⟨_, rfl⟩, ⟨_, rfl⟩, ⟨_, rfl⟩, ⟨_, rfl⟩, ⟨_, rfl⟩, ⟨_, rfl⟩, ⟨_, rfl⟩, ⟨_, rfl⟩, ⟨_, rfl⟩, trivial⟩ | trivial) false (by exact hpe), Det1_load (d := 125) (t := 22) (a := ⟨b2, 4, none⟩) (by kernel_rfl) (by kernel_rfl) (Loads.ownL hoa92 (n := 16) (by kernel_rfl) (by kernel_rfl) (by kernel_rfl)), Det1_call (d := 126) (f := 23) (args := #[]) (by kernel_rfl) (by kernel_rfl) (by kernel_rfl) Try.call23 (by exact everywhere_any _), trivial⟩
            intro w22 hs2
            replace hS := Step.trans hS hs2
            replace ho1 := ho1.no hs2
            replace ho2 := ho2.no hs2
            replace ht2 := ht2.no hs2
            replace ho4 := ho4.no hs2
            replace ho6 := ho6.no hs2
            replace hoa92 := hoa92.no hs2
            refine VL_keep [5, 8, 12, 13, 14, 15, 16, 17, 118, 123, 125, 126] [(5, .pointer (some ⟨b1, 0, none⟩)), (8, .pointer (some ⟨b2, 0, none⟩)), (12, .bool (aheadA (walkA here wait q n) t)), (13, .bool (behindA (walkA here wait q n) t)), (14, .pointer (some ⟨b3, 0, none⟩)), (15, .bool (gotB (walkA here wait q n) o)), (16, .bool (aheadA (gotA (walkA here wait q n) t o) t)), (17, .bool (behindA (gotA (walkA here wait q n) t o) t)), (118, .bool true), (123, .bool false), (125, .agg #[.int .u8 (o.p 0), .int .u8 (o.p 1), .int .u8 (o.p 2), .int .u8 (o.p 3), .int .u8 (o.p 4), .int .u8 (o.p 5), .int .u8 (o.p 6), .int .u8 (o.p 7), .int .u8 (o.p 8), .int .u8 (o.p 9), .int .u8 (o.p 10), .int .u8 (o.p 11), .int .u8 (o.p 12), .int .u8 (o.p 13), .int .u8 (o.p 14), .int .u8 (o.p 15)]), (126, .agg #[.int .u8 (ones 0), .int .u8 (ones 1), .int .u8 (ones 2), .int .u8 (ones 3), .int .u8 (ones 4), .int .u8 (ones 5), .int .u8 (ones 6), .int .u8 (ones 7), .int .u8 (ones 8), .int .u8 (ones 9), .int .u8 (ones 10), .int .u8 (ones 11), .int .u8 (ones 12), .int .u8 (ones 13), .int .u8 (ones 14), .int .u8 (ones 15)])] (by kernel_rfl) ?_
            refine VL_agEq (d := 127) (dd := 9) (ls := (rep 16 [.int .u8])) (pos := true) (t := 22) (xs := #[.int .u8 (o.p 0), .int .u8 (o.p 1), .int .u8 (o.p 2), .int .u8 (o.p 3), .int .u8 (o.p 4), .int .u8 (o.p 5), .int .u8 (o.p 6), .int .u8 (o.p 7), .int .u8 (o.p 8), .int .u8 (o.p 9), .int .u8 (o.p 10), .int .u8 (o.p 11), .int .u8 (o.p 12), .int .u8 (o.p 13), .int .u8 (o.p 14), .int .u8 (o.p 15)]) (ys := #[.int .u8 (ones 0), .int .u8 (ones 1), .int .u8 (ones 2), .int .u8 (ones 3), .int .u8 (ones 4), .int .u8 (ones 5), .int .u8 (ones 6), .int .u8 (ones 7), .int .u8 (ones 8), .int .u8 (ones 9), .int .u8 (ones 10), .int .u8 (ones 11), .int .u8 (ones 12), .int .u8 (ones 13), .int .u8 (ones 14), .int .u8 (ones 15)]) (by kernel_rfl) (by kernel_rfl) (by kernel_rfl) (by kernel_rfl) (by first | exact ⟨⟨_, rfl⟩, ⟨_, rfl⟩, ⟨_, rfl⟩, ⟨_, rfl⟩, ⟨_, rfl⟩, ⟨_, rfl⟩, ⟨_, rfl⟩, ⟨_, rfl⟩, ⟨_, rfl⟩, ⟨_, rfl⟩, ⟨_, rfl⟩, ⟨_, rfl⟩, ⟨_, rfl⟩, ⟨_, rfl⟩, ⟨_, rfl⟩, ⟨_, rfl⟩, trivial⟩ | trivial) (by first | exact ⟨⟨_, rfl⟩, ⟨_, rfl⟩, ⟨_, rfl⟩, ⟨_, rfl⟩, ⟨_, rfl⟩, ⟨_, rfl⟩, ⟨_, rfl⟩, ⟨_, rfl⟩, ⟨_, rfl⟩, ⟨_, rfl⟩, ⟨_, rfl⟩, ⟨_, rfl⟩, ⟨_, rfl⟩, ⟨_, rfl⟩, ⟨_, rfl⟩, ⟨_, rfl⟩, trivial⟩ | trivial) (plEq o.p ones) (by rfl) ?_
            refine VL_pure 15 [5, 8, 12, 13, 14, 15, 16, 17, 23] [(5, .pointer (some ⟨b1, 0, none⟩)), (8, .pointer (some ⟨b2, 0, none⟩)), (12, .bool (aheadA (walkA here wait q n) t)), (13, .bool (behindA (walkA here wait q n) t)), (14, .pointer (some ⟨b3, 0, none⟩)), (15, .bool (gotB (walkA here wait q n) o)), (16, .bool (aheadA (gotA (walkA here wait q n) t o) t)), (17, .bool (behindA (gotA (walkA here wait q n) t o) t)), (23, .bool (plEq o.p ones))] (by kernel_rfl) rfl ?_
            refine VL_end (by kernel_rfl) ?_
            refine VQ_next ?_
            refine VC_seq ?_
            refine VC_region ?_
            refine VL_pure 3 [5, 8, 13, 14, 15, 17, 23, 132] [(5, .pointer (some ⟨b1, 0, none⟩)), (8, .pointer (some ⟨b2, 0, none⟩)), (13, .bool (behindA (walkA here wait q n) t)), (14, .pointer (some ⟨b3, 0, none⟩)), (15, .bool (gotB (walkA here wait q n) o)), (17, .bool (behindA (gotA (walkA here wait q n) t o) t)), (23, .bool (plEq o.p ones)), (132, .bool ((aheadA (walkA here wait q n) t) == (aheadA (gotA (walkA here wait q n) t o) t)))] (by kernel_rfl) rfl ?_
            refine VL_eq [(5, .pointer (some ⟨b1, 0, none⟩)), (8, .pointer (some ⟨b2, 0, none⟩)), (13, .bool (behindA (walkA here wait q n) t)), (14, .pointer (some ⟨b3, 0, none⟩)), (15, .bool (gotB (walkA here wait q n) o)), (17, .bool (behindA (gotA (walkA here wait q n) t o) t)), (23, .bool (plEq o.p ones)), (132, .bool true)] (by rw [hs8]; simp) ?_
            refine VL_pure 7 [5, 8, 14, 15, 23, 133, 136] [(5, .pointer (some ⟨b1, 0, none⟩)), (8, .pointer (some ⟨b2, 0, none⟩)), (14, .pointer (some ⟨b3, 0, none⟩)), (15, .bool (gotB (walkA here wait q n) o)), (23, .bool (plEq o.p ones)), (133, .bool true), (136, .bool ((behindA (walkA here wait q n) t) == (behindA (gotA (walkA here wait q n) t o) t)))] (by kernel_rfl) rfl ?_
            refine VL_eq [(5, .pointer (some ⟨b1, 0, none⟩)), (8, .pointer (some ⟨b2, 0, none⟩)), (14, .pointer (some ⟨b3, 0, none⟩)), (15, .bool (gotB (walkA here wait q n) o)), (23, .bool (plEq o.p ones)), (133, .bool true), (136, .bool true)] (by rw [hs8]; simp) ?_
            refine VL_pure 12 [5, 8, 14, 15, 138, 141] [(5, .pointer (some ⟨b1, 0, none⟩)), (8, .pointer (some ⟨b2, 0, none⟩)), (14, .pointer (some ⟨b3, 0, none⟩)), (15, .bool (gotB (walkA here wait q n) o)), (138, .bool true), (141, .bool ((gotB (walkA here wait q n) o) == (plEq o.p ones)))] (by kernel_rfl) rfl ?_
            refine VL_eq [(5, .pointer (some ⟨b1, 0, none⟩)), (8, .pointer (some ⟨b2, 0, none⟩)), (14, .pointer (some ⟨b3, 0, none⟩)), (15, .bool (gotB (walkA here wait q n) o)), (138, .bool true), (141, .bool true)] (by rw [gotB_8 ‹_› ‹_›, walkA_here, hoa]; simp [*]) ?_
            refine VL_pure 17 [5, 8, 14, 143, 146] [(5, .pointer (some ⟨b1, 0, none⟩)), (8, .pointer (some ⟨b2, 0, none⟩)), (14, .pointer (some ⟨b3, 0, none⟩)), (143, .bool true), (146, .bool (!(gotB (walkA here wait q n) o)))] (by kernel_rfl) rfl ?_
            refine VL_bool (gotB (walkA here wait q n) o) (fun b => [(5, .pointer (some ⟨b1, 0, none⟩)), (8, .pointer (some ⟨b2, 0, none⟩)), (14, .pointer (some ⟨b3, 0, none⟩)), (143, .bool true), (146, .bool (!b))]) rfl (fun hg5 => ?_) (fun hg5 => ?_)
            · refine VL_pure 18 [5, 8, 14, 143, 146, 147] [(5, .pointer (some ⟨b1, 0, none⟩)), (8, .pointer (some ⟨b2, 0, none⟩)), (14, .pointer (some ⟨b3, 0, none⟩)), (143, .bool true), (146, .bool false), (147, .pointer (some ⟨b3, 3, none⟩))] (by kernel_rfl) rfl ?_
              refine VL_load (d := 148) (t := 29) (a := ⟨b3, 3, none⟩) (v := .int .u32 ((gotV (walkA here wait q n) o).tg)) (by kernel_rfl) (by kernel_rfl) (Loads.own1 ho4 (by kernel_rfl) (by rfl)) ?_
              refine VL_pure 20 [5, 14, 143, 146, 148, 149] [(5, .pointer (some ⟨b1, 0, none⟩)), (14, .pointer (some ⟨b3, 0, none⟩)), (143, .bool true), (146, .bool false), (148, .int .u32 ((gotV (walkA here wait q n) o).tg)), (149, .pointer (some ⟨b2, 3, none⟩))] (by kernel_rfl) rfl ?_
              refine VL_load (d := 150) (t := 29) (a := ⟨b2, 3, none⟩) (v := .int .u32 o.tg) (by kernel_rfl) (by kernel_rfl) (Loads.own1 hoa92 (by kernel_rfl) (by rfl)) ?_
              refine VL_pure 22 [5, 14, 143, 146, 151] [(5, .pointer (some ⟨b1, 0, none⟩)), (14, .pointer (some ⟨b3, 0, none⟩)), (143, .bool true), (146, .bool false), (151, .bool (((gotV (walkA here wait q n) o).tg) == o.tg))] (by kernel_rfl) rfl ?_
              refine VL_eq [(5, .pointer (some ⟨b1, 0, none⟩)), (14, .pointer (some ⟨b3, 0, none⟩)), (143, .bool true), (146, .bool false), (151, .bool true)] (by rw [gotV_tg ‹_›]; simp) ?_
              refine VL_pure 24 [5, 14, 143, 146, 152, 153] [(5, .pointer (some ⟨b1, 0, none⟩)), (14, .pointer (some ⟨b3, 0, none⟩)), (143, .bool true), (146, .bool false), (152, .bool true), (153, .pointer (some ⟨b3, 4, none⟩))] (by kernel_rfl) rfl ?_
              refine VL_load (d := 154) (t := 22) (a := ⟨b3, 4, none⟩) (v := .agg #[.int .u8 (((gotV (walkA here wait q n) o).p) 0), .int .u8 (((gotV (walkA here wait q n) o).p) 1), .int .u8 (((gotV (walkA here wait q n) o).p) 2), .int .u8 (((gotV (walkA here wait q n) o).p) 3), .int .u8 (((gotV (walkA here wait q n) o).p) 4), .int .u8 (((gotV (walkA here wait q n) o).p) 5), .int .u8 (((gotV (walkA here wait q n) o).p) 6), .int .u8 (((gotV (walkA here wait q n) o).p) 7), .int .u8 (((gotV (walkA here wait q n) o).p) 8), .int .u8 (((gotV (walkA here wait q n) o).p) 9), .int .u8 (((gotV (walkA here wait q n) o).p) 10), .int .u8 (((gotV (walkA here wait q n) o).p) 11), .int .u8 (((gotV (walkA here wait q n) o).p) 12), .int .u8 (((gotV (walkA here wait q n) o).p) 13), .int .u8 (((gotV (walkA here wait q n) o).p) 14), .int .u8 (((gotV (walkA here wait q n) o).p) 15)]) (by kernel_rfl) (by kernel_rfl) (Loads.ownL ho4 (n := 16) (by kernel_rfl) (by kernel_rfl) (by kernel_rfl)) ?_
              refine VL_load (d := 155) (t := 22) (a := ⟨b1, 0, none⟩) (v := .agg #[.int .u8 (here 0), .int .u8 (here 1), .int .u8 (here 2), .int .u8 (here 3), .int .u8 (here 4), .int .u8 (here 5), .int .u8 (here 6), .int .u8 (here 7), .int .u8 (here 8), .int .u8 (here 9), .int .u8 (here 10), .int .u8 (here 11), .int .u8 (here 12), .int .u8 (here 13), .int .u8 (here 14), .int .u8 (here 15)]) (by kernel_rfl) (by kernel_rfl) (Loads.ownL ho1 (n := 16) (by kernel_rfl) (by kernel_rfl) (by kernel_rfl)) ?_
              refine VL_agEq (d := 156) (dd := 9) (ls := (rep 16 [.int .u8])) (pos := true) (t := 22) (xs := #[.int .u8 (((gotV (walkA here wait q n) o).p) 0), .int .u8 (((gotV (walkA here wait q n) o).p) 1), .int .u8 (((gotV (walkA here wait q n) o).p) 2), .int .u8 (((gotV (walkA here wait q n) o).p) 3), .int .u8 (((gotV (walkA here wait q n) o).p) 4), .int .u8 (((gotV (walkA here wait q n) o).p) 5), .int .u8 (((gotV (walkA here wait q n) o).p) 6), .int .u8 (((gotV (walkA here wait q n) o).p) 7), .int .u8 (((gotV (walkA here wait q n) o).p) 8), .int .u8 (((gotV (walkA here wait q n) o).p) 9), .int .u8 (((gotV (walkA here wait q n) o).p) 10), .int .u8 (((gotV (walkA here wait q n) o).p) 11), .int .u8 (((gotV (walkA here wait q n) o).p) 12), .int .u8 (((gotV (walkA here wait q n) o).p) 13), .int .u8 (((gotV (walkA here wait q n) o).p) 14), .int .u8 (((gotV (walkA here wait q n) o).p) 15)]) (ys := #[.int .u8 (here 0), .int .u8 (here 1), .int .u8 (here 2), .int .u8 (here 3), .int .u8 (here 4), .int .u8 (here 5), .int .u8 (here 6), .int .u8 (here 7), .int .u8 (here 8), .int .u8 (here 9), .int .u8 (here 10), .int .u8 (here 11), .int .u8 (here 12), .int .u8 (here 13), .int .u8 (here 14), .int .u8 (here 15)]) (by kernel_rfl) (by kernel_rfl) (by kernel_rfl) (by kernel_rfl) (by first | exact ⟨⟨_, rfl⟩, ⟨_, rfl⟩, ⟨_, rfl⟩, ⟨_, rfl⟩, ⟨_, rfl⟩, ⟨_, rfl⟩, ⟨_, rfl⟩, ⟨_, rfl⟩, ⟨_, rfl⟩, ⟨_, rfl⟩, ⟨_, rfl⟩, ⟨_, rfl⟩, ⟨_, rfl⟩, ⟨_, rfl⟩, ⟨_, rfl⟩, ⟨_, rfl⟩, trivial⟩ | trivial) (by first | exact ⟨⟨_, rfl⟩, ⟨_, rfl⟩, ⟨_, rfl⟩, ⟨_, rfl⟩, ⟨_, rfl⟩, ⟨_, rfl⟩, ⟨_, rfl⟩, ⟨_, rfl⟩, ⟨_, rfl⟩, ⟨_, rfl⟩, ⟨_, rfl⟩, ⟨_, rfl⟩, ⟨_, rfl⟩, ⟨_, rfl⟩, ⟨_, rfl⟩, ⟨_, rfl⟩, trivial⟩ | trivial) true (by exact gotV_place ‹_› (walkA_here _ _ _ _)) ?_
              refine VL_pure 30 [143, 146, 158, 159] [(143, .bool true), (146, .bool false), (158, .bool true), (159, .pointer (some ⟨b3, 2, none⟩))] (by kernel_rfl) rfl ?_
              refine VL_load (d := 160) (t := 4) (a := ⟨b3, 2, none⟩) (v := .bool ((gotV (walkA here wait q n) o).a)) (by kernel_rfl) (by kernel_rfl) (Loads.own1 ho4 (by kernel_rfl) (by rfl)) ?_
              refine VL_pure 32 [143, 146, 158, 161] [(143, .bool true), (146, .bool false), (158, .bool true), (161, .bool (!((gotV (walkA here wait q n) o).a)))] (by kernel_rfl) rfl ?_
              refine VL_eq [(143, .bool true), (146, .bool false), (158, .bool true), (161, .bool true)] (by rw [gotV_a ‹_›]; rfl) ?_
              refine VL_pure 36 [10] [(10, .bool true)] (by kernel_rfl) rfl ?_
              refine VL_end (by kernel_rfl) ?_
              refine VQ_next ?_
              refine VC_ret ?_
              refine VQ_ret1 (.bool true) (.inr rfl) rfl rfl ?_
              exact ⟨rfl, hS⟩
            · refine VL_pure 22 [5, 14, 143, 146, 151] [(5, .pointer (some ⟨b1, 0, none⟩)), (14, .pointer (some ⟨b3, 0, none⟩)), (143, .bool true), (146, .bool true), (151, undef)] (by kernel_rfl) rfl ?_
              refine VL_pure 32 [143, 146, 158, 161] [(143, .bool true), (146, .bool true), (158, undef), (161, undef)] (by kernel_rfl) rfl ?_
              refine VL_pure 36 [10] [(10, .bool true)] (by kernel_rfl) rfl ?_
              refine VL_end (by kernel_rfl) ?_
              refine VQ_next ?_
              refine VC_ret ?_
              refine VQ_ret1 (.bool true) (.inr rfl) rfl rfl ?_
              exact ⟨rfl, hS⟩
        · have hoa93 := ho2
          rw [hoa] at hoa93
          refine VC_det [[], [0], [0, 1], [0, 1, 2], [0, 1, 2, 3], [0, 1, 2], [0, 1, 2, 3, 4, 5], [0, 1, 2, 3, 4, 5, 6], [0, 1, 2, 3, 4, 5, 6, 7], [0, 1, 2, 3, 4, 5, 6, 7, 8], [0, 1, 2, 3, 4, 5, 6, 7], [0, 1, 2, 3, 4, 5, 6, 7, 8, 9, 10], [0, 1, 2, 3, 4, 5, 6, 7, 8, 9, 10, 11], [0, 1, 2, 3, 4, 5, 6, 7, 8, 9, 10, 11, 12], [0, 1, 2, 3, 4, 5, 6, 7, 8, 9, 10, 11, 12, 13]] 11 [.pointer (some ⟨b2, 2, none⟩), .bool false, .bool false, undef, undef, undef, undef, undef, undef, undef, undef] [0, 2, 3, 4, 5, 6, 7, 8, 9, 10] [1] (by kernel_rfl) (by kernel_rfl) (by kernel_rfl) (by kernel_rfl) ?_ ?_
          · intro w23 hs3
            replace hS := Step.trans hS hs3
            replace ho1 := ho1.no hs3
            replace ho2 := ho2.no hs3
            replace ht2 := ht2.no hs3
            replace ho4 := ho4.no hs3
            replace ho6 := ho6.no hs3
            replace hoa93 := hoa93.no hs3
            exact ⟨Det1_load (d := 117) (t := 4) (a := ⟨b2, 2, none⟩) (by kernel_rfl) (by kernel_rfl) (Loads.own1 hoa93 (by kernel_rfl) (by rfl)), trivial⟩
          intro w23 hs3
          replace hS := Step.trans hS hs3
          replace ho1 := ho1.no hs3
          replace ho2 := ho2.no hs3
          replace ht2 := ht2.no hs3
          replace ho4 := ho4.no hs3
          replace ho6 := ho6.no hs3
          replace hoa93 := hoa93.no hs3
          refine VL_keep [5, 8, 12, 13, 14, 15, 16, 17, 118, 123, 125, 126] [(5, .pointer (some ⟨b1, 0, none⟩)), (8, .pointer (some ⟨b2, 0, none⟩)), (12, .bool (aheadA (walkA here wait q n) t)), (13, .bool (behindA (walkA here wait q n) t)), (14, .pointer (some ⟨b3, 0, none⟩)), (15, .bool (gotB (walkA here wait q n) o)), (16, .bool (aheadA (gotA (walkA here wait q n) t o) t)), (17, .bool (behindA (gotA (walkA here wait q n) t o) t)), (118, .bool false), (123, undef), (125, undef), (126, undef)] (by kernel_rfl) ?_
          refine VL_pure 15 [5, 8, 12, 13, 14, 15, 16, 17, 23] [(5, .pointer (some ⟨b1, 0, none⟩)), (8, .pointer (some ⟨b2, 0, none⟩)), (12, .bool (aheadA (walkA here wait q n) t)), (13, .bool (behindA (walkA here wait q n) t)), (14, .pointer (some ⟨b3, 0, none⟩)), (15, .bool (gotB (walkA here wait q n) o)), (16, .bool (aheadA (gotA (walkA here wait q n) t o) t)), (17, .bool (behindA (gotA (walkA here wait q n) t o) t)), (23, .bool false)] (by kernel_rfl) rfl ?_
          refine VL_end (by kernel_rfl) ?_
          refine VQ_next ?_
          refine VC_seq ?_
          refine VC_region ?_
          refine VL_pure 3 [5, 8, 13, 14, 15, 17, 23, 132] [(5, .pointer (some ⟨b1, 0, none⟩)), (8, .pointer (some ⟨b2, 0, none⟩)), (13, .bool (behindA (walkA here wait q n) t)), (14, .pointer (some ⟨b3, 0, none⟩)), (15, .bool (gotB (walkA here wait q n) o)), (17, .bool (behindA (gotA (walkA here wait q n) t o) t)), (23, .bool false), (132, .bool ((aheadA (walkA here wait q n) t) == (aheadA (gotA (walkA here wait q n) t o) t)))] (by kernel_rfl) rfl ?_
          refine VL_eq [(5, .pointer (some ⟨b1, 0, none⟩)), (8, .pointer (some ⟨b2, 0, none⟩)), (13, .bool (behindA (walkA here wait q n) t)), (14, .pointer (some ⟨b3, 0, none⟩)), (15, .bool (gotB (walkA here wait q n) o)), (17, .bool (behindA (gotA (walkA here wait q n) t o) t)), (23, .bool false), (132, .bool true)] (by rw [hs8]; simp) ?_
          refine VL_pure 7 [5, 8, 14, 15, 23, 133, 136] [(5, .pointer (some ⟨b1, 0, none⟩)), (8, .pointer (some ⟨b2, 0, none⟩)), (14, .pointer (some ⟨b3, 0, none⟩)), (15, .bool (gotB (walkA here wait q n) o)), (23, .bool false), (133, .bool true), (136, .bool ((behindA (walkA here wait q n) t) == (behindA (gotA (walkA here wait q n) t o) t)))] (by kernel_rfl) rfl ?_
          refine VL_eq [(5, .pointer (some ⟨b1, 0, none⟩)), (8, .pointer (some ⟨b2, 0, none⟩)), (14, .pointer (some ⟨b3, 0, none⟩)), (15, .bool (gotB (walkA here wait q n) o)), (23, .bool false), (133, .bool true), (136, .bool true)] (by rw [hs8]; simp) ?_
          refine VL_pure 12 [5, 8, 14, 15, 138, 141] [(5, .pointer (some ⟨b1, 0, none⟩)), (8, .pointer (some ⟨b2, 0, none⟩)), (14, .pointer (some ⟨b3, 0, none⟩)), (15, .bool (gotB (walkA here wait q n) o)), (138, .bool true), (141, .bool ((gotB (walkA here wait q n) o) == false))] (by kernel_rfl) rfl ?_
          refine VL_eq [(5, .pointer (some ⟨b1, 0, none⟩)), (8, .pointer (some ⟨b2, 0, none⟩)), (14, .pointer (some ⟨b3, 0, none⟩)), (15, .bool (gotB (walkA here wait q n) o)), (138, .bool true), (141, .bool true)] (by rw [gotB_8 ‹_› ‹_›, walkA_here, hoa]; simp [*]) ?_
          refine VL_pure 17 [5, 8, 14, 143, 146] [(5, .pointer (some ⟨b1, 0, none⟩)), (8, .pointer (some ⟨b2, 0, none⟩)), (14, .pointer (some ⟨b3, 0, none⟩)), (143, .bool true), (146, .bool (!(gotB (walkA here wait q n) o)))] (by kernel_rfl) rfl ?_
          refine VL_bool (gotB (walkA here wait q n) o) (fun b => [(5, .pointer (some ⟨b1, 0, none⟩)), (8, .pointer (some ⟨b2, 0, none⟩)), (14, .pointer (some ⟨b3, 0, none⟩)), (143, .bool true), (146, .bool (!b))]) rfl (fun hg6 => ?_) (fun hg6 => ?_)
          · refine VL_pure 18 [5, 8, 14, 143, 146, 147] [(5, .pointer (some ⟨b1, 0, none⟩)), (8, .pointer (some ⟨b2, 0, none⟩)), (14, .pointer (some ⟨b3, 0, none⟩)), (143, .bool true), (146, .bool false), (147, .pointer (some ⟨b3, 3, none⟩))] (by kernel_rfl) rfl ?_
            refine VL_load (d := 148) (t := 29) (a := ⟨b3, 3, none⟩) (v := .int .u32 ((gotV (walkA here wait q n) o).tg)) (by kernel_rfl) (by kernel_rfl) (Loads.own1 ho4 (by kernel_rfl) (by rfl)) ?_
            refine VL_pure 20 [5, 14, 143, 146, 148, 149] [(5, .pointer (some ⟨b1, 0, none⟩)), (14, .pointer (some ⟨b3, 0, none⟩)), (143, .bool true), (146, .bool false), (148, .int .u32 ((gotV (walkA here wait q n) o).tg)), (149, .pointer (some ⟨b2, 3, none⟩))] (by kernel_rfl) rfl ?_
            refine VL_load (d := 150) (t := 29) (a := ⟨b2, 3, none⟩) (v := .int .u32 o.tg) (by kernel_rfl) (by kernel_rfl) (Loads.own1 hoa93 (by kernel_rfl) (by rfl)) ?_
            refine VL_pure 22 [5, 14, 143, 146, 151] [(5, .pointer (some ⟨b1, 0, none⟩)), (14, .pointer (some ⟨b3, 0, none⟩)), (143, .bool true), (146, .bool false), (151, .bool (((gotV (walkA here wait q n) o).tg) == o.tg))] (by kernel_rfl) rfl ?_
            refine VL_eq [(5, .pointer (some ⟨b1, 0, none⟩)), (14, .pointer (some ⟨b3, 0, none⟩)), (143, .bool true), (146, .bool false), (151, .bool true)] (by rw [gotV_tg ‹_›]; simp) ?_
            refine VL_pure 24 [5, 14, 143, 146, 152, 153] [(5, .pointer (some ⟨b1, 0, none⟩)), (14, .pointer (some ⟨b3, 0, none⟩)), (143, .bool true), (146, .bool false), (152, .bool true), (153, .pointer (some ⟨b3, 4, none⟩))] (by kernel_rfl) rfl ?_
            refine VL_load (d := 154) (t := 22) (a := ⟨b3, 4, none⟩) (v := .agg #[.int .u8 (((gotV (walkA here wait q n) o).p) 0), .int .u8 (((gotV (walkA here wait q n) o).p) 1), .int .u8 (((gotV (walkA here wait q n) o).p) 2), .int .u8 (((gotV (walkA here wait q n) o).p) 3), .int .u8 (((gotV (walkA here wait q n) o).p) 4), .int .u8 (((gotV (walkA here wait q n) o).p) 5), .int .u8 (((gotV (walkA here wait q n) o).p) 6), .int .u8 (((gotV (walkA here wait q n) o).p) 7), .int .u8 (((gotV (walkA here wait q n) o).p) 8), .int .u8 (((gotV (walkA here wait q n) o).p) 9), .int .u8 (((gotV (walkA here wait q n) o).p) 10), .int .u8 (((gotV (walkA here wait q n) o).p) 11), .int .u8 (((gotV (walkA here wait q n) o).p) 12), .int .u8 (((gotV (walkA here wait q n) o).p) 13), .int .u8 (((gotV (walkA here wait q n) o).p) 14), .int .u8 (((gotV (walkA here wait q n) o).p) 15)]) (by kernel_rfl) (by kernel_rfl) (Loads.ownL ho4 (n := 16) (by kernel_rfl) (by kernel_rfl) (by kernel_rfl)) ?_
            refine VL_load (d := 155) (t := 22) (a := ⟨b1, 0, none⟩) (v := .agg #[.int .u8 (here 0), .int .u8 (here 1), .int .u8 (here 2), .int .u8 (here 3), .int .u8 (here 4), .int .u8 (here 5), .int .u8 (here 6), .int .u8 (here 7), .int .u8 (here 8), .int .u8 (here 9), .int .u8 (here 10), .int .u8 (here 11), .int .u8 (here 12), .int .u8 (here 13), .int .u8 (here 14), .int .u8 (here 15)]) (by kernel_rfl) (by kernel_rfl) (Loads.ownL ho1 (n := 16) (by kernel_rfl) (by kernel_rfl) (by kernel_rfl)) ?_
            refine VL_agEq (d := 156) (dd := 9) (ls := (rep 16 [.int .u8])) (pos := true) (t := 22) (xs := #[.int .u8 (((gotV (walkA here wait q n) o).p) 0), .int .u8 (((gotV (walkA here wait q n) o).p) 1), .int .u8 (((gotV (walkA here wait q n) o).p) 2), .int .u8 (((gotV (walkA here wait q n) o).p) 3), .int .u8 (((gotV (walkA here wait q n) o).p) 4), .int .u8 (((gotV (walkA here wait q n) o).p) 5), .int .u8 (((gotV (walkA here wait q n) o).p) 6), .int .u8 (((gotV (walkA here wait q n) o).p) 7), .int .u8 (((gotV (walkA here wait q n) o).p) 8), .int .u8 (((gotV (walkA here wait q n) o).p) 9), .int .u8 (((gotV (walkA here wait q n) o).p) 10), .int .u8 (((gotV (walkA here wait q n) o).p) 11), .int .u8 (((gotV (walkA here wait q n) o).p) 12), .int .u8 (((gotV (walkA here wait q n) o).p) 13), .int .u8 (((gotV (walkA here wait q n) o).p) 14), .int .u8 (((gotV (walkA here wait q n) o).p) 15)]) (ys := #[.int .u8 (here 0), .int .u8 (here 1), .int .u8 (here 2), .int .u8 (here 3), .int .u8 (here 4), .int .u8 (here 5), .int .u8 (here 6), .int .u8 (here 7), .int .u8 (here 8), .int .u8 (here 9), .int .u8 (here 10), .int .u8 (here 11), .int .u8 (here 12), .int .u8 (here 13), .int .u8 (here 14), .int .u8 (here 15)]) (by kernel_rfl) (by kernel_rfl) (by kernel_rfl) (by kernel_rfl) (by first | exact ⟨⟨_, rfl⟩, ⟨_, rfl⟩, ⟨_, rfl⟩, ⟨_, rfl⟩, ⟨_, rfl⟩, ⟨_, rfl⟩, ⟨_, rfl⟩, ⟨_, rfl⟩, ⟨_, rfl⟩, ⟨_, rfl⟩, ⟨_, rfl⟩, ⟨_, rfl⟩, ⟨_, rfl⟩, ⟨_, rfl⟩, ⟨_, rfl⟩, ⟨_, rfl⟩, trivial⟩ | trivial) (by first | exact ⟨⟨_, rfl⟩, ⟨_, rfl⟩, ⟨_, rfl⟩, ⟨_, rfl⟩, ⟨_, rfl⟩, ⟨_, rfl⟩, ⟨_, rfl⟩, ⟨_, rfl⟩, ⟨_, rfl⟩, ⟨_, rfl⟩, ⟨_, rfl⟩, ⟨_, rfl⟩, ⟨_, rfl⟩, ⟨_, rfl⟩, ⟨_, rfl⟩, ⟨_, rfl⟩, trivial⟩ | trivial) true (by exact gotV_place ‹_› (walkA_here _ _ _ _)) ?_
            refine VL_pure 30 [143, 146, 158, 159] [(143, .bool true), (146, .bool false), (158, .bool true), (159, .pointer (some ⟨b3, 2, none⟩))] (by kernel_rfl) rfl ?_
            refine VL_load (d := 160) (t := 4) (a := ⟨b3, 2, none⟩) (v := .bool ((gotV (walkA here wait q n) o).a)) (by kernel_rfl) (by kernel_rfl) (Loads.own1 ho4 (by kernel_rfl) (by rfl)) ?_
            refine VL_pure 32 [143, 146, 158, 161] [(143, .bool true), (146, .bool false), (158, .bool true), (161, .bool (!((gotV (walkA here wait q n) o).a)))] (by kernel_rfl) rfl ?_
            refine VL_eq [(143, .bool true), (146, .bool false), (158, .bool true), (161, .bool true)] (by rw [gotV_a ‹_›]; rfl) ?_
            refine VL_pure 36 [10] [(10, .bool true)] (by kernel_rfl) rfl ?_
            refine VL_end (by kernel_rfl) ?_
            refine VQ_next ?_
            refine VC_ret ?_
            refine VQ_ret1 (.bool true) (.inr rfl) rfl rfl ?_
            exact ⟨rfl, hS⟩
          · refine VL_pure 22 [5, 14, 143, 146, 151] [(5, .pointer (some ⟨b1, 0, none⟩)), (14, .pointer (some ⟨b3, 0, none⟩)), (143, .bool true), (146, .bool true), (151, undef)] (by kernel_rfl) rfl ?_
            refine VL_pure 32 [143, 146, 158, 161] [(143, .bool true), (146, .bool true), (158, undef), (161, undef)] (by kernel_rfl) rfl ?_
            refine VL_pure 36 [10] [(10, .bool true)] (by kernel_rfl) rfl ?_
            refine VL_end (by kernel_rfl) ?_
            refine VQ_next ?_
            refine VC_ret ?_
            refine VQ_ret1 (.bool true) (.inr rfl) rfl rfl ?_
            exact ⟨rfl, hS⟩

end Go.Proofs.Ytkimbomnbaogjaa
