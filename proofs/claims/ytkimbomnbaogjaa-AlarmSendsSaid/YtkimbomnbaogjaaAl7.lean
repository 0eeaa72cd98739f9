/- Layer 21: AlarmSends. -/
import Derived.Test.YtkimbomnbaogjaaProg
import Derived.Test.YtkimbomnbaogjaaAl5
import Derived.Test.YtkimbomnbaogjaaVc8
set_option linter.unusedVariables false
set_option linter.unusedSimpArgs false
namespace Go.Proofs.Ytkimbomnbaogjaa
open Go.Vc Go.RowKit

set_option maxRecDepth 20000 in
set_option maxHeartbeats 1000000 in
theorem alarmSends_any (here : Nat → Int) (wait : Int) (A : Option Addr) (n cc : Nat) (q : Nat → OpA) (t : Int) (w : World) (hA : OpsAt w A n q) :
    CV Try.prog 6 #[.agg #[.int .u8 (here 0), .int .u8 (here 1), .int .u8 (here 2), .int .u8 (here 3), .int .u8 (here 4), .int .u8 (here 5), .int .u8 (here 6), .int .u8 (here 7), .int .u8 (here 8), .int .u8 (here 9), .int .u8 (here 10), .int .u8 (here 11), .int .u8 (here 12), .int .u8 (here 13), .int .u8 (here 14), .int .u8 (here 15)], .int .i64 wait, .slice A n cc, .int .i64 t] w (fun x w1 => x = .bool true ∧ Step No w w1) := by
  have hS : Step No w w := Step.refl _ _
  refine CV_enter Try.f6 _ 127 [(0, .agg #[.int .u8 (here 0), .int .u8 (here 1), .int .u8 (here 2), .int .u8 (here 3), .int .u8 (here 4), .int .u8 (here 5), .int .u8 (here 6), .int .u8 (here 7), .int .u8 (here 8), .int .u8 (here 9), .int .u8 (here 10), .int .u8 (here 11), .int .u8 (here 12), .int .u8 (here 13), .int .u8 (here 14), .int .u8 (here 15)]), (1, .int .i64 wait), (2, .slice A n cc), (3, .int .i64 t)] Try.func6 rfl rfl (by kernel_rfl) rfl ?_
  refine VC_seq ?_
  refine VC_region ?_
  have hzs1 := hS.size
  refine VL_box (d := 4) (t := 22) (c := #[.int .u8 (here 0), .int .u8 (here 1), .int .u8 (here 2), .int .u8 (here 3), .int .u8 (here 4), .int .u8 (here 5), .int .u8 (here 6), .int .u8 (here 7), .int .u8 (here 8), .int .u8 (here 9), .int .u8 (here 10), .int .u8 (here 11), .int .u8 (here 12), .int .u8 (here 13), .int .u8 (here 14), .int .u8 (here 15)]) (by kernel_rfl) (by kernel_rfl) ?_
  intro b1 w1 hn1
  replace hS := Step.trans hS (hn1.step No)
  have ho1 := hn1.own
  have hzhn1 := hn1.size
  have hqhn1 := hn1.eqb
  refine VL_pure 2 [1, 2, 3, 4] [(1, .int .i64 wait), (2, .slice A n cc), (3, .int .i64 t), (4, .pointer (some ⟨b1, 0, none⟩))] (by kernel_rfl) rfl ?_
  refine VL_end (by kernel_rfl) ?_
  refine VQ_next ?_
  refine VC_seq ?_
  refine VC_seq ?_
  refine VC_region ?_
  have hzs2 := hS.size
  have hzl1 := ho1.lt
  refine VL_call (d := 17) (f := 9) (args := #[]) (by kernel_rfl) (by kernel_rfl) (by kernel_rfl) Try.call9 (awake_any _) ?_
  rintro _ w2 ⟨rfl, hc1⟩
  replace hS := Step.trans hS hc1
  replace ho1 := ho1.no hc1
  refine VL_pure 7 [1, 2, 3, 4, 23] [(1, .int .i64 wait), (2, .slice A n cc), (3, .int .i64 t), (4, .pointer (some ⟨b1, 0, none⟩)), (23, .bool (decide (((n : Nat) : Int) > 100)))] (by kernel_rfl) rfl ?_
  refine VL_end (by kernel_rfl) ?_
  refine VQ_next ?_
  refine VC_dec (((n : Nat) : Int) > 100) (by kernel_rfl) (fun h1 => ?_) (fun h1 => ?_)
  · refine VC_seq ?_
    refine VC_region ?_
    have hzs3 := hS.size
    have hzl2 := ho1.lt
    refine VL_call (d := 24) (f := 9) (args := #[]) (by kernel_rfl) (by kernel_rfl) (by kernel_rfl) Try.call9 (awake_any _) ?_
    rintro _ w3 ⟨rfl, hc2⟩
    replace hS := Step.trans hS hc2
    replace ho1 := ho1.no hc2
    refine VL_pure 2 [8] [(8, .bool true)] (by kernel_rfl) rfl ?_
    refine VL_end (by kernel_rfl) ?_
    refine VQ_next ?_
    refine VC_ret ?_
    refine VQ_then_ret ?_
    refine VQ_ret1 (.bool true) (.inr rfl) rfl rfl ?_
    exact ⟨rfl, hS⟩
  · refine VC_skip ?_
    refine VQ_next ?_
    refine VC_seq ?_
    refine VC_region ?_
    refine VL_load (d := 25) (t := 22) (a := ⟨b1, 0, none⟩) (v := .agg #[.int .u8 (here 0), .int .u8 (here 1), .int .u8 (here 2), .int .u8 (here 3), .int .u8 (here 4), .int .u8 (here 5), .int .u8 (here 6), .int .u8 (here 7), .int .u8 (here 8), .int .u8 (here 9), .int .u8 (here 10), .int .u8 (here 11), .int .u8 (here 12), .int .u8 (here 13), .int .u8 (here 14), .int .u8 (here 15)]) (by kernel_rfl) (by kernel_rfl) (Loads.ownL ho1 (n := 16) (by kernel_rfl) (by kernel_rfl) (by kernel_rfl)) ?_
    refine VL_pure 3 [2, 3, 4, 25, 26, 27] [(2, .slice A n cc), (3, .int .i64 t), (4, .pointer (some ⟨b1, 0, none⟩)), (25, .agg #[.int .u8 (here 0), .int .u8 (here 1), .int .u8 (here 2), .int .u8 (here 3), .int .u8 (here 4), .int .u8 (here 5), .int .u8 (here 6), .int .u8 (here 7), .int .u8 (here 8), .int .u8 (here 9), .int .u8 (here 10), .int .u8 (here 11), .int .u8 (here 12), .int .u8 (here 13), .int .u8 (here 14), .int .u8 (here 15)]), (26, .int .i64 wait), (27, .slice A n cc)] (by kernel_rfl) rfl ?_
    have hzs4 := hS.size
    have hzl3 := ho1.lt
    refine VL_call (d := 28) (f := 21) (by kernel_rfl) (by kernel_rfl) (by kernel_rfl) Try.call21 (walked_any here wait A n cc q _ (hA.no hS) (by omega)) ?_
    rintro _ w4 ⟨ab1, rfl, hfab1, ht1, hc3⟩
    replace hS := Step.trans hS hc3
    replace ho1 := ho1.no hc3
    have hzab1 := ht1.lt
    refine VL_pure 5 [2, 3, 4, 9] [(2, .slice A n cc), (3, .int .i64 t), (4, .pointer (some ⟨b1, 0, none⟩)), (9, .pointer (some ⟨ab1, 0, none⟩))] (by kernel_rfl) rfl ?_
    refine VL_end (by kernel_rfl) ?_
    refine VQ_next ?_
    refine VC_seq ?_
    refine VC_region ?_
    refine VL_pure 1 [2, 3, 4, 9, 10] [(2, .slice A n cc), (3, .int .i64 t), (4, .pointer (some ⟨b1, 0, none⟩)), (9, .pointer (some ⟨ab1, 0, none⟩)), (10, .bool false)] (by kernel_rfl) rfl ?_
    refine VL_end (by kernel_rfl) ?_
    refine VQ_next ?_
    refine VC_seq ?_
    refine VC_seq ?_
    refine VC_region ?_
    refine VL_pure 3 [2, 3, 4, 9, 10, 30, 31] [(2, .slice A n cc), (3, .int .i64 t), (4, .pointer (some ⟨b1, 0, none⟩)), (9, .pointer (some ⟨ab1, 0, none⟩)), (10, .bool false), (30, .int .i64 ((n : Nat) : Int)), (31, .int .i64 0)] (by kernel_rfl) rfl ?_
    refine VL_end (by kernel_rfl) ?_
    refine VQ_next ?_
    refine VC_block ?_
    refine VC_loop (σ := Nat) (fun σs => [(2, .slice A n cc), (3, .int .i64 t), (4, .pointer (some ⟨b1, 0, none⟩)), (9, .pointer (some ⟨ab1, 0, none⟩)), (30, .int .i64 ((n : Nat) : Int)), (31, .int .i64 ((σs : Nat) : Int)), (10, .bool (lastD q σs))]) (fun σs wr => σs ≤ n ∧ Own wr ab1 (alC (walkA here wait q n)) 62 ∧ Step No w wr ∧ Own wr b1 #[.int .u8 (here 0), .int .u8 (here 1), .int .u8 (here 2), .int .u8 (here 3), .int .u8 (here 4), .int .u8 (here 5), .int .u8 (here 6), .int .u8 (here 7), .int .u8 (here 8), .int .u8 (here 9), .int .u8 (here 10), .int .u8 (here 11), .int .u8 (here 12), .int .u8 (here 13), .int .u8 (here 14), .int .u8 (here 15)] 22) (fun σs wr => n - σs) 0 ⟨rfl, rfl, rfl, rfl, rfl, rfl, rfl, trivial⟩ ?_ ?_
    · exact ⟨Nat.zero_le _, ht1, hS, ho1⟩
    rintro k wr ⟨hk0, ht, hS, hob⟩
    try dsimp only at hk0 ht hS hob ⊢
    refine VC_seq ?_
    refine VC_region ?_
    refine VL_pure 1 [2, 3, 4, 9, 30, 31, 10, 32] [(2, .slice A n cc), (3, .int .i64 t), (4, .pointer (some ⟨b1, 0, none⟩)), (9, .pointer (some ⟨ab1, 0, none⟩)), (30, .int .i64 ((n : Nat) : Int)), (31, .int .i64 ((k : Nat) : Int)), (10, .bool (lastD q k)), (32, .bool (decide (((k : Nat) : Int) < ((n : Nat) : Int))))] (by kernel_rfl) rfl ?_
    refine VL_end (by kernel_rfl) ?_
    refine VQ_next ?_
    refine VC_seq ?_
    refine VC_dec (((k : Nat) : Int) < ((n : Nat) : Int)) (by kernel_rfl) (fun h2 => ?_) (fun h2 => ?_)
    · refine VC_skip ?_
      refine VQ_next ?_
      refine VC_seq ?_
      refine VC_block ?_
      refine VC_seq ?_
      refine VC_region ?_
      refine VL_pure 2 [2, 3, 4, 9, 30, 31, 10, 11] [(2, .slice A n cc), (3, .int .i64 t), (4, .pointer (some ⟨b1, 0, none⟩)), (9, .pointer (some ⟨ab1, 0, none⟩)), (30, .int .i64 ((n : Nat) : Int)), (31, .int .i64 ((k : Nat) : Int)), (10, .bool (lastD q k)), (11, .int .i64 ((k : Nat) : Int))] (by kernel_rfl) rfl ?_
      refine VL_end (by kernel_rfl) ?_
      refine VQ_next ?_
      refine VC_seq ?_
      have hA1 := hA.2
      have hk : k < n := by omega
      obtain ⟨lb, lo, rfl, hL⟩ := hA1 (by omega)
      refine VC_region ?_
      refine VL_pure 2 [2, 3, 4, 9, 30, 31, 10, 11, 34, 35] [(2, .slice (some ⟨lb, lo, none⟩) n cc), (3, .int .i64 t), (4, .pointer (some ⟨b1, 0, none⟩)), (9, .pointer (some ⟨ab1, 0, none⟩)), (30, .int .i64 ((n : Nat) : Int)), (31, .int .i64 ((k : Nat) : Int)), (10, .bool (lastD q k)), (11, .int .i64 ((k : Nat) : Int)), (34, .slice (some ⟨lb, lo, none⟩) n cc), (35, .int .i64 ((k : Nat) : Int))] (by kernel_rfl) rfl ?_
      refine VL_index (d := 36) (b := lb) (o := lo) (len := n) (sz := 38) (m := ((k : Nat) : Int)) (by kernel_rfl) (by kernel_rfl) k (by rfl) (by omega) (lo + k * 38) (by omega) ?_
      refine VL_pure 4 [2, 3, 4, 9, 30, 31, 10, 11, 37] [(2, .slice (some ⟨lb, lo, none⟩) n cc), (3, .int .i64 t), (4, .pointer (some ⟨b1, 0, none⟩)), (9, .pointer (some ⟨ab1, 0, none⟩)), (30, .int .i64 ((n : Nat) : Int)), (31, .int .i64 ((k : Nat) : Int)), (10, .bool (lastD q k)), (11, .int .i64 ((k : Nat) : Int)), (37, .pointer (some ⟨lb, lo + k * 38, none⟩))] (by kernel_rfl) rfl ?_
      refine VL_load (d := 38) (t := 3) (a := ⟨lb, lo + k * 38, none⟩) (v := .int .i64 ((q k).do_)) (by kernel_rfl) (by kernel_rfl) (hL.do_ hS (by kernel_rfl) k hk) ?_
      refine VL_pure 7 [2, 3, 4, 9, 30, 31, 10, 11, 40] [(2, .slice (some ⟨lb, lo, none⟩) n cc), (3, .int .i64 t), (4, .pointer (some ⟨b1, 0, none⟩)), (9, .pointer (some ⟨ab1, 0, none⟩)), (30, .int .i64 ((n : Nat) : Int)), (31, .int .i64 ((k : Nat) : Int)), (10, .bool (lastD q k)), (11, .int .i64 ((k : Nat) : Int)), (40, .bool (((q k).do_) == 3))] (by kernel_rfl) rfl ?_
      refine VL_beq ((q k).do_) 3 (fun b => [(2, .slice (some ⟨lb, lo, none⟩) n cc), (3, .int .i64 t), (4, .pointer (some ⟨b1, 0, none⟩)), (9, .pointer (some ⟨ab1, 0, none⟩)), (30, .int .i64 ((n : Nat) : Int)), (31, .int .i64 ((k : Nat) : Int)), (10, .bool (lastD q k)), (11, .int .i64 ((k : Nat) : Int)), (40, .bool b)]) rfl (fun hg1 => ?_) (fun hg1 => ?_)
      · refine VL_pure 14 [2, 3, 4, 9, 30, 31, 10, 11, 47] [(2, .slice (some ⟨lb, lo, none⟩) n cc), (3, .int .i64 t), (4, .pointer (some ⟨b1, 0, none⟩)), (9, .pointer (some ⟨ab1, 0, none⟩)), (30, .int .i64 ((n : Nat) : Int)), (31, .int .i64 ((k : Nat) : Int)), (10, .bool (lastD q k)), (11, .int .i64 ((k : Nat) : Int)), (47, .bool true)] (by kernel_rfl) rfl ?_
        refine VL_end (by kernel_rfl) ?_
        refine VQ_next ?_
        refine VC_true (by kernel_rfl) ?_
        refine VC_region ?_
        refine VL_pure 2 [2, 3, 4, 9, 30, 31, 48, 49] [(2, .slice (some ⟨lb, lo, none⟩) n cc), (3, .int .i64 t), (4, .pointer (some ⟨b1, 0, none⟩)), (9, .pointer (some ⟨ab1, 0, none⟩)), (30, .int .i64 ((n : Nat) : Int)), (31, .int .i64 ((k : Nat) : Int)), (48, .slice (some ⟨lb, lo, none⟩) n cc), (49, .int .i64 ((k : Nat) : Int))] (by kernel_rfl) rfl ?_
        refine VL_index (d := 50) (b := lb) (o := lo) (len := n) (sz := 38) (m := ((k : Nat) : Int)) (by kernel_rfl) (by kernel_rfl) k (by rfl) (by omega) (lo + k * 38) (by omega) ?_
        refine VL_pure 4 [2, 3, 4, 9, 30, 31, 51] [(2, .slice (some ⟨lb, lo, none⟩) n cc), (3, .int .i64 t), (4, .pointer (some ⟨b1, 0, none⟩)), (9, .pointer (some ⟨ab1, 0, none⟩)), (30, .int .i64 ((n : Nat) : Int)), (31, .int .i64 ((k : Nat) : Int)), (51, .pointer (some ⟨lb, lo + k * 38, none⟩))] (by kernel_rfl) rfl ?_
        refine VL_load (d := 52) (t := 3) (a := ⟨lb, lo + k * 38, none⟩) (v := .int .i64 ((q k).do_)) (by kernel_rfl) (by kernel_rfl) (hL.do_ hS (by kernel_rfl) k hk) ?_
        refine VL_pure 7 [2, 3, 4, 9, 30, 31, 10] [(2, .slice (some ⟨lb, lo, none⟩) n cc), (3, .int .i64 t), (4, .pointer (some ⟨b1, 0, none⟩)), (9, .pointer (some ⟨ab1, 0, none⟩)), (30, .int .i64 ((n : Nat) : Int)), (31, .int .i64 ((k : Nat) : Int)), (10, .bool (((q k).do_) == 3))] (by kernel_rfl) rfl ?_
        refine VL_end (by kernel_rfl) ?_
        refine VQ_block_normal ?_
        refine VQ_next ?_
        refine VC_region ?_
        refine VL_pure 1 [2, 3, 4, 9, 30, 10, 54] [(2, .slice (some ⟨lb, lo, none⟩) n cc), (3, .int .i64 t), (4, .pointer (some ⟨b1, 0, none⟩)), (9, .pointer (some ⟨ab1, 0, none⟩)), (30, .int .i64 ((n : Nat) : Int)), (10, .bool (((q k).do_) == 3)), (54, .int .i64 (IntKind.wrap .i64 (((k : Nat) : Int) + 1)))] (by kernel_rfl) rfl ?_
        refine VL_eq [(2, .slice (some ⟨lb, lo, none⟩) n cc), (3, .int .i64 t), (4, .pointer (some ⟨b1, 0, none⟩)), (9, .pointer (some ⟨ab1, 0, none⟩)), (30, .int .i64 ((n : Nat) : Int)), (10, .bool (lastD q (k + 1))), (54, .int .i64 (IntKind.wrap .i64 (((k : Nat) : Int) + 1)))] (by rw [lastD_yes (by omega)]) ?_
        refine VL_eq [(2, .slice (some ⟨lb, lo, none⟩) n cc), (3, .int .i64 t), (4, .pointer (some ⟨b1, 0, none⟩)), (9, .pointer (some ⟨ab1, 0, none⟩)), (30, .int .i64 ((n : Nat) : Int)), (10, .bool (lastD q (k + 1))), (54, .int .i64 ((k + 1 : Nat) : Int))] (by rw [wrap_i64 _ (by omega) (by omega)]; rfl) ?_
        refine VL_pure 2 [2, 3, 4, 9, 30, 10, 31] [(2, .slice (some ⟨lb, lo, none⟩) n cc), (3, .int .i64 t), (4, .pointer (some ⟨b1, 0, none⟩)), (9, .pointer (some ⟨ab1, 0, none⟩)), (30, .int .i64 ((n : Nat) : Int)), (10, .bool (lastD q (k + 1))), (31, .int .i64 ((k + 1 : Nat) : Int))] (by kernel_rfl) rfl ?_
        refine VL_end (by kernel_rfl) ?_
        refine VQ_again (k + 1) ⟨rfl, rfl, rfl, rfl, rfl, rfl, rfl, trivial⟩ ?_ ?_
        · exact ⟨by omega, ht, hS, hob⟩
        · (try dsimp only); omega
      · refine VL_pure 9 [2, 3, 4, 9, 30, 31, 10, 11, 40, 41, 42] [(2, .slice (some ⟨lb, lo, none⟩) n cc), (3, .int .i64 t), (4, .pointer (some ⟨b1, 0, none⟩)), (9, .pointer (some ⟨ab1, 0, none⟩)), (30, .int .i64 ((n : Nat) : Int)), (31, .int .i64 ((k : Nat) : Int)), (10, .bool (lastD q k)), (11, .int .i64 ((k : Nat) : Int)), (40, .bool false), (41, .slice (some ⟨lb, lo, none⟩) n cc), (42, .int .i64 ((k : Nat) : Int))] (by kernel_rfl) rfl ?_
        refine VL_index (d := 43) (b := lb) (o := lo) (len := n) (sz := 38) (m := ((k : Nat) : Int)) (by kernel_rfl) (by kernel_rfl) k (by rfl) (by omega) (lo + k * 38) (by omega) ?_
        refine VL_pure 11 [2, 3, 4, 9, 30, 31, 10, 11, 40, 44] [(2, .slice (some ⟨lb, lo, none⟩) n cc), (3, .int .i64 t), (4, .pointer (some ⟨b1, 0, none⟩)), (9, .pointer (some ⟨ab1, 0, none⟩)), (30, .int .i64 ((n : Nat) : Int)), (31, .int .i64 ((k : Nat) : Int)), (10, .bool (lastD q k)), (11, .int .i64 ((k : Nat) : Int)), (40, .bool false), (44, .pointer (some ⟨lb, lo + k * 38, none⟩))] (by kernel_rfl) rfl ?_
        refine VL_load (d := 45) (t := 3) (a := ⟨lb, lo + k * 38, none⟩) (v := .int .i64 ((q k).do_)) (by kernel_rfl) (by kernel_rfl) (hL.do_ hS (by kernel_rfl) k hk) ?_
        refine VL_pure 14 [2, 3, 4, 9, 30, 31, 10, 11, 47] [(2, .slice (some ⟨lb, lo, none⟩) n cc), (3, .int .i64 t), (4, .pointer (some ⟨b1, 0, none⟩)), (9, .pointer (some ⟨ab1, 0, none⟩)), (30, .int .i64 ((n : Nat) : Int)), (31, .int .i64 ((k : Nat) : Int)), (10, .bool (lastD q k)), (11, .int .i64 ((k : Nat) : Int)), (47, .bool (((q k).do_) == 4))] (by kernel_rfl) rfl ?_
        refine VL_end (by kernel_rfl) ?_
        refine VQ_next ?_
        refine VC_eq ((q k).do_) 4 (by kernel_rfl) (fun h3 => ?_) (fun h3 => ?_)
        · refine VC_region ?_
          refine VL_pure 2 [2, 3, 4, 9, 30, 31, 48, 49] [(2, .slice (some ⟨lb, lo, none⟩) n cc), (3, .int .i64 t), (4, .pointer (some ⟨b1, 0, none⟩)), (9, .pointer (some ⟨ab1, 0, none⟩)), (30, .int .i64 ((n : Nat) : Int)), (31, .int .i64 ((k : Nat) : Int)), (48, .slice (some ⟨lb, lo, none⟩) n cc), (49, .int .i64 ((k : Nat) : Int))] (by kernel_rfl) rfl ?_
          refine VL_index (d := 50) (b := lb) (o := lo) (len := n) (sz := 38) (m := ((k : Nat) : Int)) (by kernel_rfl) (by kernel_rfl) k (by rfl) (by omega) (lo + k * 38) (by omega) ?_
          refine VL_pure 4 [2, 3, 4, 9, 30, 31, 51] [(2, .slice (some ⟨lb, lo, none⟩) n cc), (3, .int .i64 t), (4, .pointer (some ⟨b1, 0, none⟩)), (9, .pointer (some ⟨ab1, 0, none⟩)), (30, .int .i64 ((n : Nat) : Int)), (31, .int .i64 ((k : Nat) : Int)), (51, .pointer (some ⟨lb, lo + k * 38, none⟩))] (by kernel_rfl) rfl ?_
          refine VL_load (d := 52) (t := 3) (a := ⟨lb, lo + k * 38, none⟩) (v := .int .i64 ((q k).do_)) (by kernel_rfl) (by kernel_rfl) (hL.do_ hS (by kernel_rfl) k hk) ?_
          refine VL_pure 7 [2, 3, 4, 9, 30, 31, 10] [(2, .slice (some ⟨lb, lo, none⟩) n cc), (3, .int .i64 t), (4, .pointer (some ⟨b1, 0, none⟩)), (9, .pointer (some ⟨ab1, 0, none⟩)), (30, .int .i64 ((n : Nat) : Int)), (31, .int .i64 ((k : Nat) : Int)), (10, .bool (((q k).do_) == 3))] (by kernel_rfl) rfl ?_
          refine VL_end (by kernel_rfl) ?_
          refine VQ_block_normal ?_
          refine VQ_next ?_
          refine VC_region ?_
          refine VL_pure 1 [2, 3, 4, 9, 30, 10, 54] [(2, .slice (some ⟨lb, lo, none⟩) n cc), (3, .int .i64 t), (4, .pointer (some ⟨b1, 0, none⟩)), (9, .pointer (some ⟨ab1, 0, none⟩)), (30, .int .i64 ((n : Nat) : Int)), (10, .bool (((q k).do_) == 3)), (54, .int .i64 (IntKind.wrap .i64 (((k : Nat) : Int) + 1)))] (by kernel_rfl) rfl ?_
          refine VL_eq [(2, .slice (some ⟨lb, lo, none⟩) n cc), (3, .int .i64 t), (4, .pointer (some ⟨b1, 0, none⟩)), (9, .pointer (some ⟨ab1, 0, none⟩)), (30, .int .i64 ((n : Nat) : Int)), (10, .bool (lastD q (k + 1))), (54, .int .i64 (IntKind.wrap .i64 (((k : Nat) : Int) + 1)))] (by rw [lastD_yes (by omega)]) ?_
          refine VL_eq [(2, .slice (some ⟨lb, lo, none⟩) n cc), (3, .int .i64 t), (4, .pointer (some ⟨b1, 0, none⟩)), (9, .pointer (some ⟨ab1, 0, none⟩)), (30, .int .i64 ((n : Nat) : Int)), (10, .bool (lastD q (k + 1))), (54, .int .i64 ((k + 1 : Nat) : Int))] (by rw [wrap_i64 _ (by omega) (by omega)]; rfl) ?_
          refine VL_pure 2 [2, 3, 4, 9, 30, 10, 31] [(2, .slice (some ⟨lb, lo, none⟩) n cc), (3, .int .i64 t), (4, .pointer (some ⟨b1, 0, none⟩)), (9, .pointer (some ⟨ab1, 0, none⟩)), (30, .int .i64 ((n : Nat) : Int)), (10, .bool (lastD q (k + 1))), (31, .int .i64 ((k + 1 : Nat) : Int))] (by kernel_rfl) rfl ?_
          refine VL_end (by kernel_rfl) ?_
          refine VQ_again (k + 1) ⟨rfl, rfl, rfl, rfl, rfl, rfl, rfl, trivial⟩ ?_ ?_
          · exact ⟨by omega, ht, hS, hob⟩
          · (try dsimp only); omega
        · refine VC_skip ?_
          refine VQ_block_normal ?_
          refine VQ_next ?_
          refine VC_region ?_
          refine VL_pure 1 [2, 3, 4, 9, 30, 10, 54] [(2, .slice (some ⟨lb, lo, none⟩) n cc), (3, .int .i64 t), (4, .pointer (some ⟨b1, 0, none⟩)), (9, .pointer (some ⟨ab1, 0, none⟩)), (30, .int .i64 ((n : Nat) : Int)), (10, .bool (lastD q k)), (54, .int .i64 (IntKind.wrap .i64 (((k : Nat) : Int) + 1)))] (by kernel_rfl) rfl ?_
          refine VL_eq [(2, .slice (some ⟨lb, lo, none⟩) n cc), (3, .int .i64 t), (4, .pointer (some ⟨b1, 0, none⟩)), (9, .pointer (some ⟨ab1, 0, none⟩)), (30, .int .i64 ((n : Nat) : Int)), (10, .bool (lastD q (k + 1))), (54, .int .i64 (IntKind.wrap .i64 (((k : Nat) : Int) + 1)))] (by rw [lastD_no (by omega) (by omega)]) ?_
          refine VL_eq [(2, .slice (some ⟨lb, lo, none⟩) n cc), (3, .int .i64 t), (4, .pointer (some ⟨b1, 0, none⟩)), (9, .pointer (some ⟨ab1, 0, none⟩)), (30, .int .i64 ((n : Nat) : Int)), (10, .bool (lastD q (k + 1))), (54, .int .i64 ((k + 1 : Nat) : Int))] (by rw [wrap_i64 _ (by omega) (by omega)]; rfl) ?_
          refine VL_pure 2 [2, 3, 4, 9, 30, 10, 31] [(2, .slice (some ⟨lb, lo, none⟩) n cc), (3, .int .i64 t), (4, .pointer (some ⟨b1, 0, none⟩)), (9, .pointer (some ⟨ab1, 0, none⟩)), (30, .int .i64 ((n : Nat) : Int)), (10, .bool (lastD q (k + 1))), (31, .int .i64 ((k + 1 : Nat) : Int))] (by kernel_rfl) rfl ?_
          refine VL_end (by kernel_rfl) ?_
          refine VQ_again (k + 1) ⟨rfl, rfl, rfl, rfl, rfl, rfl, rfl, trivial⟩ ?_ ?_
          · exact ⟨by omega, ht, hS, hob⟩
          · (try dsimp only); omega
    · refine VC_exit ?_
      refine VQ_then_exit ?_
      refine VQ_then_exit ?_
      refine VQ_block_hit ?_
      refine VQ_next ?_
      refine VC_seq ?_
      refine VC_region ?_
      refine VL_pure 2 [3, 4, 9, 10, 56, 57] [(3, .int .i64 t), (4, .pointer (some ⟨b1, 0, none⟩)), (9, .pointer (some ⟨ab1, 0, none⟩)), (10, .bool (lastD q k)), (56, .pointer (some ⟨ab1, 0, none⟩)), (57, .int .i64 t)] (by kernel_rfl) rfl ?_
      have hzs5 := hS.size
      have hzl4 := ht.lt
      have hzl5 := hob.lt
      refine VL_call (d := 58) (f := 16) (by kernel_rfl) (by kernel_rfl) (by kernel_rfl) Try.call16 (state_any ab1 (walkA here wait q n) _ ht t) ?_
      rintro _ w5 ⟨rfl, hc4⟩
      replace hS := Step.trans hS hc4
      replace ht := ht.no hc4
      replace hob := hob.no hc4
      refine VL_pure 8 [3, 4, 9, 10, 12] [(3, .int .i64 t), (4, .pointer (some ⟨b1, 0, none⟩)), (9, .pointer (some ⟨ab1, 0, none⟩)), (10, .bool (lastD q k)), (12, .bool (aheadA (walkA here wait q n) t))] (by kernel_rfl) rfl ?_
      refine VL_end (by kernel_rfl) ?_
      refine VQ_next ?_
      refine VC_seq ?_
      refine VC_region ?_
      refine VL_pure 2 [4, 10, 12, 61, 62] [(4, .pointer (some ⟨b1, 0, none⟩)), (10, .bool (lastD q k)), (12, .bool (aheadA (walkA here wait q n) t)), (61, .pointer (some ⟨ab1, 0, none⟩)), (62, .int .i64 t)] (by kernel_rfl) rfl ?_
      rcases Bool.eq_false_or_eq_true (walkA here wait q n).dn with hdn | hdn
      · refine VL_eq [(4, .pointer (some ⟨b1, 0, none⟩)), (10, .bool true), (12, .bool (aheadA (walkA here wait q n) t)), (61, .pointer (some ⟨ab1, 0, none⟩)), (62, .int .i64 t)] (by rw [show k = n from by omega, ← walkA_dn here wait, hdn]) ?_
        have hzs6 := hS.size
        have hzl6 := ht.lt
        have hzl7 := hob.lt
        refine VL_call (d := 63) (f := 19) (by kernel_rfl) (by kernel_rfl) (by kernel_rfl) Try.call19 (sends_any ab1 (walkA here wait q n) _ ht t) ?_
        rintro _ w6 ⟨sb1, rfl, hfsb1, hc5, hc6⟩
        replace hS := Step.trans hS hc6
        replace ht := ht.no hc6
        replace hob := hob.no hc6
        rw [show sendL (walkA here wait q n) t = [(ais (walkA here wait q n)), (rdi (walkA here wait q n))] from (send_1 hdn)] at hc5 ⊢
        have hzsb1 := hc5.lt
        refine VL_pure 4 [4, 10, 12, 14] [(4, .pointer (some ⟨b1, 0, none⟩)), (10, .bool true), (12, .bool (aheadA (walkA here wait q n) t)), (14, .slice (some ⟨sb1, 0, none⟩) 2 2)] (by kernel_rfl) rfl ?_
        refine VL_end (by kernel_rfl) ?_
        refine VQ_next ?_
        refine VC_seq ?_
        refine VC_region ?_
        refine VL_pure 1 [4, 10, 12, 14, 15] [(4, .pointer (some ⟨b1, 0, none⟩)), (10, .bool true), (12, .bool (aheadA (walkA here wait q n) t)), (14, .slice (some ⟨sb1, 0, none⟩) 2 2), (15, .bool false)] (by kernel_rfl) rfl ?_
        refine VL_end (by kernel_rfl) ?_
        refine VQ_next ?_
        refine VC_seq ?_
        refine VC_seq ?_
        refine VC_region ?_
        refine VL_pure 3 [4, 10, 12, 14, 15, 65, 66] [(4, .pointer (some ⟨b1, 0, none⟩)), (10, .bool true), (12, .bool (aheadA (walkA here wait q n) t)), (14, .slice (some ⟨sb1, 0, none⟩) 2 2), (15, .bool false), (65, .int .i64 2), (66, .int .i64 0)] (by kernel_rfl) rfl ?_
        refine VL_end (by kernel_rfl) ?_
        refine VQ_next ?_
        refine VC_block ?_
        refine VC_rounds ?_
        refine VCL_round ?_
        refine VC_seq ?_
        refine VC_region ?_
        refine VL_pure 1 [4, 10, 12, 14, 15, 65, 66, 67] [(4, .pointer (some ⟨b1, 0, none⟩)), (10, .bool true), (12, .bool (aheadA (walkA here wait q n) t)), (14, .slice (some ⟨sb1, 0, none⟩) 2 2), (15, .bool false), (65, .int .i64 2), (66, .int .i64 0), (67, .bool true)] (by kernel_rfl) rfl ?_
        refine VL_end (by kernel_rfl) ?_
        refine VQ_next ?_
        refine VC_seq ?_
        refine VC_true (by kernel_rfl) ?_
        refine VC_skip ?_
        refine VQ_next ?_
        refine VC_seq ?_
        refine VC_block ?_
        refine VC_seq ?_
        refine VC_region ?_
        refine VL_pure 2 [4, 10, 12, 14, 15, 65, 66, 16] [(4, .pointer (some ⟨b1, 0, none⟩)), (10, .bool true), (12, .bool (aheadA (walkA here wait q n) t)), (14, .slice (some ⟨sb1, 0, none⟩) 2 2), (15, .bool false), (65, .int .i64 2), (66, .int .i64 0), (16, .int .i64 0)] (by kernel_rfl) rfl ?_
        refine VL_end (by kernel_rfl) ?_
        refine VQ_next ?_
        refine VC_seq ?_
        refine VC_region ?_
        refine VL_pure 4 [4, 10, 12, 14, 65, 66, 16, 70, 71, 72] [(4, .pointer (some ⟨b1, 0, none⟩)), (10, .bool true), (12, .bool (aheadA (walkA here wait q n) t)), (14, .slice (some ⟨sb1, 0, none⟩) 2 2), (65, .int .i64 2), (66, .int .i64 0), (16, .int .i64 0), (70, .bool false), (71, .slice (some ⟨sb1, 0, none⟩) 2 2), (72, .int .i64 0)] (by kernel_rfl) rfl ?_
        refine VL_index (d := 73) (b := sb1) (o := 0) (len := 2) (sz := 36) (m := 0) (by kernel_rfl) (by kernel_rfl) 0 (by rfl) (by omega) 0 (by omega) ?_
        refine VL_pure 6 [4, 10, 12, 14, 65, 66, 16, 70, 74] [(4, .pointer (some ⟨b1, 0, none⟩)), (10, .bool true), (12, .bool (aheadA (walkA here wait q n) t)), (14, .slice (some ⟨sb1, 0, none⟩) 2 2), (65, .int .i64 2), (66, .int .i64 0), (16, .int .i64 0), (70, .bool false), (74, .pointer (some ⟨sb1, 0, none⟩))] (by kernel_rfl) rfl ?_
        refine VL_load (d := 75) (t := 3) (a := ⟨sb1, 0, none⟩) (v := .int .i64 0) (by kernel_rfl) (by kernel_rfl) (Loads.own1 hc5 (by kernel_rfl) (by rfl)) ?_
        refine VL_pure 10 [4, 10, 12, 14, 65, 66, 16, 15] [(4, .pointer (some ⟨b1, 0, none⟩)), (10, .bool true), (12, .bool (aheadA (walkA here wait q n) t)), (14, .slice (some ⟨sb1, 0, none⟩) 2 2), (65, .int .i64 2), (66, .int .i64 0), (16, .int .i64 0), (15, .bool false)] (by kernel_rfl) rfl ?_
        refine VL_end (by kernel_rfl) ?_
        refine VQ_next ?_
        refine VC_seq ?_
        refine VC_det [[], [], [0, 1], [0, 1, 2], [0, 1, 2, 3], [0, 1, 2, 3, 4], [0, 1, 2, 3, 4, 5], [0, 1, 2, 3, 4, 5, 6], [0, 1, 2, 3, 4, 5, 6], [0, 1, 2, 3, 4, 5, 6, 7, 8], [0, 1, 2, 3, 4, 5, 6, 7, 8, 9], [0, 1, 2, 3, 4, 5, 6, 7, 8, 9, 10], [0, 1, 2, 3, 4, 5, 6, 7, 8, 9, 10, 11], [0, 1, 2, 3, 4, 5, 6, 7, 8, 9, 10, 11, 12], [0, 1, 2, 3, 4, 5, 6, 7, 8, 9, 10, 11, 12, 13], [0, 1, 2, 3, 4, 5, 6, 7, 8, 9, 10, 11, 12, 13], [0, 1, 2, 3, 4, 5, 6, 7, 8, 9, 10, 11, 12, 13, 14, 15], [0, 1, 2, 3, 4, 5, 6, 7, 8, 9, 10, 11, 12, 13, 14, 15, 16], [0, 1, 2, 3, 4, 5, 6, 7, 8, 9, 10, 11, 12, 13, 14, 15, 16, 17], [0, 1, 2, 3, 4, 5, 6, 7, 8, 9, 10, 11, 12, 13], [0, 1, 2, 3, 4, 5, 6, 7, 8, 9, 10, 11, 12, 13, 14, 15, 16, 17, 18, 19], [0, 1, 2, 3, 4, 5, 6, 7, 8, 9, 10, 11, 12, 13, 14, 15, 16, 17, 18, 19, 20], [0, 1, 2, 3, 4, 5, 6, 7, 8, 9, 10, 11, 12, 13, 14, 15, 16, 17, 18, 19, 20, 21]] 20 [.slice (some ⟨sb1, 0, none⟩) 2 2, .int .i64 0, .pointer (some ⟨sb1, 0, none⟩), .agg #[.int .i64 0, .int .u8 0, .bool false, .int .u32 0, .int .u8 (((walkA here wait q n).here) 0), .int .u8 (((walkA here wait q n).here) 1), .int .u8 (((walkA here wait q n).here) 2), .int .u8 (((walkA here wait q n).here) 3), .int .u8 (((walkA here wait q n).here) 4), .int .u8 (((walkA here wait q n).here) 5), .int .u8 (((walkA here wait q n).here) 6), .int .u8 (((walkA here wait q n).here) 7), .int .u8 (((walkA here wait q n).here) 8), .int .u8 (((walkA here wait q n).here) 9), .int .u8 (((walkA here wait q n).here) 10), .int .u8 (((walkA here wait q n).here) 11), .int .u8 (((walkA here wait q n).here) 12), .int .u8 (((walkA here wait q n).here) 13), .int .u8 (((walkA here wait q n).here) 14), .int .u8 (((walkA here wait q n).here) 15), .int .u8 0, .int .u8 0, .int .u8 0, .int .u8 0, .int .u8 0, .int .u8 0, .int .u8 0, .int .u8 0, .int .u8 0, .int .u8 0, .int .u8 0, .int .u8 0, .int .u8 0, .int .u8 0, .int .u8 0, .int .u8 0], .bool true, .bool false, .bool false, .slice (some ⟨sb1, 0, none⟩) 2 2, .int .i64 0, .pointer (some ⟨sb1, 0, none⟩), .pointer (some ⟨sb1, 0, none⟩), .int .i64 0, .bool true, .bool true, .slice (some ⟨sb1, 0, none⟩) 2 2, .int .i64 0, .pointer (some ⟨sb1, 0, none⟩), .pointer (some ⟨sb1, 4, none⟩), .agg #[.int .u8 (((walkA here wait q n).here) 0), .int .u8 (((walkA here wait q n).here) 1), .int .u8 (((walkA here wait q n).here) 2), .int .u8 (((walkA here wait q n).here) 3), .int .u8 (((walkA here wait q n).here) 4), .int .u8 (((walkA here wait q n).here) 5), .int .u8 (((walkA here wait q n).here) 6), .int .u8 (((walkA here wait q n).here) 7), .int .u8 (((walkA here wait q n).here) 8), .int .u8 (((walkA here wait q n).here) 9), .int .u8 (((walkA here wait q n).here) 10), .int .u8 (((walkA here wait q n).here) 11), .int .u8 (((walkA here wait q n).here) 12), .int .u8 (((walkA here wait q n).here) 13), .int .u8 (((walkA here wait q n).here) 14), .int .u8 (((walkA here wait q n).here) 15)], .agg #[.int .u8 (here 0), .int .u8 (here 1), .int .u8 (here 2), .int .u8 (here 3), .int .u8 (here 4), .int .u8 (here 5), .int .u8 (here 6), .int .u8 (here 7), .int .u8 (here 8), .int .u8 (here 9), .int .u8 (here 10), .int .u8 (here 11), .int .u8 (here 12), .int .u8 (here 13), .int .u8 (here 14), .int .u8 (here 15)]] [0, 1, 5, 6, 7, 8, 10, 12, 13, 14, 15, 17] [2, 3, 4, 9, 11, 16, 18, 19] (by kernel_rfl) (by kernel_rfl) (by kernel_rfl) (by kernel_rfl) ?_ ?_
        · intro w7 hs1
          replace hS := Step.trans hS hs1
          replace ht := ht.no hs1
          replace hob := hob.no hs1
          replace hc5 := hc5.no hs1
          exact ⟨Det1_index (d := 80) (b := sb1) (o := 0) (len := 2) (sz := 36) (m := 0) (by kernel_rfl) (by kernel_rfl) 0 (by rfl) (by omega) 0 (by omega), Det1_load (d := 81) (t := 34) (a := ⟨sb1, 0, none⟩) (by kernel_rfl) (by kernel_rfl) (Loads.ownL hc5 (n := 36) (by kernel_rfl) (by kernel_rfl) (by kernel_rfl)), Det1_call (d := 82) (f := 22) (args := #[.agg #[.int .i64 0, .int .u8 0, .bool false, .int .u32 0, .int .u8 (((walkA here wait q n).here) 0), .int .u8 (((walkA here wait q n).here) 1), .int .u8 (((walkA here wait q n).here) 2), .int .u8 (((walkA here wait q n).here) 3), .int .u8 (((walkA here wait q n).here) 4), .int .u8 (((walkA here wait q n).here) 5), .int .u8 (((walkA here wait q n).here) 6), .int .u8 (((walkA here wait q n).here) 7), .int .u8 (((walkA here wait q n).here) 8), .int .u8 (((walkA here wait q n).here) 9), .int .u8 (((walkA here wait q n).here) 10), .int .u8 (((walkA here wait q n).here) 11), .int .u8 (((walkA here wait q n).here) 12), .int .u8 (((walkA here wait q n).here) 13), .int .u8 (((walkA here wait q n).here) 14), .int .u8 (((walkA here wait q n).here) 15), .int .u8 0, .int .u8 0, .int .u8 0, .int .u8 0, .int .u8 0, .int .u8 0, .int .u8 0, .int .u8 0, .int .u8 0, .int .u8 0, .int .u8 0, .int .u8 0, .int .u8 0, .int .u8 0, .int .u8 0, .int .u8 0]]) (by kernel_rfl) (by kernel_rfl) (by kernel_rfl) Try.call22 (by exact right_known (⟨0, 0, false, 0, ((walkA here wait q n).here), zp⟩ : Om) _ (right_place 0 (.inl rfl) _)), Det1_index (d := 87) (b := sb1) (o := 0) (len := 2) (sz := 36) (m := 0) (by kernel_rfl) (by kernel_rfl) 0 (by rfl) (by omega) 0 (by omega), Det1_load (d := 89) (t := 3) (a := ⟨sb1, 0, none⟩) (by kernel_rfl) (by kernel_rfl) (Loads.own1 hc5 (by kernel_rfl) (by rfl)), Det1_index (d := 94) (b := sb1) (o := 0) (len := 2) (sz := 36) (m := 0) (by kernel_rfl) (by kernel_rfl) 0 (by rfl) (by omega) 0 (by omega), Det1_load (d := 96) (t := 22) (a := ⟨sb1, 4, none⟩) (by kernel_rfl) (by kernel_rfl) (Loads.ownL hc5 (n := 16) (by kernel_rfl) (by kernel_rfl) (by kernel_rfl)), Det1_load (d := 97) (t := 22) (a := ⟨b1, 0, none⟩) (by kernel_rfl) (by kernel_rfl) (Loads.ownL hob (n := 16) (by kernel_rfl) (by kernel_rfl) (by kernel_rfl)), trivial⟩
        intro w7 hs1
        replace hS := Step.trans hS hs1
        replace ht := ht.no hs1
        replace hob := hob.no hs1
        replace hc5 := hc5.no hs1
        refine VL_keep [4, 10, 12, 14, 65, 66, 15, 84, 91, 96, 97] [(4, .pointer (some ⟨b1, 0, none⟩)), (10, .bool true), (12, .bool (aheadA (walkA here wait q n) t)), (14, .slice (some ⟨sb1, 0, none⟩) 2 2), (65, .int .i64 2), (66, .int .i64 0), (15, .bool false), (84, .bool false), (91, .bool true), (96, .agg #[.int .u8 (((walkA here wait q n).here) 0), .int .u8 (((walkA here wait q n).here) 1), .int .u8 (((walkA here wait q n).here) 2), .int .u8 (((walkA here wait q n).here) 3), .int .u8 (((walkA here wait q n).here) 4), .int .u8 (((walkA here wait q n).here) 5), .int .u8 (((walkA here wait q n).here) 6), .int .u8 (((walkA here wait q n).here) 7), .int .u8 (((walkA here wait q n).here) 8), .int .u8 (((walkA here wait q n).here) 9), .int .u8 (((walkA here wait q n).here) 10), .int .u8 (((walkA here wait q n).here) 11), .int .u8 (((walkA here wait q n).here) 12), .int .u8 (((walkA here wait q n).here) 13), .int .u8 (((walkA here wait q n).here) 14), .int .u8 (((walkA here wait q n).here) 15)]), (97, .agg #[.int .u8 (here 0), .int .u8 (here 1), .int .u8 (here 2), .int .u8 (here 3), .int .u8 (here 4), .int .u8 (here 5), .int .u8 (here 6), .int .u8 (here 7), .int .u8 (here 8), .int .u8 (here 9), .int .u8 (here 10), .int .u8 (here 11), .int .u8 (here 12), .int .u8 (here 13), .int .u8 (here 14), .int .u8 (here 15)])] (by kernel_rfl) ?_
        refine VL_agEq (d := 98) (dd := 9) (ls := (rep 16 [.int .u8])) (pos := false) (t := 22) (xs := #[.int .u8 (((walkA here wait q n).here) 0), .int .u8 (((walkA here wait q n).here) 1), .int .u8 (((walkA here wait q n).here) 2), .int .u8 (((walkA here wait q n).here) 3), .int .u8 (((walkA here wait q n).here) 4), .int .u8 (((walkA here wait q n).here) 5), .int .u8 (((walkA here wait q n).here) 6), .int .u8 (((walkA here wait q n).here) 7), .int .u8 (((walkA here wait q n).here) 8), .int .u8 (((walkA here wait q n).here) 9), .int .u8 (((walkA here wait q n).here) 10), .int .u8 (((walkA here wait q n).here) 11), .int .u8 (((walkA here wait q n).here) 12), .int .u8 (((walkA here wait q n).here) 13), .int .u8 (((walkA here wait q n).here) 14), .int .u8 (((walkA here wait q n).here) 15)]) (ys := #[.int .u8 (here 0), .int .u8 (here 1), .int .u8 (here 2), .int .u8 (here 3), .int .u8 (here 4), .int .u8 (here 5), .int .u8 (here 6), .int .u8 (here 7), .int .u8 (here 8), .int .u8 (here 9), .int .u8 (here 10), .int .u8 (here 11), .int .u8 (here 12), .int .u8 (here 13), .int .u8 (here 14), .int .u8 (here 15)]) (by kernel_rfl) (by kernel_rfl) (by kernel_rfl) (by kernel_rfl) (by first | exact ⟨⟨_, rfl⟩, ⟨_, rfl⟩, ⟨_, rfl⟩, ⟨_, rfl⟩, ⟨_, rfl⟩, ⟨_, rfl⟩, ⟨_, rfl⟩, ⟨_, rfl⟩, ⟨_, rfl⟩, ⟨_, rfl⟩, ⟨_, rfl⟩, ⟨_, rfl⟩, ⟨_, rfl⟩, ⟨_, rfl⟩, ⟨_, rfl⟩, ⟨_, rfl⟩, trivial⟩ | trivial) (by first | exact ⟨⟨_, rfl⟩, ⟨_, rfl⟩, ⟨_, rfl⟩, ⟨_, rfl⟩, ⟨_, rfl⟩, ⟨_, rfl⟩, ⟨_, rfl⟩, ⟨_, rfl⟩, ⟨_, rfl⟩, ⟨_, rfl⟩, ⟨_, rfl⟩, ⟨_, rfl⟩, ⟨_, rfl⟩, ⟨_, rfl⟩, ⟨_, rfl⟩, ⟨_, rfl⟩, trivial⟩ | trivial) false (by exact place_ne (walkA_here _ _ _ _)) ?_
        refine VL_pure 23 [4, 10, 12, 14, 65, 66, 15, 100] [(4, .pointer (some ⟨b1, 0, none⟩)), (10, .bool true), (12, .bool (aheadA (walkA here wait q n) t)), (14, .slice (some ⟨sb1, 0, none⟩) 2 2), (65, .int .i64 2), (66, .int .i64 0), (15, .bool false), (100, .bool false)] (by kernel_rfl) rfl ?_
        refine VL_end (by kernel_rfl) ?_
        refine VQ_next ?_
        refine VC_false (by kernel_rfl) ?_
        refine VC_skip ?_
        refine VQ_block_normal ?_
        refine VQ_next ?_
        refine VC_region ?_
        refine VL_pure 2 [4, 10, 12, 14, 65, 66, 15] [(4, .pointer (some ⟨b1, 0, none⟩)), (10, .bool true), (12, .bool (aheadA (walkA here wait q n) t)), (14, .slice (some ⟨sb1, 0, none⟩) 2 2), (65, .int .i64 2), (66, .int .i64 1), (15, .bool false)] (by kernel_rfl) rfl ?_
        refine VL_end (by kernel_rfl) ?_
        refine VQ_round ?_
        refine VCL_round ?_
        refine VC_seq ?_
        refine VC_region ?_
        refine VL_pure 1 [4, 10, 12, 14, 65, 66, 15, 67] [(4, .pointer (some ⟨b1, 0, none⟩)), (10, .bool true), (12, .bool (aheadA (walkA here wait q n) t)), (14, .slice (some ⟨sb1, 0, none⟩) 2 2), (65, .int .i64 2), (66, .int .i64 1), (15, .bool false), (67, .bool true)] (by kernel_rfl) rfl ?_
        refine VL_end (by kernel_rfl) ?_
        refine VQ_next ?_
        refine VC_seq ?_
        refine VC_true (by kernel_rfl) ?_
        refine VC_skip ?_
        refine VQ_next ?_
        refine VC_seq ?_
        refine VC_block ?_
        refine VC_seq ?_
        refine VC_region ?_
        refine VL_pure 2 [4, 10, 12, 14, 65, 66, 15, 16] [(4, .pointer (some ⟨b1, 0, none⟩)), (10, .bool true), (12, .bool (aheadA (walkA here wait q n) t)), (14, .slice (some ⟨sb1, 0, none⟩) 2 2), (65, .int .i64 2), (66, .int .i64 1), (15, .bool false), (16, .int .i64 1)] (by kernel_rfl) rfl ?_
        refine VL_end (by kernel_rfl) ?_
        refine VQ_next ?_
        refine VC_seq ?_
        refine VC_region ?_
        refine VL_pure 4 [4, 10, 12, 14, 65, 66, 16, 70, 71, 72] [(4, .pointer (some ⟨b1, 0, none⟩)), (10, .bool true), (12, .bool (aheadA (walkA here wait q n) t)), (14, .slice (some ⟨sb1, 0, none⟩) 2 2), (65, .int .i64 2), (66, .int .i64 1), (16, .int .i64 1), (70, .bool false), (71, .slice (some ⟨sb1, 0, none⟩) 2 2), (72, .int .i64 1)] (by kernel_rfl) rfl ?_
        refine VL_index (d := 73) (b := sb1) (o := 0) (len := 2) (sz := 36) (m := 1) (by kernel_rfl) (by kernel_rfl) 1 (by rfl) (by omega) 36 (by omega) ?_
        refine VL_pure 6 [4, 10, 12, 14, 65, 66, 16, 70, 74] [(4, .pointer (some ⟨b1, 0, none⟩)), (10, .bool true), (12, .bool (aheadA (walkA here wait q n) t)), (14, .slice (some ⟨sb1, 0, none⟩) 2 2), (65, .int .i64 2), (66, .int .i64 1), (16, .int .i64 1), (70, .bool false), (74, .pointer (some ⟨sb1, 36, none⟩))] (by kernel_rfl) rfl ?_
        refine VL_load (d := 75) (t := 3) (a := ⟨sb1, 36, none⟩) (v := .int .i64 1) (by kernel_rfl) (by kernel_rfl) (Loads.own1 hc5 (by kernel_rfl) (by rfl)) ?_
        refine VL_pure 10 [4, 10, 12, 14, 65, 66, 16, 15] [(4, .pointer (some ⟨b1, 0, none⟩)), (10, .bool true), (12, .bool (aheadA (walkA here wait q n) t)), (14, .slice (some ⟨sb1, 0, none⟩) 2 2), (65, .int .i64 2), (66, .int .i64 1), (16, .int .i64 1), (15, .bool false)] (by kernel_rfl) rfl ?_
        refine VL_end (by kernel_rfl) ?_
        refine VQ_next ?_
        refine VC_seq ?_
        refine VC_det [[], [], [0, 1], [0, 1, 2], [0, 1, 2, 3], [0, 1, 2, 3, 4], [0, 1, 2, 3, 4, 5], [0, 1, 2, 3, 4, 5, 6], [0, 1, 2, 3, 4, 5, 6], [0, 1, 2, 3, 4, 5, 6, 7, 8], [0, 1, 2, 3, 4, 5, 6, 7, 8, 9], [0, 1, 2, 3, 4, 5, 6, 7, 8, 9, 10], [0, 1, 2, 3, 4, 5, 6, 7, 8, 9, 10, 11], [0, 1, 2, 3, 4, 5, 6, 7, 8, 9, 10, 11, 12], [0, 1, 2, 3, 4, 5, 6, 7, 8, 9, 10, 11, 12, 13], [0, 1, 2, 3, 4, 5, 6, 7, 8, 9, 10, 11, 12, 13], [0, 1, 2, 3, 4, 5, 6, 7, 8, 9, 10, 11, 12, 13, 14, 15], [0, 1, 2, 3, 4, 5, 6, 7, 8, 9, 10, 11, 12, 13, 14, 15, 16], [0, 1, 2, 3, 4, 5, 6, 7, 8, 9, 10, 11, 12, 13, 14, 15, 16, 17], [0, 1, 2, 3, 4, 5, 6, 7, 8, 9, 10, 11, 12, 13], [0, 1, 2, 3, 4, 5, 6, 7, 8, 9, 10, 11, 12, 13, 14, 15, 16, 17, 18, 19], [0, 1, 2, 3, 4, 5, 6, 7, 8, 9, 10, 11, 12, 13, 14, 15, 16, 17, 18, 19, 20], [0, 1, 2, 3, 4, 5, 6, 7, 8, 9, 10, 11, 12, 13, 14, 15, 16, 17, 18, 19, 20, 21]] 20 [.slice (some ⟨sb1, 0, none⟩) 2 2, .int .i64 1, .pointer (some ⟨sb1, 36, none⟩), .agg #[.int .i64 1, .int .u8 0, .bool false, .int .u32 0, .int .u8 (((walkA here wait q n).here) 0), .int .u8 (((walkA here wait q n).here) 1), .int .u8 (((walkA here wait q n).here) 2), .int .u8 (((walkA here wait q n).here) 3), .int .u8 (((walkA here wait q n).here) 4), .int .u8 (((walkA here wait q n).here) 5), .int .u8 (((walkA here wait q n).here) 6), .int .u8 (((walkA here wait q n).here) 7), .int .u8 (((walkA here wait q n).here) 8), .int .u8 (((walkA here wait q n).here) 9), .int .u8 (((walkA here wait q n).here) 10), .int .u8 (((walkA here wait q n).here) 11), .int .u8 (((walkA here wait q n).here) 12), .int .u8 (((walkA here wait q n).here) 13), .int .u8 (((walkA here wait q n).here) 14), .int .u8 (((walkA here wait q n).here) 15), .int .u8 0, .int .u8 0, .int .u8 0, .int .u8 0, .int .u8 0, .int .u8 0, .int .u8 0, .int .u8 0, .int .u8 0, .int .u8 0, .int .u8 0, .int .u8 0, .int .u8 0, .int .u8 0, .int .u8 0, .int .u8 0], .bool true, .bool false, .bool false, .slice (some ⟨sb1, 0, none⟩) 2 2, .int .i64 1, .pointer (some ⟨sb1, 36, none⟩), .pointer (some ⟨sb1, 36, none⟩), .int .i64 1, .bool true, .bool true, .slice (some ⟨sb1, 0, none⟩) 2 2, .int .i64 1, .pointer (some ⟨sb1, 36, none⟩), .pointer (some ⟨sb1, 40, none⟩), .agg #[.int .u8 (((walkA here wait q n).here) 0), .int .u8 (((walkA here wait q n).here) 1), .int .u8 (((walkA here wait q n).here) 2), .int .u8 (((walkA here wait q n).here) 3), .int .u8 (((walkA here wait q n).here) 4), .int .u8 (((walkA here wait q n).here) 5), .int .u8 (((walkA here wait q n).here) 6), .int .u8 (((walkA here wait q n).here) 7), .int .u8 (((walkA here wait q n).here) 8), .int .u8 (((walkA here wait q n).here) 9), .int .u8 (((walkA here wait q n).here) 10), .int .u8 (((walkA here wait q n).here) 11), .int .u8 (((walkA here wait q n).here) 12), .int .u8 (((walkA here wait q n).here) 13), .int .u8 (((walkA here wait q n).here) 14), .int .u8 (((walkA here wait q n).here) 15)], .agg #[.int .u8 (here 0), .int .u8 (here 1), .int .u8 (here 2), .int .u8 (here 3), .int .u8 (here 4), .int .u8 (here 5), .int .u8 (here 6), .int .u8 (here 7), .int .u8 (here 8), .int .u8 (here 9), .int .u8 (here 10), .int .u8 (here 11), .int .u8 (here 12), .int .u8 (here 13), .int .u8 (here 14), .int .u8 (here 15)]] [0, 1, 5, 6, 7, 8, 10, 12, 13, 14, 15, 17] [2, 3, 4, 9, 11, 16, 18, 19] (by kernel_rfl) (by kernel_rfl) (by kernel_rfl) (by kernel_rfl) ?_ ?_
        · intro w8 hs2
          replace hS := Step.trans hS hs2
          replace ht := ht.no hs2
          replace hob := hob.no hs2
          replace hc5 := hc5.no hs2
          exact ⟨Det1_index (d := 80) (b := sb1) (o := 0) (len := 2) (sz := 36) (m := 1) (by kernel_rfl) (by kernel_rfl) 1 (by rfl) (by omega) 36 (by omega), Det1_load (d := 81) (t := 34) (a := ⟨sb1, 36, none⟩) (by kernel_rfl) (by kernel_rfl) (Loads.ownL hc5 (n := 36) (by kernel_rfl) (by kernel_rfl) (by kernel_rfl)), Det1_call (d := 82) (f := 22) (args := #[.agg #[.int .i64 1, .int .u8 0, .bool false, .int .u32 0, .int .u8 (((walkA here wait q n).here) 0), .int .u8 (((walkA here wait q n).here) 1), .int .u8 (((walkA here wait q n).here) 2), .int .u8 (((walkA here wait q n).here) 3), .int .u8 (((walkA here wait q n).here) 4), .int .u8 (((walkA here wait q n).here) 5), .int .u8 (((walkA here wait q n).here) 6), .int .u8 (((walkA here wait q n).here) 7), .int .u8 (((walkA here wait q n).here) 8), .int .u8 (((walkA here wait q n).here) 9), .int .u8 (((walkA here wait q n).here) 10), .int .u8 (((walkA here wait q n).here) 11), .int .u8 (((walkA here wait q n).here) 12), .int .u8 (((walkA here wait q n).here) 13), .int .u8 (((walkA here wait q n).here) 14), .int .u8 (((walkA here wait q n).here) 15), .int .u8 0, .int .u8 0, .int .u8 0, .int .u8 0, .int .u8 0, .int .u8 0, .int .u8 0, .int .u8 0, .int .u8 0, .int .u8 0, .int .u8 0, .int .u8 0, .int .u8 0, .int .u8 0, .int .u8 0, .int .u8 0]]) (by kernel_rfl) (by kernel_rfl) (by kernel_rfl) Try.call22 (by exact right_known (⟨1, 0, false, 0, ((walkA here wait q n).here), zp⟩ : Om) _ (right_place 1 (.inr rfl) _)), Det1_index (d := 87) (b := sb1) (o := 0) (len := 2) (sz := 36) (m := 1) (by kernel_rfl) (by kernel_rfl) 1 (by rfl) (by omega) 36 (by omega), Det1_load (d := 89) (t := 3) (a := ⟨sb1, 36, none⟩) (by kernel_rfl) (by kernel_rfl) (Loads.own1 hc5 (by kernel_rfl) (by rfl)), Det1_index (d := 94) (b := sb1) (o := 0) (len := 2) (sz := 36) (m := 1) (by kernel_rfl) (by kernel_rfl) 1 (by rfl) (by omega) 36 (by omega), Det1_load (d := 96) (t := 22) (a := ⟨sb1, 40, none⟩) (by kernel_rfl) (by kernel_rfl) (Loads.ownL hc5 (n := 16) (by kernel_rfl) (by kernel_rfl) (by kernel_rfl)), Det1_load (d := 97) (t := 22) (a := ⟨b1, 0, none⟩) (by kernel_rfl) (by kernel_rfl) (Loads.ownL hob (n := 16) (by kernel_rfl) (by kernel_rfl) (by kernel_rfl)), trivial⟩
        intro w8 hs2
        replace hS := Step.trans hS hs2
        replace ht := ht.no hs2
        replace hob := hob.no hs2
        replace hc5 := hc5.no hs2
        refine VL_keep [4, 10, 12, 14, 65, 66, 15, 84, 91, 96, 97] [(4, .pointer (some ⟨b1, 0, none⟩)), (10, .bool true), (12, .bool (aheadA (walkA here wait q n) t)), (14, .slice (some ⟨sb1, 0, none⟩) 2 2), (65, .int .i64 2), (66, .int .i64 1), (15, .bool false), (84, .bool false), (91, .bool true), (96, .agg #[.int .u8 (((walkA here wait q n).here) 0), .int .u8 (((walkA here wait q n).here) 1), .int .u8 (((walkA here wait q n).here) 2), .int .u8 (((walkA here wait q n).here) 3), .int .u8 (((walkA here wait q n).here) 4), .int .u8 (((walkA here wait q n).here) 5), .int .u8 (((walkA here wait q n).here) 6), .int .u8 (((walkA here wait q n).here) 7), .int .u8 (((walkA here wait q n).here) 8), .int .u8 (((walkA here wait q n).here) 9), .int .u8 (((walkA here wait q n).here) 10), .int .u8 (((walkA here wait q n).here) 11), .int .u8 (((walkA here wait q n).here) 12), .int .u8 (((walkA here wait q n).here) 13), .int .u8 (((walkA here wait q n).here) 14), .int .u8 (((walkA here wait q n).here) 15)]), (97, .agg #[.int .u8 (here 0), .int .u8 (here 1), .int .u8 (here 2), .int .u8 (here 3), .int .u8 (here 4), .int .u8 (here 5), .int .u8 (here 6), .int .u8 (here 7), .int .u8 (here 8), .int .u8 (here 9), .int .u8 (here 10), .int .u8 (here 11), .int .u8 (here 12), .int .u8 (here 13), .int .u8 (here 14), .int .u8 (here 15)])] (by kernel_rfl) ?_
        refine VL_agEq (d := 98) (dd := 9) (ls := (rep 16 [.int .u8])) (pos := false) (t := 22) (xs := #[.int .u8 (((walkA here wait q n).here) 0), .int .u8 (((walkA here wait q n).here) 1), .int .u8 (((walkA here wait q n).here) 2), .int .u8 (((walkA here wait q n).here) 3), .int .u8 (((walkA here wait q n).here) 4), .int .u8 (((walkA here wait q n).here) 5), .int .u8 (((walkA here wait q n).here) 6), .int .u8 (((walkA here wait q n).here) 7), .int .u8 (((walkA here wait q n).here) 8), .int .u8 (((walkA here wait q n).here) 9), .int .u8 (((walkA here wait q n).here) 10), .int .u8 (((walkA here wait q n).here) 11), .int .u8 (((walkA here wait q n).here) 12), .int .u8 (((walkA here wait q n).here) 13), .int .u8 (((walkA here wait q n).here) 14), .int .u8 (((walkA here wait q n).here) 15)]) (ys := #[.int .u8 (here 0), .int .u8 (here 1), .int .u8 (here 2), .int .u8 (here 3), .int .u8 (here 4), .int .u8 (here 5), .int .u8 (here 6), .int .u8 (here 7), .int .u8 (here 8), .int .u8 (here 9), .int .u8 (here 10), .int .u8 (here 11), .int .u8 (here 12), .int .u8 (here 13), .int .u8 (here 14), .int .u8 (here 15)]) (by kernel_rfl) (by kernel_rfl) (by kernel_rfl) (by kernel_rfl) (by first | exact ⟨⟨_, rfl⟩, ⟨_, rfl⟩, ⟨_, rfl⟩, ⟨_, rfl⟩, ⟨_, rfl⟩, ⟨_, rfl⟩, ⟨_, rfl⟩, ⟨_, rfl⟩, ⟨_, rfl⟩, ⟨_, rfl⟩, ⟨_, rfl⟩, ⟨_, rfl⟩, ⟨_, rfl⟩, ⟨_, rfl⟩, ⟨_, rfl⟩, ⟨_, rfl⟩, trivial⟩ | trivial) (by first | exact ⟨⟨_, rfl⟩, ⟨_, rfl⟩, ⟨_, rfl⟩, ⟨_, rfl⟩, ⟨_, rfl⟩, ⟨_, rfl⟩, ⟨_, rfl⟩, ⟨_, rfl⟩, ⟨_, rfl⟩, ⟨_, rfl⟩, ⟨_, rfl⟩, ⟨_, rfl⟩, ⟨_, rfl⟩, ⟨_, rfl⟩, ⟨_, rfl⟩, ⟨_, rfl⟩, trivial⟩ | trivial) false (by exact place_ne (walkA_here _ _ _ _)) ?_
        refine VL_pure 23 [4, 10, 12, 14, 65, 66, 15, 100] [(4, .pointer (some ⟨b1, 0, none⟩)), (10, .bool true), (12, .bool (aheadA (walkA here wait q n) t)), (14, .slice (some ⟨sb1, 0, none⟩) 2 2), (65, .int .i64 2), (66, .int .i64 1), (15, .bool false), (100, .bool false)] (by kernel_rfl) rfl ?_
        refine VL_end (by kernel_rfl) ?_
        refine VQ_next ?_
        refine VC_false (by kernel_rfl) ?_
        refine VC_skip ?_
        refine VQ_block_normal ?_
        refine VQ_next ?_
        refine VC_region ?_
        refine VL_pure 2 [4, 10, 12, 14, 65, 66, 15] [(4, .pointer (some ⟨b1, 0, none⟩)), (10, .bool true), (12, .bool (aheadA (walkA here wait q n) t)), (14, .slice (some ⟨sb1, 0, none⟩) 2 2), (65, .int .i64 2), (66, .int .i64 2), (15, .bool false)] (by kernel_rfl) rfl ?_
        refine VL_end (by kernel_rfl) ?_
        refine VQ_round ?_
        refine VCL_round ?_
        refine VC_seq ?_
        refine VC_region ?_
        refine VL_pure 1 [4, 10, 12, 14, 65, 66, 15, 67] [(4, .pointer (some ⟨b1, 0, none⟩)), (10, .bool true), (12, .bool (aheadA (walkA here wait q n) t)), (14, .slice (some ⟨sb1, 0, none⟩) 2 2), (65, .int .i64 2), (66, .int .i64 2), (15, .bool false), (67, .bool false)] (by kernel_rfl) rfl ?_
        refine VL_end (by kernel_rfl) ?_
        refine VQ_next ?_
        refine VC_seq ?_
        refine VC_false (by kernel_rfl) ?_
        refine VC_exit ?_
        refine VQ_then_exit ?_
        refine VQ_then_exit ?_
        refine VQ_block_hit ?_
        refine VQ_next ?_
        refine VC_seq ?_
        refine VC_region ?_
        refine VL_pure 26 [8] [(8, .bool true)] (by kernel_rfl) rfl ?_
        refine VL_end (by kernel_rfl) ?_
        refine VQ_next ?_
        refine VC_ret ?_
        refine VQ_ret1 (.bool true) (.inr rfl) rfl rfl ?_
        exact ⟨rfl, hS⟩
      ·
        rcases Bool.eq_false_or_eq_true (aheadA (walkA here wait q n) t) with hah | hah
        · refine VL_eq [(4, .pointer (some ⟨b1, 0, none⟩)), (10, .bool false), (12, .bool (aheadA (walkA here wait q n) t)), (61, .pointer (some ⟨ab1, 0, none⟩)), (62, .int .i64 t)] (by rw [show k = n from by omega, ← walkA_dn here wait, hdn]) ?_
          refine VL_eq [(4, .pointer (some ⟨b1, 0, none⟩)), (10, .bool false), (12, .bool true), (61, .pointer (some ⟨ab1, 0, none⟩)), (62, .int .i64 t)] (by rw [hah]) ?_
          have hzs7 := hS.size
          have hzl8 := ht.lt
          have hzl9 := hob.lt
          refine VL_call (d := 63) (f := 19) (by kernel_rfl) (by kernel_rfl) (by kernel_rfl) Try.call19 (sends_any ab1 (walkA here wait q n) _ ht t) ?_
          rintro _ w9 ⟨sb2, rfl, hfsb2, hc7, hc8⟩
          replace hS := Step.trans hS hc8
          replace ht := ht.no hc8
          replace hob := hob.no hc8
          rw [show sendL (walkA here wait q n) t = [(rdi (walkA here wait q n))] from (send_2 hdn hah)] at hc7 ⊢
          have hzsb2 := hc7.lt
          refine VL_pure 4 [4, 10, 12, 14] [(4, .pointer (some ⟨b1, 0, none⟩)), (10, .bool false), (12, .bool true), (14, .slice (some ⟨sb2, 0, none⟩) 1 1)] (by kernel_rfl) rfl ?_
          refine VL_end (by kernel_rfl) ?_
          refine VQ_next ?_
          refine VC_seq ?_
          refine VC_region ?_
          refine VL_pure 1 [4, 10, 12, 14, 15] [(4, .pointer (some ⟨b1, 0, none⟩)), (10, .bool false), (12, .bool true), (14, .slice (some ⟨sb2, 0, none⟩) 1 1), (15, .bool false)] (by kernel_rfl) rfl ?_
          refine VL_end (by kernel_rfl) ?_
          refine VQ_next ?_
          refine VC_seq ?_
          refine VC_seq ?_
          refine VC_region ?_
          refine VL_pure 3 [4, 10, 12, 14, 15, 65, 66] [(4, .pointer (some ⟨b1, 0, none⟩)), (10, .bool false), (12, .bool true), (14, .slice (some ⟨sb2, 0, none⟩) 1 1), (15, .bool false), (65, .int .i64 1), (66, .int .i64 0)] (by kernel_rfl) rfl ?_
          refine VL_end (by kernel_rfl) ?_
          refine VQ_next ?_
          refine VC_block ?_
          refine VC_rounds ?_
          refine VCL_round ?_
          refine VC_seq ?_
          refine VC_region ?_
          refine VL_pure 1 [4, 10, 12, 14, 15, 65, 66, 67] [(4, .pointer (some ⟨b1, 0, none⟩)), (10, .bool false), (12, .bool true), (14, .slice (some ⟨sb2, 0, none⟩) 1 1), (15, .bool false), (65, .int .i64 1), (66, .int .i64 0), (67, .bool true)] (by kernel_rfl) rfl ?_
          refine VL_end (by kernel_rfl) ?_
          refine VQ_next ?_
          refine VC_seq ?_
          refine VC_true (by kernel_rfl) ?_
          refine VC_skip ?_
          refine VQ_next ?_
          refine VC_seq ?_
          refine VC_block ?_
          refine VC_seq ?_
          refine VC_region ?_
          refine VL_pure 2 [4, 10, 12, 14, 15, 65, 66, 16] [(4, .pointer (some ⟨b1, 0, none⟩)), (10, .bool false), (12, .bool true), (14, .slice (some ⟨sb2, 0, none⟩) 1 1), (15, .bool false), (65, .int .i64 1), (66, .int .i64 0), (16, .int .i64 0)] (by kernel_rfl) rfl ?_
          refine VL_end (by kernel_rfl) ?_
          refine VQ_next ?_
          refine VC_seq ?_
          refine VC_region ?_
          refine VL_pure 4 [4, 10, 12, 14, 65, 66, 16, 70, 71, 72] [(4, .pointer (some ⟨b1, 0, none⟩)), (10, .bool false), (12, .bool true), (14, .slice (some ⟨sb2, 0, none⟩) 1 1), (65, .int .i64 1), (66, .int .i64 0), (16, .int .i64 0), (70, .bool false), (71, .slice (some ⟨sb2, 0, none⟩) 1 1), (72, .int .i64 0)] (by kernel_rfl) rfl ?_
          refine VL_index (d := 73) (b := sb2) (o := 0) (len := 1) (sz := 36) (m := 0) (by kernel_rfl) (by kernel_rfl) 0 (by rfl) (by omega) 0 (by omega) ?_
          refine VL_pure 6 [4, 10, 12, 14, 65, 66, 16, 70, 74] [(4, .pointer (some ⟨b1, 0, none⟩)), (10, .bool false), (12, .bool true), (14, .slice (some ⟨sb2, 0, none⟩) 1 1), (65, .int .i64 1), (66, .int .i64 0), (16, .int .i64 0), (70, .bool false), (74, .pointer (some ⟨sb2, 0, none⟩))] (by kernel_rfl) rfl ?_
          refine VL_load (d := 75) (t := 3) (a := ⟨sb2, 0, none⟩) (v := .int .i64 1) (by kernel_rfl) (by kernel_rfl) (Loads.own1 hc7 (by kernel_rfl) (by rfl)) ?_
          refine VL_pure 10 [4, 10, 12, 14, 65, 66, 16, 15] [(4, .pointer (some ⟨b1, 0, none⟩)), (10, .bool false), (12, .bool true), (14, .slice (some ⟨sb2, 0, none⟩) 1 1), (65, .int .i64 1), (66, .int .i64 0), (16, .int .i64 0), (15, .bool false)] (by kernel_rfl) rfl ?_
          refine VL_end (by kernel_rfl) ?_
          refine VQ_next ?_
          refine VC_seq ?_
          refine VC_det [[], [], [0, 1], [0, 1, 2], [0, 1, 2, 3], [0, 1, 2, 3, 4], [0, 1, 2, 3, 4, 5], [0, 1, 2, 3, 4, 5, 6], [0, 1, 2, 3, 4, 5, 6], [0, 1, 2, 3, 4, 5, 6, 7, 8], [0, 1, 2, 3, 4, 5, 6, 7, 8, 9], [0, 1, 2, 3, 4, 5, 6, 7, 8, 9, 10], [0, 1, 2, 3, 4, 5, 6, 7, 8, 9, 10, 11], [0, 1, 2, 3, 4, 5, 6, 7, 8, 9, 10, 11, 12], [0, 1, 2, 3, 4, 5, 6, 7, 8, 9, 10, 11, 12, 13], [0, 1, 2, 3, 4, 5, 6, 7, 8, 9, 10, 11, 12, 13], [0, 1, 2, 3, 4, 5, 6, 7, 8, 9, 10, 11, 12, 13, 14, 15], [0, 1, 2, 3, 4, 5, 6, 7, 8, 9, 10, 11, 12, 13, 14, 15, 16], [0, 1, 2, 3, 4, 5, 6, 7, 8, 9, 10, 11, 12, 13, 14, 15, 16, 17], [0, 1, 2, 3, 4, 5, 6, 7, 8, 9, 10, 11, 12, 13], [0, 1, 2, 3, 4, 5, 6, 7, 8, 9, 10, 11, 12, 13, 14, 15, 16, 17, 18, 19], [0, 1, 2, 3, 4, 5, 6, 7, 8, 9, 10, 11, 12, 13, 14, 15, 16, 17, 18, 19, 20], [0, 1, 2, 3, 4, 5, 6, 7, 8, 9, 10, 11, 12, 13, 14, 15, 16, 17, 18, 19, 20, 21]] 20 [.slice (some ⟨sb2, 0, none⟩) 1 1, .int .i64 0, .pointer (some ⟨sb2, 0, none⟩), .agg #[.int .i64 1, .int .u8 0, .bool false, .int .u32 0, .int .u8 (((walkA here wait q n).here) 0), .int .u8 (((walkA here wait q n).here) 1), .int .u8 (((walkA here wait q n).here) 2), .int .u8 (((walkA here wait q n).here) 3), .int .u8 (((walkA here wait q n).here) 4), .int .u8 (((walkA here wait q n).here) 5), .int .u8 (((walkA here wait q n).here) 6), .int .u8 (((walkA here wait q n).here) 7), .int .u8 (((walkA here wait q n).here) 8), .int .u8 (((walkA here wait q n).here) 9), .int .u8 (((walkA here wait q n).here) 10), .int .u8 (((walkA here wait q n).here) 11), .int .u8 (((walkA here wait q n).here) 12), .int .u8 (((walkA here wait q n).here) 13), .int .u8 (((walkA here wait q n).here) 14), .int .u8 (((walkA here wait q n).here) 15), .int .u8 0, .int .u8 0, .int .u8 0, .int .u8 0, .int .u8 0, .int .u8 0, .int .u8 0, .int .u8 0, .int .u8 0, .int .u8 0, .int .u8 0, .int .u8 0, .int .u8 0, .int .u8 0, .int .u8 0, .int .u8 0], .bool true, .bool false, .bool false, .slice (some ⟨sb2, 0, none⟩) 1 1, .int .i64 0, .pointer (some ⟨sb2, 0, none⟩), .pointer (some ⟨sb2, 0, none⟩), .int .i64 1, .bool true, .bool true, .slice (some ⟨sb2, 0, none⟩) 1 1, .int .i64 0, .pointer (some ⟨sb2, 0, none⟩), .pointer (some ⟨sb2, 4, none⟩), .agg #[.int .u8 (((walkA here wait q n).here) 0), .int .u8 (((walkA here wait q n).here) 1), .int .u8 (((walkA here wait q n).here) 2), .int .u8 (((walkA here wait q n).here) 3), .int .u8 (((walkA here wait q n).here) 4), .int .u8 (((walkA here wait q n).here) 5), .int .u8 (((walkA here wait q n).here) 6), .int .u8 (((walkA here wait q n).here) 7), .int .u8 (((walkA here wait q n).here) 8), .int .u8 (((walkA here wait q n).here) 9), .int .u8 (((walkA here wait q n).here) 10), .int .u8 (((walkA here wait q n).here) 11), .int .u8 (((walkA here wait q n).here) 12), .int .u8 (((walkA here wait q n).here) 13), .int .u8 (((walkA here wait q n).here) 14), .int .u8 (((walkA here wait q n).here) 15)], .agg #[.int .u8 (here 0), .int .u8 (here 1), .int .u8 (here 2), .int .u8 (here 3), .int .u8 (here 4), .int .u8 (here 5), .int .u8 (here 6), .int .u8 (here 7), .int .u8 (here 8), .int .u8 (here 9), .int .u8 (here 10), .int .u8 (here 11), .int .u8 (here 12), .int .u8 (here 13), .int .u8 (here 14), .int .u8 (here 15)]] [0, 1, 5, 6, 7, 8, 10, 12, 13, 14, 15, 17] [2, 3, 4, 9, 11, 16, 18, 19] (by kernel_rfl) (by kernel_rfl) (by kernel_rfl) (by kernel_rfl) ?_ ?_
          · intro w10 hs3
            replace hS := Step.trans hS hs3
            replace ht := ht.no hs3
            replace hob := hob.no hs3
            replace hc7 := hc7.no hs3
            exact ⟨Det1_index (d := 80) (b := sb2) (o := 0) (len := 1) (sz := 36) (m := 0) (by kernel_rfl) (by kernel_rfl) 0 (by rfl) (by omega) 0 (by omega), Det1_load (d := 81) (t := 34) (a := ⟨sb2, 0, none⟩) (by kernel_rfl) (by kernel_rfl) (Loads.ownL hc7 (n := 36) (by kernel_rfl) (by kernel_rfl) (by kernel_rfl)), Det1_call (d := 82) (f := 22) (args := #[.agg #[.int .i64 1, .int .u8 0, .bool false, .int .u32 0, .int .u8 (((walkA here wait q n).here) 0), .int .u8 (((walkA here wait q n).here) 1), .int .u8 (((walkA here wait q n).here) 2), .int .u8 (((walkA here wait q n).here) 3), .int .u8 (((walkA here wait q n).here) 4), .int .u8 (((walkA here wait q n).here) 5), .int .u8 (((walkA here wait q n).here) 6), .int .u8 (((walkA here wait q n).here) 7), .int .u8 (((walkA here wait q n).here) 8), .int .u8 (((walkA here wait q n).here) 9), .int .u8 (((walkA here wait q n).here) 10), .int .u8 (((walkA here wait q n).here) 11), .int .u8 (((walkA here wait q n).here) 12), .int .u8 (((walkA here wait q n).here) 13), .int .u8 (((walkA here wait q n).here) 14), .int .u8 (((walkA here wait q n).here) 15), .int .u8 0, .int .u8 0, .int .u8 0, .int .u8 0, .int .u8 0, .int .u8 0, .int .u8 0, .int .u8 0, .int .u8 0, .int .u8 0, .int .u8 0, .int .u8 0, .int .u8 0, .int .u8 0, .int .u8 0, .int .u8 0]]) (by kernel_rfl) (by kernel_rfl) (by kernel_rfl) Try.call22 (by exact right_known (⟨1, 0, false, 0, ((walkA here wait q n).here), zp⟩ : Om) _ (right_place 1 (.inr rfl) _)), Det1_index (d := 87) (b := sb2) (o := 0) (len := 1) (sz := 36) (m := 0) (by kernel_rfl) (by kernel_rfl) 0 (by rfl) (by omega) 0 (by omega), Det1_load (d := 89) (t := 3) (a := ⟨sb2, 0, none⟩) (by kernel_rfl) (by kernel_rfl) (Loads.own1 hc7 (by kernel_rfl) (by rfl)), Det1_index (d := 94) (b := sb2) (o := 0) (len := 1) (sz := 36) (m := 0) (by kernel_rfl) (by kernel_rfl) 0 (by rfl) (by omega) 0 (by omega), Det1_load (d := 96) (t := 22) (a := ⟨sb2, 4, none⟩) (by kernel_rfl) (by kernel_rfl) (Loads.ownL hc7 (n := 16) (by kernel_rfl) (by kernel_rfl) (by kernel_rfl)), Det1_load (d := 97) (t := 22) (a := ⟨b1, 0, none⟩) (by kernel_rfl) (by kernel_rfl) (Loads.ownL hob (n := 16) (by kernel_rfl) (by kernel_rfl) (by kernel_rfl)), trivial⟩
          intro w10 hs3
          replace hS := Step.trans hS hs3
          replace ht := ht.no hs3
          replace hob := hob.no hs3
          replace hc7 := hc7.no hs3
          refine VL_keep [4, 10, 12, 14, 65, 66, 15, 84, 91, 96, 97] [(4, .pointer (some ⟨b1, 0, none⟩)), (10, .bool false), (12, .bool true), (14, .slice (some ⟨sb2, 0, none⟩) 1 1), (65, .int .i64 1), (66, .int .i64 0), (15, .bool false), (84, .bool false), (91, .bool true), (96, .agg #[.int .u8 (((walkA here wait q n).here) 0), .int .u8 (((walkA here wait q n).here) 1), .int .u8 (((walkA here wait q n).here) 2), .int .u8 (((walkA here wait q n).here) 3), .int .u8 (((walkA here wait q n).here) 4), .int .u8 (((walkA here wait q n).here) 5), .int .u8 (((walkA here wait q n).here) 6), .int .u8 (((walkA here wait q n).here) 7), .int .u8 (((walkA here wait q n).here) 8), .int .u8 (((walkA here wait q n).here) 9), .int .u8 (((walkA here wait q n).here) 10), .int .u8 (((walkA here wait q n).here) 11), .int .u8 (((walkA here wait q n).here) 12), .int .u8 (((walkA here wait q n).here) 13), .int .u8 (((walkA here wait q n).here) 14), .int .u8 (((walkA here wait q n).here) 15)]), (97, .agg #[.int .u8 (here 0), .int .u8 (here 1), .int .u8 (here 2), .int .u8 (here 3), .int .u8 (here 4), .int .u8 (here 5), .int .u8 (here 6), .int .u8 (here 7), .int .u8 (here 8), .int .u8 (here 9), .int .u8 (here 10), .int .u8 (here 11), .int .u8 (here 12), .int .u8 (here 13), .int .u8 (here 14), .int .u8 (here 15)])] (by kernel_rfl) ?_
          refine VL_agEq (d := 98) (dd := 9) (ls := (rep 16 [.int .u8])) (pos := false) (t := 22) (xs := #[.int .u8 (((walkA here wait q n).here) 0), .int .u8 (((walkA here wait q n).here) 1), .int .u8 (((walkA here wait q n).here) 2), .int .u8 (((walkA here wait q n).here) 3), .int .u8 (((walkA here wait q n).here) 4), .int .u8 (((walkA here wait q n).here) 5), .int .u8 (((walkA here wait q n).here) 6), .int .u8 (((walkA here wait q n).here) 7), .int .u8 (((walkA here wait q n).here) 8), .int .u8 (((walkA here wait q n).here) 9), .int .u8 (((walkA here wait q n).here) 10), .int .u8 (((walkA here wait q n).here) 11), .int .u8 (((walkA here wait q n).here) 12), .int .u8 (((walkA here wait q n).here) 13), .int .u8 (((walkA here wait q n).here) 14), .int .u8 (((walkA here wait q n).here) 15)]) (ys := #[.int .u8 (here 0), .int .u8 (here 1), .int .u8 (here 2), .int .u8 (here 3), .int .u8 (here 4), .int .u8 (here 5), .int .u8 (here 6), .int .u8 (here 7), .int .u8 (here 8), .int .u8 (here 9), .int .u8 (here 10), .int .u8 (here 11), .int .u8 (here 12), .int .u8 (here 13), .int .u8 (here 14), .int .u8 (here 15)]) (by kernel_rfl) (by kernel_rfl) (by kernel_rfl) (by kernel_rfl) (by first | exact ⟨⟨_, rfl⟩, ⟨_, rfl⟩, ⟨_, rfl⟩, ⟨_, rfl⟩, ⟨_, rfl⟩, ⟨_, rfl⟩, ⟨_, rfl⟩, ⟨_, rfl⟩, ⟨_, rfl⟩, ⟨_, rfl⟩, ⟨_, rfl⟩, ⟨_, rfl⟩, ⟨_, rfl⟩, ⟨_, rfl⟩, ⟨_, rfl⟩, ⟨_, rfl⟩, trivial⟩ | trivial) (by first | exact ⟨⟨_, rfl⟩, ⟨_, rfl⟩, ⟨_, rfl⟩, ⟨_, rfl⟩, ⟨_, rfl⟩, ⟨_, rfl⟩, ⟨_, rfl⟩, ⟨_, rfl⟩, ⟨_, rfl⟩, ⟨_, rfl⟩, ⟨_, rfl⟩, ⟨_, rfl⟩, ⟨_, rfl⟩, ⟨_, rfl⟩, ⟨_, rfl⟩, ⟨_, rfl⟩, trivial⟩ | trivial) false (by exact place_ne (walkA_here _ _ _ _)) ?_
          refine VL_pure 23 [4, 10, 12, 14, 65, 66, 15, 100] [(4, .pointer (some ⟨b1, 0, none⟩)), (10, .bool false), (12, .bool true), (14, .slice (some ⟨sb2, 0, none⟩) 1 1), (65, .int .i64 1), (66, .int .i64 0), (15, .bool false), (100, .bool false)] (by kernel_rfl) rfl ?_
          refine VL_end (by kernel_rfl) ?_
          refine VQ_next ?_
          refine VC_false (by kernel_rfl) ?_
          refine VC_skip ?_
          refine VQ_block_normal ?_
          refine VQ_next ?_
          refine VC_region ?_
          refine VL_pure 2 [4, 10, 12, 14, 65, 66, 15] [(4, .pointer (some ⟨b1, 0, none⟩)), (10, .bool false), (12, .bool true), (14, .slice (some ⟨sb2, 0, none⟩) 1 1), (65, .int .i64 1), (66, .int .i64 1), (15, .bool false)] (by kernel_rfl) rfl ?_
          refine VL_end (by kernel_rfl) ?_
          refine VQ_round ?_
          refine VCL_round ?_
          refine VC_seq ?_
          refine VC_region ?_
          refine VL_pure 1 [4, 10, 12, 14, 65, 66, 15, 67] [(4, .pointer (some ⟨b1, 0, none⟩)), (10, .bool false), (12, .bool true), (14, .slice (some ⟨sb2, 0, none⟩) 1 1), (65, .int .i64 1), (66, .int .i64 1), (15, .bool false), (67, .bool false)] (by kernel_rfl) rfl ?_
          refine VL_end (by kernel_rfl) ?_
          refine VQ_next ?_
          refine VC_seq ?_
          refine VC_false (by kernel_rfl) ?_
          refine VC_exit ?_
          refine VQ_then_exit ?_
          refine VQ_then_exit ?_
          refine VQ_block_hit ?_
          refine VQ_next ?_
          refine VC_seq ?_
          refine VC_region ?_
          refine VL_pure 26 [8] [(8, .bool true)] (by kernel_rfl) rfl ?_
          refine VL_end (by kernel_rfl) ?_
          refine VQ_next ?_
          refine VC_ret ?_
          refine VQ_ret1 (.bool true) (.inr rfl) rfl rfl ?_
          exact ⟨rfl, hS⟩
        · refine VL_eq [(4, .pointer (some ⟨b1, 0, none⟩)), (10, .bool false), (12, .bool (aheadA (walkA here wait q n) t)), (61, .pointer (some ⟨ab1, 0, none⟩)), (62, .int .i64 t)] (by rw [show k = n from by omega, ← walkA_dn here wait, hdn]) ?_
          refine VL_eq [(4, .pointer (some ⟨b1, 0, none⟩)), (10, .bool false), (12, .bool false), (61, .pointer (some ⟨ab1, 0, none⟩)), (62, .int .i64 t)] (by rw [hah]) ?_
          have hzs8 := hS.size
          have hzl10 := ht.lt
          have hzl11 := hob.lt
          refine VL_call (d := 63) (f := 19) (by kernel_rfl) (by kernel_rfl) (by kernel_rfl) Try.call19 (sends_any ab1 (walkA here wait q n) _ ht t) ?_
          rintro _ w11 ⟨sb3, rfl, hfsb3, hc9, hc10⟩
          replace hS := Step.trans hS hc10
          replace ht := ht.no hc10
          replace hob := hob.no hc10
          rw [show sendL (walkA here wait q n) t = [chk] from (send_3 hdn hah)] at hc9 ⊢
          have hzsb3 := hc9.lt
          refine VL_pure 4 [4, 10, 12, 14] [(4, .pointer (some ⟨b1, 0, none⟩)), (10, .bool false), (12, .bool false), (14, .slice (some ⟨sb3, 0, none⟩) 1 1)] (by kernel_rfl) rfl ?_
          refine VL_end (by kernel_rfl) ?_
          refine VQ_next ?_
          refine VC_seq ?_
          refine VC_region ?_
          refine VL_pure 1 [4, 10, 12, 14, 15] [(4, .pointer (some ⟨b1, 0, none⟩)), (10, .bool false), (12, .bool false), (14, .slice (some ⟨sb3, 0, none⟩) 1 1), (15, .bool false)] (by kernel_rfl) rfl ?_
          refine VL_end (by kernel_rfl) ?_
          refine VQ_next ?_
          refine VC_seq ?_
          refine VC_seq ?_
          refine VC_region ?_
          refine VL_pure 3 [4, 10, 12, 14, 15, 65, 66] [(4, .pointer (some ⟨b1, 0, none⟩)), (10, .bool false), (12, .bool false), (14, .slice (some ⟨sb3, 0, none⟩) 1 1), (15, .bool false), (65, .int .i64 1), (66, .int .i64 0)] (by kernel_rfl) rfl ?_
          refine VL_end (by kernel_rfl) ?_
          refine VQ_next ?_
          refine VC_block ?_
          refine VC_rounds ?_
          refine VCL_round ?_
          refine VC_seq ?_
          refine VC_region ?_
          refine VL_pure 1 [4, 10, 12, 14, 15, 65, 66, 67] [(4, .pointer (some ⟨b1, 0, none⟩)), (10, .bool false), (12, .bool false), (14, .slice (some ⟨sb3, 0, none⟩) 1 1), (15, .bool false), (65, .int .i64 1), (66, .int .i64 0), (67, .bool true)] (by kernel_rfl) rfl ?_
          refine VL_end (by kernel_rfl) ?_
          refine VQ_next ?_
          refine VC_seq ?_
          refine VC_true (by kernel_rfl) ?_
          refine VC_skip ?_
          refine VQ_next ?_
          refine VC_seq ?_
          refine VC_block ?_
          refine VC_seq ?_
          refine VC_region ?_
          refine VL_pure 2 [4, 10, 12, 14, 15, 65, 66, 16] [(4, .pointer (some ⟨b1, 0, none⟩)), (10, .bool false), (12, .bool false), (14, .slice (some ⟨sb3, 0, none⟩) 1 1), (15, .bool false), (65, .int .i64 1), (66, .int .i64 0), (16, .int .i64 0)] (by kernel_rfl) rfl ?_
          refine VL_end (by kernel_rfl) ?_
          refine VQ_next ?_
          refine VC_seq ?_
          refine VC_region ?_
          refine VL_pure 4 [4, 10, 12, 14, 65, 66, 16, 70, 71, 72] [(4, .pointer (some ⟨b1, 0, none⟩)), (10, .bool false), (12, .bool false), (14, .slice (some ⟨sb3, 0, none⟩) 1 1), (65, .int .i64 1), (66, .int .i64 0), (16, .int .i64 0), (70, .bool false), (71, .slice (some ⟨sb3, 0, none⟩) 1 1), (72, .int .i64 0)] (by kernel_rfl) rfl ?_
          refine VL_index (d := 73) (b := sb3) (o := 0) (len := 1) (sz := 36) (m := 0) (by kernel_rfl) (by kernel_rfl) 0 (by rfl) (by omega) 0 (by omega) ?_
          refine VL_pure 6 [4, 10, 12, 14, 65, 66, 16, 70, 74] [(4, .pointer (some ⟨b1, 0, none⟩)), (10, .bool false), (12, .bool false), (14, .slice (some ⟨sb3, 0, none⟩) 1 1), (65, .int .i64 1), (66, .int .i64 0), (16, .int .i64 0), (70, .bool false), (74, .pointer (some ⟨sb3, 0, none⟩))] (by kernel_rfl) rfl ?_
          refine VL_load (d := 75) (t := 3) (a := ⟨sb3, 0, none⟩) (v := .int .i64 4) (by kernel_rfl) (by kernel_rfl) (Loads.own1 hc9 (by kernel_rfl) (by rfl)) ?_
          refine VL_pure 10 [4, 10, 12, 14, 65, 66, 16, 15] [(4, .pointer (some ⟨b1, 0, none⟩)), (10, .bool false), (12, .bool false), (14, .slice (some ⟨sb3, 0, none⟩) 1 1), (65, .int .i64 1), (66, .int .i64 0), (16, .int .i64 0), (15, .bool true)] (by kernel_rfl) rfl ?_
          refine VL_end (by kernel_rfl) ?_
          refine VQ_next ?_
          refine VC_seq ?_
          refine VC_det [[], [], [0, 1], [0, 1, 2], [0, 1, 2, 3], [0, 1, 2, 3, 4], [0, 1, 2, 3, 4, 5], [0, 1, 2, 3, 4, 5, 6], [0, 1, 2, 3, 4, 5, 6], [0, 1, 2, 3, 4, 5, 6, 7, 8], [0, 1, 2, 3, 4, 5, 6, 7, 8, 9], [0, 1, 2, 3, 4, 5, 6, 7, 8, 9, 10], [0, 1, 2, 3, 4, 5, 6, 7, 8, 9, 10, 11], [0, 1, 2, 3, 4, 5, 6, 7, 8, 9, 10, 11, 12], [0, 1, 2, 3, 4, 5, 6, 7, 8, 9, 10, 11, 12, 13], [0, 1, 2, 3, 4, 5, 6, 7, 8, 9, 10, 11, 12, 13], [0, 1, 2, 3, 4, 5, 6, 7, 8, 9, 10, 11, 12, 13, 14, 15], [0, 1, 2, 3, 4, 5, 6, 7, 8, 9, 10, 11, 12, 13, 14, 15, 16], [0, 1, 2, 3, 4, 5, 6, 7, 8, 9, 10, 11, 12, 13, 14, 15, 16, 17], [0, 1, 2, 3, 4, 5, 6, 7, 8, 9, 10, 11, 12, 13], [0, 1, 2, 3, 4, 5, 6, 7, 8, 9, 10, 11, 12, 13, 14, 15, 16, 17, 18, 19], [0, 1, 2, 3, 4, 5, 6, 7, 8, 9, 10, 11, 12, 13, 14, 15, 16, 17, 18, 19, 20], [0, 1, 2, 3, 4, 5, 6, 7, 8, 9, 10, 11, 12, 13, 14, 15, 16, 17, 18, 19, 20, 21]] 20 [.slice (some ⟨sb3, 0, none⟩) 1 1, .int .i64 0, .pointer (some ⟨sb3, 0, none⟩), .agg #[.int .i64 4, .int .u8 0, .bool false, .int .u32 0, .int .u8 0, .int .u8 0, .int .u8 0, .int .u8 0, .int .u8 0, .int .u8 0, .int .u8 0, .int .u8 0, .int .u8 0, .int .u8 0, .int .u8 0, .int .u8 0, .int .u8 0, .int .u8 0, .int .u8 0, .int .u8 0, .int .u8 0, .int .u8 0, .int .u8 0, .int .u8 0, .int .u8 0, .int .u8 0, .int .u8 0, .int .u8 0, .int .u8 0, .int .u8 0, .int .u8 0, .int .u8 0, .int .u8 0, .int .u8 0, .int .u8 0, .int .u8 0], .bool true, .bool false, .bool false, .slice (some ⟨sb3, 0, none⟩) 1 1, .int .i64 0, .pointer (some ⟨sb3, 0, none⟩), .pointer (some ⟨sb3, 0, none⟩), .int .i64 4, .bool false, .bool false, undef, undef, undef, undef, undef, undef] [0, 1, 5, 6, 7, 8, 10, 12, 13, 14, 15, 16, 17, 18, 19] [2, 3, 4, 9, 11] (by kernel_rfl) (by kernel_rfl) (by kernel_rfl) (by kernel_rfl) ?_ ?_
          · intro w12 hs4
            replace hS := Step.trans hS hs4
            replace ht := ht.no hs4
            replace hob := hob.no hs4
            replace hc9 := hc9.no hs4
            exact ⟨Det1_index (d := 80) (b := sb3) (o := 0) (len := 1) (sz := 36) (m := 0) (by kernel_rfl) (by kernel_rfl) 0 (by rfl) (by omega) 0 (by omega), Det1_load (d := 81) (t := 34) (a := ⟨sb3, 0, none⟩) (by kernel_rfl) (by kernel_rfl) (Loads.ownL hc9 (n := 36) (by kernel_rfl) (by kernel_rfl) (by kernel_rfl)), Det1_call (d := 82) (f := 22) (args := #[.agg #[.int .i64 4, .int .u8 0, .bool false, .int .u32 0, .int .u8 0, .int .u8 0, .int .u8 0, .int .u8 0, .int .u8 0, .int .u8 0, .int .u8 0, .int .u8 0, .int .u8 0, .int .u8 0, .int .u8 0, .int .u8 0, .int .u8 0, .int .u8 0, .int .u8 0, .int .u8 0, .int .u8 0, .int .u8 0, .int .u8 0, .int .u8 0, .int .u8 0, .int .u8 0, .int .u8 0, .int .u8 0, .int .u8 0, .int .u8 0, .int .u8 0, .int .u8 0, .int .u8 0, .int .u8 0, .int .u8 0, .int .u8 0]]) (by kernel_rfl) (by kernel_rfl) (by kernel_rfl) Try.call22 (by exact right_known (⟨4, 0, false, 0, zp, zp⟩ : Om) _ (by kernel_rfl)), Det1_index (d := 87) (b := sb3) (o := 0) (len := 1) (sz := 36) (m := 0) (by kernel_rfl) (by kernel_rfl) 0 (by rfl) (by omega) 0 (by omega), Det1_load (d := 89) (t := 3) (a := ⟨sb3, 0, none⟩) (by kernel_rfl) (by kernel_rfl) (Loads.own1 hc9 (by kernel_rfl) (by rfl)), trivial⟩
          intro w12 hs4
          replace hS := Step.trans hS hs4
          replace ht := ht.no hs4
          replace hob := hob.no hs4
          replace hc9 := hc9.no hs4
          refine VL_keep [4, 10, 12, 14, 65, 66, 15, 84, 91, 96, 97] [(4, .pointer (some ⟨b1, 0, none⟩)), (10, .bool false), (12, .bool false), (14, .slice (some ⟨sb3, 0, none⟩) 1 1), (65, .int .i64 1), (66, .int .i64 0), (15, .bool true), (84, .bool false), (91, .bool false), (96, undef), (97, undef)] (by kernel_rfl) ?_
          refine VL_pure 23 [4, 10, 12, 14, 65, 66, 15, 100] [(4, .pointer (some ⟨b1, 0, none⟩)), (10, .bool false), (12, .bool false), (14, .slice (some ⟨sb3, 0, none⟩) 1 1), (65, .int .i64 1), (66, .int .i64 0), (15, .bool true), (100, .bool false)] (by kernel_rfl) rfl ?_
          refine VL_end (by kernel_rfl) ?_
          refine VQ_next ?_
          refine VC_false (by kernel_rfl) ?_
          refine VC_skip ?_
          refine VQ_block_normal ?_
          refine VQ_next ?_
          refine VC_region ?_
          refine VL_pure 2 [4, 10, 12, 14, 65, 66, 15] [(4, .pointer (some ⟨b1, 0, none⟩)), (10, .bool false), (12, .bool false), (14, .slice (some ⟨sb3, 0, none⟩) 1 1), (65, .int .i64 1), (66, .int .i64 1), (15, .bool true)] (by kernel_rfl) rfl ?_
          refine VL_end (by kernel_rfl) ?_
          refine VQ_round ?_
          refine VCL_round ?_
          refine VC_seq ?_
          refine VC_region ?_
          refine VL_pure 1 [4, 10, 12, 14, 65, 66, 15, 67] [(4, .pointer (some ⟨b1, 0, none⟩)), (10, .bool false), (12, .bool false), (14, .slice (some ⟨sb3, 0, none⟩) 1 1), (65, .int .i64 1), (66, .int .i64 1), (15, .bool true), (67, .bool false)] (by kernel_rfl) rfl ?_
          refine VL_end (by kernel_rfl) ?_
          refine VQ_next ?_
          refine VC_seq ?_
          refine VC_false (by kernel_rfl) ?_
          refine VC_exit ?_
          refine VQ_then_exit ?_
          refine VQ_then_exit ?_
          refine VQ_block_hit ?_
          refine VQ_next ?_
          refine VC_seq ?_
          refine VC_region ?_
          refine VL_pure 26 [8] [(8, .bool true)] (by kernel_rfl) rfl ?_
          refine VL_end (by kernel_rfl) ?_
          refine VQ_next ?_
          refine VC_ret ?_
          refine VQ_ret1 (.bool true) (.inr rfl) rfl rfl ?_
          exact ⟨rfl, hS⟩

end Go.Proofs.Ytkimbomnbaogjaa
