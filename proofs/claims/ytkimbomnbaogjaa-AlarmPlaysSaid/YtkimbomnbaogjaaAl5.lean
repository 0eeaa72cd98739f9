/- Layer 21: walked, awake. -/
import Derived.Test.YtkimbomnbaogjaaProg
import Derived.Test.YtkimbomnbaogjaaAl4
set_option linter.unusedVariables false
set_option linter.unusedSimpArgs false
namespace Go.Proofs.Ytkimbomnbaogjaa
open Go.Vc Go.RowKit

set_option maxRecDepth 20000 in
set_option maxHeartbeats 1000000 in
theorem walked_any (here : Nat → Int) (wait : Int) (A : Option Addr) (n cc : Nat) (q : Nat → OpA) (w : World) (hA : OpsAt w A n q) (hn : n ≤ 100) :
    CV Try.prog 21 #[.agg #[.int .u8 (here 0), .int .u8 (here 1), .int .u8 (here 2), .int .u8 (here 3), .int .u8 (here 4), .int .u8 (here 5), .int .u8 (here 6), .int .u8 (here 7), .int .u8 (here 8), .int .u8 (here 9), .int .u8 (here 10), .int .u8 (here 11), .int .u8 (here 12), .int .u8 (here 13), .int .u8 (here 14), .int .u8 (here 15)], .int .i64 wait, .slice A n cc] w (fun x w1 => ∃ b, x = .pointer (some ⟨b, 0, none⟩) ∧ ¬ b < w.heap.size ∧ Own w1 b (alC (walkA here wait q n)) 62 ∧ Step No w w1) := by
  have hS : Step No w w := Step.refl _ _
  obtain ⟨hA0, hA1⟩ := hA
  refine CV_enter Try.f21 _ 58 [(0, .agg #[.int .u8 (here 0), .int .u8 (here 1), .int .u8 (here 2), .int .u8 (here 3), .int .u8 (here 4), .int .u8 (here 5), .int .u8 (here 6), .int .u8 (here 7), .int .u8 (here 8), .int .u8 (here 9), .int .u8 (here 10), .int .u8 (here 11), .int .u8 (here 12), .int .u8 (here 13), .int .u8 (here 14), .int .u8 (here 15)]), (1, .int .i64 wait), (2, .slice A n cc)] Try.func21 rfl rfl (by kernel_rfl) rfl ?_
  refine VC_seq ?_
  refine VC_region ?_
  have hzs1 := hS.size
  refine VL_box (d := 3) (t := 22) (c := #[.int .u8 (here 0), .int .u8 (here 1), .int .u8 (here 2), .int .u8 (here 3), .int .u8 (here 4), .int .u8 (here 5), .int .u8 (here 6), .int .u8 (here 7), .int .u8 (here 8), .int .u8 (here 9), .int .u8 (here 10), .int .u8 (here 11), .int .u8 (here 12), .int .u8 (here 13), .int .u8 (here 14), .int .u8 (here 15)]) (by kernel_rfl) (by kernel_rfl) ?_
  intro b1 w1 hn1
  replace hS := Step.trans hS (hn1.step No)
  have ho1 := hn1.own
  have hzhn1 := hn1.size
  have hqhn1 := hn1.eqb
  refine VL_pure 2 [1, 2, 3] [(1, .int .i64 wait), (2, .slice A n cc), (3, .pointer (some ⟨b1, 0, none⟩))] (by kernel_rfl) rfl ?_
  refine VL_end (by kernel_rfl) ?_
  refine VQ_next ?_
  refine VC_seq ?_
  refine VC_region ?_
  refine VL_load (d := 9) (t := 22) (a := ⟨b1, 0, none⟩) (v := .agg #[.int .u8 (here 0), .int .u8 (here 1), .int .u8 (here 2), .int .u8 (here 3), .int .u8 (here 4), .int .u8 (here 5), .int .u8 (here 6), .int .u8 (here 7), .int .u8 (here 8), .int .u8 (here 9), .int .u8 (here 10), .int .u8 (here 11), .int .u8 (here 12), .int .u8 (here 13), .int .u8 (here 14), .int .u8 (here 15)]) (by kernel_rfl) (by kernel_rfl) (Loads.ownL ho1 (n := 16) (by kernel_rfl) (by kernel_rfl) (by kernel_rfl)) ?_
  refine VL_pure 2 [2, 9, 10] [(2, .slice A n cc), (9, .agg #[.int .u8 (here 0), .int .u8 (here 1), .int .u8 (here 2), .int .u8 (here 3), .int .u8 (here 4), .int .u8 (here 5), .int .u8 (here 6), .int .u8 (here 7), .int .u8 (here 8), .int .u8 (here 9), .int .u8 (here 10), .int .u8 (here 11), .int .u8 (here 12), .int .u8 (here 13), .int .u8 (here 14), .int .u8 (here 15)]), (10, .int .i64 wait)] (by kernel_rfl) rfl ?_
  have hzs2 := hS.size
  have hzl1 := ho1.lt
  refine VL_call (d := 11) (f := 10) (by kernel_rfl) (by kernel_rfl) (by kernel_rfl) Try.call10 (new_any here wait _) ?_
  rintro _ w2 ⟨ab1, rfl, hfab1, ht1, hc1⟩
  replace hS := Step.trans hS hc1
  replace ho1 := ho1.no hc1
  have hzab1 := ht1.lt
  refine VL_pure 4 [2, 7] [(2, .slice A n cc), (7, .pointer (some ⟨ab1, 0, none⟩))] (by kernel_rfl) rfl ?_
  refine VL_end (by kernel_rfl) ?_
  refine VQ_next ?_
  refine VC_seq ?_
  refine VC_seq ?_
  refine VC_region ?_
  refine VL_pure 3 [2, 7, 13, 14] [(2, .slice A n cc), (7, .pointer (some ⟨ab1, 0, none⟩)), (13, .int .i64 ((n : Nat) : Int)), (14, .int .i64 0)] (by kernel_rfl) rfl ?_
  refine VL_end (by kernel_rfl) ?_
  refine VQ_next ?_
  refine VC_block ?_
  refine VC_loop (σ := Nat) (fun σs => [(2, .slice A n cc), (7, .pointer (some ⟨ab1, 0, none⟩)), (13, .int .i64 ((n : Nat) : Int)), (14, .int .i64 ((σs : Nat) : Int))]) (fun σs wr => σs ≤ n ∧ Own wr ab1 (alC (walkA here wait q σs)) 62 ∧ Step No w wr) (fun σs wr => n - σs) 0 ⟨rfl, rfl, rfl, rfl, trivial⟩ ?_ ?_
  · exact ⟨Nat.zero_le _, ht1, hS⟩
  rintro k wr ⟨hk0, ht, hS⟩
  try dsimp only at hk0 ht hS ⊢
  have hzl := ht.lt
  refine VC_seq ?_
  refine VC_region ?_
  refine VL_pure 1 [2, 7, 13, 14, 15] [(2, .slice A n cc), (7, .pointer (some ⟨ab1, 0, none⟩)), (13, .int .i64 ((n : Nat) : Int)), (14, .int .i64 ((k : Nat) : Int)), (15, .bool (decide (((k : Nat) : Int) < ((n : Nat) : Int))))] (by kernel_rfl) rfl ?_
  refine VL_end (by kernel_rfl) ?_
  refine VQ_next ?_
  refine VC_seq ?_
  refine VC_dec (((k : Nat) : Int) < ((n : Nat) : Int)) (by kernel_rfl) (fun h1 => ?_) (fun h1 => ?_)
  · refine VC_skip ?_
    refine VQ_next ?_
    refine VC_seq ?_
    refine VC_block ?_
    refine VC_seq ?_
    refine VC_region ?_
    refine VL_pure 2 [2, 7, 13, 14, 8] [(2, .slice A n cc), (7, .pointer (some ⟨ab1, 0, none⟩)), (13, .int .i64 ((n : Nat) : Int)), (14, .int .i64 ((k : Nat) : Int)), (8, .int .i64 ((k : Nat) : Int))] (by kernel_rfl) rfl ?_
    refine VL_end (by kernel_rfl) ?_
    refine VQ_next ?_
    refine VC_seq ?_
    have hk : k < n := by omega
    obtain ⟨lb, lo, rfl, hL⟩ := hA1 (by omega)
    refine VC_region ?_
    refine VL_pure 2 [2, 7, 13, 14, 8, 17, 18] [(2, .slice (some ⟨lb, lo, none⟩) n cc), (7, .pointer (some ⟨ab1, 0, none⟩)), (13, .int .i64 ((n : Nat) : Int)), (14, .int .i64 ((k : Nat) : Int)), (8, .int .i64 ((k : Nat) : Int)), (17, .slice (some ⟨lb, lo, none⟩) n cc), (18, .int .i64 ((k : Nat) : Int))] (by kernel_rfl) rfl ?_
    refine VL_index (d := 19) (b := lb) (o := lo) (len := n) (sz := 38) (m := ((k : Nat) : Int)) (by kernel_rfl) (by kernel_rfl) k (by rfl) (by omega) (lo + k * 38) (by omega) ?_
    refine VL_pure 4 [2, 7, 13, 14, 8, 20] [(2, .slice (some ⟨lb, lo, none⟩) n cc), (7, .pointer (some ⟨ab1, 0, none⟩)), (13, .int .i64 ((n : Nat) : Int)), (14, .int .i64 ((k : Nat) : Int)), (8, .int .i64 ((k : Nat) : Int)), (20, .pointer (some ⟨lb, lo + k * 38, none⟩))] (by kernel_rfl) rfl ?_
    refine VL_load (d := 21) (t := 3) (a := ⟨lb, lo + k * 38, none⟩) (v := .int .i64 ((q k).do_)) (by kernel_rfl) (by kernel_rfl) (hL.do_ hS (by kernel_rfl) k hk) ?_
    refine VL_end (by kernel_rfl) ?_
    refine VQ_next ?_
    refine VC_block ?_
    refine VC_seq ?_
    refine VC_region ?_
    refine VL_pure 2 [2, 7, 13, 14, 8, 21, 22] [(2, .slice (some ⟨lb, lo, none⟩) n cc), (7, .pointer (some ⟨ab1, 0, none⟩)), (13, .int .i64 ((n : Nat) : Int)), (14, .int .i64 ((k : Nat) : Int)), (8, .int .i64 ((k : Nat) : Int)), (21, .int .i64 ((q k).do_)), (22, .bool (((q k).do_) == 1))] (by kernel_rfl) rfl ?_
    refine VL_end (by kernel_rfl) ?_
    refine VQ_next ?_
    refine VC_eq ((q k).do_) 1 (by kernel_rfl) (fun h2 => ?_) (fun h2 => ?_)
    · refine VC_det [[], [], [], [1, 2], [1, 2, 3], [1, 2, 3, 4], [], [], [6, 7], [6, 7, 8], [6, 7, 8, 9], [0, 1, 2, 3, 4, 5, 6, 7, 8, 9, 10]] 11 [.pointer (some ⟨ab1, 0, none⟩), .slice (some ⟨lb, lo, none⟩) n cc, .int .i64 ((k : Nat) : Int), .pointer (some ⟨lb, lo + k * 38, none⟩), .pointer (some ⟨lb, lo + k * 38 + 1, none⟩), .int .i64 ((q k).t), .slice (some ⟨lb, lo, none⟩) n cc, .int .i64 ((k : Nat) : Int), .pointer (some ⟨lb, lo + k * 38, none⟩), .pointer (some ⟨lb, lo + k * 38 + 2, none⟩), .agg #[.int .i64 (((q k).o).k), .int .u8 (((q k).o).d), .bool (((q k).o).a), .int .u32 (((q k).o).tg), .int .u8 ((((q k).o).p) 0), .int .u8 ((((q k).o).p) 1), .int .u8 ((((q k).o).p) 2), .int .u8 ((((q k).o).p) 3), .int .u8 ((((q k).o).p) 4), .int .u8 ((((q k).o).p) 5), .int .u8 ((((q k).o).p) 6), .int .u8 ((((q k).o).p) 7), .int .u8 ((((q k).o).p) 8), .int .u8 ((((q k).o).p) 9), .int .u8 ((((q k).o).p) 10), .int .u8 ((((q k).o).p) 11), .int .u8 ((((q k).o).p) 12), .int .u8 ((((q k).o).p) 13), .int .u8 ((((q k).o).p) 14), .int .u8 ((((q k).o).p) 15), .int .u8 ((((q k).o).s) 0), .int .u8 ((((q k).o).s) 1), .int .u8 ((((q k).o).s) 2), .int .u8 ((((q k).o).s) 3), .int .u8 ((((q k).o).s) 4), .int .u8 ((((q k).o).s) 5), .int .u8 ((((q k).o).s) 6), .int .u8 ((((q k).o).s) 7), .int .u8 ((((q k).o).s) 8), .int .u8 ((((q k).o).s) 9), .int .u8 ((((q k).o).s) 10), .int .u8 ((((q k).o).s) 11), .int .u8 ((((q k).o).s) 12), .int .u8 ((((q k).o).s) 13), .int .u8 ((((q k).o).s) 14), .int .u8 ((((q k).o).s) 15)]] [0, 1, 2, 4, 6, 7, 9] [3, 5, 8, 10] (by kernel_rfl) (by kernel_rfl) (by kernel_rfl) (by kernel_rfl) ?_ ?_
      · intro w3 hs1
        replace hS := Step.trans hS hs1
        replace ht := ht.no hs1
        exact ⟨Det1_index (d := 27) (b := lb) (o := lo) (len := n) (sz := 38) (m := ((k : Nat) : Int)) (by kernel_rfl) (by kernel_rfl) k (by rfl) (by omega) (lo + k * 38) (by omega), Det1_load (d := 29) (t := 3) (a := ⟨lb, lo + k * 38 + 1, none⟩) (by kernel_rfl) (by kernel_rfl) (hL.t hS (by kernel_rfl) k hk), Det1_index (d := 32) (b := lb) (o := lo) (len := n) (sz := 38) (m := ((k : Nat) : Int)) (by kernel_rfl) (by kernel_rfl) k (by rfl) (by omega) (lo + k * 38) (by omega), Det1_load (d := 34) (t := 31) (a := ⟨lb, lo + k * 38 + 2, none⟩) (by kernel_rfl) (by kernel_rfl) (hL.o hS (by kernel_rfl) k hk), trivial⟩
      intro w3 hs1
      replace hS := Step.trans hS hs1
      replace ht := ht.no hs1
      refine VL_keep [2, 7, 13, 14, 24, 29, 34] [(2, .slice (some ⟨lb, lo, none⟩) n cc), (7, .pointer (some ⟨ab1, 0, none⟩)), (13, .int .i64 ((n : Nat) : Int)), (14, .int .i64 ((k : Nat) : Int)), (24, .pointer (some ⟨ab1, 0, none⟩)), (29, .int .i64 ((q k).t)), (34, .agg #[.int .i64 (((q k).o).k), .int .u8 (((q k).o).d), .bool (((q k).o).a), .int .u32 (((q k).o).tg), .int .u8 ((((q k).o).p) 0), .int .u8 ((((q k).o).p) 1), .int .u8 ((((q k).o).p) 2), .int .u8 ((((q k).o).p) 3), .int .u8 ((((q k).o).p) 4), .int .u8 ((((q k).o).p) 5), .int .u8 ((((q k).o).p) 6), .int .u8 ((((q k).o).p) 7), .int .u8 ((((q k).o).p) 8), .int .u8 ((((q k).o).p) 9), .int .u8 ((((q k).o).p) 10), .int .u8 ((((q k).o).p) 11), .int .u8 ((((q k).o).p) 12), .int .u8 ((((q k).o).p) 13), .int .u8 ((((q k).o).p) 14), .int .u8 ((((q k).o).p) 15), .int .u8 ((((q k).o).s) 0), .int .u8 ((((q k).o).s) 1), .int .u8 ((((q k).o).s) 2), .int .u8 ((((q k).o).s) 3), .int .u8 ((((q k).o).s) 4), .int .u8 ((((q k).o).s) 5), .int .u8 ((((q k).o).s) 6), .int .u8 ((((q k).o).s) 7), .int .u8 ((((q k).o).s) 8), .int .u8 ((((q k).o).s) 9), .int .u8 ((((q k).o).s) 10), .int .u8 ((((q k).o).s) 11), .int .u8 ((((q k).o).s) 12), .int .u8 ((((q k).o).s) 13), .int .u8 ((((q k).o).s) 14), .int .u8 ((((q k).o).s) 15)])] (by kernel_rfl) ?_
      have hzs3 := hS.size
      have hzl2 := ht.lt
      refine VL_call (d := 35) (f := 12) (by kernel_rfl) (by kernel_rfl) (by kernel_rfl) Try.call12 (got_any ab1 (walkA here wait q k) _ ht ((q k).t) ((q k).o) (walkA_waits _ _ _ _) (hA0 k)) ?_
      rintro _ w4 ⟨rfl, ht2, hc2⟩
      replace hS := Step.transNew hS hc2 (fun _ _ _ => by omega)
      have hzht2 := ht2.lt
      refine VL_end (by kernel_rfl) ?_
      refine VQ_block_normal ?_
      refine VQ_block_normal ?_
      refine VQ_next ?_
      refine VC_region ?_
      refine VL_pure 1 [2, 7, 13, 56] [(2, .slice (some ⟨lb, lo, none⟩) n cc), (7, .pointer (some ⟨ab1, 0, none⟩)), (13, .int .i64 ((n : Nat) : Int)), (56, .int .i64 (IntKind.wrap .i64 (((k : Nat) : Int) + 1)))] (by kernel_rfl) rfl ?_
      refine VL_eq [(2, .slice (some ⟨lb, lo, none⟩) n cc), (7, .pointer (some ⟨ab1, 0, none⟩)), (13, .int .i64 ((n : Nat) : Int)), (56, .int .i64 ((k + 1 : Nat) : Int))] (by rw [wrap_i64 _ (by omega) (by omega)]; rfl) ?_
      refine VL_pure 2 [2, 7, 13, 14] [(2, .slice (some ⟨lb, lo, none⟩) n cc), (7, .pointer (some ⟨ab1, 0, none⟩)), (13, .int .i64 ((n : Nat) : Int)), (14, .int .i64 ((k + 1 : Nat) : Int))] (by kernel_rfl) rfl ?_
      refine VL_end (by kernel_rfl) ?_
      refine VQ_again (k + 1) ⟨rfl, rfl, rfl, rfl, trivial⟩ ?_ ?_
      · exact ⟨by omega, Own.cast ht2 (step_1 (by omega)), hS⟩
      · (try dsimp only); omega
    · refine VC_seq ?_
      refine VC_region ?_
      refine VL_pure 2 [2, 7, 13, 14, 8, 21, 36] [(2, .slice (some ⟨lb, lo, none⟩) n cc), (7, .pointer (some ⟨ab1, 0, none⟩)), (13, .int .i64 ((n : Nat) : Int)), (14, .int .i64 ((k : Nat) : Int)), (8, .int .i64 ((k : Nat) : Int)), (21, .int .i64 ((q k).do_)), (36, .bool (((q k).do_) == 2))] (by kernel_rfl) rfl ?_
      refine VL_end (by kernel_rfl) ?_
      refine VQ_next ?_
      refine VC_eq ((q k).do_) 2 (by kernel_rfl) (fun h3 => ?_) (fun h3 => ?_)
      · refine VC_region ?_
        refine VL_pure 3 [2, 7, 13, 14, 38, 39, 40] [(2, .slice (some ⟨lb, lo, none⟩) n cc), (7, .pointer (some ⟨ab1, 0, none⟩)), (13, .int .i64 ((n : Nat) : Int)), (14, .int .i64 ((k : Nat) : Int)), (38, .pointer (some ⟨ab1, 0, none⟩)), (39, .slice (some ⟨lb, lo, none⟩) n cc), (40, .int .i64 ((k : Nat) : Int))] (by kernel_rfl) rfl ?_
        refine VL_index (d := 41) (b := lb) (o := lo) (len := n) (sz := 38) (m := ((k : Nat) : Int)) (by kernel_rfl) (by kernel_rfl) k (by rfl) (by omega) (lo + k * 38) (by omega) ?_
        refine VL_pure 5 [2, 7, 13, 14, 38, 42] [(2, .slice (some ⟨lb, lo, none⟩) n cc), (7, .pointer (some ⟨ab1, 0, none⟩)), (13, .int .i64 ((n : Nat) : Int)), (14, .int .i64 ((k : Nat) : Int)), (38, .pointer (some ⟨ab1, 0, none⟩)), (42, .pointer (some ⟨lb, lo + k * 38 + 1, none⟩))] (by kernel_rfl) rfl ?_
        refine VL_load (d := 43) (t := 3) (a := ⟨lb, lo + k * 38 + 1, none⟩) (v := .int .i64 ((q k).t)) (by kernel_rfl) (by kernel_rfl) (hL.t hS (by kernel_rfl) k hk) ?_
        have hzs4 := hS.size
        have hzl3 := ht.lt
        refine VL_call (d := 44) (f := 14) (by kernel_rfl) (by kernel_rfl) (by kernel_rfl) Try.call14 (user_any ab1 (walkA here wait q k) _ ht ((q k).t)) ?_
        rintro _ w5 ⟨rfl, ht3, hc3⟩
        replace hS := Step.transNew hS hc3 (fun _ _ _ => by omega)
        have hzht3 := ht3.lt
        refine VL_end (by kernel_rfl) ?_
        refine VQ_block_normal ?_
        refine VQ_block_normal ?_
        refine VQ_next ?_
        refine VC_region ?_
        refine VL_pure 1 [2, 7, 13, 56] [(2, .slice (some ⟨lb, lo, none⟩) n cc), (7, .pointer (some ⟨ab1, 0, none⟩)), (13, .int .i64 ((n : Nat) : Int)), (56, .int .i64 (IntKind.wrap .i64 (((k : Nat) : Int) + 1)))] (by kernel_rfl) rfl ?_
        refine VL_eq [(2, .slice (some ⟨lb, lo, none⟩) n cc), (7, .pointer (some ⟨ab1, 0, none⟩)), (13, .int .i64 ((n : Nat) : Int)), (56, .int .i64 ((k + 1 : Nat) : Int))] (by rw [wrap_i64 _ (by omega) (by omega)]; rfl) ?_
        refine VL_pure 2 [2, 7, 13, 14] [(2, .slice (some ⟨lb, lo, none⟩) n cc), (7, .pointer (some ⟨ab1, 0, none⟩)), (13, .int .i64 ((n : Nat) : Int)), (14, .int .i64 ((k + 1 : Nat) : Int))] (by kernel_rfl) rfl ?_
        refine VL_end (by kernel_rfl) ?_
        refine VQ_again (k + 1) ⟨rfl, rfl, rfl, rfl, trivial⟩ ?_ ?_
        · exact ⟨by omega, Own.cast ht3 (step_2 (by omega) (by omega)), hS⟩
        · (try dsimp only); omega
      · refine VC_seq ?_
        refine VC_seq ?_
        refine VC_region ?_
        refine VL_pure 2 [2, 7, 13, 14, 8, 21, 45] [(2, .slice (some ⟨lb, lo, none⟩) n cc), (7, .pointer (some ⟨ab1, 0, none⟩)), (13, .int .i64 ((n : Nat) : Int)), (14, .int .i64 ((k : Nat) : Int)), (8, .int .i64 ((k : Nat) : Int)), (21, .int .i64 ((q k).do_)), (45, .bool (((q k).do_) == 3))] (by kernel_rfl) rfl ?_
        refine VL_end (by kernel_rfl) ?_
        refine VQ_next ?_
        refine VC_eq ((q k).do_) 3 (by kernel_rfl) (fun h4 => ?_) (fun h4 => ?_)
        · refine VC_skip ?_
          refine VQ_next ?_
          refine VC_eq ((q k).do_) 3 (by kernel_rfl) (fun h5 => ?_) (fun h5 => ?_)
          · refine VC_region ?_
            refine VL_pure 3 [2, 7, 13, 14, 48, 49, 50] [(2, .slice (some ⟨lb, lo, none⟩) n cc), (7, .pointer (some ⟨ab1, 0, none⟩)), (13, .int .i64 ((n : Nat) : Int)), (14, .int .i64 ((k : Nat) : Int)), (48, .pointer (some ⟨ab1, 0, none⟩)), (49, .slice (some ⟨lb, lo, none⟩) n cc), (50, .int .i64 ((k : Nat) : Int))] (by kernel_rfl) rfl ?_
            refine VL_index (d := 51) (b := lb) (o := lo) (len := n) (sz := 38) (m := ((k : Nat) : Int)) (by kernel_rfl) (by kernel_rfl) k (by rfl) (by omega) (lo + k * 38) (by omega) ?_
            refine VL_pure 5 [2, 7, 13, 14, 48, 52] [(2, .slice (some ⟨lb, lo, none⟩) n cc), (7, .pointer (some ⟨ab1, 0, none⟩)), (13, .int .i64 ((n : Nat) : Int)), (14, .int .i64 ((k : Nat) : Int)), (48, .pointer (some ⟨ab1, 0, none⟩)), (52, .pointer (some ⟨lb, lo + k * 38, none⟩))] (by kernel_rfl) rfl ?_
            refine VL_load (d := 53) (t := 3) (a := ⟨lb, lo + k * 38, none⟩) (v := .int .i64 ((q k).do_)) (by kernel_rfl) (by kernel_rfl) (hL.do_ hS (by kernel_rfl) k hk) ?_
            refine VL_pure 7 [2, 7, 13, 14, 48, 54] [(2, .slice (some ⟨lb, lo, none⟩) n cc), (7, .pointer (some ⟨ab1, 0, none⟩)), (13, .int .i64 ((n : Nat) : Int)), (14, .int .i64 ((k : Nat) : Int)), (48, .pointer (some ⟨ab1, 0, none⟩)), (54, .bool (((q k).do_) == 3))] (by kernel_rfl) rfl ?_
            have hzs5 := hS.size
            have hzl4 := ht.lt
            refine VL_call (d := 55) (f := 15) (by kernel_rfl) (by kernel_rfl) (by kernel_rfl) Try.call15 (down_any ab1 (walkA here wait q k) _ ht (((q k).do_) == 3)) ?_
            rintro _ w6 ⟨rfl, ht4, hc4⟩
            replace hS := Step.transNew hS hc4 (fun _ _ _ => by omega)
            have hzht4 := ht4.lt
            refine VL_end (by kernel_rfl) ?_
            refine VQ_block_normal ?_
            refine VQ_block_normal ?_
            refine VQ_next ?_
            refine VC_region ?_
            refine VL_pure 1 [2, 7, 13, 56] [(2, .slice (some ⟨lb, lo, none⟩) n cc), (7, .pointer (some ⟨ab1, 0, none⟩)), (13, .int .i64 ((n : Nat) : Int)), (56, .int .i64 (IntKind.wrap .i64 (((k : Nat) : Int) + 1)))] (by kernel_rfl) rfl ?_
            refine VL_eq [(2, .slice (some ⟨lb, lo, none⟩) n cc), (7, .pointer (some ⟨ab1, 0, none⟩)), (13, .int .i64 ((n : Nat) : Int)), (56, .int .i64 ((k + 1 : Nat) : Int))] (by rw [wrap_i64 _ (by omega) (by omega)]; rfl) ?_
            refine VL_pure 2 [2, 7, 13, 14] [(2, .slice (some ⟨lb, lo, none⟩) n cc), (7, .pointer (some ⟨ab1, 0, none⟩)), (13, .int .i64 ((n : Nat) : Int)), (14, .int .i64 ((k + 1 : Nat) : Int))] (by kernel_rfl) rfl ?_
            refine VL_end (by kernel_rfl) ?_
            refine VQ_again (k + 1) ⟨rfl, rfl, rfl, rfl, trivial⟩ ?_ ?_
            · exact ⟨by omega, Own.cast ht4 (step_3 (by omega) (by omega) (by omega)), hS⟩
            · (try dsimp only); omega
          · refine VC_skip ?_
            refine VQ_block_normal ?_
            refine VQ_block_normal ?_
            refine VQ_next ?_
            refine VC_region ?_
            refine VL_pure 1 [2, 7, 13, 56] [(2, .slice (some ⟨lb, lo, none⟩) n cc), (7, .pointer (some ⟨ab1, 0, none⟩)), (13, .int .i64 ((n : Nat) : Int)), (56, .int .i64 (IntKind.wrap .i64 (((k : Nat) : Int) + 1)))] (by kernel_rfl) rfl ?_
            refine VL_eq [(2, .slice (some ⟨lb, lo, none⟩) n cc), (7, .pointer (some ⟨ab1, 0, none⟩)), (13, .int .i64 ((n : Nat) : Int)), (56, .int .i64 ((k + 1 : Nat) : Int))] (by rw [wrap_i64 _ (by omega) (by omega)]; rfl) ?_
            refine VL_pure 2 [2, 7, 13, 14] [(2, .slice (some ⟨lb, lo, none⟩) n cc), (7, .pointer (some ⟨ab1, 0, none⟩)), (13, .int .i64 ((n : Nat) : Int)), (14, .int .i64 ((k + 1 : Nat) : Int))] (by kernel_rfl) rfl ?_
            refine VL_end (by kernel_rfl) ?_
            refine VQ_again (k + 1) ⟨rfl, rfl, rfl, rfl, trivial⟩ ?_ ?_
            · exact ⟨by omega, Own.cast ht (step_0 (by omega) (by omega) (by omega) (by omega)), hS⟩
            · (try dsimp only); omega
        · refine VC_region ?_
          refine VL_pure 2 [2, 7, 13, 14, 8, 45] [(2, .slice (some ⟨lb, lo, none⟩) n cc), (7, .pointer (some ⟨ab1, 0, none⟩)), (13, .int .i64 ((n : Nat) : Int)), (14, .int .i64 ((k : Nat) : Int)), (8, .int .i64 ((k : Nat) : Int)), (45, .bool (((q k).do_) == 4))] (by kernel_rfl) rfl ?_
          refine VL_end (by kernel_rfl) ?_
          refine VQ_next ?_
          refine VC_eq ((q k).do_) 4 (by kernel_rfl) (fun h6 => ?_) (fun h6 => ?_)
          · refine VC_region ?_
            refine VL_pure 3 [2, 7, 13, 14, 48, 49, 50] [(2, .slice (some ⟨lb, lo, none⟩) n cc), (7, .pointer (some ⟨ab1, 0, none⟩)), (13, .int .i64 ((n : Nat) : Int)), (14, .int .i64 ((k : Nat) : Int)), (48, .pointer (some ⟨ab1, 0, none⟩)), (49, .slice (some ⟨lb, lo, none⟩) n cc), (50, .int .i64 ((k : Nat) : Int))] (by kernel_rfl) rfl ?_
            refine VL_index (d := 51) (b := lb) (o := lo) (len := n) (sz := 38) (m := ((k : Nat) : Int)) (by kernel_rfl) (by kernel_rfl) k (by rfl) (by omega) (lo + k * 38) (by omega) ?_
            refine VL_pure 5 [2, 7, 13, 14, 48, 52] [(2, .slice (some ⟨lb, lo, none⟩) n cc), (7, .pointer (some ⟨ab1, 0, none⟩)), (13, .int .i64 ((n : Nat) : Int)), (14, .int .i64 ((k : Nat) : Int)), (48, .pointer (some ⟨ab1, 0, none⟩)), (52, .pointer (some ⟨lb, lo + k * 38, none⟩))] (by kernel_rfl) rfl ?_
            refine VL_load (d := 53) (t := 3) (a := ⟨lb, lo + k * 38, none⟩) (v := .int .i64 ((q k).do_)) (by kernel_rfl) (by kernel_rfl) (hL.do_ hS (by kernel_rfl) k hk) ?_
            refine VL_pure 7 [2, 7, 13, 14, 48, 54] [(2, .slice (some ⟨lb, lo, none⟩) n cc), (7, .pointer (some ⟨ab1, 0, none⟩)), (13, .int .i64 ((n : Nat) : Int)), (14, .int .i64 ((k : Nat) : Int)), (48, .pointer (some ⟨ab1, 0, none⟩)), (54, .bool (((q k).do_) == 3))] (by kernel_rfl) rfl ?_
            have hzs6 := hS.size
            have hzl5 := ht.lt
            refine VL_call (d := 55) (f := 15) (by kernel_rfl) (by kernel_rfl) (by kernel_rfl) Try.call15 (down_any ab1 (walkA here wait q k) _ ht (((q k).do_) == 3)) ?_
            rintro _ w7 ⟨rfl, ht5, hc5⟩
            replace hS := Step.transNew hS hc5 (fun _ _ _ => by omega)
            have hzht5 := ht5.lt
            refine VL_end (by kernel_rfl) ?_
            refine VQ_block_normal ?_
            refine VQ_block_normal ?_
            refine VQ_next ?_
            refine VC_region ?_
            refine VL_pure 1 [2, 7, 13, 56] [(2, .slice (some ⟨lb, lo, none⟩) n cc), (7, .pointer (some ⟨ab1, 0, none⟩)), (13, .int .i64 ((n : Nat) : Int)), (56, .int .i64 (IntKind.wrap .i64 (((k : Nat) : Int) + 1)))] (by kernel_rfl) rfl ?_
            refine VL_eq [(2, .slice (some ⟨lb, lo, none⟩) n cc), (7, .pointer (some ⟨ab1, 0, none⟩)), (13, .int .i64 ((n : Nat) : Int)), (56, .int .i64 ((k + 1 : Nat) : Int))] (by rw [wrap_i64 _ (by omega) (by omega)]; rfl) ?_
            refine VL_pure 2 [2, 7, 13, 14] [(2, .slice (some ⟨lb, lo, none⟩) n cc), (7, .pointer (some ⟨ab1, 0, none⟩)), (13, .int .i64 ((n : Nat) : Int)), (14, .int .i64 ((k + 1 : Nat) : Int))] (by kernel_rfl) rfl ?_
            refine VL_end (by kernel_rfl) ?_
            refine VQ_again (k + 1) ⟨rfl, rfl, rfl, rfl, trivial⟩ ?_ ?_
            · exact ⟨by omega, Own.cast ht5 (step_3 (by omega) (by omega) (by omega)), hS⟩
            · (try dsimp only); omega
          · refine VC_skip ?_
            refine VQ_block_normal ?_
            refine VQ_block_normal ?_
            refine VQ_next ?_
            refine VC_region ?_
            refine VL_pure 1 [2, 7, 13, 56] [(2, .slice (some ⟨lb, lo, none⟩) n cc), (7, .pointer (some ⟨ab1, 0, none⟩)), (13, .int .i64 ((n : Nat) : Int)), (56, .int .i64 (IntKind.wrap .i64 (((k : Nat) : Int) + 1)))] (by kernel_rfl) rfl ?_
            refine VL_eq [(2, .slice (some ⟨lb, lo, none⟩) n cc), (7, .pointer (some ⟨ab1, 0, none⟩)), (13, .int .i64 ((n : Nat) : Int)), (56, .int .i64 ((k + 1 : Nat) : Int))] (by rw [wrap_i64 _ (by omega) (by omega)]; rfl) ?_
            refine VL_pure 2 [2, 7, 13, 14] [(2, .slice (some ⟨lb, lo, none⟩) n cc), (7, .pointer (some ⟨ab1, 0, none⟩)), (13, .int .i64 ((n : Nat) : Int)), (14, .int .i64 ((k + 1 : Nat) : Int))] (by kernel_rfl) rfl ?_
            refine VL_end (by kernel_rfl) ?_
            refine VQ_again (k + 1) ⟨rfl, rfl, rfl, rfl, trivial⟩ ?_ ?_
            · exact ⟨by omega, Own.cast ht (step_0 (by omega) (by omega) (by omega) (by omega)), hS⟩
            · (try dsimp only); omega
  · refine VC_exit ?_
    refine VQ_then_exit ?_
    refine VQ_then_exit ?_
    refine VQ_block_hit ?_
    refine VQ_next ?_
    refine VC_seq ?_
    refine VC_region ?_
    refine VL_pure 2 [6] [(6, .pointer (some ⟨ab1, 0, none⟩))] (by kernel_rfl) rfl ?_
    refine VL_end (by kernel_rfl) ?_
    refine VQ_next ?_
    refine VC_ret ?_
    refine VQ_ret1 (.pointer (some ⟨ab1, 0, none⟩)) (.inr rfl) rfl rfl ?_
    obtain rfl : k = n := by omega
    exact ⟨ab1, rfl, by omega, ht, hS⟩

set_option maxRecDepth 20000 in
set_option maxHeartbeats 1000000 in
theorem awake_any (w : World) :
    CV Try.prog 9 #[] w (fun x w1 => x = .bool true ∧ Step No w w1) := by
  have hS : Step No w w := Step.refl _ _
  refine CV_enter Try.f9 _ 50 [] Try.func9 rfl rfl (by kernel_rfl) rfl ?_
  refine VC_seq ?_
  refine VC_region ?_
  refine VL_pure 1 [] [] (by kernel_rfl) rfl ?_
  refine VL_end (by kernel_rfl) ?_
  refine VQ_next ?_
  refine VC_seq ?_
  refine VC_region ?_
  refine VL_pure 1 [7] [(7, .agg #[.int .u8 7, .int .u8 0, .int .u8 0, .int .u8 0, .int .u8 0, .int .u8 0, .int .u8 0, .int .u8 0, .int .u8 0, .int .u8 0, .int .u8 0, .int .u8 0, .int .u8 0, .int .u8 0, .int .u8 0, .int .u8 0])] (by kernel_rfl) rfl ?_
  have hzs1 := hS.size
  refine VL_call (d := 8) (f := 10) (by kernel_rfl) (by kernel_rfl) (by kernel_rfl) Try.call10 (new_any seven 10 _) ?_
  rintro _ w1 ⟨ab1, rfl, hfab1, ht1, hc1⟩
  replace hS := Step.trans hS hc1
  have hzab1 := ht1.lt
  refine VL_pure 3 [1] [(1, .pointer (some ⟨ab1, 0, none⟩))] (by kernel_rfl) rfl ?_
  refine VL_end (by kernel_rfl) ?_
  refine VQ_next ?_
  refine VC_seq ?_
  refine VC_seq ?_
  refine VC_region ?_
  refine VL_pure 2 [1, 10] [(1, .pointer (some ⟨ab1, 0, none⟩)), (10, .bool false)] (by kernel_rfl) rfl ?_
  refine VL_end (by kernel_rfl) ?_
  refine VQ_next ?_
  refine VC_false (by kernel_rfl) ?_
  refine VC_skip ?_
  refine VQ_next ?_
  refine VC_seq ?_
  refine VC_region ?_
  refine VL_pure 2 [1, 11, 12] [(1, .pointer (some ⟨ab1, 0, none⟩)), (11, .pointer (some ⟨ab1, 0, none⟩)), (12, .agg #[.int .i64 0, .int .u8 0, .bool false, .int .u32 0, .int .u8 0, .int .u8 0, .int .u8 0, .int .u8 0, .int .u8 0, .int .u8 0, .int .u8 0, .int .u8 0, .int .u8 0, .int .u8 0, .int .u8 0, .int .u8 0, .int .u8 0, .int .u8 0, .int .u8 0, .int .u8 0, .int .u8 0, .int .u8 0, .int .u8 0, .int .u8 0, .int .u8 0, .int .u8 0, .int .u8 0, .int .u8 0, .int .u8 0, .int .u8 0, .int .u8 0, .int .u8 0, .int .u8 0, .int .u8 0, .int .u8 0, .int .u8 0])] (by kernel_rfl) rfl ?_
  have hzs2 := hS.size
  have hzl1 := ht1.lt
  refine VL_call (d := 13) (f := 12) (by kernel_rfl) (by kernel_rfl) (by kernel_rfl) Try.call12 (got_any ab1 (newA seven 10) _ ht1 5 (⟨0, 0, false, 0, zp, zp⟩ : Om) (newA_waits _ _) inByte_zp) ?_
  rintro _ w2 ⟨rfl, ht2, hc2⟩
  replace hS := Step.transNew hS hc2 (fun _ _ _ => by omega)
  have hzht2 := ht2.lt
  refine VL_end (by kernel_rfl) ?_
  refine VQ_next ?_
  refine VC_seq ?_
  refine VC_region ?_
  refine VL_pure 1 [1, 15] [(1, .pointer (some ⟨ab1, 0, none⟩)), (15, .pointer (some ⟨ab1, 0, none⟩))] (by kernel_rfl) rfl ?_
  have hzs3 := hS.size
  have hzl2 := ht2.lt
  refine VL_call (d := 16) (f := 16) (by kernel_rfl) (by kernel_rfl) (by kernel_rfl) Try.call16 (state_any ab1 (gotA (newA seven 10) 5 (⟨0, 0, false, 0, zp, zp⟩ : Om)) _ ht2 14) ?_
  rintro _ w3 ⟨rfl, hc3⟩
  replace hS := Step.trans hS hc3
  replace ht2 := ht2.no hc3
  rw [show aheadA (gotA (newA seven 10) 5 (⟨0, 0, false, 0, zp, zp⟩ : Om)) 14 = true from (by kernel_rfl), show behindA (gotA (newA seven 10) 5 (⟨0, 0, false, 0, zp, zp⟩ : Om)) 14 = false from (by kernel_rfl)]
  refine VL_pure 7 [1, 2] [(1, .pointer (some ⟨ab1, 0, none⟩)), (2, .bool true)] (by kernel_rfl) rfl ?_
  refine VL_end (by kernel_rfl) ?_
  refine VQ_next ?_
  refine VC_seq ?_
  refine VC_region ?_
  refine VL_pure 1 [1, 2, 20] [(1, .pointer (some ⟨ab1, 0, none⟩)), (2, .bool true), (20, .pointer (some ⟨ab1, 0, none⟩))] (by kernel_rfl) rfl ?_
  have hzs4 := hS.size
  have hzl3 := ht2.lt
  refine VL_call (d := 21) (f := 16) (by kernel_rfl) (by kernel_rfl) (by kernel_rfl) Try.call16 (state_any ab1 (gotA (newA seven 10) 5 (⟨0, 0, false, 0, zp, zp⟩ : Om)) _ ht2 15) ?_
  rintro _ w4 ⟨rfl, hc4⟩
  replace hS := Step.trans hS hc4
  replace ht2 := ht2.no hc4
  rw [show aheadA (gotA (newA seven 10) 5 (⟨0, 0, false, 0, zp, zp⟩ : Om)) 15 = false from (by kernel_rfl), show behindA (gotA (newA seven 10) 5 (⟨0, 0, false, 0, zp, zp⟩ : Om)) 15 = false from (by kernel_rfl)]
  refine VL_pure 7 [1, 2, 4] [(1, .pointer (some ⟨ab1, 0, none⟩)), (2, .bool true), (4, .bool false)] (by kernel_rfl) rfl ?_
  refine VL_end (by kernel_rfl) ?_
  refine VQ_next ?_
  refine VC_seq ?_
  refine VC_region ?_
  refine VL_pure 1 [1, 2, 4, 24] [(1, .pointer (some ⟨ab1, 0, none⟩)), (2, .bool true), (4, .bool false), (24, .pointer (some ⟨ab1, 0, none⟩))] (by kernel_rfl) rfl ?_
  have hzs5 := hS.size
  have hzl4 := ht2.lt
  refine VL_call (d := 25) (f := 19) (by kernel_rfl) (by kernel_rfl) (by kernel_rfl) Try.call19 (sends_any ab1 (gotA (newA seven 10) 5 (⟨0, 0, false, 0, zp, zp⟩ : Om)) _ ht2 6) ?_
  rintro _ w5 ⟨sb1, rfl, hfsb1, hc5, hc6⟩
  replace hS := Step.trans hS hc6
  replace ht2 := ht2.no hc6
  rw [show sendL (gotA (newA seven 10) 5 (⟨0, 0, false, 0, zp, zp⟩ : Om)) 6 = [(rdi (gotA (newA seven 10) 5 (⟨0, 0, false, 0, zp, zp⟩ : Om)))] from (send_2 (s := (gotA (newA seven 10) 5 (⟨0, 0, false, 0, zp, zp⟩ : Om))) (t := 6) (by kernel_rfl) (by kernel_rfl))] at hc5 ⊢
  have hzsb1 := hc5.lt
  refine VL_pure 3 [1, 2, 4, 6] [(1, .pointer (some ⟨ab1, 0, none⟩)), (2, .bool true), (4, .bool false), (6, .slice (some ⟨sb1, 0, none⟩) 1 1)] (by kernel_rfl) rfl ?_
  refine VL_end (by kernel_rfl) ?_
  refine VQ_next ?_
  refine VC_seq ?_
  refine VC_region ?_
  refine VL_pure 12 [1, 36, 37] [(1, .pointer (some ⟨ab1, 0, none⟩)), (36, .bool true), (37, .slice (some ⟨sb1, 0, none⟩) 1 1)] (by kernel_rfl) rfl ?_
  refine VL_index (d := 38) (b := sb1) (o := 0) (len := 1) (sz := 36) (m := 0) (by kernel_rfl) (by kernel_rfl) 0 (by rfl) (by omega) 0 (by omega) ?_
  refine VL_load (d := 39) (t := 34) (a := ⟨sb1, 0, none⟩) (v := .agg #[.int .i64 1, .int .u8 0, .bool false, .int .u32 0, .int .u8 (((gotA (newA seven 10) 5 (⟨0, 0, false, 0, zp, zp⟩ : Om)).here) 0), .int .u8 (((gotA (newA seven 10) 5 (⟨0, 0, false, 0, zp, zp⟩ : Om)).here) 1), .int .u8 (((gotA (newA seven 10) 5 (⟨0, 0, false, 0, zp, zp⟩ : Om)).here) 2), .int .u8 (((gotA (newA seven 10) 5 (⟨0, 0, false, 0, zp, zp⟩ : Om)).here) 3), .int .u8 (((gotA (newA seven 10) 5 (⟨0, 0, false, 0, zp, zp⟩ : Om)).here) 4), .int .u8 (((gotA (newA seven 10) 5 (⟨0, 0, false, 0, zp, zp⟩ : Om)).here) 5), .int .u8 (((gotA (newA seven 10) 5 (⟨0, 0, false, 0, zp, zp⟩ : Om)).here) 6), .int .u8 (((gotA (newA seven 10) 5 (⟨0, 0, false, 0, zp, zp⟩ : Om)).here) 7), .int .u8 (((gotA (newA seven 10) 5 (⟨0, 0, false, 0, zp, zp⟩ : Om)).here) 8), .int .u8 (((gotA (newA seven 10) 5 (⟨0, 0, false, 0, zp, zp⟩ : Om)).here) 9), .int .u8 (((gotA (newA seven 10) 5 (⟨0, 0, false, 0, zp, zp⟩ : Om)).here) 10), .int .u8 (((gotA (newA seven 10) 5 (⟨0, 0, false, 0, zp, zp⟩ : Om)).here) 11), .int .u8 (((gotA (newA seven 10) 5 (⟨0, 0, false, 0, zp, zp⟩ : Om)).here) 12), .int .u8 (((gotA (newA seven 10) 5 (⟨0, 0, false, 0, zp, zp⟩ : Om)).here) 13), .int .u8 (((gotA (newA seven 10) 5 (⟨0, 0, false, 0, zp, zp⟩ : Om)).here) 14), .int .u8 (((gotA (newA seven 10) 5 (⟨0, 0, false, 0, zp, zp⟩ : Om)).here) 15), .int .u8 0, .int .u8 0, .int .u8 0, .int .u8 0, .int .u8 0, .int .u8 0, .int .u8 0, .int .u8 0, .int .u8 0, .int .u8 0, .int .u8 0, .int .u8 0, .int .u8 0, .int .u8 0, .int .u8 0, .int .u8 0]) (by kernel_rfl) (by kernel_rfl) (Loads.ownL hc5 (n := 36) (by kernel_rfl) (by kernel_rfl) (by kernel_rfl)) ?_
  refine VL_pure 16 [1, 36, 39, 41] [(1, .pointer (some ⟨ab1, 0, none⟩)), (36, .bool true), (39, .agg #[.int .i64 1, .int .u8 0, .bool false, .int .u32 0, .int .u8 (((gotA (newA seven 10) 5 (⟨0, 0, false, 0, zp, zp⟩ : Om)).here) 0), .int .u8 (((gotA (newA seven 10) 5 (⟨0, 0, false, 0, zp, zp⟩ : Om)).here) 1), .int .u8 (((gotA (newA seven 10) 5 (⟨0, 0, false, 0, zp, zp⟩ : Om)).here) 2), .int .u8 (((gotA (newA seven 10) 5 (⟨0, 0, false, 0, zp, zp⟩ : Om)).here) 3), .int .u8 (((gotA (newA seven 10) 5 (⟨0, 0, false, 0, zp, zp⟩ : Om)).here) 4), .int .u8 (((gotA (newA seven 10) 5 (⟨0, 0, false, 0, zp, zp⟩ : Om)).here) 5), .int .u8 (((gotA (newA seven 10) 5 (⟨0, 0, false, 0, zp, zp⟩ : Om)).here) 6), .int .u8 (((gotA (newA seven 10) 5 (⟨0, 0, false, 0, zp, zp⟩ : Om)).here) 7), .int .u8 (((gotA (newA seven 10) 5 (⟨0, 0, false, 0, zp, zp⟩ : Om)).here) 8), .int .u8 (((gotA (newA seven 10) 5 (⟨0, 0, false, 0, zp, zp⟩ : Om)).here) 9), .int .u8 (((gotA (newA seven 10) 5 (⟨0, 0, false, 0, zp, zp⟩ : Om)).here) 10), .int .u8 (((gotA (newA seven 10) 5 (⟨0, 0, false, 0, zp, zp⟩ : Om)).here) 11), .int .u8 (((gotA (newA seven 10) 5 (⟨0, 0, false, 0, zp, zp⟩ : Om)).here) 12), .int .u8 (((gotA (newA seven 10) 5 (⟨0, 0, false, 0, zp, zp⟩ : Om)).here) 13), .int .u8 (((gotA (newA seven 10) 5 (⟨0, 0, false, 0, zp, zp⟩ : Om)).here) 14), .int .u8 (((gotA (newA seven 10) 5 (⟨0, 0, false, 0, zp, zp⟩ : Om)).here) 15), .int .u8 0, .int .u8 0, .int .u8 0, .int .u8 0, .int .u8 0, .int .u8 0, .int .u8 0, .int .u8 0, .int .u8 0, .int .u8 0, .int .u8 0, .int .u8 0, .int .u8 0, .int .u8 0, .int .u8 0, .int .u8 0]), (41, .agg #[.int .i64 1, .int .u8 0, .bool false, .int .u32 0, .int .u8 7, .int .u8 0, .int .u8 0, .int .u8 0, .int .u8 0, .int .u8 0, .int .u8 0, .int .u8 0, .int .u8 0, .int .u8 0, .int .u8 0, .int .u8 0, .int .u8 0, .int .u8 0, .int .u8 0, .int .u8 0, .int .u8 0, .int .u8 0, .int .u8 0, .int .u8 0, .int .u8 0, .int .u8 0, .int .u8 0, .int .u8 0, .int .u8 0, .int .u8 0, .int .u8 0, .int .u8 0, .int .u8 0, .int .u8 0, .int .u8 0, .int .u8 0])] (by kernel_rfl) rfl ?_
  refine VL_agEq (d := 42) (dd := 9) (ls := ([.int .i64] ++ [.int .u8] ++ [.bool] ++ [.int .u32] ++ (rep 16 [.int .u8]) ++ (rep 16 [.int .u8]) ++ [])) (pos := true) (t := 34) (xs := #[.int .i64 1, .int .u8 0, .bool false, .int .u32 0, .int .u8 (((gotA (newA seven 10) 5 (⟨0, 0, false, 0, zp, zp⟩ : Om)).here) 0), .int .u8 (((gotA (newA seven 10) 5 (⟨0, 0, false, 0, zp, zp⟩ : Om)).here) 1), .int .u8 (((gotA (newA seven 10) 5 (⟨0, 0, false, 0, zp, zp⟩ : Om)).here) 2), .int .u8 (((gotA (newA seven 10) 5 (⟨0, 0, false, 0, zp, zp⟩ : Om)).here) 3), .int .u8 (((gotA (newA seven 10) 5 (⟨0, 0, false, 0, zp, zp⟩ : Om)).here) 4), .int .u8 (((gotA (newA seven 10) 5 (⟨0, 0, false, 0, zp, zp⟩ : Om)).here) 5), .int .u8 (((gotA (newA seven 10) 5 (⟨0, 0, false, 0, zp, zp⟩ : Om)).here) 6), .int .u8 (((gotA (newA seven 10) 5 (⟨0, 0, false, 0, zp, zp⟩ : Om)).here) 7), .int .u8 (((gotA (newA seven 10) 5 (⟨0, 0, false, 0, zp, zp⟩ : Om)).here) 8), .int .u8 (((gotA (newA seven 10) 5 (⟨0, 0, false, 0, zp, zp⟩ : Om)).here) 9), .int .u8 (((gotA (newA seven 10) 5 (⟨0, 0, false, 0, zp, zp⟩ : Om)).here) 10), .int .u8 (((gotA (newA seven 10) 5 (⟨0, 0, false, 0, zp, zp⟩ : Om)).here) 11), .int .u8 (((gotA (newA seven 10) 5 (⟨0, 0, false, 0, zp, zp⟩ : Om)).here) 12), .int .u8 (((gotA (newA seven 10) 5 (⟨0, 0, false, 0, zp, zp⟩ : Om)).here) 13), .int .u8 (((gotA (newA seven 10) 5 (⟨0, 0, false, 0, zp, zp⟩ : Om)).here) 14), .int .u8 (((gotA (newA seven 10) 5 (⟨0, 0, false, 0, zp, zp⟩ : Om)).here) 15), .int .u8 0, .int .u8 0, .int .u8 0, .int .u8 0, .int .u8 0, .int .u8 0, .int .u8 0, .int .u8 0, .int .u8 0, .int .u8 0, .int .u8 0, .int .u8 0, .int .u8 0, .int .u8 0, .int .u8 0, .int .u8 0]) (ys := #[.int .i64 1, .int .u8 0, .bool false, .int .u32 0, .int .u8 7, .int .u8 0, .int .u8 0, .int .u8 0, .int .u8 0, .int .u8 0, .int .u8 0, .int .u8 0, .int .u8 0, .int .u8 0, .int .u8 0, .int .u8 0, .int .u8 0, .int .u8 0, .int .u8 0, .int .u8 0, .int .u8 0, .int .u8 0, .int .u8 0, .int .u8 0, .int .u8 0, .int .u8 0, .int .u8 0, .int .u8 0, .int .u8 0, .int .u8 0, .int .u8 0, .int .u8 0, .int .u8 0, .int .u8 0, .int .u8 0, .int .u8 0]) (by kernel_rfl) (by kernel_rfl) (by kernel_rfl) (by kernel_rfl) (by first | exact ⟨⟨_, rfl⟩, ⟨_, rfl⟩, ⟨_, rfl⟩, ⟨_, rfl⟩, ⟨_, rfl⟩, ⟨_, rfl⟩, ⟨_, rfl⟩, ⟨_, rfl⟩, ⟨_, rfl⟩, ⟨_, rfl⟩, ⟨_, rfl⟩, ⟨_, rfl⟩, ⟨_, rfl⟩, ⟨_, rfl⟩, ⟨_, rfl⟩, ⟨_, rfl⟩, ⟨_, rfl⟩, ⟨_, rfl⟩, ⟨_, rfl⟩, ⟨_, rfl⟩, ⟨_, rfl⟩, ⟨_, rfl⟩, ⟨_, rfl⟩, ⟨_, rfl⟩, ⟨_, rfl⟩, ⟨_, rfl⟩, ⟨_, rfl⟩, ⟨_, rfl⟩, ⟨_, rfl⟩, ⟨_, rfl⟩, ⟨_, rfl⟩, ⟨_, rfl⟩, ⟨_, rfl⟩, ⟨_, rfl⟩, ⟨_, rfl⟩, ⟨_, rfl⟩, trivial⟩ | trivial) (by first | exact ⟨⟨_, rfl⟩, ⟨_, rfl⟩, ⟨_, rfl⟩, ⟨_, rfl⟩, ⟨_, rfl⟩, ⟨_, rfl⟩, ⟨_, rfl⟩, ⟨_, rfl⟩, ⟨_, rfl⟩, ⟨_, rfl⟩, ⟨_, rfl⟩, ⟨_, rfl⟩, ⟨_, rfl⟩, ⟨_, rfl⟩, ⟨_, rfl⟩, ⟨_, rfl⟩, ⟨_, rfl⟩, ⟨_, rfl⟩, ⟨_, rfl⟩, ⟨_, rfl⟩, ⟨_, rfl⟩, ⟨_, rfl⟩, ⟨_, rfl⟩, ⟨_, rfl⟩, ⟨_, rfl⟩, ⟨_, rfl⟩, ⟨_, rfl⟩, ⟨_, rfl⟩, ⟨_, rfl⟩, ⟨_, rfl⟩, ⟨_, rfl⟩, ⟨_, rfl⟩, ⟨_, rfl⟩, ⟨_, rfl⟩, ⟨_, rfl⟩, ⟨_, rfl⟩, trivial⟩ | trivial) (omEq (⟨1, 0, false, 0, ((gotA (newA seven 10) 5 (⟨0, 0, false, 0, zp, zp⟩ : Om)).here), zp⟩ : Om) (⟨1, 0, false, 0, seven, zp⟩ : Om)) (by rfl) ?_
  refine VL_pure 19 [1, 44] [(1, .pointer (some ⟨ab1, 0, none⟩)), (44, .bool (omEq (⟨1, 0, false, 0, ((gotA (newA seven 10) 5 (⟨0, 0, false, 0, zp, zp⟩ : Om)).here), zp⟩ : Om) (⟨1, 0, false, 0, seven, zp⟩ : Om)))] (by kernel_rfl) rfl ?_
  refine VL_known (omEq (⟨1, 0, false, 0, ((gotA (newA seven 10) 5 (⟨0, 0, false, 0, zp, zp⟩ : Om)).here), zp⟩ : Om) (⟨1, 0, false, 0, seven, zp⟩ : Om)) (fun bV => [(1, .pointer (some ⟨ab1, 0, none⟩)), (44, .bool bV)]) true rfl (by kernel_rfl) ?_
  refine VL_pure 20 [44, 45] [(44, .bool true), (45, .pointer (some ⟨ab1, 0, none⟩))] (by kernel_rfl) rfl ?_
  have hzs6 := hS.size
  have hzl5 := ht2.lt
  have hzl6 := hc5.lt
  refine VL_call (d := 46) (f := 19) (by kernel_rfl) (by kernel_rfl) (by kernel_rfl) Try.call19 (sends_any ab1 (gotA (newA seven 10) 5 (⟨0, 0, false, 0, zp, zp⟩ : Om)) _ ht2 99) ?_
  rintro _ w6 ⟨sb2, rfl, hfsb2, hc7, hc8⟩
  replace hS := Step.trans hS hc8
  replace ht2 := ht2.no hc8
  replace hc5 := hc5.no hc8
  rw [show sendL (gotA (newA seven 10) 5 (⟨0, 0, false, 0, zp, zp⟩ : Om)) 99 = [chk] from (send_3 (s := (gotA (newA seven 10) 5 (⟨0, 0, false, 0, zp, zp⟩ : Om))) (t := 99) (by kernel_rfl) (by kernel_rfl))] at hc7 ⊢
  have hzsb2 := hc7.lt
  refine VL_pure 24 [49] [(49, .bool true)] (by kernel_rfl) rfl ?_
  refine VL_pure 25 [0] [(0, .bool true)] (by kernel_rfl) rfl ?_
  refine VL_end (by kernel_rfl) ?_
  refine VQ_next ?_
  refine VC_ret ?_
  refine VQ_ret1 (.bool true) (.inr rfl) rfl rfl ?_
  exact ⟨rfl, hS⟩

end Go.Proofs.Ytkimbomnbaogjaa
