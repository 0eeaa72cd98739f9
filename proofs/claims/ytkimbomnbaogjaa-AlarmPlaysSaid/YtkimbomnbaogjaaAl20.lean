/- Layer 21: AlarmPlays. -/
import Derived.Test.YtkimbomnbaogjaaProg
import Derived.Test.YtkimbomnbaogjaaAl19
set_option linter.unusedVariables false
set_option linter.unusedSimpArgs false
namespace Go.Proofs.Ytkimbomnbaogjaa
open Go.Vc Go.RowKit

set_option maxRecDepth 20000 in
set_option maxHeartbeats 1000000 in
theorem alarmPlays_any (here : Nat → Int) (wait : Int) (A : Option Addr) (n cc : Nat) (q : Nat → OpA) (t : Int) (w : World) (hA : OpsAt w A n q) :
    CV Try.prog 3 #[.agg #[.int .u8 (here 0), .int .u8 (here 1), .int .u8 (here 2), .int .u8 (here 3), .int .u8 (here 4), .int .u8 (here 5), .int .u8 (here 6), .int .u8 (here 7), .int .u8 (here 8), .int .u8 (here 9), .int .u8 (here 10), .int .u8 (here 11), .int .u8 (here 12), .int .u8 (here 13), .int .u8 (here 14), .int .u8 (here 15)], .int .i64 wait, .slice A n cc, .int .i64 t] w (fun x w1 => x = .bool true ∧ Step No w w1) := by
  have hS : Step No w w := Step.refl _ _
  obtain ⟨hA0, hA1⟩ := hA
  refine CV_enter Try.f3 _ 142 [(0, .agg #[.int .u8 (here 0), .int .u8 (here 1), .int .u8 (here 2), .int .u8 (here 3), .int .u8 (here 4), .int .u8 (here 5), .int .u8 (here 6), .int .u8 (here 7), .int .u8 (here 8), .int .u8 (here 9), .int .u8 (here 10), .int .u8 (here 11), .int .u8 (here 12), .int .u8 (here 13), .int .u8 (here 14), .int .u8 (here 15)]), (1, .int .i64 wait), (2, .slice A n cc), (3, .int .i64 t)] Try.func3 rfl rfl (by kernel_rfl) rfl ?_
  refine VC_seq ?_
  refine VC_region ?_
  have hzs1 := hS.size
  refine VL_box (d := 4) (t := 22) (c := #[.int .u8 (here 0), .int .u8 (here 1), .int .u8 (here 2), .int .u8 (here 3), .int .u8 (here 4), .int .u8 (here 5), .int .u8 (here 6), .int .u8 (here 7), .int .u8 (here 8), .int .u8 (here 9), .int .u8 (here 10), .int .u8 (here 11), .int .u8 (here 12), .int .u8 (here 13), .int .u8 (here 14), .int .u8 (here 15)]) (by kernel_rfl) (by kernel_rfl) ?_
  intro b1 w1 hn1
  replace hS := Step.trans hS (hn1.step No)
  have ho1 := hn1.own
  have hzhn1 := hn1.size
  have hqhn1 := hn1.eqb
  refine VL_pure 2 [1, 2, 3, 4] [(1, .int .i64 wait), (2, .slice A n cc), (3, .int .i64 t), (4, .pointer (some ⟨b1, 0, none⟩))] (by kernel_rfl) rfl ?_
  refine VL_end (by kernel_rfl) ?_
  refine VQ_next ?_
  refine VC_seq ?_
  refine VC_seq ?_
  refine VC_region ?_
  have hzs2 := hS.size
  have hzl1 := ho1.lt
  refine VL_call (d := 21) (f := 9) (args := #[]) (by kernel_rfl) (by kernel_rfl) (by kernel_rfl) Try.call9 (awake_any _) ?_
  rintro _ w2 ⟨rfl, hc1⟩
  replace hS := Step.trans hS hc1
  replace ho1 := ho1.no hc1
  refine VL_pure 7 [1, 2, 3, 4, 27] [(1, .int .i64 wait), (2, .slice A n cc), (3, .int .i64 t), (4, .pointer (some ⟨b1, 0, none⟩)), (27, .bool (decide (((n : Nat) : Int) > 100)))] (by kernel_rfl) rfl ?_
  refine VL_end (by kernel_rfl) ?_
  refine VQ_next ?_
  refine VC_dec (((n : Nat) : Int) > 100) (by kernel_rfl) (fun h1 => ?_) (fun h1 => ?_)
  · refine VC_seq ?_
    refine VC_region ?_
    have hzs3 := hS.size
    have hzl2 := ho1.lt
    refine VL_call (d := 28) (f := 9) (args := #[]) (by kernel_rfl) (by kernel_rfl) (by kernel_rfl) Try.call9 (awake_any _) ?_
    rintro _ w3 ⟨rfl, hc2⟩
    replace hS := Step.trans hS hc2
    replace ho1 := ho1.no hc2
    refine VL_pure 2 [8] [(8, .bool true)] (by kernel_rfl) rfl ?_
    refine VL_end (by kernel_rfl) ?_
    refine VQ_next ?_
    refine VC_ret ?_
    refine VQ_then_ret ?_
    refine VQ_ret1 (.bool true) (.inr rfl) rfl rfl ?_
    exact ⟨rfl, hS⟩
  · refine VC_skip ?_
    refine VQ_next ?_
    refine VC_seq ?_
    have hs1 := drew_step w2
    have hs1z : w2.heap.size = w2.drew.heap.size := rfl
    refine VC_text [[], [], [0, 1], [], [], [0, 1, 2, 3, 4], [0, 1, 2, 3, 4, 5], [0, 1, 2, 3, 4, 5, 6]] 5 (fun x y => Step (fun k => w2.heap.size ≤ k) x y) [2] [0, 1, 3, 4, 2] (by kernel_rfl) (by kernel_rfl) (by kernel_rfl) (by kernel_rfl) (fun x => Step.refl _ x) (fun h k => Step.trans h k) Step.weak ?_
    have hzs4 := hS.size
    have hzl3 := ho1.lt
    generalize w2.drew = w4 at hs1 hs1z ⊢
    replace hS := Step.trans hS hs1
    replace ho1 := ho1.no hs1
    refine VT_load (d := 29) (t := 22) (a := ⟨b1, 0, none⟩) (v := .agg #[.int .u8 (here 0), .int .u8 (here 1), .int .u8 (here 2), .int .u8 (here 3), .int .u8 (here 4), .int .u8 (here 5), .int .u8 (here 6), .int .u8 (here 7), .int .u8 (here 8), .int .u8 (here 9), .int .u8 (here 10), .int .u8 (here 11), .int .u8 (here 12), .int .u8 (here 13), .int .u8 (here 14), .int .u8 (here 15)]) (by kernel_rfl) (by kernel_rfl) ?_ ?_
    · intro w5 hr1
      replace hS := Step.transNew hS hr1 (fun i hi hG => by (try simp only at hG); omega)
      replace ho1 := ho1.step hr1 (by (try simp only); omega)
      exact (Loads.ownL ho1 (n := 16) (by kernel_rfl) (by kernel_rfl) (by kernel_rfl))
    refine VT_pures 1 (kn' := [(1, .int .i64 wait), (0, .agg #[.int .u8 (here 0), .int .u8 (here 1), .int .u8 (here 2), .int .u8 (here 3), .int .u8 (here 4), .int .u8 (here 5), .int .u8 (here 6), .int .u8 (here 7), .int .u8 (here 8), .int .u8 (here 9), .int .u8 (here 10), .int .u8 (here 11), .int .u8 (here 12), .int .u8 (here 13), .int .u8 (here 14), .int .u8 (here 15)])]) (by kernel_rfl) ?_
    refine VT_load (d := 32) (t := 22) (a := ⟨b1, 0, none⟩) (v := .agg #[.int .u8 (here 0), .int .u8 (here 1), .int .u8 (here 2), .int .u8 (here 3), .int .u8 (here 4), .int .u8 (here 5), .int .u8 (here 6), .int .u8 (here 7), .int .u8 (here 8), .int .u8 (here 9), .int .u8 (here 10), .int .u8 (here 11), .int .u8 (here 12), .int .u8 (here 13), .int .u8 (here 14), .int .u8 (here 15)]) (by kernel_rfl) (by kernel_rfl) ?_ ?_
    · intro w6 hr2
      replace hS := Step.transNew hS hr2 (fun i hi hG => by (try simp only at hG); omega)
      replace ho1 := ho1.step hr2 (by (try simp only); omega)
      exact (Loads.ownL ho1 (n := 16) (by kernel_rfl) (by kernel_rfl) (by kernel_rfl))
    refine VT_pures 1 (kn' := [(4, .int .i64 wait), (3, .agg #[.int .u8 (here 0), .int .u8 (here 1), .int .u8 (here 2), .int .u8 (here 3), .int .u8 (here 4), .int .u8 (here 5), .int .u8 (here 6), .int .u8 (here 7), .int .u8 (here 8), .int .u8 (here 9), .int .u8 (here 10), .int .u8 (here 11), .int .u8 (here 12), .int .u8 (here 13), .int .u8 (here 14), .int .u8 (here 15)]), (1, .int .i64 wait), (0, .agg #[.int .u8 (here 0), .int .u8 (here 1), .int .u8 (here 2), .int .u8 (here 3), .int .u8 (here 4), .int .u8 (here 5), .int .u8 (here 6), .int .u8 (here 7), .int .u8 (here 8), .int .u8 (here 9), .int .u8 (here 10), .int .u8 (here 11), .int .u8 (here 12), .int .u8 (here 13), .int .u8 (here 14), .int .u8 (here 15)])]) (by kernel_rfl) ?_
    refine VT_chain (by kernel_rfl) ?_
    intro w7 hs2
    have hzhs2 := hs2.size
    replace hS := Step.trans hS hs2
    replace ho1 := ho1.no hs2
    have hzs5 := hS.size
    have hzl4 := ho1.lt
    refine VTc_call (d := 31) (f := 10) (by kernel_rfl) (by kernel_rfl) (by kernel_rfl) Try.call10 (new_any here wait _) ?_ ?_
    · rintro _ w8 ⟨ab1, rfl, hfab1, ht1, hc3⟩
      exact Step.mono hc3 (by intro i hi; first | exact hi.elim | ((try simp only at hi ⊢); omega))
    rintro _ w8 ⟨ab1, rfl, hfab1, ht1, hc3⟩
    have hzhc3 := (hc3).size
    replace hS := Step.trans hS hc3
    replace ho1 := ho1.no hc3
    have hzab1 := ht1.lt
    refine VT_end ?_
    intro w9 hs3
    replace hS := Step.trans hS hs3
    replace ho1 := ho1.no hs3
    replace ht1 := ht1.no hs3
    refine VL_keep [2, 3, 32, 33, 31] [(2, .slice A n cc), (3, .int .i64 t), (32, .agg #[.int .u8 (here 0), .int .u8 (here 1), .int .u8 (here 2), .int .u8 (here 3), .int .u8 (here 4), .int .u8 (here 5), .int .u8 (here 6), .int .u8 (here 7), .int .u8 (here 8), .int .u8 (here 9), .int .u8 (here 10), .int .u8 (here 11), .int .u8 (here 12), .int .u8 (here 13), .int .u8 (here 14), .int .u8 (here 15)]), (33, .int .i64 wait), (31, .pointer (some ⟨ab1, 0, none⟩))] (by kernel_rfl) ?_
    have hzs6 := hS.size
    have hzl5 := ho1.lt
    have hzl6 := ht1.lt
    refine VL_call (d := 34) (f := 11) (by kernel_rfl) (by kernel_rfl) (by kernel_rfl) Try.call11 (rnew_any here wait _) ?_
    rintro _ w10 ⟨rb1, rfl, hfrb1, hr3, hc4⟩
    replace hS := Step.trans hS hc4
    replace ho1 := ho1.no hc4
    replace ht1 := ht1.no hc4
    have hzrb1 := hr3.lt
    refine VL_pure 8 [2, 3, 9, 10] [(2, .slice A n cc), (3, .int .i64 t), (9, .pointer (some ⟨ab1, 0, none⟩)), (10, .pointer (some ⟨rb1, 0, none⟩))] (by kernel_rfl) rfl ?_
    refine VL_end (by kernel_rfl) ?_
    refine VQ_next ?_
    refine VC_seq ?_
    refine VC_seq ?_
    refine VC_region ?_
    refine VL_pure 2 [2, 3, 9, 10, 36] [(2, .slice A n cc), (3, .int .i64 t), (9, .pointer (some ⟨ab1, 0, none⟩)), (10, .pointer (some ⟨rb1, 0, none⟩)), (36, .bool false)] (by kernel_rfl) rfl ?_
    refine VL_end (by kernel_rfl) ?_
    refine VQ_next ?_
    refine VC_false (by kernel_rfl) ?_
    refine VC_skip ?_
    refine VQ_next ?_
    refine VC_seq ?_
    refine VC_seq ?_
    refine VC_region ?_
    refine VL_pure 3 [2, 3, 9, 10, 38, 39] [(2, .slice A n cc), (3, .int .i64 t), (9, .pointer (some ⟨ab1, 0, none⟩)), (10, .pointer (some ⟨rb1, 0, none⟩)), (38, .int .i64 ((n : Nat) : Int)), (39, .int .i64 0)] (by kernel_rfl) rfl ?_
    refine VL_end (by kernel_rfl) ?_
    refine VQ_next ?_
    refine VC_block ?_
    refine VC_loop (σ := Nat) (fun σs => [(2, .slice A n cc), (3, .int .i64 t), (9, .pointer (some ⟨ab1, 0, none⟩)), (10, .pointer (some ⟨rb1, 0, none⟩)), (38, .int .i64 ((n : Nat) : Int)), (39, .int .i64 ((σs : Nat) : Int))]) (fun σs wr => σs ≤ n ∧ Own wr ab1 (alC (walkA here wait q σs)) 62 ∧ Own wr rb1 (rfC (walkA here wait q σs)) 41 ∧ Step No w wr) (fun σs wr => n - σs) 0 ⟨rfl, rfl, rfl, rfl, rfl, rfl, trivial⟩ ?_ ?_
    · exact ⟨Nat.zero_le _, ht1, hr3, hS⟩
    rintro k wr ⟨hk0, ht, hr, hS⟩
    try dsimp only at hk0 ht hr hS ⊢
    refine VC_seq ?_
    refine VC_region ?_
    refine VL_pure 1 [2, 3, 9, 10, 38, 39, 40] [(2, .slice A n cc), (3, .int .i64 t), (9, .pointer (some ⟨ab1, 0, none⟩)), (10, .pointer (some ⟨rb1, 0, none⟩)), (38, .int .i64 ((n : Nat) : Int)), (39, .int .i64 ((k : Nat) : Int)), (40, .bool (decide (((k : Nat) : Int) < ((n : Nat) : Int))))] (by kernel_rfl) rfl ?_
    refine VL_end (by kernel_rfl) ?_
    refine VQ_next ?_
    refine VC_seq ?_
    refine VC_dec (((k : Nat) : Int) < ((n : Nat) : Int)) (by kernel_rfl) (fun h2 => ?_) (fun h2 => ?_)
    · refine VC_skip ?_
      refine VQ_next ?_
      refine VC_seq ?_
      refine VC_block ?_
      refine VC_seq ?_
      refine VC_region ?_
      refine VL_pure 2 [2, 3, 9, 10, 38, 39, 11] [(2, .slice A n cc), (3, .int .i64 t), (9, .pointer (some ⟨ab1, 0, none⟩)), (10, .pointer (some ⟨rb1, 0, none⟩)), (38, .int .i64 ((n : Nat) : Int)), (39, .int .i64 ((k : Nat) : Int)), (11, .int .i64 ((k : Nat) : Int))] (by kernel_rfl) rfl ?_
      refine VL_end (by kernel_rfl) ?_
      refine VQ_next ?_
      refine VC_seq ?_
      have hk : k < n := by omega
      obtain ⟨lb, lo, rfl, hL⟩ := hA1 (by omega)
      refine VC_region ?_
      refine VL_pure 2 [2, 3, 9, 10, 38, 39, 42, 43] [(2, .slice (some ⟨lb, lo, none⟩) n cc), (3, .int .i64 t), (9, .pointer (some ⟨ab1, 0, none⟩)), (10, .pointer (some ⟨rb1, 0, none⟩)), (38, .int .i64 ((n : Nat) : Int)), (39, .int .i64 ((k : Nat) : Int)), (42, .slice (some ⟨lb, lo, none⟩) n cc), (43, .int .i64 ((k : Nat) : Int))] (by kernel_rfl) rfl ?_
      refine VL_index (d := 44) (b := lb) (o := lo) (len := n) (sz := 38) (m := ((k : Nat) : Int)) (by kernel_rfl) (by kernel_rfl) k (by rfl) (by omega) (lo + k * 38) (by omega) ?_
      refine VL_load (d := 45) (t := 33) (a := ⟨lb, lo + k * 38, none⟩) (v := .agg #[.int .i64 ((q k).do_), .int .i64 ((q k).t), .int .i64 (((q k).o).k), .int .u8 (((q k).o).d), .bool (((q k).o).a), .int .u32 (((q k).o).tg), .int .u8 ((((q k).o).p) 0), .int .u8 ((((q k).o).p) 1), .int .u8 ((((q k).o).p) 2), .int .u8 ((((q k).o).p) 3), .int .u8 ((((q k).o).p) 4), .int .u8 ((((q k).o).p) 5), .int .u8 ((((q k).o).p) 6), .int .u8 ((((q k).o).p) 7), .int .u8 ((((q k).o).p) 8), .int .u8 ((((q k).o).p) 9), .int .u8 ((((q k).o).p) 10), .int .u8 ((((q k).o).p) 11), .int .u8 ((((q k).o).p) 12), .int .u8 ((((q k).o).p) 13), .int .u8 ((((q k).o).p) 14), .int .u8 ((((q k).o).p) 15), .int .u8 ((((q k).o).s) 0), .int .u8 ((((q k).o).s) 1), .int .u8 ((((q k).o).s) 2), .int .u8 ((((q k).o).s) 3), .int .u8 ((((q k).o).s) 4), .int .u8 ((((q k).o).s) 5), .int .u8 ((((q k).o).s) 6), .int .u8 ((((q k).o).s) 7), .int .u8 ((((q k).o).s) 8), .int .u8 ((((q k).o).s) 9), .int .u8 ((((q k).o).s) 10), .int .u8 ((((q k).o).s) 11), .int .u8 ((((q k).o).s) 12), .int .u8 ((((q k).o).s) 13), .int .u8 ((((q k).o).s) 14), .int .u8 ((((q k).o).s) 15)]) (by kernel_rfl) (by kernel_rfl) (hL.all hS (by kernel_rfl) k hk) ?_
      have hzs7 := hS.size
      have hzl7 := ht.lt
      have hzl8 := hr.lt
      refine VL_box (d := 12) (t := 33) (c := #[.int .i64 0, .int .i64 0, .int .i64 0, .int .u8 0, .bool false, .int .u32 0, .int .u8 0, .int .u8 0, .int .u8 0, .int .u8 0, .int .u8 0, .int .u8 0, .int .u8 0, .int .u8 0, .int .u8 0, .int .u8 0, .int .u8 0, .int .u8 0, .int .u8 0, .int .u8 0, .int .u8 0, .int .u8 0, .int .u8 0, .int .u8 0, .int .u8 0, .int .u8 0, .int .u8 0, .int .u8 0, .int .u8 0, .int .u8 0, .int .u8 0, .int .u8 0, .int .u8 0, .int .u8 0, .int .u8 0, .int .u8 0, .int .u8 0, .int .u8 0]) (by kernel_rfl) (by kernel_rfl) ?_
      intro b2 w11 hn2
      replace hS := Step.trans hS (hn2.step No)
      replace ht := ht.no (hn2.step No)
      replace hr := hr.no (hn2.step No)
      have ho2 := hn2.own
      have hzhn2 := hn2.size
      have hqhn2 := hn2.eqb
      refine VL_store (b := b2) (o := 0) (vs := [.int .i64 ((q k).do_), .int .i64 ((q k).t), .int .i64 (((q k).o).k), .int .u8 (((q k).o).d), .bool (((q k).o).a), .int .u32 (((q k).o).tg), .int .u8 ((((q k).o).p) 0), .int .u8 ((((q k).o).p) 1), .int .u8 ((((q k).o).p) 2), .int .u8 ((((q k).o).p) 3), .int .u8 ((((q k).o).p) 4), .int .u8 ((((q k).o).p) 5), .int .u8 ((((q k).o).p) 6), .int .u8 ((((q k).o).p) 7), .int .u8 ((((q k).o).p) 8), .int .u8 ((((q k).o).p) 9), .int .u8 ((((q k).o).p) 10), .int .u8 ((((q k).o).p) 11), .int .u8 ((((q k).o).p) 12), .int .u8 ((((q k).o).p) 13), .int .u8 ((((q k).o).p) 14), .int .u8 ((((q k).o).p) 15), .int .u8 ((((q k).o).s) 0), .int .u8 ((((q k).o).s) 1), .int .u8 ((((q k).o).s) 2), .int .u8 ((((q k).o).s) 3), .int .u8 ((((q k).o).s) 4), .int .u8 ((((q k).o).s) 5), .int .u8 ((((q k).o).s) 6), .int .u8 ((((q k).o).s) 7), .int .u8 ((((q k).o).s) 8), .int .u8 ((((q k).o).s) 9), .int .u8 ((((q k).o).s) 10), .int .u8 ((((q k).o).s) 11), .int .u8 ((((q k).o).s) 12), .int .u8 ((((q k).o).s) 13), .int .u8 ((((q k).o).s) 14), .int .u8 ((((q k).o).s) 15)]) (by kernel_rfl) (by kernel_rfl) ho2 (Nat.le_of_ble_eq_true (by kernel_rfl)) ?_
      intro w12 hw1
      replace hS := Step.transNew hS hw1.step (fun _ _ _ => by omega)
      replace ht := ht.step hw1.step (show ¬ ab1 = b2 by omega)
      replace hr := hr.step hw1.step (show ¬ rb1 = b2 by omega)
      have ho3 : Own w12 b2 #[.int .i64 ((q k).do_), .int .i64 ((q k).t), .int .i64 (((q k).o).k), .int .u8 (((q k).o).d), .bool (((q k).o).a), .int .u32 (((q k).o).tg), .int .u8 ((((q k).o).p) 0), .int .u8 ((((q k).o).p) 1), .int .u8 ((((q k).o).p) 2), .int .u8 ((((q k).o).p) 3), .int .u8 ((((q k).o).p) 4), .int .u8 ((((q k).o).p) 5), .int .u8 ((((q k).o).p) 6), .int .u8 ((((q k).o).p) 7), .int .u8 ((((q k).o).p) 8), .int .u8 ((((q k).o).p) 9), .int .u8 ((((q k).o).p) 10), .int .u8 ((((q k).o).p) 11), .int .u8 ((((q k).o).p) 12), .int .u8 ((((q k).o).p) 13), .int .u8 ((((q k).o).p) 14), .int .u8 ((((q k).o).p) 15), .int .u8 ((((q k).o).s) 0), .int .u8 ((((q k).o).s) 1), .int .u8 ((((q k).o).s) 2), .int .u8 ((((q k).o).s) 3), .int .u8 ((((q k).o).s) 4), .int .u8 ((((q k).o).s) 5), .int .u8 ((((q k).o).s) 6), .int .u8 ((((q k).o).s) 7), .int .u8 ((((q k).o).s) 8), .int .u8 ((((q k).o).s) 9), .int .u8 ((((q k).o).s) 10), .int .u8 ((((q k).o).s) 11), .int .u8 ((((q k).o).s) 12), .int .u8 ((((q k).o).s) 13), .int .u8 ((((q k).o).s) 14), .int .u8 ((((q k).o).s) 15)] 33 := Own.cast hw1.own (by kernel_rfl)
      have hzhw1 := hw1.same
      refine VL_end (by kernel_rfl) ?_
      refine VQ_next ?_
      refine VC_seq ?_
      refine VC_seq ?_
      refine VC_region ?_
      refine VL_pure 1 [2, 3, 9, 10, 38, 39, 12, 46] [(2, .slice (some ⟨lb, lo, none⟩) n cc), (3, .int .i64 t), (9, .pointer (some ⟨ab1, 0, none⟩)), (10, .pointer (some ⟨rb1, 0, none⟩)), (38, .int .i64 ((n : Nat) : Int)), (39, .int .i64 ((k : Nat) : Int)), (12, .pointer (some ⟨b2, 0, none⟩)), (46, .pointer (some ⟨b2, 0, none⟩))] (by kernel_rfl) rfl ?_
      refine VL_load (d := 47) (t := 3) (a := ⟨b2, 0, none⟩) (v := .int .i64 ((q k).do_)) (by kernel_rfl) (by kernel_rfl) (Loads.own1 ho3 (by kernel_rfl) (by rfl)) ?_
      refine VL_end (by kernel_rfl) ?_
      refine VQ_next ?_
      refine VC_block ?_
      refine VC_seq ?_
      refine VC_region ?_
      refine VL_pure 2 [2, 3, 9, 10, 38, 39, 12, 47, 48] [(2, .slice (some ⟨lb, lo, none⟩) n cc), (3, .int .i64 t), (9, .pointer (some ⟨ab1, 0, none⟩)), (10, .pointer (some ⟨rb1, 0, none⟩)), (38, .int .i64 ((n : Nat) : Int)), (39, .int .i64 ((k : Nat) : Int)), (12, .pointer (some ⟨b2, 0, none⟩)), (47, .int .i64 ((q k).do_)), (48, .bool (((q k).do_) == 1))] (by kernel_rfl) rfl ?_
      refine VL_end (by kernel_rfl) ?_
      refine VQ_next ?_
      refine VC_eq ((q k).do_) 1 (by kernel_rfl) (fun h3 => ?_) (fun h3 => ?_)
      · refine VC_seq ?_
        refine VC_region ?_
        refine VL_pure 2 [2, 3, 9, 10, 38, 39, 12, 51, 52] [(2, .slice (some ⟨lb, lo, none⟩) n cc), (3, .int .i64 t), (9, .pointer (some ⟨ab1, 0, none⟩)), (10, .pointer (some ⟨rb1, 0, none⟩)), (38, .int .i64 ((n : Nat) : Int)), (39, .int .i64 ((k : Nat) : Int)), (12, .pointer (some ⟨b2, 0, none⟩)), (51, .pointer (some ⟨ab1, 0, none⟩)), (52, .pointer (some ⟨b2, 1, none⟩))] (by kernel_rfl) rfl ?_
        refine VL_load (d := 53) (t := 3) (a := ⟨b2, 1, none⟩) (v := .int .i64 ((q k).t)) (by kernel_rfl) (by kernel_rfl) (Loads.own1 ho3 (by kernel_rfl) (by rfl)) ?_
        refine VL_pure 4 [2, 3, 9, 10, 38, 39, 12, 51, 53, 54] [(2, .slice (some ⟨lb, lo, none⟩) n cc), (3, .int .i64 t), (9, .pointer (some ⟨ab1, 0, none⟩)), (10, .pointer (some ⟨rb1, 0, none⟩)), (38, .int .i64 ((n : Nat) : Int)), (39, .int .i64 ((k : Nat) : Int)), (12, .pointer (some ⟨b2, 0, none⟩)), (51, .pointer (some ⟨ab1, 0, none⟩)), (53, .int .i64 ((q k).t)), (54, .pointer (some ⟨b2, 2, none⟩))] (by kernel_rfl) rfl ?_
        refine VL_load (d := 55) (t := 31) (a := ⟨b2, 2, none⟩) (v := .agg #[.int .i64 (((q k).o).k), .int .u8 (((q k).o).d), .bool (((q k).o).a), .int .u32 (((q k).o).tg), .int .u8 ((((q k).o).p) 0), .int .u8 ((((q k).o).p) 1), .int .u8 ((((q k).o).p) 2), .int .u8 ((((q k).o).p) 3), .int .u8 ((((q k).o).p) 4), .int .u8 ((((q k).o).p) 5), .int .u8 ((((q k).o).p) 6), .int .u8 ((((q k).o).p) 7), .int .u8 ((((q k).o).p) 8), .int .u8 ((((q k).o).p) 9), .int .u8 ((((q k).o).p) 10), .int .u8 ((((q k).o).p) 11), .int .u8 ((((q k).o).p) 12), .int .u8 ((((q k).o).p) 13), .int .u8 ((((q k).o).p) 14), .int .u8 ((((q k).o).p) 15), .int .u8 ((((q k).o).s) 0), .int .u8 ((((q k).o).s) 1), .int .u8 ((((q k).o).s) 2), .int .u8 ((((q k).o).s) 3), .int .u8 ((((q k).o).s) 4), .int .u8 ((((q k).o).s) 5), .int .u8 ((((q k).o).s) 6), .int .u8 ((((q k).o).s) 7), .int .u8 ((((q k).o).s) 8), .int .u8 ((((q k).o).s) 9), .int .u8 ((((q k).o).s) 10), .int .u8 ((((q k).o).s) 11), .int .u8 ((((q k).o).s) 12), .int .u8 ((((q k).o).s) 13), .int .u8 ((((q k).o).s) 14), .int .u8 ((((q k).o).s) 15)]) (by kernel_rfl) (by kernel_rfl) (Loads.ownL ho3 (n := 36) (by kernel_rfl) (by kernel_rfl) (by kernel_rfl)) ?_
        have hzs8 := hS.size
        have hzl9 := ht.lt
        have hzl10 := hr.lt
        have hzl11 := ho3.lt
        refine VL_call (d := 56) (f := 12) (by kernel_rfl) (by kernel_rfl) (by kernel_rfl) Try.call12 (got_any ab1 (walkA here wait q k) _ ht ((q k).t) ((q k).o) (walkA_waits _ _ _ _) (hA0 k)) ?_
        rintro _ w13 ⟨rfl, ht2, hc5⟩
        replace hS := Step.transNew hS hc5 (fun _ _ _ => by omega)
        replace hr := hr.step hc5 (show ¬ rb1 = ab1 by omega)
        replace ho3 := ho3.step hc5 (show ¬ b2 = ab1 by omega)
        have hzht2 := ht2.lt
        refine VL_pure 9 [2, 3, 9, 10, 38, 39, 12, 57, 58] [(2, .slice (some ⟨lb, lo, none⟩) n cc), (3, .int .i64 t), (9, .pointer (some ⟨ab1, 0, none⟩)), (10, .pointer (some ⟨rb1, 0, none⟩)), (38, .int .i64 ((n : Nat) : Int)), (39, .int .i64 ((k : Nat) : Int)), (12, .pointer (some ⟨b2, 0, none⟩)), (57, .agg #[.int .i64 ((gotV (walkA here wait q k) ((q k).o)).k), .int .u8 ((gotV (walkA here wait q k) ((q k).o)).d), .bool ((gotV (walkA here wait q k) ((q k).o)).a), .int .u32 ((gotV (walkA here wait q k) ((q k).o)).tg), .int .u8 (((gotV (walkA here wait q k) ((q k).o)).p) 0), .int .u8 (((gotV (walkA here wait q k) ((q k).o)).p) 1), .int .u8 (((gotV (walkA here wait q k) ((q k).o)).p) 2), .int .u8 (((gotV (walkA here wait q k) ((q k).o)).p) 3), .int .u8 (((gotV (walkA here wait q k) ((q k).o)).p) 4), .int .u8 (((gotV (walkA here wait q k) ((q k).o)).p) 5), .int .u8 (((gotV (walkA here wait q k) ((q k).o)).p) 6), .int .u8 (((gotV (walkA here wait q k) ((q k).o)).p) 7), .int .u8 (((gotV (walkA here wait q k) ((q k).o)).p) 8), .int .u8 (((gotV (walkA here wait q k) ((q k).o)).p) 9), .int .u8 (((gotV (walkA here wait q k) ((q k).o)).p) 10), .int .u8 (((gotV (walkA here wait q k) ((q k).o)).p) 11), .int .u8 (((gotV (walkA here wait q k) ((q k).o)).p) 12), .int .u8 (((gotV (walkA here wait q k) ((q k).o)).p) 13), .int .u8 (((gotV (walkA here wait q k) ((q k).o)).p) 14), .int .u8 (((gotV (walkA here wait q k) ((q k).o)).p) 15), .int .u8 (((gotV (walkA here wait q k) ((q k).o)).s) 0), .int .u8 (((gotV (walkA here wait q k) ((q k).o)).s) 1), .int .u8 (((gotV (walkA here wait q k) ((q k).o)).s) 2), .int .u8 (((gotV (walkA here wait q k) ((q k).o)).s) 3), .int .u8 (((gotV (walkA here wait q k) ((q k).o)).s) 4), .int .u8 (((gotV (walkA here wait q k) ((q k).o)).s) 5), .int .u8 (((gotV (walkA here wait q k) ((q k).o)).s) 6), .int .u8 (((gotV (walkA here wait q k) ((q k).o)).s) 7), .int .u8 (((gotV (walkA here wait q k) ((q k).o)).s) 8), .int .u8 (((gotV (walkA here wait q k) ((q k).o)).s) 9), .int .u8 (((gotV (walkA here wait q k) ((q k).o)).s) 10), .int .u8 (((gotV (walkA here wait q k) ((q k).o)).s) 11), .int .u8 (((gotV (walkA here wait q k) ((q k).o)).s) 12), .int .u8 (((gotV (walkA here wait q k) ((q k).o)).s) 13), .int .u8 (((gotV (walkA here wait q k) ((q k).o)).s) 14), .int .u8 (((gotV (walkA here wait q k) ((q k).o)).s) 15)]), (58, .bool (gotB (walkA here wait q k) ((q k).o)))] (by kernel_rfl) rfl ?_
        have hzs9 := hS.size
        have hzl12 := hr.lt
        have hzl13 := ho3.lt
        have hzl14 := ht2.lt
        refine VL_box (d := 13) (t := 34) (c := #[.int .i64 0, .int .u8 0, .bool false, .int .u32 0, .int .u8 0, .int .u8 0, .int .u8 0, .int .u8 0, .int .u8 0, .int .u8 0, .int .u8 0, .int .u8 0, .int .u8 0, .int .u8 0, .int .u8 0, .int .u8 0, .int .u8 0, .int .u8 0, .int .u8 0, .int .u8 0, .int .u8 0, .int .u8 0, .int .u8 0, .int .u8 0, .int .u8 0, .int .u8 0, .int .u8 0, .int .u8 0, .int .u8 0, .int .u8 0, .int .u8 0, .int .u8 0, .int .u8 0, .int .u8 0, .int .u8 0, .int .u8 0]) (by kernel_rfl) (by kernel_rfl) ?_
        intro b3 w14 hn3
        replace hS := Step.trans hS (hn3.step No)
        replace hr := hr.no (hn3.step No)
        replace ho3 := ho3.no (hn3.step No)
        replace ht2 := ht2.no (hn3.step No)
        have ho4 := hn3.own
        have hzhn3 := hn3.size
        have hqhn3 := hn3.eqb
        refine VL_store (b := b3) (o := 0) (vs := [.int .i64 ((gotV (walkA here wait q k) ((q k).o)).k), .int .u8 ((gotV (walkA here wait q k) ((q k).o)).d), .bool ((gotV (walkA here wait q k) ((q k).o)).a), .int .u32 ((gotV (walkA here wait q k) ((q k).o)).tg), .int .u8 (((gotV (walkA here wait q k) ((q k).o)).p) 0), .int .u8 (((gotV (walkA here wait q k) ((q k).o)).p) 1), .int .u8 (((gotV (walkA here wait q k) ((q k).o)).p) 2), .int .u8 (((gotV (walkA here wait q k) ((q k).o)).p) 3), .int .u8 (((gotV (walkA here wait q k) ((q k).o)).p) 4), .int .u8 (((gotV (walkA here wait q k) ((q k).o)).p) 5), .int .u8 (((gotV (walkA here wait q k) ((q k).o)).p) 6), .int .u8 (((gotV (walkA here wait q k) ((q k).o)).p) 7), .int .u8 (((gotV (walkA here wait q k) ((q k).o)).p) 8), .int .u8 (((gotV (walkA here wait q k) ((q k).o)).p) 9), .int .u8 (((gotV (walkA here wait q k) ((q k).o)).p) 10), .int .u8 (((gotV (walkA here wait q k) ((q k).o)).p) 11), .int .u8 (((gotV (walkA here wait q k) ((q k).o)).p) 12), .int .u8 (((gotV (walkA here wait q k) ((q k).o)).p) 13), .int .u8 (((gotV (walkA here wait q k) ((q k).o)).p) 14), .int .u8 (((gotV (walkA here wait q k) ((q k).o)).p) 15), .int .u8 (((gotV (walkA here wait q k) ((q k).o)).s) 0), .int .u8 (((gotV (walkA here wait q k) ((q k).o)).s) 1), .int .u8 (((gotV (walkA here wait q k) ((q k).o)).s) 2), .int .u8 (((gotV (walkA here wait q k) ((q k).o)).s) 3), .int .u8 (((gotV (walkA here wait q k) ((q k).o)).s) 4), .int .u8 (((gotV (walkA here wait q k) ((q k).o)).s) 5), .int .u8 (((gotV (walkA here wait q k) ((q k).o)).s) 6), .int .u8 (((gotV (walkA here wait q k) ((q k).o)).s) 7), .int .u8 (((gotV (walkA here wait q k) ((q k).o)).s) 8), .int .u8 (((gotV (walkA here wait q k) ((q k).o)).s) 9), .int .u8 (((gotV (walkA here wait q k) ((q k).o)).s) 10), .int .u8 (((gotV (walkA here wait q k) ((q k).o)).s) 11), .int .u8 (((gotV (walkA here wait q k) ((q k).o)).s) 12), .int .u8 (((gotV (walkA here wait q k) ((q k).o)).s) 13), .int .u8 (((gotV (walkA here wait q k) ((q k).o)).s) 14), .int .u8 (((gotV (walkA here wait q k) ((q k).o)).s) 15)]) (by kernel_rfl) (by kernel_rfl) ho4 (Nat.le_of_ble_eq_true (by kernel_rfl)) ?_
        intro w15 hw2
        replace hS := Step.transNew hS hw2.step (fun _ _ _ => by omega)
        replace hr := hr.step hw2.step (show ¬ rb1 = b3 by omega)
        replace ho3 := ho3.step hw2.step (show ¬ b2 = b3 by omega)
        replace ht2 := ht2.step hw2.step (show ¬ ab1 = b3 by omega)
        have ho5 : Own w15 b3 #[.int .i64 ((gotV (walkA here wait q k) ((q k).o)).k), .int .u8 ((gotV (walkA here wait q k) ((q k).o)).d), .bool ((gotV (walkA here wait q k) ((q k).o)).a), .int .u32 ((gotV (walkA here wait q k) ((q k).o)).tg), .int .u8 (((gotV (walkA here wait q k) ((q k).o)).p) 0), .int .u8 (((gotV (walkA here wait q k) ((q k).o)).p) 1), .int .u8 (((gotV (walkA here wait q k) ((q k).o)).p) 2), .int .u8 (((gotV (walkA here wait q k) ((q k).o)).p) 3), .int .u8 (((gotV (walkA here wait q k) ((q k).o)).p) 4), .int .u8 (((gotV (walkA here wait q k) ((q k).o)).p) 5), .int .u8 (((gotV (walkA here wait q k) ((q k).o)).p) 6), .int .u8 (((gotV (walkA here wait q k) ((q k).o)).p) 7), .int .u8 (((gotV (walkA here wait q k) ((q k).o)).p) 8), .int .u8 (((gotV (walkA here wait q k) ((q k).o)).p) 9), .int .u8 (((gotV (walkA here wait q k) ((q k).o)).p) 10), .int .u8 (((gotV (walkA here wait q k) ((q k).o)).p) 11), .int .u8 (((gotV (walkA here wait q k) ((q k).o)).p) 12), .int .u8 (((gotV (walkA here wait q k) ((q k).o)).p) 13), .int .u8 (((gotV (walkA here wait q k) ((q k).o)).p) 14), .int .u8 (((gotV (walkA here wait q k) ((q k).o)).p) 15), .int .u8 (((gotV (walkA here wait q k) ((q k).o)).s) 0), .int .u8 (((gotV (walkA here wait q k) ((q k).o)).s) 1), .int .u8 (((gotV (walkA here wait q k) ((q k).o)).s) 2), .int .u8 (((gotV (walkA here wait q k) ((q k).o)).s) 3), .int .u8 (((gotV (walkA here wait q k) ((q k).o)).s) 4), .int .u8 (((gotV (walkA here wait q k) ((q k).o)).s) 5), .int .u8 (((gotV (walkA here wait q k) ((q k).o)).s) 6), .int .u8 (((gotV (walkA here wait q k) ((q k).o)).s) 7), .int .u8 (((gotV (walkA here wait q k) ((q k).o)).s) 8), .int .u8 (((gotV (walkA here wait q k) ((q k).o)).s) 9), .int .u8 (((gotV (walkA here wait q k) ((q k).o)).s) 10), .int .u8 (((gotV (walkA here wait q k) ((q k).o)).s) 11), .int .u8 (((gotV (walkA here wait q k) ((q k).o)).s) 12), .int .u8 (((gotV (walkA here wait q k) ((q k).o)).s) 13), .int .u8 (((gotV (walkA here wait q k) ((q k).o)).s) 14), .int .u8 (((gotV (walkA here wait q k) ((q k).o)).s) 15)] 34 := Own.cast hw2.own (by kernel_rfl)
        have hzhw2 := hw2.same
        refine VL_pure 12 [2, 3, 9, 10, 38, 39, 12, 13, 14] [(2, .slice (some ⟨lb, lo, none⟩) n cc), (3, .int .i64 t), (9, .pointer (some ⟨ab1, 0, none⟩)), (10, .pointer (some ⟨rb1, 0, none⟩)), (38, .int .i64 ((n : Nat) : Int)), (39, .int .i64 ((k : Nat) : Int)), (12, .pointer (some ⟨b2, 0, none⟩)), (13, .pointer (some ⟨b3, 0, none⟩)), (14, .bool (gotB (walkA here wait q k) ((q k).o)))] (by kernel_rfl) rfl ?_
        refine VL_end (by kernel_rfl) ?_
        refine VQ_next ?_
        refine VC_seq ?_
        refine VC_region ?_
        refine VL_pure 2 [2, 3, 9, 10, 38, 39, 12, 13, 14, 60, 61] [(2, .slice (some ⟨lb, lo, none⟩) n cc), (3, .int .i64 t), (9, .pointer (some ⟨ab1, 0, none⟩)), (10, .pointer (some ⟨rb1, 0, none⟩)), (38, .int .i64 ((n : Nat) : Int)), (39, .int .i64 ((k : Nat) : Int)), (12, .pointer (some ⟨b2, 0, none⟩)), (13, .pointer (some ⟨b3, 0, none⟩)), (14, .bool (gotB (walkA here wait q k) ((q k).o))), (60, .pointer (some ⟨rb1, 0, none⟩)), (61, .pointer (some ⟨b2, 1, none⟩))] (by kernel_rfl) rfl ?_
        refine VL_load (d := 62) (t := 3) (a := ⟨b2, 1, none⟩) (v := .int .i64 ((q k).t)) (by kernel_rfl) (by kernel_rfl) (Loads.own1 ho3 (by kernel_rfl) (by rfl)) ?_
        refine VL_pure 4 [2, 3, 9, 10, 38, 39, 12, 13, 14, 60, 62, 63] [(2, .slice (some ⟨lb, lo, none⟩) n cc), (3, .int .i64 t), (9, .pointer (some ⟨ab1, 0, none⟩)), (10, .pointer (some ⟨rb1, 0, none⟩)), (38, .int .i64 ((n : Nat) : Int)), (39, .int .i64 ((k : Nat) : Int)), (12, .pointer (some ⟨b2, 0, none⟩)), (13, .pointer (some ⟨b3, 0, none⟩)), (14, .bool (gotB (walkA here wait q k) ((q k).o))), (60, .pointer (some ⟨rb1, 0, none⟩)), (62, .int .i64 ((q k).t)), (63, .pointer (some ⟨b2, 2, none⟩))] (by kernel_rfl) rfl ?_
        refine VL_load (d := 64) (t := 31) (a := ⟨b2, 2, none⟩) (v := .agg #[.int .i64 (((q k).o).k), .int .u8 (((q k).o).d), .bool (((q k).o).a), .int .u32 (((q k).o).tg), .int .u8 ((((q k).o).p) 0), .int .u8 ((((q k).o).p) 1), .int .u8 ((((q k).o).p) 2), .int .u8 ((((q k).o).p) 3), .int .u8 ((((q k).o).p) 4), .int .u8 ((((q k).o).p) 5), .int .u8 ((((q k).o).p) 6), .int .u8 ((((q k).o).p) 7), .int .u8 ((((q k).o).p) 8), .int .u8 ((((q k).o).p) 9), .int .u8 ((((q k).o).p) 10), .int .u8 ((((q k).o).p) 11), .int .u8 ((((q k).o).p) 12), .int .u8 ((((q k).o).p) 13), .int .u8 ((((q k).o).p) 14), .int .u8 ((((q k).o).p) 15), .int .u8 ((((q k).o).s) 0), .int .u8 ((((q k).o).s) 1), .int .u8 ((((q k).o).s) 2), .int .u8 ((((q k).o).s) 3), .int .u8 ((((q k).o).s) 4), .int .u8 ((((q k).o).s) 5), .int .u8 ((((q k).o).s) 6), .int .u8 ((((q k).o).s) 7), .int .u8 ((((q k).o).s) 8), .int .u8 ((((q k).o).s) 9), .int .u8 ((((q k).o).s) 10), .int .u8 ((((q k).o).s) 11), .int .u8 ((((q k).o).s) 12), .int .u8 ((((q k).o).s) 13), .int .u8 ((((q k).o).s) 14), .int .u8 ((((q k).o).s) 15)]) (by kernel_rfl) (by kernel_rfl) (Loads.ownL ho3 (n := 36) (by kernel_rfl) (by kernel_rfl) (by kernel_rfl)) ?_
        have hzs10 := hS.size
        have hzl15 := hr.lt
        have hzl16 := ho3.lt
        have hzl17 := ht2.lt
        have hzl18 := ho5.lt
        refine VL_call (d := 65) (f := 13) (by kernel_rfl) (by kernel_rfl) (by kernel_rfl) Try.call13 (rgot_any rb1 (walkA here wait q k) _ hr ((q k).t) ((q k).o) (walkA_waits _ _ _ _)) ?_
        rintro _ w16 ⟨rfl, hr4, hc6⟩
        replace hS := Step.transNew hS hc6 (fun _ _ _ => by omega)
        replace ho3 := ho3.step hc6 (show ¬ b2 = rb1 by omega)
        replace ht2 := ht2.step hc6 (show ¬ ab1 = rb1 by omega)
        replace ho5 := ho5.step hc6 (show ¬ b3 = rb1 by omega)
        have hzhr4 := hr4.lt
        refine VL_pure 9 [2, 3, 9, 10, 38, 39, 12, 13, 14, 66, 67] [(2, .slice (some ⟨lb, lo, none⟩) n cc), (3, .int .i64 t), (9, .pointer (some ⟨ab1, 0, none⟩)), (10, .pointer (some ⟨rb1, 0, none⟩)), (38, .int .i64 ((n : Nat) : Int)), (39, .int .i64 ((k : Nat) : Int)), (12, .pointer (some ⟨b2, 0, none⟩)), (13, .pointer (some ⟨b3, 0, none⟩)), (14, .bool (gotB (walkA here wait q k) ((q k).o))), (66, .agg #[.int .i64 ((gotV (walkA here wait q k) ((q k).o)).k), .int .u8 ((gotV (walkA here wait q k) ((q k).o)).d), .bool ((gotV (walkA here wait q k) ((q k).o)).a), .int .u32 ((gotV (walkA here wait q k) ((q k).o)).tg), .int .u8 (((gotV (walkA here wait q k) ((q k).o)).p) 0), .int .u8 (((gotV (walkA here wait q k) ((q k).o)).p) 1), .int .u8 (((gotV (walkA here wait q k) ((q k).o)).p) 2), .int .u8 (((gotV (walkA here wait q k) ((q k).o)).p) 3), .int .u8 (((gotV (walkA here wait q k) ((q k).o)).p) 4), .int .u8 (((gotV (walkA here wait q k) ((q k).o)).p) 5), .int .u8 (((gotV (walkA here wait q k) ((q k).o)).p) 6), .int .u8 (((gotV (walkA here wait q k) ((q k).o)).p) 7), .int .u8 (((gotV (walkA here wait q k) ((q k).o)).p) 8), .int .u8 (((gotV (walkA here wait q k) ((q k).o)).p) 9), .int .u8 (((gotV (walkA here wait q k) ((q k).o)).p) 10), .int .u8 (((gotV (walkA here wait q k) ((q k).o)).p) 11), .int .u8 (((gotV (walkA here wait q k) ((q k).o)).p) 12), .int .u8 (((gotV (walkA here wait q k) ((q k).o)).p) 13), .int .u8 (((gotV (walkA here wait q k) ((q k).o)).p) 14), .int .u8 (((gotV (walkA here wait q k) ((q k).o)).p) 15), .int .u8 (((gotV (walkA here wait q k) ((q k).o)).s) 0), .int .u8 (((gotV (walkA here wait q k) ((q k).o)).s) 1), .int .u8 (((gotV (walkA here wait q k) ((q k).o)).s) 2), .int .u8 (((gotV (walkA here wait q k) ((q k).o)).s) 3), .int .u8 (((gotV (walkA here wait q k) ((q k).o)).s) 4), .int .u8 (((gotV (walkA here wait q k) ((q k).o)).s) 5), .int .u8 (((gotV (walkA here wait q k) ((q k).o)).s) 6), .int .u8 (((gotV (walkA here wait q k) ((q k).o)).s) 7), .int .u8 (((gotV (walkA here wait q k) ((q k).o)).s) 8), .int .u8 (((gotV (walkA here wait q k) ((q k).o)).s) 9), .int .u8 (((gotV (walkA here wait q k) ((q k).o)).s) 10), .int .u8 (((gotV (walkA here wait q k) ((q k).o)).s) 11), .int .u8 (((gotV (walkA here wait q k) ((q k).o)).s) 12), .int .u8 (((gotV (walkA here wait q k) ((q k).o)).s) 13), .int .u8 (((gotV (walkA here wait q k) ((q k).o)).s) 14), .int .u8 (((gotV (walkA here wait q k) ((q k).o)).s) 15)]), (67, .bool (gotB (walkA here wait q k) ((q k).o)))] (by kernel_rfl) rfl ?_
        have hzs11 := hS.size
        have hzl19 := ho3.lt
        have hzl20 := ht2.lt
        have hzl21 := ho5.lt
        have hzl22 := hr4.lt
        refine VL_box (d := 15) (t := 31) (c := #[.int .i64 0, .int .u8 0, .bool false, .int .u32 0, .int .u8 0, .int .u8 0, .int .u8 0, .int .u8 0, .int .u8 0, .int .u8 0, .int .u8 0, .int .u8 0, .int .u8 0, .int .u8 0, .int .u8 0, .int .u8 0, .int .u8 0, .int .u8 0, .int .u8 0, .int .u8 0, .int .u8 0, .int .u8 0, .int .u8 0, .int .u8 0, .int .u8 0, .int .u8 0, .int .u8 0, .int .u8 0, .int .u8 0, .int .u8 0, .int .u8 0, .int .u8 0, .int .u8 0, .int .u8 0, .int .u8 0, .int .u8 0]) (by kernel_rfl) (by kernel_rfl) ?_
        intro b4 w17 hn4
        replace hS := Step.trans hS (hn4.step No)
        replace ho3 := ho3.no (hn4.step No)
        replace ht2 := ht2.no (hn4.step No)
        replace ho5 := ho5.no (hn4.step No)
        replace hr4 := hr4.no (hn4.step No)
        have ho6 := hn4.own
        have hzhn4 := hn4.size
        have hqhn4 := hn4.eqb
        refine VL_store (b := b4) (o := 0) (vs := [.int .i64 ((gotV (walkA here wait q k) ((q k).o)).k), .int .u8 ((gotV (walkA here wait q k) ((q k).o)).d), .bool ((gotV (walkA here wait q k) ((q k).o)).a), .int .u32 ((gotV (walkA here wait q k) ((q k).o)).tg), .int .u8 (((gotV (walkA here wait q k) ((q k).o)).p) 0), .int .u8 (((gotV (walkA here wait q k) ((q k).o)).p) 1), .int .u8 (((gotV (walkA here wait q k) ((q k).o)).p) 2), .int .u8 (((gotV (walkA here wait q k) ((q k).o)).p) 3), .int .u8 (((gotV (walkA here wait q k) ((q k).o)).p) 4), .int .u8 (((gotV (walkA here wait q k) ((q k).o)).p) 5), .int .u8 (((gotV (walkA here wait q k) ((q k).o)).p) 6), .int .u8 (((gotV (walkA here wait q k) ((q k).o)).p) 7), .int .u8 (((gotV (walkA here wait q k) ((q k).o)).p) 8), .int .u8 (((gotV (walkA here wait q k) ((q k).o)).p) 9), .int .u8 (((gotV (walkA here wait q k) ((q k).o)).p) 10), .int .u8 (((gotV (walkA here wait q k) ((q k).o)).p) 11), .int .u8 (((gotV (walkA here wait q k) ((q k).o)).p) 12), .int .u8 (((gotV (walkA here wait q k) ((q k).o)).p) 13), .int .u8 (((gotV (walkA here wait q k) ((q k).o)).p) 14), .int .u8 (((gotV (walkA here wait q k) ((q k).o)).p) 15), .int .u8 (((gotV (walkA here wait q k) ((q k).o)).s) 0), .int .u8 (((gotV (walkA here wait q k) ((q k).o)).s) 1), .int .u8 (((gotV (walkA here wait q k) ((q k).o)).s) 2), .int .u8 (((gotV (walkA here wait q k) ((q k).o)).s) 3), .int .u8 (((gotV (walkA here wait q k) ((q k).o)).s) 4), .int .u8 (((gotV (walkA here wait q k) ((q k).o)).s) 5), .int .u8 (((gotV (walkA here wait q k) ((q k).o)).s) 6), .int .u8 (((gotV (walkA here wait q k) ((q k).o)).s) 7), .int .u8 (((gotV (walkA here wait q k) ((q k).o)).s) 8), .int .u8 (((gotV (walkA here wait q k) ((q k).o)).s) 9), .int .u8 (((gotV (walkA here wait q k) ((q k).o)).s) 10), .int .u8 (((gotV (walkA here wait q k) ((q k).o)).s) 11), .int .u8 (((gotV (walkA here wait q k) ((q k).o)).s) 12), .int .u8 (((gotV (walkA here wait q k) ((q k).o)).s) 13), .int .u8 (((gotV (walkA here wait q k) ((q k).o)).s) 14), .int .u8 (((gotV (walkA here wait q k) ((q k).o)).s) 15)]) (by kernel_rfl) (by kernel_rfl) ho6 (Nat.le_of_ble_eq_true (by kernel_rfl)) ?_
        intro w18 hw3
        replace hS := Step.transNew hS hw3.step (fun _ _ _ => by omega)
        replace ho3 := ho3.step hw3.step (show ¬ b2 = b4 by omega)
        replace ht2 := ht2.step hw3.step (show ¬ ab1 = b4 by omega)
        replace ho5 := ho5.step hw3.step (show ¬ b3 = b4 by omega)
        replace hr4 := hr4.step hw3.step (show ¬ rb1 = b4 by omega)
        have ho7 : Own w18 b4 #[.int .i64 ((gotV (walkA here wait q k) ((q k).o)).k), .int .u8 ((gotV (walkA here wait q k) ((q k).o)).d), .bool ((gotV (walkA here wait q k) ((q k).o)).a), .int .u32 ((gotV (walkA here wait q k) ((q k).o)).tg), .int .u8 (((gotV (walkA here wait q k) ((q k).o)).p) 0), .int .u8 (((gotV (walkA here wait q k) ((q k).o)).p) 1), .int .u8 (((gotV (walkA here wait q k) ((q k).o)).p) 2), .int .u8 (((gotV (walkA here wait q k) ((q k).o)).p) 3), .int .u8 (((gotV (walkA here wait q k) ((q k).o)).p) 4), .int .u8 (((gotV (walkA here wait q k) ((q k).o)).p) 5), .int .u8 (((gotV (walkA here wait q k) ((q k).o)).p) 6), .int .u8 (((gotV (walkA here wait q k) ((q k).o)).p) 7), .int .u8 (((gotV (walkA here wait q k) ((q k).o)).p) 8), .int .u8 (((gotV (walkA here wait q k) ((q k).o)).p) 9), .int .u8 (((gotV (walkA here wait q k) ((q k).o)).p) 10), .int .u8 (((gotV (walkA here wait q k) ((q k).o)).p) 11), .int .u8 (((gotV (walkA here wait q k) ((q k).o)).p) 12), .int .u8 (((gotV (walkA here wait q k) ((q k).o)).p) 13), .int .u8 (((gotV (walkA here wait q k) ((q k).o)).p) 14), .int .u8 (((gotV (walkA here wait q k) ((q k).o)).p) 15), .int .u8 (((gotV (walkA here wait q k) ((q k).o)).s) 0), .int .u8 (((gotV (walkA here wait q k) ((q k).o)).s) 1), .int .u8 (((gotV (walkA here wait q k) ((q k).o)).s) 2), .int .u8 (((gotV (walkA here wait q k) ((q k).o)).s) 3), .int .u8 (((gotV (walkA here wait q k) ((q k).o)).s) 4), .int .u8 (((gotV (walkA here wait q k) ((q k).o)).s) 5), .int .u8 (((gotV (walkA here wait q k) ((q k).o)).s) 6), .int .u8 (((gotV (walkA here wait q k) ((q k).o)).s) 7), .int .u8 (((gotV (walkA here wait q k) ((q k).o)).s) 8), .int .u8 (((gotV (walkA here wait q k) ((q k).o)).s) 9), .int .u8 (((gotV (walkA here wait q k) ((q k).o)).s) 10), .int .u8 (((gotV (walkA here wait q k) ((q k).o)).s) 11), .int .u8 (((gotV (walkA here wait q k) ((q k).o)).s) 12), .int .u8 (((gotV (walkA here wait q k) ((q k).o)).s) 13), .int .u8 (((gotV (walkA here wait q k) ((q k).o)).s) 14), .int .u8 (((gotV (walkA here wait q k) ((q k).o)).s) 15)] 31 := Own.cast hw3.own (by kernel_rfl)
        have hzhw3 := hw3.same
        refine VL_pure 12 [2, 3, 9, 10, 38, 39, 12, 13, 14, 15, 16] [(2, .slice (some ⟨lb, lo, none⟩) n cc), (3, .int .i64 t), (9, .pointer (some ⟨ab1, 0, none⟩)), (10, .pointer (some ⟨rb1, 0, none⟩)), (38, .int .i64 ((n : Nat) : Int)), (39, .int .i64 ((k : Nat) : Int)), (12, .pointer (some ⟨b2, 0, none⟩)), (13, .pointer (some ⟨b3, 0, none⟩)), (14, .bool (gotB (walkA here wait q k) ((q k).o))), (15, .pointer (some ⟨b4, 0, none⟩)), (16, .bool (gotB (walkA here wait q k) ((q k).o)))] (by kernel_rfl) rfl ?_
        refine VL_end (by kernel_rfl) ?_
        refine VQ_next ?_
        refine VC_seq ?_
        refine VC_region ?_
        refine VL_load (d := 68) (t := 34) (a := ⟨b3, 0, none⟩) (v := .agg #[.int .i64 ((gotV (walkA here wait q k) ((q k).o)).k), .int .u8 ((gotV (walkA here wait q k) ((q k).o)).d), .bool ((gotV (walkA here wait q k) ((q k).o)).a), .int .u32 ((gotV (walkA here wait q k) ((q k).o)).tg), .int .u8 (((gotV (walkA here wait q k) ((q k).o)).p) 0), .int .u8 (((gotV (walkA here wait q k) ((q k).o)).p) 1), .int .u8 (((gotV (walkA here wait q k) ((q k).o)).p) 2), .int .u8 (((gotV (walkA here wait q k) ((q k).o)).p) 3), .int .u8 (((gotV (walkA here wait q k) ((q k).o)).p) 4), .int .u8 (((gotV (walkA here wait q k) ((q k).o)).p) 5), .int .u8 (((gotV (walkA here wait q k) ((q k).o)).p) 6), .int .u8 (((gotV (walkA here wait q k) ((q k).o)).p) 7), .int .u8 (((gotV (walkA here wait q k) ((q k).o)).p) 8), .int .u8 (((gotV (walkA here wait q k) ((q k).o)).p) 9), .int .u8 (((gotV (walkA here wait q k) ((q k).o)).p) 10), .int .u8 (((gotV (walkA here wait q k) ((q k).o)).p) 11), .int .u8 (((gotV (walkA here wait q k) ((q k).o)).p) 12), .int .u8 (((gotV (walkA here wait q k) ((q k).o)).p) 13), .int .u8 (((gotV (walkA here wait q k) ((q k).o)).p) 14), .int .u8 (((gotV (walkA here wait q k) ((q k).o)).p) 15), .int .u8 (((gotV (walkA here wait q k) ((q k).o)).s) 0), .int .u8 (((gotV (walkA here wait q k) ((q k).o)).s) 1), .int .u8 (((gotV (walkA here wait q k) ((q k).o)).s) 2), .int .u8 (((gotV (walkA here wait q k) ((q k).o)).s) 3), .int .u8 (((gotV (walkA here wait q k) ((q k).o)).s) 4), .int .u8 (((gotV (walkA here wait q k) ((q k).o)).s) 5), .int .u8 (((gotV (walkA here wait q k) ((q k).o)).s) 6), .int .u8 (((gotV (walkA here wait q k) ((q k).o)).s) 7), .int .u8 (((gotV (walkA here wait q k) ((q k).o)).s) 8), .int .u8 (((gotV (walkA here wait q k) ((q k).o)).s) 9), .int .u8 (((gotV (walkA here wait q k) ((q k).o)).s) 10), .int .u8 (((gotV (walkA here wait q k) ((q k).o)).s) 11), .int .u8 (((gotV (walkA here wait q k) ((q k).o)).s) 12), .int .u8 (((gotV (walkA here wait q k) ((q k).o)).s) 13), .int .u8 (((gotV (walkA here wait q k) ((q k).o)).s) 14), .int .u8 (((gotV (walkA here wait q k) ((q k).o)).s) 15)]) (by kernel_rfl) (by kernel_rfl) (Loads.ownL ho5 (n := 36) (by kernel_rfl) (by kernel_rfl) (by kernel_rfl)) ?_
        refine VL_load (d := 69) (t := 31) (a := ⟨b4, 0, none⟩) (v := .agg #[.int .i64 ((gotV (walkA here wait q k) ((q k).o)).k), .int .u8 ((gotV (walkA here wait q k) ((q k).o)).d), .bool ((gotV (walkA here wait q k) ((q k).o)).a), .int .u32 ((gotV (walkA here wait q k) ((q k).o)).tg), .int .u8 (((gotV (walkA here wait q k) ((q k).o)).p) 0), .int .u8 (((gotV (walkA here wait q k) ((q k).o)).p) 1), .int .u8 (((gotV (walkA here wait q k) ((q k).o)).p) 2), .int .u8 (((gotV (walkA here wait q k) ((q k).o)).p) 3), .int .u8 (((gotV (walkA here wait q k) ((q k).o)).p) 4), .int .u8 (((gotV (walkA here wait q k) ((q k).o)).p) 5), .int .u8 (((gotV (walkA here wait q k) ((q k).o)).p) 6), .int .u8 (((gotV (walkA here wait q k) ((q k).o)).p) 7), .int .u8 (((gotV (walkA here wait q k) ((q k).o)).p) 8), .int .u8 (((gotV (walkA here wait q k) ((q k).o)).p) 9), .int .u8 (((gotV (walkA here wait q k) ((q k).o)).p) 10), .int .u8 (((gotV (walkA here wait q k) ((q k).o)).p) 11), .int .u8 (((gotV (walkA here wait q k) ((q k).o)).p) 12), .int .u8 (((gotV (walkA here wait q k) ((q k).o)).p) 13), .int .u8 (((gotV (walkA here wait q k) ((q k).o)).p) 14), .int .u8 (((gotV (walkA here wait q k) ((q k).o)).p) 15), .int .u8 (((gotV (walkA here wait q k) ((q k).o)).s) 0), .int .u8 (((gotV (walkA here wait q k) ((q k).o)).s) 1), .int .u8 (((gotV (walkA here wait q k) ((q k).o)).s) 2), .int .u8 (((gotV (walkA here wait q k) ((q k).o)).s) 3), .int .u8 (((gotV (walkA here wait q k) ((q k).o)).s) 4), .int .u8 (((gotV (walkA here wait q k) ((q k).o)).s) 5), .int .u8 (((gotV (walkA here wait q k) ((q k).o)).s) 6), .int .u8 (((gotV (walkA here wait q k) ((q k).o)).s) 7), .int .u8 (((gotV (walkA here wait q k) ((q k).o)).s) 8), .int .u8 (((gotV (walkA here wait q k) ((q k).o)).s) 9), .int .u8 (((gotV (walkA here wait q k) ((q k).o)).s) 10), .int .u8 (((gotV (walkA here wait q k) ((q k).o)).s) 11), .int .u8 (((gotV (walkA here wait q k) ((q k).o)).s) 12), .int .u8 (((gotV (walkA here wait q k) ((q k).o)).s) 13), .int .u8 (((gotV (walkA here wait q k) ((q k).o)).s) 14), .int .u8 (((gotV (walkA here wait q k) ((q k).o)).s) 15)]) (by kernel_rfl) (by kernel_rfl) (Loads.ownL ho7 (n := 36) (by kernel_rfl) (by kernel_rfl) (by kernel_rfl)) ?_
        refine VL_agEq (d := 70) (dd := 9) (ls := ([.int .i64] ++ [.int .u8] ++ [.bool] ++ [.int .u32] ++ (rep 16 [.int .u8]) ++ (rep 16 [.int .u8]) ++ [])) (pos := false) (t := 31) (xs := #[.int .i64 ((gotV (walkA here wait q k) ((q k).o)).k), .int .u8 ((gotV (walkA here wait q k) ((q k).o)).d), .bool ((gotV (walkA here wait q k) ((q k).o)).a), .int .u32 ((gotV (walkA here wait q k) ((q k).o)).tg), .int .u8 (((gotV (walkA here wait q k) ((q k).o)).p) 0), .int .u8 (((gotV (walkA here wait q k) ((q k).o)).p) 1), .int .u8 (((gotV (walkA here wait q k) ((q k).o)).p) 2), .int .u8 (((gotV (walkA here wait q k) ((q k).o)).p) 3), .int .u8 (((gotV (walkA here wait q k) ((q k).o)).p) 4), .int .u8 (((gotV (walkA here wait q k) ((q k).o)).p) 5), .int .u8 (((gotV (walkA here wait q k) ((q k).o)).p) 6), .int .u8 (((gotV (walkA here wait q k) ((q k).o)).p) 7), .int .u8 (((gotV (walkA here wait q k) ((q k).o)).p) 8), .int .u8 (((gotV (walkA here wait q k) ((q k).o)).p) 9), .int .u8 (((gotV (walkA here wait q k) ((q k).o)).p) 10), .int .u8 (((gotV (walkA here wait q k) ((q k).o)).p) 11), .int .u8 (((gotV (walkA here wait q k) ((q k).o)).p) 12), .int .u8 (((gotV (walkA here wait q k) ((q k).o)).p) 13), .int .u8 (((gotV (walkA here wait q k) ((q k).o)).p) 14), .int .u8 (((gotV (walkA here wait q k) ((q k).o)).p) 15), .int .u8 (((gotV (walkA here wait q k) ((q k).o)).s) 0), .int .u8 (((gotV (walkA here wait q k) ((q k).o)).s) 1), .int .u8 (((gotV (walkA here wait q k) ((q k).o)).s) 2), .int .u8 (((gotV (walkA here wait q k) ((q k).o)).s) 3), .int .u8 (((gotV (walkA here wait q k) ((q k).o)).s) 4), .int .u8 (((gotV (walkA here wait q k) ((q k).o)).s) 5), .int .u8 (((gotV (walkA here wait q k) ((q k).o)).s) 6), .int .u8 (((gotV (walkA here wait q k) ((q k).o)).s) 7), .int .u8 (((gotV (walkA here wait q k) ((q k).o)).s) 8), .int .u8 (((gotV (walkA here wait q k) ((q k).o)).s) 9), .int .u8 (((gotV (walkA here wait q k) ((q k).o)).s) 10), .int .u8 (((gotV (walkA here wait q k) ((q k).o)).s) 11), .int .u8 (((gotV (walkA here wait q k) ((q k).o)).s) 12), .int .u8 (((gotV (walkA here wait q k) ((q k).o)).s) 13), .int .u8 (((gotV (walkA here wait q k) ((q k).o)).s) 14), .int .u8 (((gotV (walkA here wait q k) ((q k).o)).s) 15)]) (ys := #[.int .i64 ((gotV (walkA here wait q k) ((q k).o)).k), .int .u8 ((gotV (walkA here wait q k) ((q k).o)).d), .bool ((gotV (walkA here wait q k) ((q k).o)).a), .int .u32 ((gotV (walkA here wait q k) ((q k).o)).tg), .int .u8 (((gotV (walkA here wait q k) ((q k).o)).p) 0), .int .u8 (((gotV (walkA here wait q k) ((q k).o)).p) 1), .int .u8 (((gotV (walkA here wait q k) ((q k).o)).p) 2), .int .u8 (((gotV (walkA here wait q k) ((q k).o)).p) 3), .int .u8 (((gotV (walkA here wait q k) ((q k).o)).p) 4), .int .u8 (((gotV (walkA here wait q k) ((q k).o)).p) 5), .int .u8 (((gotV (walkA here wait q k) ((q k).o)).p) 6), .int .u8 (((gotV (walkA here wait q k) ((q k).o)).p) 7), .int .u8 (((gotV (walkA here wait q k) ((q k).o)).p) 8), .int .u8 (((gotV (walkA here wait q k) ((q k).o)).p) 9), .int .u8 (((gotV (walkA here wait q k) ((q k).o)).p) 10), .int .u8 (((gotV (walkA here wait q k) ((q k).o)).p) 11), .int .u8 (((gotV (walkA here wait q k) ((q k).o)).p) 12), .int .u8 (((gotV (walkA here wait q k) ((q k).o)).p) 13), .int .u8 (((gotV (walkA here wait q k) ((q k).o)).p) 14), .int .u8 (((gotV (walkA here wait q k) ((q k).o)).p) 15), .int .u8 (((gotV (walkA here wait q k) ((q k).o)).s) 0), .int .u8 (((gotV (walkA here wait q k) ((q k).o)).s) 1), .int .u8 (((gotV (walkA here wait q k) ((q k).o)).s) 2), .int .u8 (((gotV (walkA here wait q k) ((q k).o)).s) 3), .int .u8 (((gotV (walkA here wait q k) ((q k).o)).s) 4), .int .u8 (((gotV (walkA here wait q k) ((q k).o)).s) 5), .int .u8 (((gotV (walkA here wait q k) ((q k).o)).s) 6), .int .u8 (((gotV (walkA here wait q k) ((q k).o)).s) 7), .int .u8 (((gotV (walkA here wait q k) ((q k).o)).s) 8), .int .u8 (((gotV (walkA here wait q k) ((q k).o)).s) 9), .int .u8 (((gotV (walkA here wait q k) ((q k).o)).s) 10), .int .u8 (((gotV (walkA here wait q k) ((q k).o)).s) 11), .int .u8 (((gotV (walkA here wait q k) ((q k).o)).s) 12), .int .u8 (((gotV (walkA here wait q k) ((q k).o)).s) 13), .int .u8 (((gotV (walkA here wait q k) ((q k).o)).s) 14), .int .u8 (((gotV (walkA here wait q k) ((q k).o)).s) 15)]) (by kernel_rfl) (by kernel_rfl) (by kernel_rfl) (by kernel_rfl) (by first | exact ⟨⟨_, rfl⟩, ⟨_, rfl⟩, ⟨_, rfl⟩, ⟨_, rfl⟩, ⟨_, rfl⟩, ⟨_, rfl⟩, ⟨_, rfl⟩, ⟨_, rfl⟩, ⟨_, rfl⟩, ⟨_, rfl⟩, ⟨_, rfl⟩, ⟨_, rfl⟩, ⟨_, rfl⟩, ⟨_, rfl⟩, ⟨_, rfl⟩, ⟨_, rfl⟩, ⟨_, rfl⟩, ⟨_, rfl⟩, ⟨_, rfl⟩, ⟨_, rfl⟩, ⟨_, rfl⟩, ⟨_, rfl⟩, ⟨_, rfl⟩, ⟨_, rfl⟩, ⟨_, rfl⟩, ⟨_, rfl⟩, ⟨_, rfl⟩, ⟨_, rfl⟩, ⟨_, rfl⟩, ⟨_, rfl⟩, ⟨_, rfl⟩, ⟨_, rfl⟩, ⟨_, rfl⟩, ⟨_, rfl⟩, ⟨_, rfl⟩, ⟨_, rfl⟩, trivial⟩ | trivial) (by first | exact ⟨⟨_, rfl⟩, ⟨_, rfl⟩, ⟨_, rfl⟩, ⟨_, rfl⟩, ⟨_, rfl⟩, ⟨_, rfl⟩, ⟨_, rfl⟩, ⟨_, rfl⟩, ⟨_, rfl⟩, ⟨_, rfl⟩, ⟨_, rfl⟩, ⟨_, rfl⟩, ⟨_, rfl⟩, ⟨_, rfl⟩, ⟨_, rfl⟩, ⟨_, rfl⟩, ⟨_, rfl⟩, ⟨_, rfl⟩, ⟨_, rfl⟩, ⟨_, rfl⟩, ⟨_, rfl⟩, ⟨_, rfl⟩, ⟨_, rfl⟩, ⟨_, rfl⟩, ⟨_, rfl⟩, ⟨_, rfl⟩, ⟨_, rfl⟩, ⟨_, rfl⟩, ⟨_, rfl⟩, ⟨_, rfl⟩, ⟨_, rfl⟩, ⟨_, rfl⟩, ⟨_, rfl⟩, ⟨_, rfl⟩, ⟨_, rfl⟩, ⟨_, rfl⟩, trivial⟩ | trivial) false (by exact om_ne _) ?_
        refine VL_pure 7 [2, 3, 9, 10, 38, 39, 12, 71, 74] [(2, .slice (some ⟨lb, lo, none⟩) n cc), (3, .int .i64 t), (9, .pointer (some ⟨ab1, 0, none⟩)), (10, .pointer (some ⟨rb1, 0, none⟩)), (38, .int .i64 ((n : Nat) : Int)), (39, .int .i64 ((k : Nat) : Int)), (12, .pointer (some ⟨b2, 0, none⟩)), (71, .bool false), (74, .bool (!((gotB (walkA here wait q k) ((q k).o)) == (gotB (walkA here wait q k) ((q k).o)))))] (by kernel_rfl) rfl ?_
        refine VL_eq [(2, .slice (some ⟨lb, lo, none⟩) n cc), (3, .int .i64 t), (9, .pointer (some ⟨ab1, 0, none⟩)), (10, .pointer (some ⟨rb1, 0, none⟩)), (38, .int .i64 ((n : Nat) : Int)), (39, .int .i64 ((k : Nat) : Int)), (12, .pointer (some ⟨b2, 0, none⟩)), (71, .bool false), (74, .bool false)] (by simp) ?_
        refine VL_pure 8 [2, 3, 9, 10, 38, 39, 12, 75] [(2, .slice (some ⟨lb, lo, none⟩) n cc), (3, .int .i64 t), (9, .pointer (some ⟨ab1, 0, none⟩)), (10, .pointer (some ⟨rb1, 0, none⟩)), (38, .int .i64 ((n : Nat) : Int)), (39, .int .i64 ((k : Nat) : Int)), (12, .pointer (some ⟨b2, 0, none⟩)), (75, .bool false)] (by kernel_rfl) rfl ?_
        refine VL_end (by kernel_rfl) ?_
        refine VQ_next ?_
        refine VC_false (by kernel_rfl) ?_
        refine VC_skip ?_
        refine VQ_block_normal ?_
        refine VQ_next ?_
        refine VC_seq ?_
        refine VC_region ?_
        refine VL_pure 2 [2, 3, 9, 10, 38, 39, 12, 100, 101] [(2, .slice (some ⟨lb, lo, none⟩) n cc), (3, .int .i64 t), (9, .pointer (some ⟨ab1, 0, none⟩)), (10, .pointer (some ⟨rb1, 0, none⟩)), (38, .int .i64 ((n : Nat) : Int)), (39, .int .i64 ((k : Nat) : Int)), (12, .pointer (some ⟨b2, 0, none⟩)), (100, .pointer (some ⟨ab1, 0, none⟩)), (101, .int .i64 t)] (by kernel_rfl) rfl ?_
        have hzs12 := hS.size
        have hzl23 := ho3.lt
        have hzl24 := ht2.lt
        have hzl25 := ho5.lt
        have hzl26 := hr4.lt
        have hzl27 := ho7.lt
        refine VL_call (d := 102) (f := 16) (by kernel_rfl) (by kernel_rfl) (by kernel_rfl) Try.call16 (state_any ab1 (gotA (walkA here wait q k) ((q k).t) ((q k).o)) _ ht2 t) ?_
        rintro _ w19 ⟨rfl, hc7⟩
        replace hS := Step.trans hS hc7
        replace ho3 := ho3.no hc7
        replace ht2 := ht2.no hc7
        replace ho5 := ho5.no hc7
        replace hr4 := hr4.no hc7
        replace ho7 := ho7.no hc7
        refine VL_pure 8 [2, 3, 9, 10, 38, 39, 12, 17, 18] [(2, .slice (some ⟨lb, lo, none⟩) n cc), (3, .int .i64 t), (9, .pointer (some ⟨ab1, 0, none⟩)), (10, .pointer (some ⟨rb1, 0, none⟩)), (38, .int .i64 ((n : Nat) : Int)), (39, .int .i64 ((k : Nat) : Int)), (12, .pointer (some ⟨b2, 0, none⟩)), (17, .bool (aheadA (gotA (walkA here wait q k) ((q k).t) ((q k).o)) t)), (18, .bool (behindA (gotA (walkA here wait q k) ((q k).t) ((q k).o)) t))] (by kernel_rfl) rfl ?_
        refine VL_end (by kernel_rfl) ?_
        refine VQ_next ?_
        refine VC_seq ?_
        refine VC_region ?_
        refine VL_pure 2 [2, 3, 9, 10, 38, 39, 12, 17, 18, 106, 107] [(2, .slice (some ⟨lb, lo, none⟩) n cc), (3, .int .i64 t), (9, .pointer (some ⟨ab1, 0, none⟩)), (10, .pointer (some ⟨rb1, 0, none⟩)), (38, .int .i64 ((n : Nat) : Int)), (39, .int .i64 ((k : Nat) : Int)), (12, .pointer (some ⟨b2, 0, none⟩)), (17, .bool (aheadA (gotA (walkA here wait q k) ((q k).t) ((q k).o)) t)), (18, .bool (behindA (gotA (walkA here wait q k) ((q k).t) ((q k).o)) t)), (106, .pointer (some ⟨rb1, 0, none⟩)), (107, .int .i64 t)] (by kernel_rfl) rfl ?_
        have hzs13 := hS.size
        have hzl28 := ho3.lt
        have hzl29 := ht2.lt
        have hzl30 := ho5.lt
        have hzl31 := hr4.lt
        have hzl32 := ho7.lt
        refine VL_call (d := 108) (f := 17) (by kernel_rfl) (by kernel_rfl) (by kernel_rfl) Try.call17 (rstate_any rb1 (gotA (walkA here wait q k) ((q k).t) ((q k).o)) _ hr4 t) ?_
        rintro _ w20 ⟨rfl, hc8⟩
        replace hS := Step.trans hS hc8
        replace ho3 := ho3.no hc8
        replace ht2 := ht2.no hc8
        replace ho5 := ho5.no hc8
        replace hr4 := hr4.no hc8
        replace ho7 := ho7.no hc8
        refine VL_pure 8 [2, 3, 9, 10, 38, 39, 12, 17, 18, 19, 20] [(2, .slice (some ⟨lb, lo, none⟩) n cc), (3, .int .i64 t), (9, .pointer (some ⟨ab1, 0, none⟩)), (10, .pointer (some ⟨rb1, 0, none⟩)), (38, .int .i64 ((n : Nat) : Int)), (39, .int .i64 ((k : Nat) : Int)), (12, .pointer (some ⟨b2, 0, none⟩)), (17, .bool (aheadA (gotA (walkA here wait q k) ((q k).t) ((q k).o)) t)), (18, .bool (behindA (gotA (walkA here wait q k) ((q k).t) ((q k).o)) t)), (19, .bool (aheadA (gotA (walkA here wait q k) ((q k).t) ((q k).o)) t)), (20, .bool (behindA (gotA (walkA here wait q k) ((q k).t) ((q k).o)) t))] (by kernel_rfl) rfl ?_
        refine VL_end (by kernel_rfl) ?_
        refine VQ_next ?_
        refine VC_seq ?_
        have hs4 := drew_step w20
        have hs4z : w20.heap.size = w20.drew.heap.size := rfl
        refine VC_text [[], [], [0, 1], [0, 1, 2], [0, 1, 2, 3], [0, 1, 2, 3], [0, 1, 2, 3, 4, 5], [0, 1, 2, 3, 4, 5, 6], [0, 1, 2, 3, 4, 5, 6, 7], [0, 1, 2, 3, 4, 5, 6, 7, 8], [0, 1, 2, 3, 4, 5, 6, 7, 8], [0, 1, 2, 3, 4, 5, 6, 7, 8, 9, 10], [0, 1, 2, 3, 4, 5, 6, 7, 8], [0, 1, 2, 3, 4, 5, 6, 7, 8], [0, 1, 2, 3, 4, 5, 6, 7, 8, 9, 10, 11, 12, 13], [0, 1, 2, 3, 4, 5, 6, 7, 8, 9, 10, 11, 12, 13, 14], [0, 1, 2, 3, 4, 5, 6, 7, 8, 9, 10, 11, 12, 13, 14, 15], [0, 1, 2, 3, 4, 5, 6, 7, 8, 9, 10, 11, 12, 13, 14, 15, 16], [0, 1, 2, 3, 4, 5, 6, 7, 8, 9, 10, 11, 12, 13, 14, 15, 16, 17], [0, 1, 2, 3, 4, 5, 6, 7, 8, 9, 10, 11, 12, 13, 14, 15, 16, 17, 18], [0, 1, 2, 3, 4, 5, 6, 7, 8, 9, 10, 11, 12, 13, 14, 15, 16, 17, 18], [0, 1, 2, 3, 4, 5, 6, 7, 8, 9, 10, 11, 12, 13, 14, 15, 16, 17, 18, 20], [0, 1, 2, 3, 4, 5, 6, 7, 8, 9, 10, 11, 12, 13, 14, 15, 16, 17, 18, 19, 20, 21], [0, 1, 2, 3, 4, 5, 6, 7, 8, 9, 10, 11, 12, 13, 14, 15, 16, 17, 18], [0, 1, 2, 3, 4, 5, 6, 7, 8, 9, 10, 11, 12, 13, 14, 15, 16, 17, 18], [0, 1, 2, 3, 4, 5, 6, 7, 8, 9, 10, 11, 12, 13, 14, 15, 16, 17, 18, 24], [0, 1, 2, 3, 4, 5, 6, 7, 8, 9, 10, 11, 12, 13, 14, 15, 16, 17, 18, 19, 20, 21, 22, 23, 24, 25], [0, 1, 2, 3, 4, 5, 6, 7, 8, 9, 10, 11, 12, 13, 14, 15, 16, 17, 18, 19, 20, 21, 22, 23, 24, 25, 26], [0, 1, 2, 3, 4, 5, 6, 7, 8, 9, 10, 11, 12, 13, 14, 15, 16, 17, 18, 19, 20, 21, 22, 23, 24, 25, 26, 27], [0, 1, 2, 3, 4, 5, 6, 7, 8, 9, 10, 11, 12, 13, 14, 15, 16, 17, 18, 19, 20, 21, 22, 23, 24, 25, 26, 27, 28]] 26 (fun x y => Step (fun k => w20.heap.size ≤ k) x y) [11, 14, 15, 22] [0, 1, 2, 3, 4, 5, 6, 7, 8, 9, 10, 12, 13, 11, 14, 15, 16, 17, 18, 19, 20, 21, 23, 24, 25, 22] (by kernel_rfl) (by kernel_rfl) (by kernel_rfl) (by kernel_rfl) (fun x => Step.refl _ x) (fun h k => Step.trans h k) Step.weak ?_
        have hzs14 := hS.size
        have hzl33 := ho3.lt
        have hzl34 := ht2.lt
        have hzl35 := ho5.lt
        have hzl36 := hr4.lt
        have hzl37 := ho7.lt
        generalize w20.drew = w21 at hs4 hs4z ⊢
        replace hS := Step.trans hS hs4
        replace ho3 := ho3.no hs4
        replace ht2 := ht2.no hs4
        replace ho5 := ho5.no hs4
        replace hr4 := hr4.no hs4
        replace ho7 := ho7.no hs4
        refine VT_pures 3 (kn' := [(2, .bool (!((aheadA (gotA (walkA here wait q k) ((q k).t) ((q k).o)) t) == (aheadA (gotA (walkA here wait q k) ((q k).t) ((q k).o)) t)))), (1, .bool (aheadA (gotA (walkA here wait q k) ((q k).t) ((q k).o)) t)), (0, .bool (aheadA (gotA (walkA here wait q k) ((q k).t) ((q k).o)) t))]) (by kernel_rfl) ?_
        refine VT_eq [(2, .bool false), (1, .bool (aheadA (gotA (walkA here wait q k) ((q k).t) ((q k).o)) t)), (0, .bool (aheadA (gotA (walkA here wait q k) ((q k).t) ((q k).o)) t))] (by simp) ?_
        refine VT_pures 4 (kn' := [(6, .bool (!((behindA (gotA (walkA here wait q k) ((q k).t) ((q k).o)) t) == (behindA (gotA (walkA here wait q k) ((q k).t) ((q k).o)) t)))), (5, .bool (behindA (gotA (walkA here wait q k) ((q k).t) ((q k).o)) t)), (4, .bool (behindA (gotA (walkA here wait q k) ((q k).t) ((q k).o)) t)), (3, .bool false), (2, .bool false), (1, .bool (aheadA (gotA (walkA here wait q k) ((q k).t) ((q k).o)) t)), (0, .bool (aheadA (gotA (walkA here wait q k) ((q k).t) ((q k).o)) t))]) (by kernel_rfl) ?_
        refine VT_eq [(6, .bool false), (5, .bool (behindA (gotA (walkA here wait q k) ((q k).t) ((q k).o)) t)), (4, .bool (behindA (gotA (walkA here wait q k) ((q k).t) ((q k).o)) t)), (3, .bool false), (2, .bool false), (1, .bool (aheadA (gotA (walkA here wait q k) ((q k).t) ((q k).o)) t)), (0, .bool (aheadA (gotA (walkA here wait q k) ((q k).t) ((q k).o)) t))] (by simp) ?_
        refine VT_pures 6 (kn' := [(13, .int .i64 t), (12, .pointer (some ⟨rb1, 0, none⟩)), (10, .int .i64 t), (9, .pointer (some ⟨ab1, 0, none⟩)), (8, .bool false), (7, .bool false), (6, .bool false), (5, .bool (behindA (gotA (walkA here wait q k) ((q k).t) ((q k).o)) t)), (4, .bool (behindA (gotA (walkA here wait q k) ((q k).t) ((q k).o)) t)), (3, .bool false), (2, .bool false), (1, .bool (aheadA (gotA (walkA here wait q k) ((q k).t) ((q k).o)) t)), (0, .bool (aheadA (gotA (walkA here wait q k) ((q k).t) ((q k).o)) t))]) (by kernel_rfl) ?_
        refine VT_chain (by kernel_rfl) ?_
        intro w22 hs5
        have hzhs5 := hs5.size
        replace hS := Step.trans hS hs5
        replace ho3 := ho3.no hs5
        replace ht2 := ht2.no hs5
        replace ho5 := ho5.no hs5
        replace hr4 := hr4.no hs5
        replace ho7 := ho7.no hs5
        have hzs15 := hS.size
        have hzl38 := ho3.lt
        have hzl39 := ht2.lt
        have hzl40 := ho5.lt
        have hzl41 := hr4.lt
        have hzl42 := ho7.lt
        refine VTc_call (d := 122) (f := 19) (by kernel_rfl) (by kernel_rfl) (by kernel_rfl) Try.call19 (sends_any ab1 (gotA (walkA here wait q k) ((q k).t) ((q k).o)) _ ht2 t) ?_ ?_
        · rintro _ w23 ⟨sb1, rfl, hfsb1, hc9, hc10⟩
          exact Step.mono hc10 (by intro i hi; first | exact hi.elim | ((try simp only at hi ⊢); omega))
        rintro _ w23 ⟨sb1, rfl, hfsb1, hc9, hc10⟩
        have hzhc10 := (hc10).size
        replace hS := Step.trans hS hc10
        replace ho3 := ho3.no hc10
        replace ht2 := ht2.no hc10
        replace ho5 := ho5.no hc10
        replace hr4 := hr4.no hc10
        replace ho7 := ho7.no hc10
        have hzsb1 := hc9.lt
        refine VT_chain (by kernel_rfl) ?_
        intro w24 hs6
        have hzhs6 := hs6.size
        replace hS := Step.trans hS hs6
        replace ho3 := ho3.no hs6
        replace ht2 := ht2.no hs6
        replace ho5 := ho5.no hs6
        replace hr4 := hr4.no hs6
        replace ho7 := ho7.no hs6
        replace hc9 := hc9.no hs6
        have hzs16 := hS.size
        have hzl43 := ho3.lt
        have hzl44 := ht2.lt
        have hzl45 := ho5.lt
        have hzl46 := hr4.lt
        have hzl47 := ho7.lt
        have hzl48 := hc9.lt
        refine VTc_call (d := 125) (f := 20) (by kernel_rfl) (by kernel_rfl) (by kernel_rfl) Try.call20 (rsends_any rb1 (gotA (walkA here wait q k) ((q k).t) ((q k).o)) _ hr4 t) ?_ ?_
        · rintro v10 w25 ⟨hrow1, hc11⟩
          exact Step.mono hc11 (by intro i hi; first | exact hi.elim | ((try simp only at hi ⊢); omega))
        rintro v10 w25 ⟨hrow1, hc11⟩
        have hzhc11 := (hc11).size
        replace hS := Step.trans hS hc11
        replace ho3 := ho3.no hc11
        replace ht2 := ht2.no hc11
        replace ho5 := ho5.no hc11
        replace hr4 := hr4.no hc11
        replace ho7 := ho7.no hc11
        replace hc9 := hc9.no hc11
        obtain ⟨rg1, cap1, rfl, hgrg1, hoa1⟩ := oms_row hrow1 (send_ne _ _)
        refine VT_chain (by kernel_rfl) ?_
        intro w26 hs7
        have hzhs7 := hs7.size
        replace hS := Step.trans hS hs7
        replace ho3 := ho3.no hs7
        replace ht2 := ht2.no hs7
        replace ho5 := ho5.no hs7
        replace hr4 := hr4.no hs7
        replace ho7 := ho7.no hs7
        replace hc9 := hc9.no hs7
        replace hoa1 := OmsAt.no hoa1 hs7
        have hzs17 := hS.size
        have hzl49 := ho3.lt
        have hzl50 := ht2.lt
        have hzl51 := ho5.lt
        have hzl52 := hr4.lt
        have hzl53 := ho7.lt
        have hzl54 := hc9.lt
        refine VTc_call (d := 126) (f := 18) (by kernel_rfl) (by kernel_rfl) (by kernel_rfl) Try.call18 (same_any sb1 rg1 cap1 (sendL (gotA (walkA here wait q k) ((q k).t) ((q k).o)) t).length _ _ (oms_own hc9) hoa1 (send_len _ _)) ?_ ?_
        · rintro _ w27 ⟨rfl, hc12⟩
          exact Step.mono hc12 (by intro i hi; first | exact hi.elim | ((try simp only at hi ⊢); omega))
        rintro _ w27 ⟨rfl, hc12⟩
        have hzhc12 := (hc12).size
        replace hS := Step.trans hS hc12
        replace ho3 := ho3.no hc12
        replace ht2 := ht2.no hc12
        replace ho5 := ho5.no hc12
        replace hr4 := hr4.no hc12
        replace ho7 := ho7.no hc12
        replace hc9 := hc9.no hc12
        replace hoa1 := OmsAt.no hoa1 hc12
        refine VT_pures 5 (kn' := [(20, .pointer (some ⟨b2, 1, none⟩)), (19, .pointer (some ⟨ab1, 0, none⟩)), (18, .bool false), (17, .bool false), (16, .bool false), (15, .bool true), (14, .slice (some ⟨rg1, 0, none⟩) ((sendL (gotA (walkA here wait q k) ((q k).t) ((q k).o)) t).length) cap1), (11, .slice (some ⟨sb1, 0, none⟩) ((sendL (gotA (walkA here wait q k) ((q k).t) ((q k).o)) t).length) ((sendL (gotA (walkA here wait q k) ((q k).t) ((q k).o)) t).length)), (13, .int .i64 t), (12, .pointer (some ⟨rb1, 0, none⟩)), (10, .int .i64 t), (9, .pointer (some ⟨ab1, 0, none⟩)), (8, .bool false), (7, .bool false), (6, .bool false), (5, .bool (behindA (gotA (walkA here wait q k) ((q k).t) ((q k).o)) t)), (4, .bool (behindA (gotA (walkA here wait q k) ((q k).t) ((q k).o)) t)), (3, .bool false), (2, .bool false), (1, .bool (aheadA (gotA (walkA here wait q k) ((q k).t) ((q k).o)) t)), (0, .bool (aheadA (gotA (walkA here wait q k) ((q k).t) ((q k).o)) t))]) (by kernel_rfl) ?_
        refine VT_load (d := 132) (t := 3) (a := ⟨b2, 1, none⟩) (v := .int .i64 ((q k).t)) (by kernel_rfl) (by kernel_rfl) ?_ ?_
        · intro w28 hr5
          replace hS := Step.transNew hS hr5 (fun i hi hG => by (try simp only at hG); omega)
          replace ho3 := ho3.step hr5 (by (try simp only); omega)
          replace ht2 := ht2.step hr5 (by (try simp only); omega)
          replace ho5 := ho5.step hr5 (by (try simp only); omega)
          replace hr4 := hr4.step hr5 (by (try simp only); omega)
          replace ho7 := ho7.step hr5 (by (try simp only); omega)
          exact (Loads.own1 ho3 (by kernel_rfl) (by rfl))
        refine VT_pures 2 (kn' := [(24, .pointer (some ⟨b2, 1, none⟩)), (23, .pointer (some ⟨rb1, 0, none⟩)), (21, .int .i64 ((q k).t)), (20, .pointer (some ⟨b2, 1, none⟩)), (19, .pointer (some ⟨ab1, 0, none⟩)), (18, .bool false), (17, .bool false), (16, .bool false), (15, .bool true), (14, .slice (some ⟨rg1, 0, none⟩) ((sendL (gotA (walkA here wait q k) ((q k).t) ((q k).o)) t).length) cap1), (11, .slice (some ⟨sb1, 0, none⟩) ((sendL (gotA (walkA here wait q k) ((q k).t) ((q k).o)) t).length) ((sendL (gotA (walkA here wait q k) ((q k).t) ((q k).o)) t).length)), (13, .int .i64 t), (12, .pointer (some ⟨rb1, 0, none⟩)), (10, .int .i64 t), (9, .pointer (some ⟨ab1, 0, none⟩)), (8, .bool false), (7, .bool false), (6, .bool false), (5, .bool (behindA (gotA (walkA here wait q k) ((q k).t) ((q k).o)) t)), (4, .bool (behindA (gotA (walkA here wait q k) ((q k).t) ((q k).o)) t)), (3, .bool false), (2, .bool false), (1, .bool (aheadA (gotA (walkA here wait q k) ((q k).t) ((q k).o)) t)), (0, .bool (aheadA (gotA (walkA here wait q k) ((q k).t) ((q k).o)) t))]) (by kernel_rfl) ?_
        refine VT_load (d := 136) (t := 3) (a := ⟨b2, 1, none⟩) (v := .int .i64 ((q k).t)) (by kernel_rfl) (by kernel_rfl) ?_ ?_
        · intro w29 hr6
          replace hS := Step.transNew hS hr6 (fun i hi hG => by (try simp only at hG); omega)
          replace ho3 := ho3.step hr6 (by (try simp only); omega)
          replace ht2 := ht2.step hr6 (by (try simp only); omega)
          replace ho5 := ho5.step hr6 (by (try simp only); omega)
          replace hr4 := hr4.step hr6 (by (try simp only); omega)
          replace ho7 := ho7.step hr6 (by (try simp only); omega)
          exact (Loads.own1 ho3 (by kernel_rfl) (by rfl))
        refine VT_chain (by kernel_rfl) ?_
        intro w30 hs8
        have hzhs8 := hs8.size
        replace hS := Step.trans hS hs8
        replace ho3 := ho3.no hs8
        replace ht2 := ht2.no hs8
        replace ho5 := ho5.no hs8
        replace hr4 := hr4.no hs8
        replace ho7 := ho7.no hs8
        replace hc9 := hc9.no hs8
        replace hoa1 := OmsAt.no hoa1 hs8
        have hzs18 := hS.size
        have hzl55 := ho3.lt
        have hzl56 := ht2.lt
        have hzl57 := ho5.lt
        have hzl58 := hr4.lt
        have hzl59 := ho7.lt
        have hzl60 := hc9.lt
        refine VTc_call (d := 133) (f := 19) (by kernel_rfl) (by kernel_rfl) (by kernel_rfl) Try.call19 (sends_any ab1 (gotA (walkA here wait q k) ((q k).t) ((q k).o)) _ ht2 ((q k).t)) ?_ ?_
        · rintro _ w31 ⟨sb2, rfl, hfsb2, hc13, hc14⟩
          exact Step.mono hc14 (by intro i hi; first | exact hi.elim | ((try simp only at hi ⊢); omega))
        rintro _ w31 ⟨sb2, rfl, hfsb2, hc13, hc14⟩
        have hzhc14 := (hc14).size
        replace hS := Step.trans hS hc14
        replace ho3 := ho3.no hc14
        replace ht2 := ht2.no hc14
        replace ho5 := ho5.no hc14
        replace hr4 := hr4.no hc14
        replace ho7 := ho7.no hc14
        replace hc9 := hc9.no hc14
        replace hoa1 := OmsAt.no hoa1 hc14
        have hzsb2 := hc13.lt
        refine VT_end ?_
        intro w32 hs9
        replace hS := Step.trans hS hs9
        replace ho3 := ho3.no hs9
        replace ht2 := ht2.no hs9
        replace ho5 := ho5.no hs9
        replace hr4 := hr4.no hs9
        replace ho7 := ho7.no hs9
        replace hc9 := hc9.no hs9
        replace hoa1 := OmsAt.no hoa1 hs9
        replace hc13 := hc13.no hs9
        refine VL_keep [2, 3, 9, 10, 38, 39, 129, 134, 136, 133] [(2, .slice (some ⟨lb, lo, none⟩) n cc), (3, .int .i64 t), (9, .pointer (some ⟨ab1, 0, none⟩)), (10, .pointer (some ⟨rb1, 0, none⟩)), (38, .int .i64 ((n : Nat) : Int)), (39, .int .i64 ((k : Nat) : Int)), (129, .bool false), (134, .pointer (some ⟨rb1, 0, none⟩)), (136, .int .i64 ((q k).t)), (133, .slice (some ⟨sb2, 0, none⟩) ((sendL (gotA (walkA here wait q k) ((q k).t) ((q k).o)) ((q k).t)).length) ((sendL (gotA (walkA here wait q k) ((q k).t) ((q k).o)) ((q k).t)).length))] (by kernel_rfl) ?_
        have hzs19 := hS.size
        have hzl61 := ho3.lt
        have hzl62 := ht2.lt
        have hzl63 := ho5.lt
        have hzl64 := hr4.lt
        have hzl65 := ho7.lt
        have hzl66 := hc9.lt
        have hzl67 := hc13.lt
        refine VL_call (d := 137) (f := 20) (by kernel_rfl) (by kernel_rfl) (by kernel_rfl) Try.call20 (rsends_any rb1 (gotA (walkA here wait q k) ((q k).t) ((q k).o)) _ hr4 ((q k).t)) ?_
        rintro v13 w33 ⟨hrow2, hc15⟩
        replace hS := Step.trans hS hc15
        replace ho3 := ho3.no hc15
        replace ht2 := ht2.no hc15
        replace ho5 := ho5.no hc15
        replace hr4 := hr4.no hc15
        replace ho7 := ho7.no hc15
        replace hc9 := hc9.no hc15
        replace hoa1 := OmsAt.no hoa1 hc15
        replace hc13 := hc13.no hc15
        obtain ⟨rg2, cap2, rfl, hgrg2, hoa2⟩ := oms_row hrow2 (send_ne _ _)
        have hzs20 := hS.size
        have hzl68 := ho3.lt
        have hzl69 := ht2.lt
        have hzl70 := ho5.lt
        have hzl71 := hr4.lt
        have hzl72 := ho7.lt
        have hzl73 := hc9.lt
        have hzl74 := hc13.lt
        refine VL_call (d := 138) (f := 18) (by kernel_rfl) (by kernel_rfl) (by kernel_rfl) Try.call18 (same_any sb2 rg2 cap2 (sendL (gotA (walkA here wait q k) ((q k).t) ((q k).o)) ((q k).t)).length _ _ (oms_own hc13) hoa2 (send_len _ _)) ?_
        rintro _ w34 ⟨rfl, hc16⟩
        replace hS := Step.trans hS hc16
        replace ho3 := ho3.no hc16
        replace ht2 := ht2.no hc16
        replace ho5 := ho5.no hc16
        replace hr4 := hr4.no hc16
        replace ho7 := ho7.no hc16
        replace hc9 := hc9.no hc16
        replace hoa1 := OmsAt.no hoa1 hc16
        replace hc13 := hc13.no hc16
        replace hoa2 := OmsAt.no hoa2 hc16
        refine VL_pure 30 [2, 3, 9, 10, 38, 39, 140] [(2, .slice (some ⟨lb, lo, none⟩) n cc), (3, .int .i64 t), (9, .pointer (some ⟨ab1, 0, none⟩)), (10, .pointer (some ⟨rb1, 0, none⟩)), (38, .int .i64 ((n : Nat) : Int)), (39, .int .i64 ((k : Nat) : Int)), (140, .bool false)] (by kernel_rfl) rfl ?_
        refine VL_end (by kernel_rfl) ?_
        refine VQ_next ?_
        refine VC_false (by kernel_rfl) ?_
        refine VC_skip ?_
        refine VQ_block_normal ?_
        refine VQ_next ?_
        refine VC_region ?_
        refine VL_pure 1 [2, 3, 9, 10, 38, 141] [(2, .slice (some ⟨lb, lo, none⟩) n cc), (3, .int .i64 t), (9, .pointer (some ⟨ab1, 0, none⟩)), (10, .pointer (some ⟨rb1, 0, none⟩)), (38, .int .i64 ((n : Nat) : Int)), (141, .int .i64 (IntKind.wrap .i64 (((k : Nat) : Int) + 1)))] (by kernel_rfl) rfl ?_
        refine VL_eq [(2, .slice (some ⟨lb, lo, none⟩) n cc), (3, .int .i64 t), (9, .pointer (some ⟨ab1, 0, none⟩)), (10, .pointer (some ⟨rb1, 0, none⟩)), (38, .int .i64 ((n : Nat) : Int)), (141, .int .i64 ((k + 1 : Nat) : Int))] (by rw [wrap_i64 _ (by omega) (by omega)]; rfl) ?_
        refine VL_pure 2 [2, 3, 9, 10, 38, 39] [(2, .slice (some ⟨lb, lo, none⟩) n cc), (3, .int .i64 t), (9, .pointer (some ⟨ab1, 0, none⟩)), (10, .pointer (some ⟨rb1, 0, none⟩)), (38, .int .i64 ((n : Nat) : Int)), (39, .int .i64 ((k + 1 : Nat) : Int))] (by kernel_rfl) rfl ?_
        refine VL_end (by kernel_rfl) ?_
        refine VQ_again (k + 1) ⟨rfl, rfl, rfl, rfl, rfl, rfl, trivial⟩ ?_ ?_
        · exact ⟨by omega, Own.cast (c := alC (gotA (walkA here wait q k) ((q k).t) ((q k).o))) ht2 (congrArg alC (stepE_1 (by omega))), Own.cast (c := rfC (gotA (walkA here wait q k) ((q k).t) ((q k).o))) hr4 (congrArg rfC (stepE_1 (by omega))), hS⟩
        · (try dsimp only); omega
      · refine VC_seq ?_
        refine VC_region ?_
        refine VL_pure 2 [2, 3, 9, 10, 38, 39, 12, 47, 76] [(2, .slice (some ⟨lb, lo, none⟩) n cc), (3, .int .i64 t), (9, .pointer (some ⟨ab1, 0, none⟩)), (10, .pointer (some ⟨rb1, 0, none⟩)), (38, .int .i64 ((n : Nat) : Int)), (39, .int .i64 ((k : Nat) : Int)), (12, .pointer (some ⟨b2, 0, none⟩)), (47, .int .i64 ((q k).do_)), (76, .bool (((q k).do_) == 2))] (by kernel_rfl) rfl ?_
        refine VL_end (by kernel_rfl) ?_
        refine VQ_next ?_
        refine VC_eq ((q k).do_) 2 (by kernel_rfl) (fun h4 => ?_) (fun h4 => ?_)
        · refine VC_seq ?_
          refine VC_region ?_
          refine VL_pure 2 [2, 3, 9, 10, 38, 39, 12, 78, 79] [(2, .slice (some ⟨lb, lo, none⟩) n cc), (3, .int .i64 t), (9, .pointer (some ⟨ab1, 0, none⟩)), (10, .pointer (some ⟨rb1, 0, none⟩)), (38, .int .i64 ((n : Nat) : Int)), (39, .int .i64 ((k : Nat) : Int)), (12, .pointer (some ⟨b2, 0, none⟩)), (78, .pointer (some ⟨ab1, 0, none⟩)), (79, .pointer (some ⟨b2, 1, none⟩))] (by kernel_rfl) rfl ?_
          refine VL_load (d := 80) (t := 3) (a := ⟨b2, 1, none⟩) (v := .int .i64 ((q k).t)) (by kernel_rfl) (by kernel_rfl) (Loads.own1 ho3 (by kernel_rfl) (by rfl)) ?_
          have hzs21 := hS.size
          have hzl75 := ht.lt
          have hzl76 := hr.lt
          have hzl77 := ho3.lt
          refine VL_call (d := 81) (f := 14) (by kernel_rfl) (by kernel_rfl) (by kernel_rfl) Try.call14 (user_any ab1 (walkA here wait q k) _ ht ((q k).t)) ?_
          rintro _ w35 ⟨rfl, ht3, hc17⟩
          replace hS := Step.transNew hS hc17 (fun _ _ _ => by omega)
          replace hr := hr.step hc17 (show ¬ rb1 = ab1 by omega)
          replace ho3 := ho3.step hc17 (show ¬ b2 = ab1 by omega)
          have hzht3 := ht3.lt
          refine VL_end (by kernel_rfl) ?_
          refine VQ_next ?_
          refine VC_region ?_
          refine VL_pure 3 [2, 3, 9, 10, 38, 39, 12, 84] [(2, .slice (some ⟨lb, lo, none⟩) n cc), (3, .int .i64 t), (9, .pointer (some ⟨ab1, 0, none⟩)), (10, .pointer (some ⟨rb1, 0, none⟩)), (38, .int .i64 ((n : Nat) : Int)), (39, .int .i64 ((k : Nat) : Int)), (12, .pointer (some ⟨b2, 0, none⟩)), (84, .pointer (some ⟨rb1, 18, none⟩))] (by kernel_rfl) rfl ?_
          refine VL_store (b := rb1) (o := 18) (vs := [.int .i64 0]) (by kernel_rfl) (by kernel_rfl) hr (Nat.le_of_ble_eq_true (by kernel_rfl)) ?_
          intro w36 hw4
          replace hS := Step.transNew hS hw4.step (fun _ _ _ => by omega)
          replace ho3 := ho3.step hw4.step (show ¬ b2 = rb1 by omega)
          replace ht3 := ht3.step hw4.step (show ¬ ab1 = rb1 by omega)
          have ho8 : Own w36 rb1 #[.int .u8 (((walkA here wait q k).here) 0), .int .u8 (((walkA here wait q k).here) 1), .int .u8 (((walkA here wait q k).here) 2), .int .u8 (((walkA here wait q k).here) 3), .int .u8 (((walkA here wait q k).here) 4), .int .u8 (((walkA here wait q k).here) 5), .int .u8 (((walkA here wait q k).here) 6), .int .u8 (((walkA here wait q k).here) 7), .int .u8 (((walkA here wait q k).here) 8), .int .u8 (((walkA here wait q k).here) 9), .int .u8 (((walkA here wait q k).here) 10), .int .u8 (((walkA here wait q k).here) 11), .int .u8 (((walkA here wait q k).here) 12), .int .u8 (((walkA here wait q k).here) 13), .int .u8 (((walkA here wait q k).here) 14), .int .u8 (((walkA here wait q k).here) 15), .int .i64 ((walkA here wait q k).wt), .bool ((walkA here wait q k).dn), .int .i64 0, .int .i64 ((walkA here wait q k).bh)] 41 := Own.cast hw4.own (by kernel_rfl)
          have hzhw4 := hw4.same
          refine VL_end (by kernel_rfl) ?_
          refine VQ_block_normal ?_
          refine VQ_next ?_
          refine VC_seq ?_
          refine VC_region ?_
          refine VL_pure 2 [2, 3, 9, 10, 38, 39, 12, 100, 101] [(2, .slice (some ⟨lb, lo, none⟩) n cc), (3, .int .i64 t), (9, .pointer (some ⟨ab1, 0, none⟩)), (10, .pointer (some ⟨rb1, 0, none⟩)), (38, .int .i64 ((n : Nat) : Int)), (39, .int .i64 ((k : Nat) : Int)), (12, .pointer (some ⟨b2, 0, none⟩)), (100, .pointer (some ⟨ab1, 0, none⟩)), (101, .int .i64 t)] (by kernel_rfl) rfl ?_
          have hzs22 := hS.size
          have hzl78 := ho3.lt
          have hzl79 := ht3.lt
          have hzl80 := ho8.lt
          refine VL_call (d := 102) (f := 16) (by kernel_rfl) (by kernel_rfl) (by kernel_rfl) Try.call16 (state_any ab1 (userA (walkA here wait q k)) _ ht3 t) ?_
          rintro _ w37 ⟨rfl, hc18⟩
          replace hS := Step.trans hS hc18
          replace ho3 := ho3.no hc18
          replace ht3 := ht3.no hc18
          replace ho8 := ho8.no hc18
          refine VL_pure 8 [2, 3, 9, 10, 38, 39, 12, 17, 18] [(2, .slice (some ⟨lb, lo, none⟩) n cc), (3, .int .i64 t), (9, .pointer (some ⟨ab1, 0, none⟩)), (10, .pointer (some ⟨rb1, 0, none⟩)), (38, .int .i64 ((n : Nat) : Int)), (39, .int .i64 ((k : Nat) : Int)), (12, .pointer (some ⟨b2, 0, none⟩)), (17, .bool (aheadA (userA (walkA here wait q k)) t)), (18, .bool (behindA (userA (walkA here wait q k)) t))] (by kernel_rfl) rfl ?_
          refine VL_end (by kernel_rfl) ?_
          refine VQ_next ?_
          refine VC_seq ?_
          refine VC_region ?_
          refine VL_pure 2 [2, 3, 9, 10, 38, 39, 12, 17, 18, 106, 107] [(2, .slice (some ⟨lb, lo, none⟩) n cc), (3, .int .i64 t), (9, .pointer (some ⟨ab1, 0, none⟩)), (10, .pointer (some ⟨rb1, 0, none⟩)), (38, .int .i64 ((n : Nat) : Int)), (39, .int .i64 ((k : Nat) : Int)), (12, .pointer (some ⟨b2, 0, none⟩)), (17, .bool (aheadA (userA (walkA here wait q k)) t)), (18, .bool (behindA (userA (walkA here wait q k)) t)), (106, .pointer (some ⟨rb1, 0, none⟩)), (107, .int .i64 t)] (by kernel_rfl) rfl ?_
          have hzs23 := hS.size
          have hzl81 := ho3.lt
          have hzl82 := ht3.lt
          have hzl83 := ho8.lt
          refine VL_call (d := 108) (f := 17) (by kernel_rfl) (by kernel_rfl) (by kernel_rfl) Try.call17 (rstate_any rb1 (userA (walkA here wait q k)) _ ho8 t) ?_
          rintro _ w38 ⟨rfl, hc19⟩
          replace hS := Step.trans hS hc19
          replace ho3 := ho3.no hc19
          replace ht3 := ht3.no hc19
          replace ho8 := ho8.no hc19
          refine VL_pure 8 [2, 3, 9, 10, 38, 39, 12, 17, 18, 19, 20] [(2, .slice (some ⟨lb, lo, none⟩) n cc), (3, .int .i64 t), (9, .pointer (some ⟨ab1, 0, none⟩)), (10, .pointer (some ⟨rb1, 0, none⟩)), (38, .int .i64 ((n : Nat) : Int)), (39, .int .i64 ((k : Nat) : Int)), (12, .pointer (some ⟨b2, 0, none⟩)), (17, .bool (aheadA (userA (walkA here wait q k)) t)), (18, .bool (behindA (userA (walkA here wait q k)) t)), (19, .bool (aheadA (userA (walkA here wait q k)) t)), (20, .bool (behindA (userA (walkA here wait q k)) t))] (by kernel_rfl) rfl ?_
          refine VL_end (by kernel_rfl) ?_
          refine VQ_next ?_
          refine VC_seq ?_
          have hs10 := drew_step w38
          have hs10z : w38.heap.size = w38.drew.heap.size := rfl
          refine VC_text [[], [], [0, 1], [0, 1, 2], [0, 1, 2, 3], [0, 1, 2, 3], [0, 1, 2, 3, 4, 5], [0, 1, 2, 3, 4, 5, 6], [0, 1, 2, 3, 4, 5, 6, 7], [0, 1, 2, 3, 4, 5, 6, 7, 8], [0, 1, 2, 3, 4, 5, 6, 7, 8], [0, 1, 2, 3, 4, 5, 6, 7, 8, 9, 10], [0, 1, 2, 3, 4, 5, 6, 7, 8], [0, 1, 2, 3, 4, 5, 6, 7, 8], [0, 1, 2, 3, 4, 5, 6, 7, 8, 9, 10, 11, 12, 13], [0, 1, 2, 3, 4, 5, 6, 7, 8, 9, 10, 11, 12, 13, 14], [0, 1, 2, 3, 4, 5, 6, 7, 8, 9, 10, 11, 12, 13, 14, 15], [0, 1, 2, 3, 4, 5, 6, 7, 8, 9, 10, 11, 12, 13, 14, 15, 16], [0, 1, 2, 3, 4, 5, 6, 7, 8, 9, 10, 11, 12, 13, 14, 15, 16, 17], [0, 1, 2, 3, 4, 5, 6, 7, 8, 9, 10, 11, 12, 13, 14, 15, 16, 17, 18], [0, 1, 2, 3, 4, 5, 6, 7, 8, 9, 10, 11, 12, 13, 14, 15, 16, 17, 18], [0, 1, 2, 3, 4, 5, 6, 7, 8, 9, 10, 11, 12, 13, 14, 15, 16, 17, 18, 20], [0, 1, 2, 3, 4, 5, 6, 7, 8, 9, 10, 11, 12, 13, 14, 15, 16, 17, 18, 19, 20, 21], [0, 1, 2, 3, 4, 5, 6, 7, 8, 9, 10, 11, 12, 13, 14, 15, 16, 17, 18], [0, 1, 2, 3, 4, 5, 6, 7, 8, 9, 10, 11, 12, 13, 14, 15, 16, 17, 18], [0, 1, 2, 3, 4, 5, 6, 7, 8, 9, 10, 11, 12, 13, 14, 15, 16, 17, 18, 24], [0, 1, 2, 3, 4, 5, 6, 7, 8, 9, 10, 11, 12, 13, 14, 15, 16, 17, 18, 19, 20, 21, 22, 23, 24, 25], [0, 1, 2, 3, 4, 5, 6, 7, 8, 9, 10, 11, 12, 13, 14, 15, 16, 17, 18, 19, 20, 21, 22, 23, 24, 25, 26], [0, 1, 2, 3, 4, 5, 6, 7, 8, 9, 10, 11, 12, 13, 14, 15, 16, 17, 18, 19, 20, 21, 22, 23, 24, 25, 26, 27], [0, 1, 2, 3, 4, 5, 6, 7, 8, 9, 10, 11, 12, 13, 14, 15, 16, 17, 18, 19, 20, 21, 22, 23, 24, 25, 26, 27, 28]] 26 (fun x y => Step (fun k => w38.heap.size ≤ k) x y) [11, 14, 15, 22] [0, 1, 2, 3, 4, 5, 6, 7, 8, 9, 10, 12, 13, 11, 14, 15, 16, 17, 18, 19, 20, 21, 23, 24, 25, 22] (by kernel_rfl) (by kernel_rfl) (by kernel_rfl) (by kernel_rfl) (fun x => Step.refl _ x) (fun h k => Step.trans h k) Step.weak ?_
          have hzs24 := hS.size
          have hzl84 := ho3.lt
          have hzl85 := ht3.lt
          have hzl86 := ho8.lt
          generalize w38.drew = w39 at hs10 hs10z ⊢
          replace hS := Step.trans hS hs10
          replace ho3 := ho3.no hs10
          replace ht3 := ht3.no hs10
          replace ho8 := ho8.no hs10
          refine VT_pures 3 (kn' := [(2, .bool (!((aheadA (userA (walkA here wait q k)) t) == (aheadA (userA (walkA here wait q k)) t)))), (1, .bool (aheadA (userA (walkA here wait q k)) t)), (0, .bool (aheadA (userA (walkA here wait q k)) t))]) (by kernel_rfl) ?_
          refine VT_eq [(2, .bool false), (1, .bool (aheadA (userA (walkA here wait q k)) t)), (0, .bool (aheadA (userA (walkA here wait q k)) t))] (by simp) ?_
          refine VT_pures 4 (kn' := [(6, .bool (!((behindA (userA (walkA here wait q k)) t) == (behindA (userA (walkA here wait q k)) t)))), (5, .bool (behindA (userA (walkA here wait q k)) t)), (4, .bool (behindA (userA (walkA here wait q k)) t)), (3, .bool false), (2, .bool false), (1, .bool (aheadA (userA (walkA here wait q k)) t)), (0, .bool (aheadA (userA (walkA here wait q k)) t))]) (by kernel_rfl) ?_
          refine VT_eq [(6, .bool false), (5, .bool (behindA (userA (walkA here wait q k)) t)), (4, .bool (behindA (userA (walkA here wait q k)) t)), (3, .bool false), (2, .bool false), (1, .bool (aheadA (userA (walkA here wait q k)) t)), (0, .bool (aheadA (userA (walkA here wait q k)) t))] (by simp) ?_
          refine VT_pures 6 (kn' := [(13, .int .i64 t), (12, .pointer (some ⟨rb1, 0, none⟩)), (10, .int .i64 t), (9, .pointer (some ⟨ab1, 0, none⟩)), (8, .bool false), (7, .bool false), (6, .bool false), (5, .bool (behindA (userA (walkA here wait q k)) t)), (4, .bool (behindA (userA (walkA here wait q k)) t)), (3, .bool false), (2, .bool false), (1, .bool (aheadA (userA (walkA here wait q k)) t)), (0, .bool (aheadA (userA (walkA here wait q k)) t))]) (by kernel_rfl) ?_
          refine VT_chain (by kernel_rfl) ?_
          intro w40 hs11
          have hzhs11 := hs11.size
          replace hS := Step.trans hS hs11
          replace ho3 := ho3.no hs11
          replace ht3 := ht3.no hs11
          replace ho8 := ho8.no hs11
          have hzs25 := hS.size
          have hzl87 := ho3.lt
          have hzl88 := ht3.lt
          have hzl89 := ho8.lt
          refine VTc_call (d := 122) (f := 19) (by kernel_rfl) (by kernel_rfl) (by kernel_rfl) Try.call19 (sends_any ab1 (userA (walkA here wait q k)) _ ht3 t) ?_ ?_
          · rintro _ w41 ⟨sb3, rfl, hfsb3, hc20, hc21⟩
            exact Step.mono hc21 (by intro i hi; first | exact hi.elim | ((try simp only at hi ⊢); omega))
          rintro _ w41 ⟨sb3, rfl, hfsb3, hc20, hc21⟩
          have hzhc21 := (hc21).size
          replace hS := Step.trans hS hc21
          replace ho3 := ho3.no hc21
          replace ht3 := ht3.no hc21
          replace ho8 := ho8.no hc21
          have hzsb3 := hc20.lt
          refine VT_chain (by kernel_rfl) ?_
          intro w42 hs12
          have hzhs12 := hs12.size
          replace hS := Step.trans hS hs12
          replace ho3 := ho3.no hs12
          replace ht3 := ht3.no hs12
          replace ho8 := ho8.no hs12
          replace hc20 := hc20.no hs12
          have hzs26 := hS.size
          have hzl90 := ho3.lt
          have hzl91 := ht3.lt
          have hzl92 := ho8.lt
          have hzl93 := hc20.lt
          refine VTc_call (d := 125) (f := 20) (by kernel_rfl) (by kernel_rfl) (by kernel_rfl) Try.call20 (rsends_any rb1 (userA (walkA here wait q k)) _ ho8 t) ?_ ?_
          · rintro v19 w43 ⟨hrow3, hc22⟩
            exact Step.mono hc22 (by intro i hi; first | exact hi.elim | ((try simp only at hi ⊢); omega))
          rintro v19 w43 ⟨hrow3, hc22⟩
          have hzhc22 := (hc22).size
          replace hS := Step.trans hS hc22
          replace ho3 := ho3.no hc22
          replace ht3 := ht3.no hc22
          replace ho8 := ho8.no hc22
          replace hc20 := hc20.no hc22
          obtain ⟨rg3, cap3, rfl, hgrg3, hoa3⟩ := oms_row hrow3 (send_ne _ _)
          refine VT_chain (by kernel_rfl) ?_
          intro w44 hs13
          have hzhs13 := hs13.size
          replace hS := Step.trans hS hs13
          replace ho3 := ho3.no hs13
          replace ht3 := ht3.no hs13
          replace ho8 := ho8.no hs13
          replace hc20 := hc20.no hs13
          replace hoa3 := OmsAt.no hoa3 hs13
          have hzs27 := hS.size
          have hzl94 := ho3.lt
          have hzl95 := ht3.lt
          have hzl96 := ho8.lt
          have hzl97 := hc20.lt
          refine VTc_call (d := 126) (f := 18) (by kernel_rfl) (by kernel_rfl) (by kernel_rfl) Try.call18 (same_any sb3 rg3 cap3 (sendL (userA (walkA here wait q k)) t).length _ _ (oms_own hc20) hoa3 (send_len _ _)) ?_ ?_
          · rintro _ w45 ⟨rfl, hc23⟩
            exact Step.mono hc23 (by intro i hi; first | exact hi.elim | ((try simp only at hi ⊢); omega))
          rintro _ w45 ⟨rfl, hc23⟩
          have hzhc23 := (hc23).size
          replace hS := Step.trans hS hc23
          replace ho3 := ho3.no hc23
          replace ht3 := ht3.no hc23
          replace ho8 := ho8.no hc23
          replace hc20 := hc20.no hc23
          replace hoa3 := OmsAt.no hoa3 hc23
          refine VT_pures 5 (kn' := [(20, .pointer (some ⟨b2, 1, none⟩)), (19, .pointer (some ⟨ab1, 0, none⟩)), (18, .bool false), (17, .bool false), (16, .bool false), (15, .bool true), (14, .slice (some ⟨rg3, 0, none⟩) ((sendL (userA (walkA here wait q k)) t).length) cap3), (11, .slice (some ⟨sb3, 0, none⟩) ((sendL (userA (walkA here wait q k)) t).length) ((sendL (userA (walkA here wait q k)) t).length)), (13, .int .i64 t), (12, .pointer (some ⟨rb1, 0, none⟩)), (10, .int .i64 t), (9, .pointer (some ⟨ab1, 0, none⟩)), (8, .bool false), (7, .bool false), (6, .bool false), (5, .bool (behindA (userA (walkA here wait q k)) t)), (4, .bool (behindA (userA (walkA here wait q k)) t)), (3, .bool false), (2, .bool false), (1, .bool (aheadA (userA (walkA here wait q k)) t)), (0, .bool (aheadA (userA (walkA here wait q k)) t))]) (by kernel_rfl) ?_
          refine VT_load (d := 132) (t := 3) (a := ⟨b2, 1, none⟩) (v := .int .i64 ((q k).t)) (by kernel_rfl) (by kernel_rfl) ?_ ?_
          · intro w46 hr7
            replace hS := Step.transNew hS hr7 (fun i hi hG => by (try simp only at hG); omega)
            replace ho3 := ho3.step hr7 (by (try simp only); omega)
            replace ht3 := ht3.step hr7 (by (try simp only); omega)
            replace ho8 := ho8.step hr7 (by (try simp only); omega)
            exact (Loads.own1 ho3 (by kernel_rfl) (by rfl))
          refine VT_pures 2 (kn' := [(24, .pointer (some ⟨b2, 1, none⟩)), (23, .pointer (some ⟨rb1, 0, none⟩)), (21, .int .i64 ((q k).t)), (20, .pointer (some ⟨b2, 1, none⟩)), (19, .pointer (some ⟨ab1, 0, none⟩)), (18, .bool false), (17, .bool false), (16, .bool false), (15, .bool true), (14, .slice (some ⟨rg3, 0, none⟩) ((sendL (userA (walkA here wait q k)) t).length) cap3), (11, .slice (some ⟨sb3, 0, none⟩) ((sendL (userA (walkA here wait q k)) t).length) ((sendL (userA (walkA here wait q k)) t).length)), (13, .int .i64 t), (12, .pointer (some ⟨rb1, 0, none⟩)), (10, .int .i64 t), (9, .pointer (some ⟨ab1, 0, none⟩)), (8, .bool false), (7, .bool false), (6, .bool false), (5, .bool (behindA (userA (walkA here wait q k)) t)), (4, .bool (behindA (userA (walkA here wait q k)) t)), (3, .bool false), (2, .bool false), (1, .bool (aheadA (userA (walkA here wait q k)) t)), (0, .bool (aheadA (userA (walkA here wait q k)) t))]) (by kernel_rfl) ?_
          refine VT_load (d := 136) (t := 3) (a := ⟨b2, 1, none⟩) (v := .int .i64 ((q k).t)) (by kernel_rfl) (by kernel_rfl) ?_ ?_
          · intro w47 hr8
            replace hS := Step.transNew hS hr8 (fun i hi hG => by (try simp only at hG); omega)
            replace ho3 := ho3.step hr8 (by (try simp only); omega)
            replace ht3 := ht3.step hr8 (by (try simp only); omega)
            replace ho8 := ho8.step hr8 (by (try simp only); omega)
            exact (Loads.own1 ho3 (by kernel_rfl) (by rfl))
          refine VT_chain (by kernel_rfl) ?_
          intro w48 hs14
          have hzhs14 := hs14.size
          replace hS := Step.trans hS hs14
          replace ho3 := ho3.no hs14
          replace ht3 := ht3.no hs14
          replace ho8 := ho8.no hs14
          replace hc20 := hc20.no hs14
          replace hoa3 := OmsAt.no hoa3 hs14
          have hzs28 := hS.size
          have hzl98 := ho3.lt
          have hzl99 := ht3.lt
          have hzl100 := ho8.lt
          have hzl101 := hc20.lt
          refine VTc_call (d := 133) (f := 19) (by kernel_rfl) (by kernel_rfl) (by kernel_rfl) Try.call19 (sends_any ab1 (userA (walkA here wait q k)) _ ht3 ((q k).t)) ?_ ?_
          · rintro _ w49 ⟨sb4, rfl, hfsb4, hc24, hc25⟩
            exact Step.mono hc25 (by intro i hi; first | exact hi.elim | ((try simp only at hi ⊢); omega))
          rintro _ w49 ⟨sb4, rfl, hfsb4, hc24, hc25⟩
          have hzhc25 := (hc25).size
          replace hS := Step.trans hS hc25
          replace ho3 := ho3.no hc25
          replace ht3 := ht3.no hc25
          replace ho8 := ho8.no hc25
          replace hc20 := hc20.no hc25
          replace hoa3 := OmsAt.no hoa3 hc25
          have hzsb4 := hc24.lt
          refine VT_end ?_
          intro w50 hs15
          replace hS := Step.trans hS hs15
          replace ho3 := ho3.no hs15
          replace ht3 := ht3.no hs15
          replace ho8 := ho8.no hs15
          replace hc20 := hc20.no hs15
          replace hoa3 := OmsAt.no hoa3 hs15
          replace hc24 := hc24.no hs15
          refine VL_keep [2, 3, 9, 10, 38, 39, 129, 134, 136, 133] [(2, .slice (some ⟨lb, lo, none⟩) n cc), (3, .int .i64 t), (9, .pointer (some ⟨ab1, 0, none⟩)), (10, .pointer (some ⟨rb1, 0, none⟩)), (38, .int .i64 ((n : Nat) : Int)), (39, .int .i64 ((k : Nat) : Int)), (129, .bool false), (134, .pointer (some ⟨rb1, 0, none⟩)), (136, .int .i64 ((q k).t)), (133, .slice (some ⟨sb4, 0, none⟩) ((sendL (userA (walkA here wait q k)) ((q k).t)).length) ((sendL (userA (walkA here wait q k)) ((q k).t)).length))] (by kernel_rfl) ?_
          have hzs29 := hS.size
          have hzl102 := ho3.lt
          have hzl103 := ht3.lt
          have hzl104 := ho8.lt
          have hzl105 := hc20.lt
          have hzl106 := hc24.lt
          refine VL_call (d := 137) (f := 20) (by kernel_rfl) (by kernel_rfl) (by kernel_rfl) Try.call20 (rsends_any rb1 (userA (walkA here wait q k)) _ ho8 ((q k).t)) ?_
          rintro v22 w51 ⟨hrow4, hc26⟩
          replace hS := Step.trans hS hc26
          replace ho3 := ho3.no hc26
          replace ht3 := ht3.no hc26
          replace ho8 := ho8.no hc26
          replace hc20 := hc20.no hc26
          replace hoa3 := OmsAt.no hoa3 hc26
          replace hc24 := hc24.no hc26
          obtain ⟨rg4, cap4, rfl, hgrg4, hoa4⟩ := oms_row hrow4 (send_ne _ _)
          have hzs30 := hS.size
          have hzl107 := ho3.lt
          have hzl108 := ht3.lt
          have hzl109 := ho8.lt
          have hzl110 := hc20.lt
          have hzl111 := hc24.lt
          refine VL_call (d := 138) (f := 18) (by kernel_rfl) (by kernel_rfl) (by kernel_rfl) Try.call18 (same_any sb4 rg4 cap4 (sendL (userA (walkA here wait q k)) ((q k).t)).length _ _ (oms_own hc24) hoa4 (send_len _ _)) ?_
          rintro _ w52 ⟨rfl, hc27⟩
          replace hS := Step.trans hS hc27
          replace ho3 := ho3.no hc27
          replace ht3 := ht3.no hc27
          replace ho8 := ho8.no hc27
          replace hc20 := hc20.no hc27
          replace hoa3 := OmsAt.no hoa3 hc27
          replace hc24 := hc24.no hc27
          replace hoa4 := OmsAt.no hoa4 hc27
          refine VL_pure 30 [2, 3, 9, 10, 38, 39, 140] [(2, .slice (some ⟨lb, lo, none⟩) n cc), (3, .int .i64 t), (9, .pointer (some ⟨ab1, 0, none⟩)), (10, .pointer (some ⟨rb1, 0, none⟩)), (38, .int .i64 ((n : Nat) : Int)), (39, .int .i64 ((k : Nat) : Int)), (140, .bool false)] (by kernel_rfl) rfl ?_
          refine VL_end (by kernel_rfl) ?_
          refine VQ_next ?_
          refine VC_false (by kernel_rfl) ?_
          refine VC_skip ?_
          refine VQ_block_normal ?_
          refine VQ_next ?_
          refine VC_region ?_
          refine VL_pure 1 [2, 3, 9, 10, 38, 141] [(2, .slice (some ⟨lb, lo, none⟩) n cc), (3, .int .i64 t), (9, .pointer (some ⟨ab1, 0, none⟩)), (10, .pointer (some ⟨rb1, 0, none⟩)), (38, .int .i64 ((n : Nat) : Int)), (141, .int .i64 (IntKind.wrap .i64 (((k : Nat) : Int) + 1)))] (by kernel_rfl) rfl ?_
          refine VL_eq [(2, .slice (some ⟨lb, lo, none⟩) n cc), (3, .int .i64 t), (9, .pointer (some ⟨ab1, 0, none⟩)), (10, .pointer (some ⟨rb1, 0, none⟩)), (38, .int .i64 ((n : Nat) : Int)), (141, .int .i64 ((k + 1 : Nat) : Int))] (by rw [wrap_i64 _ (by omega) (by omega)]; rfl) ?_
          refine VL_pure 2 [2, 3, 9, 10, 38, 39] [(2, .slice (some ⟨lb, lo, none⟩) n cc), (3, .int .i64 t), (9, .pointer (some ⟨ab1, 0, none⟩)), (10, .pointer (some ⟨rb1, 0, none⟩)), (38, .int .i64 ((n : Nat) : Int)), (39, .int .i64 ((k + 1 : Nat) : Int))] (by kernel_rfl) rfl ?_
          refine VL_end (by kernel_rfl) ?_
          refine VQ_again (k + 1) ⟨rfl, rfl, rfl, rfl, rfl, rfl, trivial⟩ ?_ ?_
          · exact ⟨by omega, Own.cast (c := alC (userA (walkA here wait q k))) ht3 (congrArg alC (stepE_2 (by omega) (by omega))), Own.cast (c := rfC (userA (walkA here wait q k))) ho8 (congrArg rfC (stepE_2 (by omega) (by omega))), hS⟩
          · (try dsimp only); omega
        · refine VC_seq ?_
          refine VC_seq ?_
          refine VC_region ?_
          refine VL_pure 2 [2, 3, 9, 10, 38, 39, 12, 47, 85] [(2, .slice (some ⟨lb, lo, none⟩) n cc), (3, .int .i64 t), (9, .pointer (some ⟨ab1, 0, none⟩)), (10, .pointer (some ⟨rb1, 0, none⟩)), (38, .int .i64 ((n : Nat) : Int)), (39, .int .i64 ((k : Nat) : Int)), (12, .pointer (some ⟨b2, 0, none⟩)), (47, .int .i64 ((q k).do_)), (85, .bool (((q k).do_) == 3))] (by kernel_rfl) rfl ?_
          refine VL_end (by kernel_rfl) ?_
          refine VQ_next ?_
          refine VC_eq ((q k).do_) 3 (by kernel_rfl) (fun h5 => ?_) (fun h5 => ?_)
          · refine VC_skip ?_
            refine VQ_next ?_
            refine VC_eq ((q k).do_) 3 (by kernel_rfl) (fun h6 => ?_) (fun h6 => ?_)
            · refine VC_seq ?_
              refine VC_region ?_
              refine VL_pure 2 [2, 3, 9, 10, 38, 39, 12, 88, 89] [(2, .slice (some ⟨lb, lo, none⟩) n cc), (3, .int .i64 t), (9, .pointer (some ⟨ab1, 0, none⟩)), (10, .pointer (some ⟨rb1, 0, none⟩)), (38, .int .i64 ((n : Nat) : Int)), (39, .int .i64 ((k : Nat) : Int)), (12, .pointer (some ⟨b2, 0, none⟩)), (88, .pointer (some ⟨ab1, 0, none⟩)), (89, .pointer (some ⟨b2, 0, none⟩))] (by kernel_rfl) rfl ?_
              refine VL_load (d := 90) (t := 3) (a := ⟨b2, 0, none⟩) (v := .int .i64 ((q k).do_)) (by kernel_rfl) (by kernel_rfl) (Loads.own1 ho3 (by kernel_rfl) (by rfl)) ?_
              refine VL_pure 4 [2, 3, 9, 10, 38, 39, 12, 88, 91] [(2, .slice (some ⟨lb, lo, none⟩) n cc), (3, .int .i64 t), (9, .pointer (some ⟨ab1, 0, none⟩)), (10, .pointer (some ⟨rb1, 0, none⟩)), (38, .int .i64 ((n : Nat) : Int)), (39, .int .i64 ((k : Nat) : Int)), (12, .pointer (some ⟨b2, 0, none⟩)), (88, .pointer (some ⟨ab1, 0, none⟩)), (91, .bool (((q k).do_) == 3))] (by kernel_rfl) rfl ?_
              have hzs31 := hS.size
              have hzl112 := ht.lt
              have hzl113 := hr.lt
              have hzl114 := ho3.lt
              refine VL_call (d := 92) (f := 15) (by kernel_rfl) (by kernel_rfl) (by kernel_rfl) Try.call15 (down_any ab1 (walkA here wait q k) _ ht (((q k).do_) == 3)) ?_
              rintro _ w53 ⟨rfl, ht4, hc28⟩
              replace hS := Step.transNew hS hc28 (fun _ _ _ => by omega)
              replace hr := hr.step hc28 (show ¬ rb1 = ab1 by omega)
              replace ho3 := ho3.step hc28 (show ¬ b2 = ab1 by omega)
              have hzht4 := ht4.lt
              refine VL_end (by kernel_rfl) ?_
              refine VQ_next ?_
              refine VC_region ?_
              refine VL_pure 2 [2, 3, 9, 10, 38, 39, 12, 93, 94] [(2, .slice (some ⟨lb, lo, none⟩) n cc), (3, .int .i64 t), (9, .pointer (some ⟨ab1, 0, none⟩)), (10, .pointer (some ⟨rb1, 0, none⟩)), (38, .int .i64 ((n : Nat) : Int)), (39, .int .i64 ((k : Nat) : Int)), (12, .pointer (some ⟨b2, 0, none⟩)), (93, .pointer (some ⟨rb1, 0, none⟩)), (94, .pointer (some ⟨b2, 0, none⟩))] (by kernel_rfl) rfl ?_
              refine VL_load (d := 95) (t := 3) (a := ⟨b2, 0, none⟩) (v := .int .i64 ((q k).do_)) (by kernel_rfl) (by kernel_rfl) (Loads.own1 ho3 (by kernel_rfl) (by rfl)) ?_
              refine VL_pure 6 [2, 3, 9, 10, 38, 39, 12, 96, 98] [(2, .slice (some ⟨lb, lo, none⟩) n cc), (3, .int .i64 t), (9, .pointer (some ⟨ab1, 0, none⟩)), (10, .pointer (some ⟨rb1, 0, none⟩)), (38, .int .i64 ((n : Nat) : Int)), (39, .int .i64 ((k : Nat) : Int)), (12, .pointer (some ⟨b2, 0, none⟩)), (96, .bool (((q k).do_) == 3)), (98, .pointer (some ⟨rb1, 17, none⟩))] (by kernel_rfl) rfl ?_
              refine VL_store (b := rb1) (o := 17) (vs := [.bool (((q k).do_) == 3)]) (by kernel_rfl) (by kernel_rfl) hr (Nat.le_of_ble_eq_true (by kernel_rfl)) ?_
              intro w54 hw5
              replace hS := Step.transNew hS hw5.step (fun _ _ _ => by omega)
              replace ho3 := ho3.step hw5.step (show ¬ b2 = rb1 by omega)
              replace ht4 := ht4.step hw5.step (show ¬ ab1 = rb1 by omega)
              have ho9 : Own w54 rb1 #[.int .u8 (((walkA here wait q k).here) 0), .int .u8 (((walkA here wait q k).here) 1), .int .u8 (((walkA here wait q k).here) 2), .int .u8 (((walkA here wait q k).here) 3), .int .u8 (((walkA here wait q k).here) 4), .int .u8 (((walkA here wait q k).here) 5), .int .u8 (((walkA here wait q k).here) 6), .int .u8 (((walkA here wait q k).here) 7), .int .u8 (((walkA here wait q k).here) 8), .int .u8 (((walkA here wait q k).here) 9), .int .u8 (((walkA here wait q k).here) 10), .int .u8 (((walkA here wait q k).here) 11), .int .u8 (((walkA here wait q k).here) 12), .int .u8 (((walkA here wait q k).here) 13), .int .u8 (((walkA here wait q k).here) 14), .int .u8 (((walkA here wait q k).here) 15), .int .i64 ((walkA here wait q k).wt), .bool (((q k).do_) == 3), .int .i64 ((walkA here wait q k).ah), .int .i64 ((walkA here wait q k).bh)] 41 := Own.cast hw5.own (by kernel_rfl)
              have hzhw5 := hw5.same
              refine VL_end (by kernel_rfl) ?_
              refine VQ_block_normal ?_
              refine VQ_next ?_
              refine VC_seq ?_
              refine VC_region ?_
              refine VL_pure 2 [2, 3, 9, 10, 38, 39, 12, 100, 101] [(2, .slice (some ⟨lb, lo, none⟩) n cc), (3, .int .i64 t), (9, .pointer (some ⟨ab1, 0, none⟩)), (10, .pointer (some ⟨rb1, 0, none⟩)), (38, .int .i64 ((n : Nat) : Int)), (39, .int .i64 ((k : Nat) : Int)), (12, .pointer (some ⟨b2, 0, none⟩)), (100, .pointer (some ⟨ab1, 0, none⟩)), (101, .int .i64 t)] (by kernel_rfl) rfl ?_
              have hzs32 := hS.size
              have hzl115 := ho3.lt
              have hzl116 := ht4.lt
              have hzl117 := ho9.lt
              refine VL_call (d := 102) (f := 16) (by kernel_rfl) (by kernel_rfl) (by kernel_rfl) Try.call16 (state_any ab1 (downA (walkA here wait q k) (((q k).do_) == 3)) _ ht4 t) ?_
              rintro _ w55 ⟨rfl, hc29⟩
              replace hS := Step.trans hS hc29
              replace ho3 := ho3.no hc29
              replace ht4 := ht4.no hc29
              replace ho9 := ho9.no hc29
              refine VL_pure 8 [2, 3, 9, 10, 38, 39, 12, 17, 18] [(2, .slice (some ⟨lb, lo, none⟩) n cc), (3, .int .i64 t), (9, .pointer (some ⟨ab1, 0, none⟩)), (10, .pointer (some ⟨rb1, 0, none⟩)), (38, .int .i64 ((n : Nat) : Int)), (39, .int .i64 ((k : Nat) : Int)), (12, .pointer (some ⟨b2, 0, none⟩)), (17, .bool (aheadA (downA (walkA here wait q k) (((q k).do_) == 3)) t)), (18, .bool (behindA (downA (walkA here wait q k) (((q k).do_) == 3)) t))] (by kernel_rfl) rfl ?_
              refine VL_end (by kernel_rfl) ?_
              refine VQ_next ?_
              refine VC_seq ?_
              refine VC_region ?_
              refine VL_pure 2 [2, 3, 9, 10, 38, 39, 12, 17, 18, 106, 107] [(2, .slice (some ⟨lb, lo, none⟩) n cc), (3, .int .i64 t), (9, .pointer (some ⟨ab1, 0, none⟩)), (10, .pointer (some ⟨rb1, 0, none⟩)), (38, .int .i64 ((n : Nat) : Int)), (39, .int .i64 ((k : Nat) : Int)), (12, .pointer (some ⟨b2, 0, none⟩)), (17, .bool (aheadA (downA (walkA here wait q k) (((q k).do_) == 3)) t)), (18, .bool (behindA (downA (walkA here wait q k) (((q k).do_) == 3)) t)), (106, .pointer (some ⟨rb1, 0, none⟩)), (107, .int .i64 t)] (by kernel_rfl) rfl ?_
              have hzs33 := hS.size
              have hzl118 := ho3.lt
              have hzl119 := ht4.lt
              have hzl120 := ho9.lt
              refine VL_call (d := 108) (f := 17) (by kernel_rfl) (by kernel_rfl) (by kernel_rfl) Try.call17 (rstate_any rb1 (downA (walkA here wait q k) (((q k).do_) == 3)) _ ho9 t) ?_
              rintro _ w56 ⟨rfl, hc30⟩
              replace hS := Step.trans hS hc30
              replace ho3 := ho3.no hc30
              replace ht4 := ht4.no hc30
              replace ho9 := ho9.no hc30
              refine VL_pure 8 [2, 3, 9, 10, 38, 39, 12, 17, 18, 19, 20] [(2, .slice (some ⟨lb, lo, none⟩) n cc), (3, .int .i64 t), (9, .pointer (some ⟨ab1, 0, none⟩)), (10, .pointer (some ⟨rb1, 0, none⟩)), (38, .int .i64 ((n : Nat) : Int)), (39, .int .i64 ((k : Nat) : Int)), (12, .pointer (some ⟨b2, 0, none⟩)), (17, .bool (aheadA (downA (walkA here wait q k) (((q k).do_) == 3)) t)), (18, .bool (behindA (downA (walkA here wait q k) (((q k).do_) == 3)) t)), (19, .bool (aheadA (downA (walkA here wait q k) (((q k).do_) == 3)) t)), (20, .bool (behindA (downA (walkA here wait q k) (((q k).do_) == 3)) t))] (by kernel_rfl) rfl ?_
              refine VL_end (by kernel_rfl) ?_
              refine VQ_next ?_
              refine VC_seq ?_
              have hs16 := drew_step w56
              have hs16z : w56.heap.size = w56.drew.heap.size := rfl
              refine VC_text [[], [], [0, 1], [0, 1, 2], [0, 1, 2, 3], [0, 1, 2, 3], [0, 1, 2, 3, 4, 5], [0, 1, 2, 3, 4, 5, 6], [0, 1, 2, 3, 4, 5, 6, 7], [0, 1, 2, 3, 4, 5, 6, 7, 8], [0, 1, 2, 3, 4, 5, 6, 7, 8], [0, 1, 2, 3, 4, 5, 6, 7, 8, 9, 10], [0, 1, 2, 3, 4, 5, 6, 7, 8], [0, 1, 2, 3, 4, 5, 6, 7, 8], [0, 1, 2, 3, 4, 5, 6, 7, 8, 9, 10, 11, 12, 13], [0, 1, 2, 3, 4, 5, 6, 7, 8, 9, 10, 11, 12, 13, 14], [0, 1, 2, 3, 4, 5, 6, 7, 8, 9, 10, 11, 12, 13, 14, 15], [0, 1, 2, 3, 4, 5, 6, 7, 8, 9, 10, 11, 12, 13, 14, 15, 16], [0, 1, 2, 3, 4, 5, 6, 7, 8, 9, 10, 11, 12, 13, 14, 15, 16, 17], [0, 1, 2, 3, 4, 5, 6, 7, 8, 9, 10, 11, 12, 13, 14, 15, 16, 17, 18], [0, 1, 2, 3, 4, 5, 6, 7, 8, 9, 10, 11, 12, 13, 14, 15, 16, 17, 18], [0, 1, 2, 3, 4, 5, 6, 7, 8, 9, 10, 11, 12, 13, 14, 15, 16, 17, 18, 20], [0, 1, 2, 3, 4, 5, 6, 7, 8, 9, 10, 11, 12, 13, 14, 15, 16, 17, 18, 19, 20, 21], [0, 1, 2, 3, 4, 5, 6, 7, 8, 9, 10, 11, 12, 13, 14, 15, 16, 17, 18], [0, 1, 2, 3, 4, 5, 6, 7, 8, 9, 10, 11, 12, 13, 14, 15, 16, 17, 18], [0, 1, 2, 3, 4, 5, 6, 7, 8, 9, 10, 11, 12, 13, 14, 15, 16, 17, 18, 24], [0, 1, 2, 3, 4, 5, 6, 7, 8, 9, 10, 11, 12, 13, 14, 15, 16, 17, 18, 19, 20, 21, 22, 23, 24, 25], [0, 1, 2, 3, 4, 5, 6, 7, 8, 9, 10, 11, 12, 13, 14, 15, 16, 17, 18, 19, 20, 21, 22, 23, 24, 25, 26], [0, 1, 2, 3, 4, 5, 6, 7, 8, 9, 10, 11, 12, 13, 14, 15, 16, 17, 18, 19, 20, 21, 22, 23, 24, 25, 26, 27], [0, 1, 2, 3, 4, 5, 6, 7, 8, 9, 10, 11, 12, 13, 14, 15, 16, 17, 18, 19, 20, 21, 22, 23, 24, 25, 26, 27, 28]] 26 (fun x y => Step (fun k => w56.heap.size ≤ k) x y) [11, 14, 15, 22] [0, 1, 2, 3, 4, 5, 6, 7, 8, 9, 10, 12, 13, 11, 14, 15, 16, 17, 18, 19, 20, 21, 23, 24, 25, 22] (by kernel_rfl) (by kernel_rfl) (by kernel_rfl) (by kernel_rfl) (fun x => Step.refl _ x) (fun h k => Step.trans h k) Step.weak ?_
              have hzs34 := hS.size
              have hzl121 := ho3.lt
              have hzl122 := ht4.lt
              have hzl123 := ho9.lt
              generalize w56.drew = w57 at hs16 hs16z ⊢
              replace hS := Step.trans hS hs16
              replace ho3 := ho3.no hs16
              replace ht4 := ht4.no hs16
              replace ho9 := ho9.no hs16
              refine VT_pures 3 (kn' := [(2, .bool (!((aheadA (downA (walkA here wait q k) (((q k).do_) == 3)) t) == (aheadA (downA (walkA here wait q k) (((q k).do_) == 3)) t)))), (1, .bool (aheadA (downA (walkA here wait q k) (((q k).do_) == 3)) t)), (0, .bool (aheadA (downA (walkA here wait q k) (((q k).do_) == 3)) t))]) (by kernel_rfl) ?_
              refine VT_eq [(2, .bool false), (1, .bool (aheadA (downA (walkA here wait q k) (((q k).do_) == 3)) t)), (0, .bool (aheadA (downA (walkA here wait q k) (((q k).do_) == 3)) t))] (by simp) ?_
              refine VT_pures 4 (kn' := [(6, .bool (!((behindA (downA (walkA here wait q k) (((q k).do_) == 3)) t) == (behindA (downA (walkA here wait q k) (((q k).do_) == 3)) t)))), (5, .bool (behindA (downA (walkA here wait q k) (((q k).do_) == 3)) t)), (4, .bool (behindA (downA (walkA here wait q k) (((q k).do_) == 3)) t)), (3, .bool false), (2, .bool false), (1, .bool (aheadA (downA (walkA here wait q k) (((q k).do_) == 3)) t)), (0, .bool (aheadA (downA (walkA here wait q k) (((q k).do_) == 3)) t))]) (by kernel_rfl) ?_
              refine VT_eq [(6, .bool false), (5, .bool (behindA (downA (walkA here wait q k) (((q k).do_) == 3)) t)), (4, .bool (behindA (downA (walkA here wait q k) (((q k).do_) == 3)) t)), (3, .bool false), (2, .bool false), (1, .bool (aheadA (downA (walkA here wait q k) (((q k).do_) == 3)) t)), (0, .bool (aheadA (downA (walkA here wait q k) (((q k).do_) == 3)) t))] (by simp) ?_
              refine VT_pures 6 (kn' := [(13, .int .i64 t), (12, .pointer (some ⟨rb1, 0, none⟩)), (10, .int .i64 t), (9, .pointer (some ⟨ab1, 0, none⟩)), (8, .bool false), (7, .bool false), (6, .bool false), (5, .bool (behindA (downA (walkA here wait q k) (((q k).do_) == 3)) t)), (4, .bool (behindA (downA (walkA here wait q k) (((q k).do_) == 3)) t)), (3, .bool false), (2, .bool false), (1, .bool (aheadA (downA (walkA here wait q k) (((q k).do_) == 3)) t)), (0, .bool (aheadA (downA (walkA here wait q k) (((q k).do_) == 3)) t))]) (by kernel_rfl) ?_
              refine VT_chain (by kernel_rfl) ?_
              intro w58 hs17
              have hzhs17 := hs17.size
              replace hS := Step.trans hS hs17
              replace ho3 := ho3.no hs17
              replace ht4 := ht4.no hs17
              replace ho9 := ho9.no hs17
              have hzs35 := hS.size
              have hzl124 := ho3.lt
              have hzl125 := ht4.lt
              have hzl126 := ho9.lt
              refine VTc_call (d := 122) (f := 19) (by kernel_rfl) (by kernel_rfl) (by kernel_rfl) Try.call19 (sends_any ab1 (downA (walkA here wait q k) (((q k).do_) == 3)) _ ht4 t) ?_ ?_
              · rintro _ w59 ⟨sb5, rfl, hfsb5, hc31, hc32⟩
                exact Step.mono hc32 (by intro i hi; first | exact hi.elim | ((try simp only at hi ⊢); omega))
              rintro _ w59 ⟨sb5, rfl, hfsb5, hc31, hc32⟩
              have hzhc32 := (hc32).size
              replace hS := Step.trans hS hc32
              replace ho3 := ho3.no hc32
              replace ht4 := ht4.no hc32
              replace ho9 := ho9.no hc32
              have hzsb5 := hc31.lt
              refine VT_chain (by kernel_rfl) ?_
              intro w60 hs18
              have hzhs18 := hs18.size
              replace hS := Step.trans hS hs18
              replace ho3 := ho3.no hs18
              replace ht4 := ht4.no hs18
              replace ho9 := ho9.no hs18
              replace hc31 := hc31.no hs18
              have hzs36 := hS.size
              have hzl127 := ho3.lt
              have hzl128 := ht4.lt
              have hzl129 := ho9.lt
              have hzl130 := hc31.lt
              refine VTc_call (d := 125) (f := 20) (by kernel_rfl) (by kernel_rfl) (by kernel_rfl) Try.call20 (rsends_any rb1 (downA (walkA here wait q k) (((q k).do_) == 3)) _ ho9 t) ?_ ?_
              · rintro v28 w61 ⟨hrow5, hc33⟩
                exact Step.mono hc33 (by intro i hi; first | exact hi.elim | ((try simp only at hi ⊢); omega))
              rintro v28 w61 ⟨hrow5, hc33⟩
              have hzhc33 := (hc33).size
              replace hS := Step.trans hS hc33
              replace ho3 := ho3.no hc33
              replace ht4 := ht4.no hc33
              replace ho9 := ho9.no hc33
              replace hc31 := hc31.no hc33
              obtain ⟨rg5, cap5, rfl, hgrg5, hoa5⟩ := oms_row hrow5 (send_ne _ _)
              refine VT_chain (by kernel_rfl) ?_
              intro w62 hs19
              have hzhs19 := hs19.size
              replace hS := Step.trans hS hs19
              replace ho3 := ho3.no hs19
              replace ht4 := ht4.no hs19
              replace ho9 := ho9.no hs19
              replace hc31 := hc31.no hs19
              replace hoa5 := OmsAt.no hoa5 hs19
              have hzs37 := hS.size
              have hzl131 := ho3.lt
              have hzl132 := ht4.lt
              have hzl133 := ho9.lt
              have hzl134 := hc31.lt
              refine VTc_call (d := 126) (f := 18) (by kernel_rfl) (by kernel_rfl) (by kernel_rfl) Try.call18 (same_any sb5 rg5 cap5 (sendL (downA (walkA here wait q k) (((q k).do_) == 3)) t).length _ _ (oms_own hc31) hoa5 (send_len _ _)) ?_ ?_
              · rintro _ w63 ⟨rfl, hc34⟩
                exact Step.mono hc34 (by intro i hi; first | exact hi.elim | ((try simp only at hi ⊢); omega))
              rintro _ w63 ⟨rfl, hc34⟩
              have hzhc34 := (hc34).size
              replace hS := Step.trans hS hc34
              replace ho3 := ho3.no hc34
              replace ht4 := ht4.no hc34
              replace ho9 := ho9.no hc34
              replace hc31 := hc31.no hc34
              replace hoa5 := OmsAt.no hoa5 hc34
              refine VT_pures 5 (kn' := [(20, .pointer (some ⟨b2, 1, none⟩)), (19, .pointer (some ⟨ab1, 0, none⟩)), (18, .bool false), (17, .bool false), (16, .bool false), (15, .bool true), (14, .slice (some ⟨rg5, 0, none⟩) ((sendL (downA (walkA here wait q k) (((q k).do_) == 3)) t).length) cap5), (11, .slice (some ⟨sb5, 0, none⟩) ((sendL (downA (walkA here wait q k) (((q k).do_) == 3)) t).length) ((sendL (downA (walkA here wait q k) (((q k).do_) == 3)) t).length)), (13, .int .i64 t), (12, .pointer (some ⟨rb1, 0, none⟩)), (10, .int .i64 t), (9, .pointer (some ⟨ab1, 0, none⟩)), (8, .bool false), (7, .bool false), (6, .bool false), (5, .bool (behindA (downA (walkA here wait q k) (((q k).do_) == 3)) t)), (4, .bool (behindA (downA (walkA here wait q k) (((q k).do_) == 3)) t)), (3, .bool false), (2, .bool false), (1, .bool (aheadA (downA (walkA here wait q k) (((q k).do_) == 3)) t)), (0, .bool (aheadA (downA (walkA here wait q k) (((q k).do_) == 3)) t))]) (by kernel_rfl) ?_
              refine VT_load (d := 132) (t := 3) (a := ⟨b2, 1, none⟩) (v := .int .i64 ((q k).t)) (by kernel_rfl) (by kernel_rfl) ?_ ?_
              · intro w64 hr9
                replace hS := Step.transNew hS hr9 (fun i hi hG => by (try simp only at hG); omega)
                replace ho3 := ho3.step hr9 (by (try simp only); omega)
                replace ht4 := ht4.step hr9 (by (try simp only); omega)
                replace ho9 := ho9.step hr9 (by (try simp only); omega)
                exact (Loads.own1 ho3 (by kernel_rfl) (by rfl))
              refine VT_pures 2 (kn' := [(24, .pointer (some ⟨b2, 1, none⟩)), (23, .pointer (some ⟨rb1, 0, none⟩)), (21, .int .i64 ((q k).t)), (20, .pointer (some ⟨b2, 1, none⟩)), (19, .pointer (some ⟨ab1, 0, none⟩)), (18, .bool false), (17, .bool false), (16, .bool false), (15, .bool true), (14, .slice (some ⟨rg5, 0, none⟩) ((sendL (downA (walkA here wait q k) (((q k).do_) == 3)) t).length) cap5), (11, .slice (some ⟨sb5, 0, none⟩) ((sendL (downA (walkA here wait q k) (((q k).do_) == 3)) t).length) ((sendL (downA (walkA here wait q k) (((q k).do_) == 3)) t).length)), (13, .int .i64 t), (12, .pointer (some ⟨rb1, 0, none⟩)), (10, .int .i64 t), (9, .pointer (some ⟨ab1, 0, none⟩)), (8, .bool false), (7, .bool false), (6, .bool false), (5, .bool (behindA (downA (walkA here wait q k) (((q k).do_) == 3)) t)), (4, .bool (behindA (downA (walkA here wait q k) (((q k).do_) == 3)) t)), (3, .bool false), (2, .bool false), (1, .bool (aheadA (downA (walkA here wait q k) (((q k).do_) == 3)) t)), (0, .bool (aheadA (downA (walkA here wait q k) (((q k).do_) == 3)) t))]) (by kernel_rfl) ?_
              refine VT_load (d := 136) (t := 3) (a := ⟨b2, 1, none⟩) (v := .int .i64 ((q k).t)) (by kernel_rfl) (by kernel_rfl) ?_ ?_
              · intro w65 hr10
                replace hS := Step.transNew hS hr10 (fun i hi hG => by (try simp only at hG); omega)
                replace ho3 := ho3.step hr10 (by (try simp only); omega)
                replace ht4 := ht4.step hr10 (by (try simp only); omega)
                replace ho9 := ho9.step hr10 (by (try simp only); omega)
                exact (Loads.own1 ho3 (by kernel_rfl) (by rfl))
              refine VT_chain (by kernel_rfl) ?_
              intro w66 hs20
              have hzhs20 := hs20.size
              replace hS := Step.trans hS hs20
              replace ho3 := ho3.no hs20
              replace ht4 := ht4.no hs20
              replace ho9 := ho9.no hs20
              replace hc31 := hc31.no hs20
              replace hoa5 := OmsAt.no hoa5 hs20
              have hzs38 := hS.size
              have hzl135 := ho3.lt
              have hzl136 := ht4.lt
              have hzl137 := ho9.lt
              have hzl138 := hc31.lt
              refine VTc_call (d := 133) (f := 19) (by kernel_rfl) (by kernel_rfl) (by kernel_rfl) Try.call19 (sends_any ab1 (downA (walkA here wait q k) (((q k).do_) == 3)) _ ht4 ((q k).t)) ?_ ?_
              · rintro _ w67 ⟨sb6, rfl, hfsb6, hc35, hc36⟩
                exact Step.mono hc36 (by intro i hi; first | exact hi.elim | ((try simp only at hi ⊢); omega))
              rintro _ w67 ⟨sb6, rfl, hfsb6, hc35, hc36⟩
              have hzhc36 := (hc36).size
              replace hS := Step.trans hS hc36
              replace ho3 := ho3.no hc36
              replace ht4 := ht4.no hc36
              replace ho9 := ho9.no hc36
              replace hc31 := hc31.no hc36
              replace hoa5 := OmsAt.no hoa5 hc36
              have hzsb6 := hc35.lt
              refine VT_end ?_
              intro w68 hs21
              replace hS := Step.trans hS hs21
              replace ho3 := ho3.no hs21
              replace ht4 := ht4.no hs21
              replace ho9 := ho9.no hs21
              replace hc31 := hc31.no hs21
              replace hoa5 := OmsAt.no hoa5 hs21
              replace hc35 := hc35.no hs21
              refine VL_keep [2, 3, 9, 10, 38, 39, 129, 134, 136, 133] [(2, .slice (some ⟨lb, lo, none⟩) n cc), (3, .int .i64 t), (9, .pointer (some ⟨ab1, 0, none⟩)), (10, .pointer (some ⟨rb1, 0, none⟩)), (38, .int .i64 ((n : Nat) : Int)), (39, .int .i64 ((k : Nat) : Int)), (129, .bool false), (134, .pointer (some ⟨rb1, 0, none⟩)), (136, .int .i64 ((q k).t)), (133, .slice (some ⟨sb6, 0, none⟩) ((sendL (downA (walkA here wait q k) (((q k).do_) == 3)) ((q k).t)).length) ((sendL (downA (walkA here wait q k) (((q k).do_) == 3)) ((q k).t)).length))] (by kernel_rfl) ?_
              have hzs39 := hS.size
              have hzl139 := ho3.lt
              have hzl140 := ht4.lt
              have hzl141 := ho9.lt
              have hzl142 := hc31.lt
              have hzl143 := hc35.lt
              refine VL_call (d := 137) (f := 20) (by kernel_rfl) (by kernel_rfl) (by kernel_rfl) Try.call20 (rsends_any rb1 (downA (walkA here wait q k) (((q k).do_) == 3)) _ ho9 ((q k).t)) ?_
              rintro v31 w69 ⟨hrow6, hc37⟩
              replace hS := Step.trans hS hc37
              replace ho3 := ho3.no hc37
              replace ht4 := ht4.no hc37
              replace ho9 := ho9.no hc37
              replace hc31 := hc31.no hc37
              replace hoa5 := OmsAt.no hoa5 hc37
              replace hc35 := hc35.no hc37
              obtain ⟨rg6, cap6, rfl, hgrg6, hoa6⟩ := oms_row hrow6 (send_ne _ _)
              have hzs40 := hS.size
              have hzl144 := ho3.lt
              have hzl145 := ht4.lt
              have hzl146 := ho9.lt
              have hzl147 := hc31.lt
              have hzl148 := hc35.lt
              refine VL_call (d := 138) (f := 18) (by kernel_rfl) (by kernel_rfl) (by kernel_rfl) Try.call18 (same_any sb6 rg6 cap6 (sendL (downA (walkA here wait q k) (((q k).do_) == 3)) ((q k).t)).length _ _ (oms_own hc35) hoa6 (send_len _ _)) ?_
              rintro _ w70 ⟨rfl, hc38⟩
              replace hS := Step.trans hS hc38
              replace ho3 := ho3.no hc38
              replace ht4 := ht4.no hc38
              replace ho9 := ho9.no hc38
              replace hc31 := hc31.no hc38
              replace hoa5 := OmsAt.no hoa5 hc38
              replace hc35 := hc35.no hc38
              replace hoa6 := OmsAt.no hoa6 hc38
              refine VL_pure 30 [2, 3, 9, 10, 38, 39, 140] [(2, .slice (some ⟨lb, lo, none⟩) n cc), (3, .int .i64 t), (9, .pointer (some ⟨ab1, 0, none⟩)), (10, .pointer (some ⟨rb1, 0, none⟩)), (38, .int .i64 ((n : Nat) : Int)), (39, .int .i64 ((k : Nat) : Int)), (140, .bool false)] (by kernel_rfl) rfl ?_
              refine VL_end (by kernel_rfl) ?_
              refine VQ_next ?_
              refine VC_false (by kernel_rfl) ?_
              refine VC_skip ?_
              refine VQ_block_normal ?_
              refine VQ_next ?_
              refine VC_region ?_
              refine VL_pure 1 [2, 3, 9, 10, 38, 141] [(2, .slice (some ⟨lb, lo, none⟩) n cc), (3, .int .i64 t), (9, .pointer (some ⟨ab1, 0, none⟩)), (10, .pointer (some ⟨rb1, 0, none⟩)), (38, .int .i64 ((n : Nat) : Int)), (141, .int .i64 (IntKind.wrap .i64 (((k : Nat) : Int) + 1)))] (by kernel_rfl) rfl ?_
              refine VL_eq [(2, .slice (some ⟨lb, lo, none⟩) n cc), (3, .int .i64 t), (9, .pointer (some ⟨ab1, 0, none⟩)), (10, .pointer (some ⟨rb1, 0, none⟩)), (38, .int .i64 ((n : Nat) : Int)), (141, .int .i64 ((k + 1 : Nat) : Int))] (by rw [wrap_i64 _ (by omega) (by omega)]; rfl) ?_
              refine VL_pure 2 [2, 3, 9, 10, 38, 39] [(2, .slice (some ⟨lb, lo, none⟩) n cc), (3, .int .i64 t), (9, .pointer (some ⟨ab1, 0, none⟩)), (10, .pointer (some ⟨rb1, 0, none⟩)), (38, .int .i64 ((n : Nat) : Int)), (39, .int .i64 ((k + 1 : Nat) : Int))] (by kernel_rfl) rfl ?_
              refine VL_end (by kernel_rfl) ?_
              refine VQ_again (k + 1) ⟨rfl, rfl, rfl, rfl, rfl, rfl, trivial⟩ ?_ ?_
              · exact ⟨by omega, Own.cast (c := alC (downA (walkA here wait q k) (((q k).do_) == 3))) ht4 (congrArg alC (stepE_3 (by omega) (by omega) (by omega))), Own.cast (c := rfC (downA (walkA here wait q k) (((q k).do_) == 3))) ho9 (congrArg rfC (stepE_3 (by omega) (by omega) (by omega))), hS⟩
              · (try dsimp only); omega
            · refine VC_skip ?_
              refine VQ_block_normal ?_
              refine VQ_next ?_
              refine VC_seq ?_
              refine VC_region ?_
              refine VL_pure 2 [2, 3, 9, 10, 38, 39, 12, 100, 101] [(2, .slice (some ⟨lb, lo, none⟩) n cc), (3, .int .i64 t), (9, .pointer (some ⟨ab1, 0, none⟩)), (10, .pointer (some ⟨rb1, 0, none⟩)), (38, .int .i64 ((n : Nat) : Int)), (39, .int .i64 ((k : Nat) : Int)), (12, .pointer (some ⟨b2, 0, none⟩)), (100, .pointer (some ⟨ab1, 0, none⟩)), (101, .int .i64 t)] (by kernel_rfl) rfl ?_
              have hzs41 := hS.size
              have hzl149 := ht.lt
              have hzl150 := hr.lt
              have hzl151 := ho3.lt
              refine VL_call (d := 102) (f := 16) (by kernel_rfl) (by kernel_rfl) (by kernel_rfl) Try.call16 (state_any ab1 (walkA here wait q k) _ ht t) ?_
              rintro _ w71 ⟨rfl, hc39⟩
              replace hS := Step.trans hS hc39
              replace ht := ht.no hc39
              replace hr := hr.no hc39
              replace ho3 := ho3.no hc39
              refine VL_pure 8 [2, 3, 9, 10, 38, 39, 12, 17, 18] [(2, .slice (some ⟨lb, lo, none⟩) n cc), (3, .int .i64 t), (9, .pointer (some ⟨ab1, 0, none⟩)), (10, .pointer (some ⟨rb1, 0, none⟩)), (38, .int .i64 ((n : Nat) : Int)), (39, .int .i64 ((k : Nat) : Int)), (12, .pointer (some ⟨b2, 0, none⟩)), (17, .bool (aheadA (walkA here wait q k) t)), (18, .bool (behindA (walkA here wait q k) t))] (by kernel_rfl) rfl ?_
              refine VL_end (by kernel_rfl) ?_
              refine VQ_next ?_
              refine VC_seq ?_
              refine VC_region ?_
              refine VL_pure 2 [2, 3, 9, 10, 38, 39, 12, 17, 18, 106, 107] [(2, .slice (some ⟨lb, lo, none⟩) n cc), (3, .int .i64 t), (9, .pointer (some ⟨ab1, 0, none⟩)), (10, .pointer (some ⟨rb1, 0, none⟩)), (38, .int .i64 ((n : Nat) : Int)), (39, .int .i64 ((k : Nat) : Int)), (12, .pointer (some ⟨b2, 0, none⟩)), (17, .bool (aheadA (walkA here wait q k) t)), (18, .bool (behindA (walkA here wait q k) t)), (106, .pointer (some ⟨rb1, 0, none⟩)), (107, .int .i64 t)] (by kernel_rfl) rfl ?_
              have hzs42 := hS.size
              have hzl152 := ht.lt
              have hzl153 := hr.lt
              have hzl154 := ho3.lt
              refine VL_call (d := 108) (f := 17) (by kernel_rfl) (by kernel_rfl) (by kernel_rfl) Try.call17 (rstate_any rb1 (walkA here wait q k) _ hr t) ?_
              rintro _ w72 ⟨rfl, hc40⟩
              replace hS := Step.trans hS hc40
              replace ht := ht.no hc40
              replace hr := hr.no hc40
              replace ho3 := ho3.no hc40
              refine VL_pure 8 [2, 3, 9, 10, 38, 39, 12, 17, 18, 19, 20] [(2, .slice (some ⟨lb, lo, none⟩) n cc), (3, .int .i64 t), (9, .pointer (some ⟨ab1, 0, none⟩)), (10, .pointer (some ⟨rb1, 0, none⟩)), (38, .int .i64 ((n : Nat) : Int)), (39, .int .i64 ((k : Nat) : Int)), (12, .pointer (some ⟨b2, 0, none⟩)), (17, .bool (aheadA (walkA here wait q k) t)), (18, .bool (behindA (walkA here wait q k) t)), (19, .bool (aheadA (walkA here wait q k) t)), (20, .bool (behindA (walkA here wait q k) t))] (by kernel_rfl) rfl ?_
              refine VL_end (by kernel_rfl) ?_
              refine VQ_next ?_
              refine VC_seq ?_
              have hs22 := drew_step w72
              have hs22z : w72.heap.size = w72.drew.heap.size := rfl
              refine VC_text [[], [], [0, 1], [0, 1, 2], [0, 1, 2, 3], [0, 1, 2, 3], [0, 1, 2, 3, 4, 5], [0, 1, 2, 3, 4, 5, 6], [0, 1, 2, 3, 4, 5, 6, 7], [0, 1, 2, 3, 4, 5, 6, 7, 8], [0, 1, 2, 3, 4, 5, 6, 7, 8], [0, 1, 2, 3, 4, 5, 6, 7, 8, 9, 10], [0, 1, 2, 3, 4, 5, 6, 7, 8], [0, 1, 2, 3, 4, 5, 6, 7, 8], [0, 1, 2, 3, 4, 5, 6, 7, 8, 9, 10, 11, 12, 13], [0, 1, 2, 3, 4, 5, 6, 7, 8, 9, 10, 11, 12, 13, 14], [0, 1, 2, 3, 4, 5, 6, 7, 8, 9, 10, 11, 12, 13, 14, 15], [0, 1, 2, 3, 4, 5, 6, 7, 8, 9, 10, 11, 12, 13, 14, 15, 16], [0, 1, 2, 3, 4, 5, 6, 7, 8, 9, 10, 11, 12, 13, 14, 15, 16, 17], [0, 1, 2, 3, 4, 5, 6, 7, 8, 9, 10, 11, 12, 13, 14, 15, 16, 17, 18], [0, 1, 2, 3, 4, 5, 6, 7, 8, 9, 10, 11, 12, 13, 14, 15, 16, 17, 18], [0, 1, 2, 3, 4, 5, 6, 7, 8, 9, 10, 11, 12, 13, 14, 15, 16, 17, 18, 20], [0, 1, 2, 3, 4, 5, 6, 7, 8, 9, 10, 11, 12, 13, 14, 15, 16, 17, 18, 19, 20, 21], [0, 1, 2, 3, 4, 5, 6, 7, 8, 9, 10, 11, 12, 13, 14, 15, 16, 17, 18], [0, 1, 2, 3, 4, 5, 6, 7, 8, 9, 10, 11, 12, 13, 14, 15, 16, 17, 18], [0, 1, 2, 3, 4, 5, 6, 7, 8, 9, 10, 11, 12, 13, 14, 15, 16, 17, 18, 24], [0, 1, 2, 3, 4, 5, 6, 7, 8, 9, 10, 11, 12, 13, 14, 15, 16, 17, 18, 19, 20, 21, 22, 23, 24, 25], [0, 1, 2, 3, 4, 5, 6, 7, 8, 9, 10, 11, 12, 13, 14, 15, 16, 17, 18, 19, 20, 21, 22, 23, 24, 25, 26], [0, 1, 2, 3, 4, 5, 6, 7, 8, 9, 10, 11, 12, 13, 14, 15, 16, 17, 18, 19, 20, 21, 22, 23, 24, 25, 26, 27], [0, 1, 2, 3, 4, 5, 6, 7, 8, 9, 10, 11, 12, 13, 14, 15, 16, 17, 18, 19, 20, 21, 22, 23, 24, 25, 26, 27, 28]] 26 (fun x y => Step (fun k => w72.heap.size ≤ k) x y) [11, 14, 15, 22] [0, 1, 2, 3, 4, 5, 6, 7, 8, 9, 10, 12, 13, 11, 14, 15, 16, 17, 18, 19, 20, 21, 23, 24, 25, 22] (by kernel_rfl) (by kernel_rfl) (by kernel_rfl) (by kernel_rfl) (fun x => Step.refl _ x) (fun h k => Step.trans h k) Step.weak ?_
              have hzs43 := hS.size
              have hzl155 := ht.lt
              have hzl156 := hr.lt
              have hzl157 := ho3.lt
              generalize w72.drew = w73 at hs22 hs22z ⊢
              replace hS := Step.trans hS hs22
              replace ht := ht.no hs22
              replace hr := hr.no hs22
              replace ho3 := ho3.no hs22
              refine VT_pures 3 (kn' := [(2, .bool (!((aheadA (walkA here wait q k) t) == (aheadA (walkA here wait q k) t)))), (1, .bool (aheadA (walkA here wait q k) t)), (0, .bool (aheadA (walkA here wait q k) t))]) (by kernel_rfl) ?_
              refine VT_eq [(2, .bool false), (1, .bool (aheadA (walkA here wait q k) t)), (0, .bool (aheadA (walkA here wait q k) t))] (by simp) ?_
              refine VT_pures 4 (kn' := [(6, .bool (!((behindA (walkA here wait q k) t) == (behindA (walkA here wait q k) t)))), (5, .bool (behindA (walkA here wait q k) t)), (4, .bool (behindA (walkA here wait q k) t)), (3, .bool false), (2, .bool false), (1, .bool (aheadA (walkA here wait q k) t)), (0, .bool (aheadA (walkA here wait q k) t))]) (by kernel_rfl) ?_
              refine VT_eq [(6, .bool false), (5, .bool (behindA (walkA here wait q k) t)), (4, .bool (behindA (walkA here wait q k) t)), (3, .bool false), (2, .bool false), (1, .bool (aheadA (walkA here wait q k) t)), (0, .bool (aheadA (walkA here wait q k) t))] (by simp) ?_
              refine VT_pures 6 (kn' := [(13, .int .i64 t), (12, .pointer (some ⟨rb1, 0, none⟩)), (10, .int .i64 t), (9, .pointer (some ⟨ab1, 0, none⟩)), (8, .bool false), (7, .bool false), (6, .bool false), (5, .bool (behindA (walkA here wait q k) t)), (4, .bool (behindA (walkA here wait q k) t)), (3, .bool false), (2, .bool false), (1, .bool (aheadA (walkA here wait q k) t)), (0, .bool (aheadA (walkA here wait q k) t))]) (by kernel_rfl) ?_
              refine VT_chain (by kernel_rfl) ?_
              intro w74 hs23
              have hzhs23 := hs23.size
              replace hS := Step.trans hS hs23
              replace ht := ht.no hs23
              replace hr := hr.no hs23
              replace ho3 := ho3.no hs23
              have hzs44 := hS.size
              have hzl158 := ht.lt
              have hzl159 := hr.lt
              have hzl160 := ho3.lt
              refine VTc_call (d := 122) (f := 19) (by kernel_rfl) (by kernel_rfl) (by kernel_rfl) Try.call19 (sends_any ab1 (walkA here wait q k) _ ht t) ?_ ?_
              · rintro _ w75 ⟨sb7, rfl, hfsb7, hc41, hc42⟩
                exact Step.mono hc42 (by intro i hi; first | exact hi.elim | ((try simp only at hi ⊢); omega))
              rintro _ w75 ⟨sb7, rfl, hfsb7, hc41, hc42⟩
              have hzhc42 := (hc42).size
              replace hS := Step.trans hS hc42
              replace ht := ht.no hc42
              replace hr := hr.no hc42
              replace ho3 := ho3.no hc42
              have hzsb7 := hc41.lt
              refine VT_chain (by kernel_rfl) ?_
              intro w76 hs24
              have hzhs24 := hs24.size
              replace hS := Step.trans hS hs24
              replace ht := ht.no hs24
              replace hr := hr.no hs24
              replace ho3 := ho3.no hs24
              replace hc41 := hc41.no hs24
              have hzs45 := hS.size
              have hzl161 := ht.lt
              have hzl162 := hr.lt
              have hzl163 := ho3.lt
              have hzl164 := hc41.lt
              refine VTc_call (d := 125) (f := 20) (by kernel_rfl) (by kernel_rfl) (by kernel_rfl) Try.call20 (rsends_any rb1 (walkA here wait q k) _ hr t) ?_ ?_
              · rintro v36 w77 ⟨hrow7, hc43⟩
                exact Step.mono hc43 (by intro i hi; first | exact hi.elim | ((try simp only at hi ⊢); omega))
              rintro v36 w77 ⟨hrow7, hc43⟩
              have hzhc43 := (hc43).size
              replace hS := Step.trans hS hc43
              replace ht := ht.no hc43
              replace hr := hr.no hc43
              replace ho3 := ho3.no hc43
              replace hc41 := hc41.no hc43
              obtain ⟨rg7, cap7, rfl, hgrg7, hoa7⟩ := oms_row hrow7 (send_ne _ _)
              refine VT_chain (by kernel_rfl) ?_
              intro w78 hs25
              have hzhs25 := hs25.size
              replace hS := Step.trans hS hs25
              replace ht := ht.no hs25
              replace hr := hr.no hs25
              replace ho3 := ho3.no hs25
              replace hc41 := hc41.no hs25
              replace hoa7 := OmsAt.no hoa7 hs25
              have hzs46 := hS.size
              have hzl165 := ht.lt
              have hzl166 := hr.lt
              have hzl167 := ho3.lt
              have hzl168 := hc41.lt
              refine VTc_call (d := 126) (f := 18) (by kernel_rfl) (by kernel_rfl) (by kernel_rfl) Try.call18 (same_any sb7 rg7 cap7 (sendL (walkA here wait q k) t).length _ _ (oms_own hc41) hoa7 (send_len _ _)) ?_ ?_
              · rintro _ w79 ⟨rfl, hc44⟩
                exact Step.mono hc44 (by intro i hi; first | exact hi.elim | ((try simp only at hi ⊢); omega))
              rintro _ w79 ⟨rfl, hc44⟩
              have hzhc44 := (hc44).size
              replace hS := Step.trans hS hc44
              replace ht := ht.no hc44
              replace hr := hr.no hc44
              replace ho3 := ho3.no hc44
              replace hc41 := hc41.no hc44
              replace hoa7 := OmsAt.no hoa7 hc44
              refine VT_pures 5 (kn' := [(20, .pointer (some ⟨b2, 1, none⟩)), (19, .pointer (some ⟨ab1, 0, none⟩)), (18, .bool false), (17, .bool false), (16, .bool false), (15, .bool true), (14, .slice (some ⟨rg7, 0, none⟩) ((sendL (walkA here wait q k) t).length) cap7), (11, .slice (some ⟨sb7, 0, none⟩) ((sendL (walkA here wait q k) t).length) ((sendL (walkA here wait q k) t).length)), (13, .int .i64 t), (12, .pointer (some ⟨rb1, 0, none⟩)), (10, .int .i64 t), (9, .pointer (some ⟨ab1, 0, none⟩)), (8, .bool false), (7, .bool false), (6, .bool false), (5, .bool (behindA (walkA here wait q k) t)), (4, .bool (behindA (walkA here wait q k) t)), (3, .bool false), (2, .bool false), (1, .bool (aheadA (walkA here wait q k) t)), (0, .bool (aheadA (walkA here wait q k) t))]) (by kernel_rfl) ?_
              refine VT_load (d := 132) (t := 3) (a := ⟨b2, 1, none⟩) (v := .int .i64 ((q k).t)) (by kernel_rfl) (by kernel_rfl) ?_ ?_
              · intro w80 hr11
                replace hS := Step.transNew hS hr11 (fun i hi hG => by (try simp only at hG); omega)
                replace ht := ht.step hr11 (by (try simp only); omega)
                replace hr := hr.step hr11 (by (try simp only); omega)
                replace ho3 := ho3.step hr11 (by (try simp only); omega)
                exact (Loads.own1 ho3 (by kernel_rfl) (by rfl))
              refine VT_pures 2 (kn' := [(24, .pointer (some ⟨b2, 1, none⟩)), (23, .pointer (some ⟨rb1, 0, none⟩)), (21, .int .i64 ((q k).t)), (20, .pointer (some ⟨b2, 1, none⟩)), (19, .pointer (some ⟨ab1, 0, none⟩)), (18, .bool false), (17, .bool false), (16, .bool false), (15, .bool true), (14, .slice (some ⟨rg7, 0, none⟩) ((sendL (walkA here wait q k) t).length) cap7), (11, .slice (some ⟨sb7, 0, none⟩) ((sendL (walkA here wait q k) t).length) ((sendL (walkA here wait q k) t).length)), (13, .int .i64 t), (12, .pointer (some ⟨rb1, 0, none⟩)), (10, .int .i64 t), (9, .pointer (some ⟨ab1, 0, none⟩)), (8, .bool false), (7, .bool false), (6, .bool false), (5, .bool (behindA (walkA here wait q k) t)), (4, .bool (behindA (walkA here wait q k) t)), (3, .bool false), (2, .bool false), (1, .bool (aheadA (walkA here wait q k) t)), (0, .bool (aheadA (walkA here wait q k) t))]) (by kernel_rfl) ?_
              refine VT_load (d := 136) (t := 3) (a := ⟨b2, 1, none⟩) (v := .int .i64 ((q k).t)) (by kernel_rfl) (by kernel_rfl) ?_ ?_
              · intro w81 hr12
                replace hS := Step.transNew hS hr12 (fun i hi hG => by (try simp only at hG); omega)
                replace ht := ht.step hr12 (by (try simp only); omega)
                replace hr := hr.step hr12 (by (try simp only); omega)
                replace ho3 := ho3.step hr12 (by (try simp only); omega)
                exact (Loads.own1 ho3 (by kernel_rfl) (by rfl))
              refine VT_chain (by kernel_rfl) ?_
              intro w82 hs26
              have hzhs26 := hs26.size
              replace hS := Step.trans hS hs26
              replace ht := ht.no hs26
              replace hr := hr.no hs26
              replace ho3 := ho3.no hs26
              replace hc41 := hc41.no hs26
              replace hoa7 := OmsAt.no hoa7 hs26
              have hzs47 := hS.size
              have hzl169 := ht.lt
              have hzl170 := hr.lt
              have hzl171 := ho3.lt
              have hzl172 := hc41.lt
              refine VTc_call (d := 133) (f := 19) (by kernel_rfl) (by kernel_rfl) (by kernel_rfl) Try.call19 (sends_any ab1 (walkA here wait q k) _ ht ((q k).t)) ?_ ?_
              · rintro _ w83 ⟨sb8, rfl, hfsb8, hc45, hc46⟩
                exact Step.mono hc46 (by intro i hi; first | exact hi.elim | ((try simp only at hi ⊢); omega))
              rintro _ w83 ⟨sb8, rfl, hfsb8, hc45, hc46⟩
              have hzhc46 := (hc46).size
              replace hS := Step.trans hS hc46
              replace ht := ht.no hc46
              replace hr := hr.no hc46
              replace ho3 := ho3.no hc46
              replace hc41 := hc41.no hc46
              replace hoa7 := OmsAt.no hoa7 hc46
              have hzsb8 := hc45.lt
              refine VT_end ?_
              intro w84 hs27
              replace hS := Step.trans hS hs27
              replace ht := ht.no hs27
              replace hr := hr.no hs27
              replace ho3 := ho3.no hs27
              replace hc41 := hc41.no hs27
              replace hoa7 := OmsAt.no hoa7 hs27
              replace hc45 := hc45.no hs27
              refine VL_keep [2, 3, 9, 10, 38, 39, 129, 134, 136, 133] [(2, .slice (some ⟨lb, lo, none⟩) n cc), (3, .int .i64 t), (9, .pointer (some ⟨ab1, 0, none⟩)), (10, .pointer (some ⟨rb1, 0, none⟩)), (38, .int .i64 ((n : Nat) : Int)), (39, .int .i64 ((k : Nat) : Int)), (129, .bool false), (134, .pointer (some ⟨rb1, 0, none⟩)), (136, .int .i64 ((q k).t)), (133, .slice (some ⟨sb8, 0, none⟩) ((sendL (walkA here wait q k) ((q k).t)).length) ((sendL (walkA here wait q k) ((q k).t)).length))] (by kernel_rfl) ?_
              have hzs48 := hS.size
              have hzl173 := ht.lt
              have hzl174 := hr.lt
              have hzl175 := ho3.lt
              have hzl176 := hc41.lt
              have hzl177 := hc45.lt
              refine VL_call (d := 137) (f := 20) (by kernel_rfl) (by kernel_rfl) (by kernel_rfl) Try.call20 (rsends_any rb1 (walkA here wait q k) _ hr ((q k).t)) ?_
              rintro v39 w85 ⟨hrow8, hc47⟩
              replace hS := Step.trans hS hc47
              replace ht := ht.no hc47
              replace hr := hr.no hc47
              replace ho3 := ho3.no hc47
              replace hc41 := hc41.no hc47
              replace hoa7 := OmsAt.no hoa7 hc47
              replace hc45 := hc45.no hc47
              obtain ⟨rg8, cap8, rfl, hgrg8, hoa8⟩ := oms_row hrow8 (send_ne _ _)
              have hzs49 := hS.size
              have hzl178 := ht.lt
              have hzl179 := hr.lt
              have hzl180 := ho3.lt
              have hzl181 := hc41.lt
              have hzl182 := hc45.lt
              refine VL_call (d := 138) (f := 18) (by kernel_rfl) (by kernel_rfl) (by kernel_rfl) Try.call18 (same_any sb8 rg8 cap8 (sendL (walkA here wait q k) ((q k).t)).length _ _ (oms_own hc45) hoa8 (send_len _ _)) ?_
              rintro _ w86 ⟨rfl, hc48⟩
              replace hS := Step.trans hS hc48
              replace ht := ht.no hc48
              replace hr := hr.no hc48
              replace ho3 := ho3.no hc48
              replace hc41 := hc41.no hc48
              replace hoa7 := OmsAt.no hoa7 hc48
              replace hc45 := hc45.no hc48
              replace hoa8 := OmsAt.no hoa8 hc48
              refine VL_pure 30 [2, 3, 9, 10, 38, 39, 140] [(2, .slice (some ⟨lb, lo, none⟩) n cc), (3, .int .i64 t), (9, .pointer (some ⟨ab1, 0, none⟩)), (10, .pointer (some ⟨rb1, 0, none⟩)), (38, .int .i64 ((n : Nat) : Int)), (39, .int .i64 ((k : Nat) : Int)), (140, .bool false)] (by kernel_rfl) rfl ?_
              refine VL_end (by kernel_rfl) ?_
              refine VQ_next ?_
              refine VC_false (by kernel_rfl) ?_
              refine VC_skip ?_
              refine VQ_block_normal ?_
              refine VQ_next ?_
              refine VC_region ?_
              refine VL_pure 1 [2, 3, 9, 10, 38, 141] [(2, .slice (some ⟨lb, lo, none⟩) n cc), (3, .int .i64 t), (9, .pointer (some ⟨ab1, 0, none⟩)), (10, .pointer (some ⟨rb1, 0, none⟩)), (38, .int .i64 ((n : Nat) : Int)), (141, .int .i64 (IntKind.wrap .i64 (((k : Nat) : Int) + 1)))] (by kernel_rfl) rfl ?_
              refine VL_eq [(2, .slice (some ⟨lb, lo, none⟩) n cc), (3, .int .i64 t), (9, .pointer (some ⟨ab1, 0, none⟩)), (10, .pointer (some ⟨rb1, 0, none⟩)), (38, .int .i64 ((n : Nat) : Int)), (141, .int .i64 ((k + 1 : Nat) : Int))] (by rw [wrap_i64 _ (by omega) (by omega)]; rfl) ?_
              refine VL_pure 2 [2, 3, 9, 10, 38, 39] [(2, .slice (some ⟨lb, lo, none⟩) n cc), (3, .int .i64 t), (9, .pointer (some ⟨ab1, 0, none⟩)), (10, .pointer (some ⟨rb1, 0, none⟩)), (38, .int .i64 ((n : Nat) : Int)), (39, .int .i64 ((k + 1 : Nat) : Int))] (by kernel_rfl) rfl ?_
              refine VL_end (by kernel_rfl) ?_
              refine VQ_again (k + 1) ⟨rfl, rfl, rfl, rfl, rfl, rfl, trivial⟩ ?_ ?_
              · exact ⟨by omega, Own.cast (c := alC (walkA here wait q k)) ht (congrArg alC (stepE_0 (by omega) (by omega) (by omega) (by omega))), Own.cast (c := rfC (walkA here wait q k)) hr (congrArg rfC (stepE_0 (by omega) (by omega) (by omega) (by omega))), hS⟩
              · (try dsimp only); omega
          · refine VC_region ?_
            refine VL_pure 2 [2, 3, 9, 10, 38, 39, 12, 85] [(2, .slice (some ⟨lb, lo, none⟩) n cc), (3, .int .i64 t), (9, .pointer (some ⟨ab1, 0, none⟩)), (10, .pointer (some ⟨rb1, 0, none⟩)), (38, .int .i64 ((n : Nat) : Int)), (39, .int .i64 ((k : Nat) : Int)), (12, .pointer (some ⟨b2, 0, none⟩)), (85, .bool (((q k).do_) == 4))] (by kernel_rfl) rfl ?_
            refine VL_end (by kernel_rfl) ?_
            refine VQ_next ?_
            refine VC_eq ((q k).do_) 4 (by kernel_rfl) (fun h7 => ?_) (fun h7 => ?_)
            · refine VC_seq ?_
              refine VC_region ?_
              refine VL_pure 2 [2, 3, 9, 10, 38, 39, 12, 88, 89] [(2, .slice (some ⟨lb, lo, none⟩) n cc), (3, .int .i64 t), (9, .pointer (some ⟨ab1, 0, none⟩)), (10, .pointer (some ⟨rb1, 0, none⟩)), (38, .int .i64 ((n : Nat) : Int)), (39, .int .i64 ((k : Nat) : Int)), (12, .pointer (some ⟨b2, 0, none⟩)), (88, .pointer (some ⟨ab1, 0, none⟩)), (89, .pointer (some ⟨b2, 0, none⟩))] (by kernel_rfl) rfl ?_
              refine VL_load (d := 90) (t := 3) (a := ⟨b2, 0, none⟩) (v := .int .i64 ((q k).do_)) (by kernel_rfl) (by kernel_rfl) (Loads.own1 ho3 (by kernel_rfl) (by rfl)) ?_
              refine VL_pure 4 [2, 3, 9, 10, 38, 39, 12, 88, 91] [(2, .slice (some ⟨lb, lo, none⟩) n cc), (3, .int .i64 t), (9, .pointer (some ⟨ab1, 0, none⟩)), (10, .pointer (some ⟨rb1, 0, none⟩)), (38, .int .i64 ((n : Nat) : Int)), (39, .int .i64 ((k : Nat) : Int)), (12, .pointer (some ⟨b2, 0, none⟩)), (88, .pointer (some ⟨ab1, 0, none⟩)), (91, .bool (((q k).do_) == 3))] (by kernel_rfl) rfl ?_
              have hzs50 := hS.size
              have hzl183 := ht.lt
              have hzl184 := hr.lt
              have hzl185 := ho3.lt
              refine VL_call (d := 92) (f := 15) (by kernel_rfl) (by kernel_rfl) (by kernel_rfl) Try.call15 (down_any ab1 (walkA here wait q k) _ ht (((q k).do_) == 3)) ?_
              rintro _ w87 ⟨rfl, ht5, hc49⟩
              replace hS := Step.transNew hS hc49 (fun _ _ _ => by omega)
              replace hr := hr.step hc49 (show ¬ rb1 = ab1 by omega)
              replace ho3 := ho3.step hc49 (show ¬ b2 = ab1 by omega)
              have hzht5 := ht5.lt
              refine VL_end (by kernel_rfl) ?_
              refine VQ_next ?_
              refine VC_region ?_
              refine VL_pure 2 [2, 3, 9, 10, 38, 39, 12, 93, 94] [(2, .slice (some ⟨lb, lo, none⟩) n cc), (3, .int .i64 t), (9, .pointer (some ⟨ab1, 0, none⟩)), (10, .pointer (some ⟨rb1, 0, none⟩)), (38, .int .i64 ((n : Nat) : Int)), (39, .int .i64 ((k : Nat) : Int)), (12, .pointer (some ⟨b2, 0, none⟩)), (93, .pointer (some ⟨rb1, 0, none⟩)), (94, .pointer (some ⟨b2, 0, none⟩))] (by kernel_rfl) rfl ?_
              refine VL_load (d := 95) (t := 3) (a := ⟨b2, 0, none⟩) (v := .int .i64 ((q k).do_)) (by kernel_rfl) (by kernel_rfl) (Loads.own1 ho3 (by kernel_rfl) (by rfl)) ?_
              refine VL_pure 6 [2, 3, 9, 10, 38, 39, 12, 96, 98] [(2, .slice (some ⟨lb, lo, none⟩) n cc), (3, .int .i64 t), (9, .pointer (some ⟨ab1, 0, none⟩)), (10, .pointer (some ⟨rb1, 0, none⟩)), (38, .int .i64 ((n : Nat) : Int)), (39, .int .i64 ((k : Nat) : Int)), (12, .pointer (some ⟨b2, 0, none⟩)), (96, .bool (((q k).do_) == 3)), (98, .pointer (some ⟨rb1, 17, none⟩))] (by kernel_rfl) rfl ?_
              refine VL_store (b := rb1) (o := 17) (vs := [.bool (((q k).do_) == 3)]) (by kernel_rfl) (by kernel_rfl) hr (Nat.le_of_ble_eq_true (by kernel_rfl)) ?_
              intro w88 hw6
              replace hS := Step.transNew hS hw6.step (fun _ _ _ => by omega)
              replace ho3 := ho3.step hw6.step (show ¬ b2 = rb1 by omega)
              replace ht5 := ht5.step hw6.step (show ¬ ab1 = rb1 by omega)
              have ho10 : Own w88 rb1 #[.int .u8 (((walkA here wait q k).here) 0), .int .u8 (((walkA here wait q k).here) 1), .int .u8 (((walkA here wait q k).here) 2), .int .u8 (((walkA here wait q k).here) 3), .int .u8 (((walkA here wait q k).here) 4), .int .u8 (((walkA here wait q k).here) 5), .int .u8 (((walkA here wait q k).here) 6), .int .u8 (((walkA here wait q k).here) 7), .int .u8 (((walkA here wait q k).here) 8), .int .u8 (((walkA here wait q k).here) 9), .int .u8 (((walkA here wait q k).here) 10), .int .u8 (((walkA here wait q k).here) 11), .int .u8 (((walkA here wait q k).here) 12), .int .u8 (((walkA here wait q k).here) 13), .int .u8 (((walkA here wait q k).here) 14), .int .u8 (((walkA here wait q k).here) 15), .int .i64 ((walkA here wait q k).wt), .bool (((q k).do_) == 3), .int .i64 ((walkA here wait q k).ah), .int .i64 ((walkA here wait q k).bh)] 41 := Own.cast hw6.own (by kernel_rfl)
              have hzhw6 := hw6.same
              refine VL_end (by kernel_rfl) ?_
              refine VQ_block_normal ?_
              refine VQ_next ?_
              refine VC_seq ?_
              refine VC_region ?_
              refine VL_pure 2 [2, 3, 9, 10, 38, 39, 12, 100, 101] [(2, .slice (some ⟨lb, lo, none⟩) n cc), (3, .int .i64 t), (9, .pointer (some ⟨ab1, 0, none⟩)), (10, .pointer (some ⟨rb1, 0, none⟩)), (38, .int .i64 ((n : Nat) : Int)), (39, .int .i64 ((k : Nat) : Int)), (12, .pointer (some ⟨b2, 0, none⟩)), (100, .pointer (some ⟨ab1, 0, none⟩)), (101, .int .i64 t)] (by kernel_rfl) rfl ?_
              have hzs51 := hS.size
              have hzl186 := ho3.lt
              have hzl187 := ht5.lt
              have hzl188 := ho10.lt
              refine VL_call (d := 102) (f := 16) (by kernel_rfl) (by kernel_rfl) (by kernel_rfl) Try.call16 (state_any ab1 (downA (walkA here wait q k) (((q k).do_) == 3)) _ ht5 t) ?_
              rintro _ w89 ⟨rfl, hc50⟩
              replace hS := Step.trans hS hc50
              replace ho3 := ho3.no hc50
              replace ht5 := ht5.no hc50
              replace ho10 := ho10.no hc50
              refine VL_pure 8 [2, 3, 9, 10, 38, 39, 12, 17, 18] [(2, .slice (some ⟨lb, lo, none⟩) n cc), (3, .int .i64 t), (9, .pointer (some ⟨ab1, 0, none⟩)), (10, .pointer (some ⟨rb1, 0, none⟩)), (38, .int .i64 ((n : Nat) : Int)), (39, .int .i64 ((k : Nat) : Int)), (12, .pointer (some ⟨b2, 0, none⟩)), (17, .bool (aheadA (downA (walkA here wait q k) (((q k).do_) == 3)) t)), (18, .bool (behindA (downA (walkA here wait q k) (((q k).do_) == 3)) t))] (by kernel_rfl) rfl ?_
              refine VL_end (by kernel_rfl) ?_
              refine VQ_next ?_
              refine VC_seq ?_
              refine VC_region ?_
              refine VL_pure 2 [2, 3, 9, 10, 38, 39, 12, 17, 18, 106, 107] [(2, .slice (some ⟨lb, lo, none⟩) n cc), (3, .int .i64 t), (9, .pointer (some ⟨ab1, 0, none⟩)), (10, .pointer (some ⟨rb1, 0, none⟩)), (38, .int .i64 ((n : Nat) : Int)), (39, .int .i64 ((k : Nat) : Int)), (12, .pointer (some ⟨b2, 0, none⟩)), (17, .bool (aheadA (downA (walkA here wait q k) (((q k).do_) == 3)) t)), (18, .bool (behindA (downA (walkA here wait q k) (((q k).do_) == 3)) t)), (106, .pointer (some ⟨rb1, 0, none⟩)), (107, .int .i64 t)] (by kernel_rfl) rfl ?_
              have hzs52 := hS.size
              have hzl189 := ho3.lt
              have hzl190 := ht5.lt
              have hzl191 := ho10.lt
              refine VL_call (d := 108) (f := 17) (by kernel_rfl) (by kernel_rfl) (by kernel_rfl) Try.call17 (rstate_any rb1 (downA (walkA here wait q k) (((q k).do_) == 3)) _ ho10 t) ?_
              rintro _ w90 ⟨rfl, hc51⟩
              replace hS := Step.trans hS hc51
              replace ho3 := ho3.no hc51
              replace ht5 := ht5.no hc51
              replace ho10 := ho10.no hc51
              refine VL_pure 8 [2, 3, 9, 10, 38, 39, 12, 17, 18, 19, 20] [(2, .slice (some ⟨lb, lo, none⟩) n cc), (3, .int .i64 t), (9, .pointer (some ⟨ab1, 0, none⟩)), (10, .pointer (some ⟨rb1, 0, none⟩)), (38, .int .i64 ((n : Nat) : Int)), (39, .int .i64 ((k : Nat) : Int)), (12, .pointer (some ⟨b2, 0, none⟩)), (17, .bool (aheadA (downA (walkA here wait q k) (((q k).do_) == 3)) t)), (18, .bool (behindA (downA (walkA here wait q k) (((q k).do_) == 3)) t)), (19, .bool (aheadA (downA (walkA here wait q k) (((q k).do_) == 3)) t)), (20, .bool (behindA (downA (walkA here wait q k) (((q k).do_) == 3)) t))] (by kernel_rfl) rfl ?_
              refine VL_end (by kernel_rfl) ?_
              refine VQ_next ?_
              refine VC_seq ?_
              have hs28 := drew_step w90
              have hs28z : w90.heap.size = w90.drew.heap.size := rfl
              refine VC_text [[], [], [0, 1], [0, 1, 2], [0, 1, 2, 3], [0, 1, 2, 3], [0, 1, 2, 3, 4, 5], [0, 1, 2, 3, 4, 5, 6], [0, 1, 2, 3, 4, 5, 6, 7], [0, 1, 2, 3, 4, 5, 6, 7, 8], [0, 1, 2, 3, 4, 5, 6, 7, 8], [0, 1, 2, 3, 4, 5, 6, 7, 8, 9, 10], [0, 1, 2, 3, 4, 5, 6, 7, 8], [0, 1, 2, 3, 4, 5, 6, 7, 8], [0, 1, 2, 3, 4, 5, 6, 7, 8, 9, 10, 11, 12, 13], [0, 1, 2, 3, 4, 5, 6, 7, 8, 9, 10, 11, 12, 13, 14], [0, 1, 2, 3, 4, 5, 6, 7, 8, 9, 10, 11, 12, 13, 14, 15], [0, 1, 2, 3, 4, 5, 6, 7, 8, 9, 10, 11, 12, 13, 14, 15, 16], [0, 1, 2, 3, 4, 5, 6, 7, 8, 9, 10, 11, 12, 13, 14, 15, 16, 17], [0, 1, 2, 3, 4, 5, 6, 7, 8, 9, 10, 11, 12, 13, 14, 15, 16, 17, 18], [0, 1, 2, 3, 4, 5, 6, 7, 8, 9, 10, 11, 12, 13, 14, 15, 16, 17, 18], [0, 1, 2, 3, 4, 5, 6, 7, 8, 9, 10, 11, 12, 13, 14, 15, 16, 17, 18, 20], [0, 1, 2, 3, 4, 5, 6, 7, 8, 9, 10, 11, 12, 13, 14, 15, 16, 17, 18, 19, 20, 21], [0, 1, 2, 3, 4, 5, 6, 7, 8, 9, 10, 11, 12, 13, 14, 15, 16, 17, 18], [0, 1, 2, 3, 4, 5, 6, 7, 8, 9, 10, 11, 12, 13, 14, 15, 16, 17, 18], [0, 1, 2, 3, 4, 5, 6, 7, 8, 9, 10, 11, 12, 13, 14, 15, 16, 17, 18, 24], [0, 1, 2, 3, 4, 5, 6, 7, 8, 9, 10, 11, 12, 13, 14, 15, 16, 17, 18, 19, 20, 21, 22, 23, 24, 25], [0, 1, 2, 3, 4, 5, 6, 7, 8, 9, 10, 11, 12, 13, 14, 15, 16, 17, 18, 19, 20, 21, 22, 23, 24, 25, 26], [0, 1, 2, 3, 4, 5, 6, 7, 8, 9, 10, 11, 12, 13, 14, 15, 16, 17, 18, 19, 20, 21, 22, 23, 24, 25, 26, 27], [0, 1, 2, 3, 4, 5, 6, 7, 8, 9, 10, 11, 12, 13, 14, 15, 16, 17, 18, 19, 20, 21, 22, 23, 24, 25, 26, 27, 28]] 26 (fun x y => Step (fun k => w90.heap.size ≤ k) x y) [11, 14, 15, 22] [0, 1, 2, 3, 4, 5, 6, 7, 8, 9, 10, 12, 13, 11, 14, 15, 16, 17, 18, 19, 20, 21, 23, 24, 25, 22] (by kernel_rfl) (by kernel_rfl) (by kernel_rfl) (by kernel_rfl) (fun x => Step.refl _ x) (fun h k => Step.trans h k) Step.weak ?_
              have hzs53 := hS.size
              have hzl192 := ho3.lt
              have hzl193 := ht5.lt
              have hzl194 := ho10.lt
              generalize w90.drew = w91 at hs28 hs28z ⊢
              replace hS := Step.trans hS hs28
              replace ho3 := ho3.no hs28
              replace ht5 := ht5.no hs28
              replace ho10 := ho10.no hs28
              refine VT_pures 3 (kn' := [(2, .bool (!((aheadA (downA (walkA here wait q k) (((q k).do_) == 3)) t) == (aheadA (downA (walkA here wait q k) (((q k).do_) == 3)) t)))), (1, .bool (aheadA (downA (walkA here wait q k) (((q k).do_) == 3)) t)), (0, .bool (aheadA (downA (walkA here wait q k) (((q k).do_) == 3)) t))]) (by kernel_rfl) ?_
              refine VT_eq [(2, .bool false), (1, .bool (aheadA (downA (walkA here wait q k) (((q k).do_) == 3)) t)), (0, .bool (aheadA (downA (walkA here wait q k) (((q k).do_) == 3)) t))] (by simp) ?_
              refine VT_pures 4 (kn' := [(6, .bool (!((behindA (downA (walkA here wait q k) (((q k).do_) == 3)) t) == (behindA (downA (walkA here wait q k) (((q k).do_) == 3)) t)))), (5, .bool (behindA (downA (walkA here wait q k) (((q k).do_) == 3)) t)), (4, .bool (behindA (downA (walkA here wait q k) (((q k).do_) == 3)) t)), (3, .bool false), (2, .bool false), (1, .bool (aheadA (downA (walkA here wait q k) (((q k).do_) == 3)) t)), (0, .bool (aheadA (downA (walkA here wait q k) (((q k).do_) == 3)) t))]) (by kernel_rfl) ?_
              refine VT_eq [(6, .bool false), (5, .bool (behindA (downA (walkA here wait q k) (((q k).do_) == 3)) t)), (4, .bool (behindA (downA (walkA here wait q k) (((q k).do_) == 3)) t)), (3, .bool false), (2, .bool false), (1, .bool (aheadA (downA (walkA here wait q k) (((q k).do_) == 3)) t)), (0, .bool (aheadA (downA (walkA here wait q k) (((q k).do_) == 3)) t))] (by simp) ?_
              refine VT_pures 6 (kn' := [(13, .int .i64 t), (12, .pointer (some ⟨rb1, 0, none⟩)), (10, .int .i64 t), (9, .pointer (some ⟨ab1, 0, none⟩)), (8, .bool false), (7, .bool false), (6, .bool false), (5, .bool (behindA (downA (walkA here wait q k) (((q k).do_) == 3)) t)), (4, .bool (behindA (downA (walkA here wait q k) (((q k).do_) == 3)) t)), (3, .bool false), (2, .bool false), (1, .bool (aheadA (downA (walkA here wait q k) (((q k).do_) == 3)) t)), (0, .bool (aheadA (downA (walkA here wait q k) (((q k).do_) == 3)) t))]) (by kernel_rfl) ?_
              refine VT_chain (by kernel_rfl) ?_
              intro w92 hs29
              have hzhs29 := hs29.size
              replace hS := Step.trans hS hs29
              replace ho3 := ho3.no hs29
              replace ht5 := ht5.no hs29
              replace ho10 := ho10.no hs29
              have hzs54 := hS.size
              have hzl195 := ho3.lt
              have hzl196 := ht5.lt
              have hzl197 := ho10.lt
              refine VTc_call (d := 122) (f := 19) (by kernel_rfl) (by kernel_rfl) (by kernel_rfl) Try.call19 (sends_any ab1 (downA (walkA here wait q k) (((q k).do_) == 3)) _ ht5 t) ?_ ?_
              · rintro _ w93 ⟨sb9, rfl, hfsb9, hc52, hc53⟩
                exact Step.mono hc53 (by intro i hi; first | exact hi.elim | ((try simp only at hi ⊢); omega))
              rintro _ w93 ⟨sb9, rfl, hfsb9, hc52, hc53⟩
              have hzhc53 := (hc53).size
              replace hS := Step.trans hS hc53
              replace ho3 := ho3.no hc53
              replace ht5 := ht5.no hc53
              replace ho10 := ho10.no hc53
              have hzsb9 := hc52.lt
              refine VT_chain (by kernel_rfl) ?_
              intro w94 hs30
              have hzhs30 := hs30.size
              replace hS := Step.trans hS hs30
              replace ho3 := ho3.no hs30
              replace ht5 := ht5.no hs30
              replace ho10 := ho10.no hs30
              replace hc52 := hc52.no hs30
              have hzs55 := hS.size
              have hzl198 := ho3.lt
              have hzl199 := ht5.lt
              have hzl200 := ho10.lt
              have hzl201 := hc52.lt
              refine VTc_call (d := 125) (f := 20) (by kernel_rfl) (by kernel_rfl) (by kernel_rfl) Try.call20 (rsends_any rb1 (downA (walkA here wait q k) (((q k).do_) == 3)) _ ho10 t) ?_ ?_
              · rintro v45 w95 ⟨hrow9, hc54⟩
                exact Step.mono hc54 (by intro i hi; first | exact hi.elim | ((try simp only at hi ⊢); omega))
              rintro v45 w95 ⟨hrow9, hc54⟩
              have hzhc54 := (hc54).size
              replace hS := Step.trans hS hc54
              replace ho3 := ho3.no hc54
              replace ht5 := ht5.no hc54
              replace ho10 := ho10.no hc54
              replace hc52 := hc52.no hc54
              obtain ⟨rg9, cap9, rfl, hgrg9, hoa9⟩ := oms_row hrow9 (send_ne _ _)
              refine VT_chain (by kernel_rfl) ?_
              intro w96 hs31
              have hzhs31 := hs31.size
              replace hS := Step.trans hS hs31
              replace ho3 := ho3.no hs31
              replace ht5 := ht5.no hs31
              replace ho10 := ho10.no hs31
              replace hc52 := hc52.no hs31
              replace hoa9 := OmsAt.no hoa9 hs31
              have hzs56 := hS.size
              have hzl202 := ho3.lt
              have hzl203 := ht5.lt
              have hzl204 := ho10.lt
              have hzl205 := hc52.lt
              refine VTc_call (d := 126) (f := 18) (by kernel_rfl) (by kernel_rfl) (by kernel_rfl) Try.call18 (same_any sb9 rg9 cap9 (sendL (downA (walkA here wait q k) (((q k).do_) == 3)) t).length _ _ (oms_own hc52) hoa9 (send_len _ _)) ?_ ?_
              · rintro _ w97 ⟨rfl, hc55⟩
                exact Step.mono hc55 (by intro i hi; first | exact hi.elim | ((try simp only at hi ⊢); omega))
              rintro _ w97 ⟨rfl, hc55⟩
              have hzhc55 := (hc55).size
              replace hS := Step.trans hS hc55
              replace ho3 := ho3.no hc55
              replace ht5 := ht5.no hc55
              replace ho10 := ho10.no hc55
              replace hc52 := hc52.no hc55
              replace hoa9 := OmsAt.no hoa9 hc55
              refine VT_pures 5 (kn' := [(20, .pointer (some ⟨b2, 1, none⟩)), (19, .pointer (some ⟨ab1, 0, none⟩)), (18, .bool false), (17, .bool false), (16, .bool false), (15, .bool true), (14, .slice (some ⟨rg9, 0, none⟩) ((sendL (downA (walkA here wait q k) (((q k).do_) == 3)) t).length) cap9), (11, .slice (some ⟨sb9, 0, none⟩) ((sendL (downA (walkA here wait q k) (((q k).do_) == 3)) t).length) ((sendL (downA (walkA here wait q k) (((q k).do_) == 3)) t).length)), (13, .int .i64 t), (12, .pointer (some ⟨rb1, 0, none⟩)), (10, .int .i64 t), (9, .pointer (some ⟨ab1, 0, none⟩)), (8, .bool false), (7, .bool false), (6, .bool false), (5, .bool (behindA (downA (walkA here wait q k) (((q k).do_) == 3)) t)), (4, .bool (behindA (downA (walkA here wait q k) (((q k).do_) == 3)) t)), (3, .bool false), (2, .bool false), (1, .bool (aheadA (downA (walkA here wait q k) (((q k).do_) == 3)) t)), (0, .bool (aheadA (downA (walkA here wait q k) (((q k).do_) == 3)) t))]) (by kernel_rfl) ?_
              refine VT_load (d := 132) (t := 3) (a := ⟨b2, 1, none⟩) (v := .int .i64 ((q k).t)) (by kernel_rfl) (by kernel_rfl) ?_ ?_
              · intro w98 hr13
                replace hS := Step.transNew hS hr13 (fun i hi hG => by (try simp only at hG); omega)
                replace ho3 := ho3.step hr13 (by (try simp only); omega)
                replace ht5 := ht5.step hr13 (by (try simp only); omega)
                replace ho10 := ho10.step hr13 (by (try simp only); omega)
                exact (Loads.own1 ho3 (by kernel_rfl) (by rfl))
              refine VT_pures 2 (kn' := [(24, .pointer (some ⟨b2, 1, none⟩)), (23, .pointer (some ⟨rb1, 0, none⟩)), (21, .int .i64 ((q k).t)), (20, .pointer (some ⟨b2, 1, none⟩)), (19, .pointer (some ⟨ab1, 0, none⟩)), (18, .bool false), (17, .bool false), (16, .bool false), (15, .bool true), (14, .slice (some ⟨rg9, 0, none⟩) ((sendL (downA (walkA here wait q k) (((q k).do_) == 3)) t).length) cap9), (11, .slice (some ⟨sb9, 0, none⟩) ((sendL (downA (walkA here wait q k) (((q k).do_) == 3)) t).length) ((sendL (downA (walkA here wait q k) (((q k).do_) == 3)) t).length)), (13, .int .i64 t), (12, .pointer (some ⟨rb1, 0, none⟩)), (10, .int .i64 t), (9, .pointer (some ⟨ab1, 0, none⟩)), (8, .bool false), (7, .bool false), (6, .bool false), (5, .bool (behindA (downA (walkA here wait q k) (((q k).do_) == 3)) t)), (4, .bool (behindA (downA (walkA here wait q k) (((q k).do_) == 3)) t)), (3, .bool false), (2, .bool false), (1, .bool (aheadA (downA (walkA here wait q k) (((q k).do_) == 3)) t)), (0, .bool (aheadA (downA (walkA here wait q k) (((q k).do_) == 3)) t))]) (by kernel_rfl) ?_
              refine VT_load (d := 136) (t := 3) (a := ⟨b2, 1, none⟩) (v := .int .i64 ((q k).t)) (by kernel_rfl) (by kernel_rfl) ?_ ?_
              · intro w99 hr14
                replace hS := Step.transNew hS hr14 (fun i hi hG => by (try simp only at hG); omega)
                replace ho3 := ho3.step hr14 (by (try simp only); omega)
                replace ht5 := ht5.step hr14 (by (try simp only); omega)
                replace ho10 := ho10.step hr14 (by (try simp only); omega)
                exact (Loads.own1 ho3 (by kernel_rfl) (by rfl))
              refine VT_chain (by kernel_rfl) ?_
              intro w100 hs32
              have hzhs32 := hs32.size
              replace hS := Step.trans hS hs32
              replace ho3 := ho3.no hs32
              replace ht5 := ht5.no hs32
              replace ho10 := ho10.no hs32
              replace hc52 := hc52.no hs32
              replace hoa9 := OmsAt.no hoa9 hs32
              have hzs57 := hS.size
              have hzl206 := ho3.lt
              have hzl207 := ht5.lt
              have hzl208 := ho10.lt
              have hzl209 := hc52.lt
              refine VTc_call (d := 133) (f := 19) (by kernel_rfl) (by kernel_rfl) (by kernel_rfl) Try.call19 (sends_any ab1 (downA (walkA here wait q k) (((q k).do_) == 3)) _ ht5 ((q k).t)) ?_ ?_
              · rintro _ w101 ⟨sb10, rfl, hfsb10, hc56, hc57⟩
                exact Step.mono hc57 (by intro i hi; first | exact hi.elim | ((try simp only at hi ⊢); omega))
              rintro _ w101 ⟨sb10, rfl, hfsb10, hc56, hc57⟩
              have hzhc57 := (hc57).size
              replace hS := Step.trans hS hc57
              replace ho3 := ho3.no hc57
              replace ht5 := ht5.no hc57
              replace ho10 := ho10.no hc57
              replace hc52 := hc52.no hc57
              replace hoa9 := OmsAt.no hoa9 hc57
              have hzsb10 := hc56.lt
              refine VT_end ?_
              intro w102 hs33
              replace hS := Step.trans hS hs33
              replace ho3 := ho3.no hs33
              replace ht5 := ht5.no hs33
              replace ho10 := ho10.no hs33
              replace hc52 := hc52.no hs33
              replace hoa9 := OmsAt.no hoa9 hs33
              replace hc56 := hc56.no hs33
              refine VL_keep [2, 3, 9, 10, 38, 39, 129, 134, 136, 133] [(2, .slice (some ⟨lb, lo, none⟩) n cc), (3, .int .i64 t), (9, .pointer (some ⟨ab1, 0, none⟩)), (10, .pointer (some ⟨rb1, 0, none⟩)), (38, .int .i64 ((n : Nat) : Int)), (39, .int .i64 ((k : Nat) : Int)), (129, .bool false), (134, .pointer (some ⟨rb1, 0, none⟩)), (136, .int .i64 ((q k).t)), (133, .slice (some ⟨sb10, 0, none⟩) ((sendL (downA (walkA here wait q k) (((q k).do_) == 3)) ((q k).t)).length) ((sendL (downA (walkA here wait q k) (((q k).do_) == 3)) ((q k).t)).length))] (by kernel_rfl) ?_
              have hzs58 := hS.size
              have hzl210 := ho3.lt
              have hzl211 := ht5.lt
              have hzl212 := ho10.lt
              have hzl213 := hc52.lt
              have hzl214 := hc56.lt
              refine VL_call (d := 137) (f := 20) (by kernel_rfl) (by kernel_rfl) (by kernel_rfl) Try.call20 (rsends_any rb1 (downA (walkA here wait q k) (((q k).do_) == 3)) _ ho10 ((q k).t)) ?_
              rintro v48 w103 ⟨hrow10, hc58⟩
              replace hS := Step.trans hS hc58
              replace ho3 := ho3.no hc58
              replace ht5 := ht5.no hc58
              replace ho10 := ho10.no hc58
              replace hc52 := hc52.no hc58
              replace hoa9 := OmsAt.no hoa9 hc58
              replace hc56 := hc56.no hc58
              obtain ⟨rg10, cap10, rfl, hgrg10, hoa10⟩ := oms_row hrow10 (send_ne _ _)
              have hzs59 := hS.size
              have hzl215 := ho3.lt
              have hzl216 := ht5.lt
              have hzl217 := ho10.lt
              have hzl218 := hc52.lt
              have hzl219 := hc56.lt
              refine VL_call (d := 138) (f := 18) (by kernel_rfl) (by kernel_rfl) (by kernel_rfl) Try.call18 (same_any sb10 rg10 cap10 (sendL (downA (walkA here wait q k) (((q k).do_) == 3)) ((q k).t)).length _ _ (oms_own hc56) hoa10 (send_len _ _)) ?_
              rintro _ w104 ⟨rfl, hc59⟩
              replace hS := Step.trans hS hc59
              replace ho3 := ho3.no hc59
              replace ht5 := ht5.no hc59
              replace ho10 := ho10.no hc59
              replace hc52 := hc52.no hc59
              replace hoa9 := OmsAt.no hoa9 hc59
              replace hc56 := hc56.no hc59
              replace hoa10 := OmsAt.no hoa10 hc59
              refine VL_pure 30 [2, 3, 9, 10, 38, 39, 140] [(2, .slice (some ⟨lb, lo, none⟩) n cc), (3, .int .i64 t), (9, .pointer (some ⟨ab1, 0, none⟩)), (10, .pointer (some ⟨rb1, 0, none⟩)), (38, .int .i64 ((n : Nat) : Int)), (39, .int .i64 ((k : Nat) : Int)), (140, .bool false)] (by kernel_rfl) rfl ?_
              refine VL_end (by kernel_rfl) ?_
              refine VQ_next ?_
              refine VC_false (by kernel_rfl) ?_
              refine VC_skip ?_
              refine VQ_block_normal ?_
              refine VQ_next ?_
              refine VC_region ?_
              refine VL_pure 1 [2, 3, 9, 10, 38, 141] [(2, .slice (some ⟨lb, lo, none⟩) n cc), (3, .int .i64 t), (9, .pointer (some ⟨ab1, 0, none⟩)), (10, .pointer (some ⟨rb1, 0, none⟩)), (38, .int .i64 ((n : Nat) : Int)), (141, .int .i64 (IntKind.wrap .i64 (((k : Nat) : Int) + 1)))] (by kernel_rfl) rfl ?_
              refine VL_eq [(2, .slice (some ⟨lb, lo, none⟩) n cc), (3, .int .i64 t), (9, .pointer (some ⟨ab1, 0, none⟩)), (10, .pointer (some ⟨rb1, 0, none⟩)), (38, .int .i64 ((n : Nat) : Int)), (141, .int .i64 ((k + 1 : Nat) : Int))] (by rw [wrap_i64 _ (by omega) (by omega)]; rfl) ?_
              refine VL_pure 2 [2, 3, 9, 10, 38, 39] [(2, .slice (some ⟨lb, lo, none⟩) n cc), (3, .int .i64 t), (9, .pointer (some ⟨ab1, 0, none⟩)), (10, .pointer (some ⟨rb1, 0, none⟩)), (38, .int .i64 ((n : Nat) : Int)), (39, .int .i64 ((k + 1 : Nat) : Int))] (by kernel_rfl) rfl ?_
              refine VL_end (by kernel_rfl) ?_
              refine VQ_again (k + 1) ⟨rfl, rfl, rfl, rfl, rfl, rfl, trivial⟩ ?_ ?_
              · exact ⟨by omega, Own.cast (c := alC (downA (walkA here wait q k) (((q k).do_) == 3))) ht5 (congrArg alC (stepE_3 (by omega) (by omega) (by omega))), Own.cast (c := rfC (downA (walkA here wait q k) (((q k).do_) == 3))) ho10 (congrArg rfC (stepE_3 (by omega) (by omega) (by omega))), hS⟩
              · (try dsimp only); omega
            · refine VC_skip ?_
              refine VQ_block_normal ?_
              refine VQ_next ?_
              refine VC_seq ?_
              refine VC_region ?_
              refine VL_pure 2 [2, 3, 9, 10, 38, 39, 12, 100, 101] [(2, .slice (some ⟨lb, lo, none⟩) n cc), (3, .int .i64 t), (9, .pointer (some ⟨ab1, 0, none⟩)), (10, .pointer (some ⟨rb1, 0, none⟩)), (38, .int .i64 ((n : Nat) : Int)), (39, .int .i64 ((k : Nat) : Int)), (12, .pointer (some ⟨b2, 0, none⟩)), (100, .pointer (some ⟨ab1, 0, none⟩)), (101, .int .i64 t)] (by kernel_rfl) rfl ?_
              have hzs60 := hS.size
              have hzl220 := ht.lt
              have hzl221 := hr.lt
              have hzl222 := ho3.lt
              refine VL_call (d := 102) (f := 16) (by kernel_rfl) (by kernel_rfl) (by kernel_rfl) Try.call16 (state_any ab1 (walkA here wait q k) _ ht t) ?_
              rintro _ w105 ⟨rfl, hc60⟩
              replace hS := Step.trans hS hc60
              replace ht := ht.no hc60
              replace hr := hr.no hc60
              replace ho3 := ho3.no hc60
              refine VL_pure 8 [2, 3, 9, 10, 38, 39, 12, 17, 18] [(2, .slice (some ⟨lb, lo, none⟩) n cc), (3, .int .i64 t), (9, .pointer (some ⟨ab1, 0, none⟩)), (10, .pointer (some ⟨rb1, 0, none⟩)), (38, .int .i64 ((n : Nat) : Int)), (39, .int .i64 ((k : Nat) : Int)), (12, .pointer (some ⟨b2, 0, none⟩)), (17, .bool (aheadA (walkA here wait q k) t)), (18, .bool (behindA (walkA here wait q k) t))] (by kernel_rfl) rfl ?_
              refine VL_end (by kernel_rfl) ?_
              refine VQ_next ?_
              refine VC_seq ?_
              refine VC_region ?_
              refine VL_pure 2 [2, 3, 9, 10, 38, 39, 12, 17, 18, 106, 107] [(2, .slice (some ⟨lb, lo, none⟩) n cc), (3, .int .i64 t), (9, .pointer (some ⟨ab1, 0, none⟩)), (10, .pointer (some ⟨rb1, 0, none⟩)), (38, .int .i64 ((n : Nat) : Int)), (39, .int .i64 ((k : Nat) : Int)), (12, .pointer (some ⟨b2, 0, none⟩)), (17, .bool (aheadA (walkA here wait q k) t)), (18, .bool (behindA (walkA here wait q k) t)), (106, .pointer (some ⟨rb1, 0, none⟩)), (107, .int .i64 t)] (by kernel_rfl) rfl ?_
              have hzs61 := hS.size
              have hzl223 := ht.lt
              have hzl224 := hr.lt
              have hzl225 := ho3.lt
              refine VL_call (d := 108) (f := 17) (by kernel_rfl) (by kernel_rfl) (by kernel_rfl) Try.call17 (rstate_any rb1 (walkA here wait q k) _ hr t) ?_
              rintro _ w106 ⟨rfl, hc61⟩
              replace hS := Step.trans hS hc61
              replace ht := ht.no hc61
              replace hr := hr.no hc61
              replace ho3 := ho3.no hc61
              refine VL_pure 8 [2, 3, 9, 10, 38, 39, 12, 17, 18, 19, 20] [(2, .slice (some ⟨lb, lo, none⟩) n cc), (3, .int .i64 t), (9, .pointer (some ⟨ab1, 0, none⟩)), (10, .pointer (some ⟨rb1, 0, none⟩)), (38, .int .i64 ((n : Nat) : Int)), (39, .int .i64 ((k : Nat) : Int)), (12, .pointer (some ⟨b2, 0, none⟩)), (17, .bool (aheadA (walkA here wait q k) t)), (18, .bool (behindA (walkA here wait q k) t)), (19, .bool (aheadA (walkA here wait q k) t)), (20, .bool (behindA (walkA here wait q k) t))] (by kernel_rfl) rfl ?_
              refine VL_end (by kernel_rfl) ?_
              refine VQ_next ?_
              refine VC_seq ?_
              have hs34 := drew_step w106
              have hs34z : w106.heap.size = w106.drew.heap.size := rfl
              refine VC_text [[], [], [0, 1], [0, 1, 2], [0, 1, 2, 3], [0, 1, 2, 3], [0, 1, 2, 3, 4, 5], [0, 1, 2, 3, 4, 5, 6], [0, 1, 2, 3, 4, 5, 6, 7], [0, 1, 2, 3, 4, 5, 6, 7, 8], [0, 1, 2, 3, 4, 5, 6, 7, 8], [0, 1, 2, 3, 4, 5, 6, 7, 8, 9, 10], [0, 1, 2, 3, 4, 5, 6, 7, 8], [0, 1, 2, 3, 4, 5, 6, 7, 8], [0, 1, 2, 3, 4, 5, 6, 7, 8, 9, 10, 11, 12, 13], [0, 1, 2, 3, 4, 5, 6, 7, 8, 9, 10, 11, 12, 13, 14], [0, 1, 2, 3, 4, 5, 6, 7, 8, 9, 10, 11, 12, 13, 14, 15], [0, 1, 2, 3, 4, 5, 6, 7, 8, 9, 10, 11, 12, 13, 14, 15, 16], [0, 1, 2, 3, 4, 5, 6, 7, 8, 9, 10, 11, 12, 13, 14, 15, 16, 17], [0, 1, 2, 3, 4, 5, 6, 7, 8, 9, 10, 11, 12, 13, 14, 15, 16, 17, 18], [0, 1, 2, 3, 4, 5, 6, 7, 8, 9, 10, 11, 12, 13, 14, 15, 16, 17, 18], [0, 1, 2, 3, 4, 5, 6, 7, 8, 9, 10, 11, 12, 13, 14, 15, 16, 17, 18, 20], [0, 1, 2, 3, 4, 5, 6, 7, 8, 9, 10, 11, 12, 13, 14, 15, 16, 17, 18, 19, 20, 21], [0, 1, 2, 3, 4, 5, 6, 7, 8, 9, 10, 11, 12, 13, 14, 15, 16, 17, 18], [0, 1, 2, 3, 4, 5, 6, 7, 8, 9, 10, 11, 12, 13, 14, 15, 16, 17, 18], [0, 1, 2, 3, 4, 5, 6, 7, 8, 9, 10, 11, 12, 13, 14, 15, 16, 17, 18, 24], [0, 1, 2, 3, 4, 5, 6, 7, 8, 9, 10, 11, 12, 13, 14, 15, 16, 17, 18, 19, 20, 21, 22, 23, 24, 25], [0, 1, 2, 3, 4, 5, 6, 7, 8, 9, 10, 11, 12, 13, 14, 15, 16, 17, 18, 19, 20, 21, 22, 23, 24, 25, 26], [0, 1, 2, 3, 4, 5, 6, 7, 8, 9, 10, 11, 12, 13, 14, 15, 16, 17, 18, 19, 20, 21, 22, 23, 24, 25, 26, 27], [0, 1, 2, 3, 4, 5, 6, 7, 8, 9, 10, 11, 12, 13, 14, 15, 16, 17, 18, 19, 20, 21, 22, 23, 24, 25, 26, 27, 28]] 26 (fun x y => Step (fun k => w106.heap.size ≤ k) x y) [11, 14, 15, 22] [0, 1, 2, 3, 4, 5, 6, 7, 8, 9, 10, 12, 13, 11, 14, 15, 16, 17, 18, 19, 20, 21, 23, 24, 25, 22] (by kernel_rfl) (by kernel_rfl) (by kernel_rfl) (by kernel_rfl) (fun x => Step.refl _ x) (fun h k => Step.trans h k) Step.weak ?_
              have hzs62 := hS.size
              have hzl226 := ht.lt
              have hzl227 := hr.lt
              have hzl228 := ho3.lt
              generalize w106.drew = w107 at hs34 hs34z ⊢
              replace hS := Step.trans hS hs34
              replace ht := ht.no hs34
              replace hr := hr.no hs34
              replace ho3 := ho3.no hs34
              refine VT_pures 3 (kn' := [(2, .bool (!((aheadA (walkA here wait q k) t) == (aheadA (walkA here wait q k) t)))), (1, .bool (aheadA (walkA here wait q k) t)), (0, .bool (aheadA (walkA here wait q k) t))]) (by kernel_rfl) ?_
              refine VT_eq [(2, .bool false), (1, .bool (aheadA (walkA here wait q k) t)), (0, .bool (aheadA (walkA here wait q k) t))] (by simp) ?_
              refine VT_pures 4 (kn' := [(6, .bool (!((behindA (walkA here wait q k) t) == (behindA (walkA here wait q k) t)))), (5, .bool (behindA (walkA here wait q k) t)), (4, .bool (behindA (walkA here wait q k) t)), (3, .bool false), (2, .bool false), (1, .bool (aheadA (walkA here wait q k) t)), (0, .bool (aheadA (walkA here wait q k) t))]) (by kernel_rfl) ?_
              refine VT_eq [(6, .bool false), (5, .bool (behindA (walkA here wait q k) t)), (4, .bool (behindA (walkA here wait q k) t)), (3, .bool false), (2, .bool false), (1, .bool (aheadA (walkA here wait q k) t)), (0, .bool (aheadA (walkA here wait q k) t))] (by simp) ?_
              refine VT_pures 6 (kn' := [(13, .int .i64 t), (12, .pointer (some ⟨rb1, 0, none⟩)), (10, .int .i64 t), (9, .pointer (some ⟨ab1, 0, none⟩)), (8, .bool false), (7, .bool false), (6, .bool false), (5, .bool (behindA (walkA here wait q k) t)), (4, .bool (behindA (walkA here wait q k) t)), (3, .bool false), (2, .bool false), (1, .bool (aheadA (walkA here wait q k) t)), (0, .bool (aheadA (walkA here wait q k) t))]) (by kernel_rfl) ?_
              refine VT_chain (by kernel_rfl) ?_
              intro w108 hs35
              have hzhs35 := hs35.size
              replace hS := Step.trans hS hs35
              replace ht := ht.no hs35
              replace hr := hr.no hs35
              replace ho3 := ho3.no hs35
              have hzs63 := hS.size
              have hzl229 := ht.lt
              have hzl230 := hr.lt
              have hzl231 := ho3.lt
              refine VTc_call (d := 122) (f := 19) (by kernel_rfl) (by kernel_rfl) (by kernel_rfl) Try.call19 (sends_any ab1 (walkA here wait q k) _ ht t) ?_ ?_
              · rintro _ w109 ⟨sb11, rfl, hfsb11, hc62, hc63⟩
                exact Step.mono hc63 (by intro i hi; first | exact hi.elim | ((try simp only at hi ⊢); omega))
              rintro _ w109 ⟨sb11, rfl, hfsb11, hc62, hc63⟩
              have hzhc63 := (hc63).size
              replace hS := Step.trans hS hc63
              replace ht := ht.no hc63
              replace hr := hr.no hc63
              replace ho3 := ho3.no hc63
              have hzsb11 := hc62.lt
              refine VT_chain (by kernel_rfl) ?_
              intro w110 hs36
              have hzhs36 := hs36.size
              replace hS := Step.trans hS hs36
              replace ht := ht.no hs36
              replace hr := hr.no hs36
              replace ho3 := ho3.no hs36
              replace hc62 := hc62.no hs36
              have hzs64 := hS.size
              have hzl232 := ht.lt
              have hzl233 := hr.lt
              have hzl234 := ho3.lt
              have hzl235 := hc62.lt
              refine VTc_call (d := 125) (f := 20) (by kernel_rfl) (by kernel_rfl) (by kernel_rfl) Try.call20 (rsends_any rb1 (walkA here wait q k) _ hr t) ?_ ?_
              · rintro v53 w111 ⟨hrow11, hc64⟩
                exact Step.mono hc64 (by intro i hi; first | exact hi.elim | ((try simp only at hi ⊢); omega))
              rintro v53 w111 ⟨hrow11, hc64⟩
              have hzhc64 := (hc64).size
              replace hS := Step.trans hS hc64
              replace ht := ht.no hc64
              replace hr := hr.no hc64
              replace ho3 := ho3.no hc64
              replace hc62 := hc62.no hc64
              obtain ⟨rg11, cap11, rfl, hgrg11, hoa11⟩ := oms_row hrow11 (send_ne _ _)
              refine VT_chain (by kernel_rfl) ?_
              intro w112 hs37
              have hzhs37 := hs37.size
              replace hS := Step.trans hS hs37
              replace ht := ht.no hs37
              replace hr := hr.no hs37
              replace ho3 := ho3.no hs37
              replace hc62 := hc62.no hs37
              replace hoa11 := OmsAt.no hoa11 hs37
              have hzs65 := hS.size
              have hzl236 := ht.lt
              have hzl237 := hr.lt
              have hzl238 := ho3.lt
              have hzl239 := hc62.lt
              refine VTc_call (d := 126) (f := 18) (by kernel_rfl) (by kernel_rfl) (by kernel_rfl) Try.call18 (same_any sb11 rg11 cap11 (sendL (walkA here wait q k) t).length _ _ (oms_own hc62) hoa11 (send_len _ _)) ?_ ?_
              · rintro _ w113 ⟨rfl, hc65⟩
                exact Step.mono hc65 (by intro i hi; first | exact hi.elim | ((try simp only at hi ⊢); omega))
              rintro _ w113 ⟨rfl, hc65⟩
              have hzhc65 := (hc65).size
              replace hS := Step.trans hS hc65
              replace ht := ht.no hc65
              replace hr := hr.no hc65
              replace ho3 := ho3.no hc65
              replace hc62 := hc62.no hc65
              replace hoa11 := OmsAt.no hoa11 hc65
              refine VT_pures 5 (kn' := [(20, .pointer (some ⟨b2, 1, none⟩)), (19, .pointer (some ⟨ab1, 0, none⟩)), (18, .bool false), (17, .bool false), (16, .bool false), (15, .bool true), (14, .slice (some ⟨rg11, 0, none⟩) ((sendL (walkA here wait q k) t).length) cap11), (11, .slice (some ⟨sb11, 0, none⟩) ((sendL (walkA here wait q k) t).length) ((sendL (walkA here wait q k) t).length)), (13, .int .i64 t), (12, .pointer (some ⟨rb1, 0, none⟩)), (10, .int .i64 t), (9, .pointer (some ⟨ab1, 0, none⟩)), (8, .bool false), (7, .bool false), (6, .bool false), (5, .bool (behindA (walkA here wait q k) t)), (4, .bool (behindA (walkA here wait q k) t)), (3, .bool false), (2, .bool false), (1, .bool (aheadA (walkA here wait q k) t)), (0, .bool (aheadA (walkA here wait q k) t))]) (by kernel_rfl) ?_
              refine VT_load (d := 132) (t := 3) (a := ⟨b2, 1, none⟩) (v := .int .i64 ((q k).t)) (by kernel_rfl) (by kernel_rfl) ?_ ?_
              · intro w114 hr15
                replace hS := Step.transNew hS hr15 (fun i hi hG => by (try simp only at hG); omega)
                replace ht := ht.step hr15 (by (try simp only); omega)
                replace hr := hr.step hr15 (by (try simp only); omega)
                replace ho3 := ho3.step hr15 (by (try simp only); omega)
                exact (Loads.own1 ho3 (by kernel_rfl) (by rfl))
              refine VT_pures 2 (kn' := [(24, .pointer (some ⟨b2, 1, none⟩)), (23, .pointer (some ⟨rb1, 0, none⟩)), (21, .int .i64 ((q k).t)), (20, .pointer (some ⟨b2, 1, none⟩)), (19, .pointer (some ⟨ab1, 0, none⟩)), (18, .bool false), (17, .bool false), (16, .bool false), (15, .bool true), (14, .slice (some ⟨rg11, 0, none⟩) ((sendL (walkA here wait q k) t).length) cap11), (11, .slice (some ⟨sb11, 0, none⟩) ((sendL (walkA here wait q k) t).length) ((sendL (walkA here wait q k) t).length)), (13, .int .i64 t), (12, .pointer (some ⟨rb1, 0, none⟩)), (10, .int .i64 t), (9, .pointer (some ⟨ab1, 0, none⟩)), (8, .bool false), (7, .bool false), (6, .bool false), (5, .bool (behindA (walkA here wait q k) t)), (4, .bool (behindA (walkA here wait q k) t)), (3, .bool false), (2, .bool false), (1, .bool (aheadA (walkA here wait q k) t)), (0, .bool (aheadA (walkA here wait q k) t))]) (by kernel_rfl) ?_
              refine VT_load (d := 136) (t := 3) (a := ⟨b2, 1, none⟩) (v := .int .i64 ((q k).t)) (by kernel_rfl) (by kernel_rfl) ?_ ?_
              · intro w115 hr16
                replace hS := Step.transNew hS hr16 (fun i hi hG => by (try simp only at hG); omega)
                replace ht := ht.step hr16 (by (try simp only); omega)
                replace hr := hr.step hr16 (by (try simp only); omega)
                replace ho3 := ho3.step hr16 (by (try simp only); omega)
                exact (Loads.own1 ho3 (by kernel_rfl) (by rfl))
              refine VT_chain (by kernel_rfl) ?_
              intro w116 hs38
              have hzhs38 := hs38.size
              replace hS := Step.trans hS hs38
              replace ht := ht.no hs38
              replace hr := hr.no hs38
              replace ho3 := ho3.no hs38
              replace hc62 := hc62.no hs38
              replace hoa11 := OmsAt.no hoa11 hs38
              have hzs66 := hS.size
              have hzl240 := ht.lt
              have hzl241 := hr.lt
              have hzl242 := ho3.lt
              have hzl243 := hc62.lt
              refine VTc_call (d := 133) (f := 19) (by kernel_rfl) (by kernel_rfl) (by kernel_rfl) Try.call19 (sends_any ab1 (walkA here wait q k) _ ht ((q k).t)) ?_ ?_
              · rintro _ w117 ⟨sb12, rfl, hfsb12, hc66, hc67⟩
                exact Step.mono hc67 (by intro i hi; first | exact hi.elim | ((try simp only at hi ⊢); omega))
              rintro _ w117 ⟨sb12, rfl, hfsb12, hc66, hc67⟩
              have hzhc67 := (hc67).size
              replace hS := Step.trans hS hc67
              replace ht := ht.no hc67
              replace hr := hr.no hc67
              replace ho3 := ho3.no hc67
              replace hc62 := hc62.no hc67
              replace hoa11 := OmsAt.no hoa11 hc67
              have hzsb12 := hc66.lt
              refine VT_end ?_
              intro w118 hs39
              replace hS := Step.trans hS hs39
              replace ht := ht.no hs39
              replace hr := hr.no hs39
              replace ho3 := ho3.no hs39
              replace hc62 := hc62.no hs39
              replace hoa11 := OmsAt.no hoa11 hs39
              replace hc66 := hc66.no hs39
              refine VL_keep [2, 3, 9, 10, 38, 39, 129, 134, 136, 133] [(2, .slice (some ⟨lb, lo, none⟩) n cc), (3, .int .i64 t), (9, .pointer (some ⟨ab1, 0, none⟩)), (10, .pointer (some ⟨rb1, 0, none⟩)), (38, .int .i64 ((n : Nat) : Int)), (39, .int .i64 ((k : Nat) : Int)), (129, .bool false), (134, .pointer (some ⟨rb1, 0, none⟩)), (136, .int .i64 ((q k).t)), (133, .slice (some ⟨sb12, 0, none⟩) ((sendL (walkA here wait q k) ((q k).t)).length) ((sendL (walkA here wait q k) ((q k).t)).length))] (by kernel_rfl) ?_
              have hzs67 := hS.size
              have hzl244 := ht.lt
              have hzl245 := hr.lt
              have hzl246 := ho3.lt
              have hzl247 := hc62.lt
              have hzl248 := hc66.lt
              refine VL_call (d := 137) (f := 20) (by kernel_rfl) (by kernel_rfl) (by kernel_rfl) Try.call20 (rsends_any rb1 (walkA here wait q k) _ hr ((q k).t)) ?_
              rintro v56 w119 ⟨hrow12, hc68⟩
              replace hS := Step.trans hS hc68
              replace ht := ht.no hc68
              replace hr := hr.no hc68
              replace ho3 := ho3.no hc68
              replace hc62 := hc62.no hc68
              replace hoa11 := OmsAt.no hoa11 hc68
              replace hc66 := hc66.no hc68
              obtain ⟨rg12, cap12, rfl, hgrg12, hoa12⟩ := oms_row hrow12 (send_ne _ _)
              have hzs68 := hS.size
              have hzl249 := ht.lt
              have hzl250 := hr.lt
              have hzl251 := ho3.lt
              have hzl252 := hc62.lt
              have hzl253 := hc66.lt
              refine VL_call (d := 138) (f := 18) (by kernel_rfl) (by kernel_rfl) (by kernel_rfl) Try.call18 (same_any sb12 rg12 cap12 (sendL (walkA here wait q k) ((q k).t)).length _ _ (oms_own hc66) hoa12 (send_len _ _)) ?_
              rintro _ w120 ⟨rfl, hc69⟩
              replace hS := Step.trans hS hc69
              replace ht := ht.no hc69
              replace hr := hr.no hc69
              replace ho3 := ho3.no hc69
              replace hc62 := hc62.no hc69
              replace hoa11 := OmsAt.no hoa11 hc69
              replace hc66 := hc66.no hc69
              replace hoa12 := OmsAt.no hoa12 hc69
              refine VL_pure 30 [2, 3, 9, 10, 38, 39, 140] [(2, .slice (some ⟨lb, lo, none⟩) n cc), (3, .int .i64 t), (9, .pointer (some ⟨ab1, 0, none⟩)), (10, .pointer (some ⟨rb1, 0, none⟩)), (38, .int .i64 ((n : Nat) : Int)), (39, .int .i64 ((k : Nat) : Int)), (140, .bool false)] (by kernel_rfl) rfl ?_
              refine VL_end (by kernel_rfl) ?_
              refine VQ_next ?_
              refine VC_false (by kernel_rfl) ?_
              refine VC_skip ?_
              refine VQ_block_normal ?_
              refine VQ_next ?_
              refine VC_region ?_
              refine VL_pure 1 [2, 3, 9, 10, 38, 141] [(2, .slice (some ⟨lb, lo, none⟩) n cc), (3, .int .i64 t), (9, .pointer (some ⟨ab1, 0, none⟩)), (10, .pointer (some ⟨rb1, 0, none⟩)), (38, .int .i64 ((n : Nat) : Int)), (141, .int .i64 (IntKind.wrap .i64 (((k : Nat) : Int) + 1)))] (by kernel_rfl) rfl ?_
              refine VL_eq [(2, .slice (some ⟨lb, lo, none⟩) n cc), (3, .int .i64 t), (9, .pointer (some ⟨ab1, 0, none⟩)), (10, .pointer (some ⟨rb1, 0, none⟩)), (38, .int .i64 ((n : Nat) : Int)), (141, .int .i64 ((k + 1 : Nat) : Int))] (by rw [wrap_i64 _ (by omega) (by omega)]; rfl) ?_
              refine VL_pure 2 [2, 3, 9, 10, 38, 39] [(2, .slice (some ⟨lb, lo, none⟩) n cc), (3, .int .i64 t), (9, .pointer (some ⟨ab1, 0, none⟩)), (10, .pointer (some ⟨rb1, 0, none⟩)), (38, .int .i64 ((n : Nat) : Int)), (39, .int .i64 ((k + 1 : Nat) : Int))] (by kernel_rfl) rfl ?_
              refine VL_end (by kernel_rfl) ?_
              refine VQ_again (k + 1) ⟨rfl, rfl, rfl, rfl, rfl, rfl, trivial⟩ ?_ ?_
              · exact ⟨by omega, Own.cast (c := alC (walkA here wait q k)) ht (congrArg alC (stepE_0 (by omega) (by omega) (by omega) (by omega))), Own.cast (c := rfC (walkA here wait q k)) hr (congrArg rfC (stepE_0 (by omega) (by omega) (by omega) (by omega))), hS⟩
              · (try dsimp only); omega
    · refine VC_exit ?_
      refine VQ_then_exit ?_
      refine VQ_then_exit ?_
      refine VQ_block_hit ?_
      refine VQ_next ?_
      refine VC_seq ?_
      refine VC_region ?_
      refine VL_pure 1 [8] [(8, .bool true)] (by kernel_rfl) rfl ?_
      refine VL_end (by kernel_rfl) ?_
      refine VQ_next ?_
      refine VC_ret ?_
      refine VQ_ret1 (.bool true) (.inr rfl) rfl rfl ?_
      exact ⟨rfl, hS⟩

end Go.Proofs.Ytkimbomnbaogjaa
