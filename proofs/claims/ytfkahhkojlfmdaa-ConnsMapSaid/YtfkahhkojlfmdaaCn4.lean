/- Layer 9: what awake and ConnsFree come to. -/
import Derived.Test.YtfkahhkojlfmdaaProg
import Derived.Test.YtfkahhkojlfmdaaCn3
set_option linter.unusedVariables false
set_option linter.unusedSimpArgs false
namespace Go.Proofs.Ytfkahhkojlfmdaa
open Go.Vc Go.RowKit

theorem awake_any (w : World) :
    CV Try.prog 9 #[] w (fun x w1 => x = .bool true ∧ Step No w w1) := by
  have hS : Step No w w := Step.refl _ _
  refine CV_enter Try.f9 _ 45 [] Try.func9 rfl rfl (by kernel_rfl) rfl ?_
  refine VC_seq ?_
  refine VC_region ?_
  refine VL_pure 1 [] [] (by kernel_rfl) rfl ?_
  refine VL_end (by kernel_rfl) ?_
  refine VQ_next ?_
  refine VC_seq ?_
  refine VC_region ?_
  have hzs1 := hS.size
  refine VL_call (d := 6) (f := 10) (args := #[.int .i64 2]) (by kernel_rfl) (by kernel_rfl) (by kernel_rfl) Try.call10 (new_tab 2 2 (by decide) _) ?_
  rintro _ w1 ⟨tb1, rfl, hftb1, httb1, hitb1, hc1⟩
  replace hS := Step.trans hS hc1
  have hztb1 := httb1.lt
  refine VL_pure 2 [1] [(1, .pointer (some ⟨tb1, 0, none⟩))] (by kernel_rfl) rfl ?_
  refine VL_end (by kernel_rfl) ?_
  refine VQ_next ?_
  refine VC_seq ?_
  refine VC_seq ?_
  refine VC_region ?_
  refine VL_pure 2 [1, 8] [(1, .pointer (some ⟨tb1, 0, none⟩)), (8, .bool false)] (by kernel_rfl) rfl ?_
  refine VL_end (by kernel_rfl) ?_
  refine VQ_next ?_
  refine VC_false (by kernel_rfl) ?_
  refine VC_skip ?_
  refine VQ_next ?_
  refine VC_seq ?_
  refine VC_region ?_
  refine VL_pure 2 [1, 9, 10] [(1, .pointer (some ⟨tb1, 0, none⟩)), (9, .pointer (some ⟨tb1, 0, none⟩)), (10, .agg #[.int .i64 1, .int .i64 0, .int .i64 32])] (by kernel_rfl) rfl ?_
  have hzs2 := hS.size
  have hzl1 := httb1.lt
  refine VL_call (d := 11) (f := 11) (args := #[.pointer (some ⟨tb1, 0, none⟩), .agg #[.int .i64 1, .int .i64 0, .int .i64 32], .int .i64 7]) (by kernel_rfl) (by kernel_rfl) (by kernel_rfl) Try.call11 (put_new 1 0 32 7 httb1 hitb1 (by rfl) (val_new _ _ _) (by decide)) ?_
  rintro _ w2 ⟨rfl, s1, ht1, hi1, hv1, hc2⟩
  replace hS := Step.transNew hS hc2 (fun _ _ _ => by omega)
  refine VL_pure 4 [1, 2] [(1, .pointer (some ⟨tb1, 0, none⟩)), (2, .int .i64 0)] (by kernel_rfl) rfl ?_
  refine VL_end (by kernel_rfl) ?_
  refine VQ_next ?_
  refine VC_seq ?_
  refine VC_region ?_
  refine VL_pure 2 [1, 2, 12, 13] [(1, .pointer (some ⟨tb1, 0, none⟩)), (2, .int .i64 0), (12, .pointer (some ⟨tb1, 0, none⟩)), (13, .agg #[.int .i64 0, .int .i64 9, .int .i64 40])] (by kernel_rfl) rfl ?_
  have hzs3 := hS.size
  have hzl2 := ht1.lt
  refine VL_call (d := 14) (f := 11) (args := #[.pointer (some ⟨tb1, 0, none⟩), .agg #[.int .i64 0, .int .i64 9, .int .i64 40], .int .i64 8]) (by kernel_rfl) (by kernel_rfl) (by kernel_rfl) Try.call11 (put_new 0 9 40 8 ht1 hi1 (by rfl) (by rw [hv1]; rfl) (by decide)) ?_
  rintro _ w3 ⟨rfl, s2, ht2, hi2, hv2, hc3⟩
  replace hS := Step.transNew hS hc3 (fun _ _ _ => by omega)
  refine VL_pure 4 [1, 2, 3] [(1, .pointer (some ⟨tb1, 0, none⟩)), (2, .int .i64 0), (3, .int .i64 0)] (by kernel_rfl) rfl ?_
  refine VL_end (by kernel_rfl) ?_
  refine VQ_next ?_
  refine VC_seq ?_
  refine VC_region ?_
  refine VL_pure 2 [1, 2, 3, 16, 17] [(1, .pointer (some ⟨tb1, 0, none⟩)), (2, .int .i64 0), (3, .int .i64 0), (16, .pointer (some ⟨tb1, 0, none⟩)), (17, .agg #[.int .i64 1, .int .i64 0, .int .i64 32])] (by kernel_rfl) rfl ?_
  have hzs4 := hS.size
  have hzl3 := ht2.lt
  refine VL_call (d := 18) (f := 14) (args := #[.pointer (some ⟨tb1, 0, none⟩), .agg #[.int .i64 1, .int .i64 0, .int .i64 32]]) (by kernel_rfl) (by kernel_rfl) (by kernel_rfl) Try.call14 (get_tab 1 0 32 ht2 hi2) ?_
  rintro _ w4 ⟨rfl, hc4⟩
  replace hS := Step.trans hS hc4
  replace ht2 := ht2.no hc4
  refine VL_pure 6 [1, 2, 3, 19, 20] [(1, .pointer (some ⟨tb1, 0, none⟩)), (2, .int .i64 0), (3, .int .i64 0), (19, .int .i64 ((val s2 1 0 32).getD 0)), (20, .bool ((val s2 1 0 32).isSome))] (by kernel_rfl) rfl ?_
  refine VL_eq [(1, .pointer (some ⟨tb1, 0, none⟩)), (2, .int .i64 0), (3, .int .i64 0), (19, .int .i64 7), (20, .bool ((val s2 1 0 32).isSome))] (by rw [hv2, hv1]; rfl) ?_
  refine VL_eq [(1, .pointer (some ⟨tb1, 0, none⟩)), (2, .int .i64 0), (3, .int .i64 0), (19, .int .i64 7), (20, .bool true)] (by rw [hv2, hv1]; rfl) ?_
  refine VL_pure 8 [1, 2, 3, 4, 5] [(1, .pointer (some ⟨tb1, 0, none⟩)), (2, .int .i64 0), (3, .int .i64 0), (4, .int .i64 7), (5, .bool true)] (by kernel_rfl) rfl ?_
  refine VL_end (by kernel_rfl) ?_
  refine VQ_next ?_
  refine VC_seq ?_
  refine VC_region ?_
  refine VL_pure 15 [1, 34, 35] [(1, .pointer (some ⟨tb1, 0, none⟩)), (34, .bool true), (35, .pointer (some ⟨tb1, 0, none⟩))] (by kernel_rfl) rfl ?_
  have hzs5 := hS.size
  have hzl4 := ht2.lt
  refine VL_call (d := 36) (f := 15) (args := #[.pointer (some ⟨tb1, 0, none⟩)]) (by kernel_rfl) (by kernel_rfl) (by kernel_rfl) Try.call15 (len_tab ht2) ?_
  rintro _ w5 ⟨rfl, hc5⟩
  replace hS := Step.trans hS hc5
  replace ht2 := ht2.no hc5
  refine VL_pure 19 [1, 39] [(1, .pointer (some ⟨tb1, 0, none⟩)), (39, .bool (((0 + 1) + 1) == 2))] (by kernel_rfl) rfl ?_
  refine VL_known (((0 + 1) + 1) == 2) (fun bV => [(1, .pointer (some ⟨tb1, 0, none⟩)), (39, .bool bV)]) true rfl (by rfl) ?_
  refine VL_pure 21 [39, 40, 41] [(39, .bool true), (40, .pointer (some ⟨tb1, 0, none⟩)), (41, .agg #[.int .i64 0, .int .i64 0, .int .i64 0])] (by kernel_rfl) rfl ?_
  have hzs6 := hS.size
  have hzl5 := ht2.lt
  refine VL_call (d := 42) (f := 11) (args := #[.pointer (some ⟨tb1, 0, none⟩), .agg #[.int .i64 0, .int .i64 0, .int .i64 0], .int .i64 1]) (by kernel_rfl) (by kernel_rfl) (by kernel_rfl) Try.call11 (put_full 0 0 0 1 ht2 hi2 (by rfl) (by rw [hv2, hv1]; rfl) (by decide)) ?_
  rintro _ w6 ⟨rfl, ht3, hc6⟩
  replace hS := Step.transNew hS hc6 (fun _ _ _ => by omega)
  refine VL_pure 25 [0] [(0, .bool true)] (by kernel_rfl) rfl ?_
  refine VL_end (by kernel_rfl) ?_
  refine VQ_next ?_
  refine VC_ret ?_
  refine VQ_ret1 (.bool true) (.inr rfl) rfl rfl ?_
  exact ⟨rfl, hS⟩

theorem connsFree_any (A : Option Addr) (n cc : Nat) (q : Nat → Op4) (port vpi fr : Int) (w : World) (hA : OpsAt w A n q) :
    CV Try.prog 3 #[.slice A n cc, .int .i64 port, .int .i64 vpi, .int .i64 fr] w (fun x w1 => x = .bool true ∧ Step No w w1) := by
  have hS : Step No w w := Step.refl _ _
  refine CV_enter Try.f3 _ 120 [(0, .slice A n cc), (1, .int .i64 port), (2, .int .i64 vpi), (3, .int .i64 fr)] Try.func3 rfl rfl (by kernel_rfl) rfl ?_
  refine VC_seq ?_
  refine VC_region ?_
  refine VL_pure 1 [0, 1, 2, 3] [(0, .slice A n cc), (1, .int .i64 port), (2, .int .i64 vpi), (3, .int .i64 fr)] (by kernel_rfl) rfl ?_
  refine VL_end (by kernel_rfl) ?_
  refine VQ_next ?_
  refine VC_seq ?_
  refine VC_seq ?_
  refine VC_region ?_
  have hzs1 := hS.size
  refine VL_call (d := 18) (f := 9) (args := #[]) (by kernel_rfl) (by kernel_rfl) (by kernel_rfl) Try.call9 (awake_any _) ?_
  rintro _ w1 ⟨rfl, hc1⟩
  replace hS := Step.trans hS hc1
  refine VL_pure 7 [0, 1, 2, 3, 24] [(0, .slice A n cc), (1, .int .i64 port), (2, .int .i64 vpi), (3, .int .i64 fr), (24, .bool (decide (((n : Nat) : Int) > 200)))] (by kernel_rfl) rfl ?_
  refine VL_end (by kernel_rfl) ?_
  refine VQ_next ?_
  refine VC_dec (((n : Nat) : Int) > 200) (by kernel_rfl) (fun h1 => ?_) (fun h1 => ?_)
  · refine VC_seq ?_
    refine VC_region ?_
    have hzs2 := hS.size
    refine VL_call (d := 25) (f := 9) (args := #[]) (by kernel_rfl) (by kernel_rfl) (by kernel_rfl) Try.call9 (awake_any _) ?_
    rintro _ w2 ⟨rfl, hc2⟩
    replace hS := Step.trans hS hc2
    refine VL_pure 2 [8] [(8, .bool true)] (by kernel_rfl) rfl ?_
    refine VL_end (by kernel_rfl) ?_
    refine VQ_next ?_
    refine VC_ret ?_
    refine VQ_then_ret ?_
    refine VQ_ret1 (.bool true) (.inr rfl) rfl rfl ?_
    exact ⟨rfl, hS⟩
  · refine VC_skip ?_
    refine VQ_next ?_
    refine VC_seq ?_
    refine VC_region ?_
    have hzs3 := hS.size
    refine VL_call (d := 26) (f := 10) (args := #[.int .i64 64]) (by kernel_rfl) (by kernel_rfl) (by kernel_rfl) Try.call10 (new_tab 64 64 (by decide) _) ?_
    rintro _ w3 ⟨tb1, rfl, hftb1, httb1, hitb1, hc3⟩
    replace hS := Step.trans hS hc3
    have hztb1 := httb1.lt
    refine VL_pure 2 [0, 1, 2, 3, 9] [(0, .slice A n cc), (1, .int .i64 port), (2, .int .i64 vpi), (3, .int .i64 fr), (9, .pointer (some ⟨tb1, 0, none⟩))] (by kernel_rfl) rfl ?_
    refine VL_end (by kernel_rfl) ?_
    refine VQ_next ?_
    refine VC_seq ?_
    refine VC_seq ?_
    refine VC_region ?_
    refine VL_pure 3 [0, 1, 2, 3, 9, 28, 29] [(0, .slice A n cc), (1, .int .i64 port), (2, .int .i64 vpi), (3, .int .i64 fr), (9, .pointer (some ⟨tb1, 0, none⟩)), (28, .int .i64 ((n : Nat) : Int)), (29, .int .i64 0)] (by kernel_rfl) rfl ?_
    refine VL_end (by kernel_rfl) ?_
    refine VQ_next ?_
    refine VC_block ?_
    refine VC_loop (σ := Nat × (Nat → Slot) × Int) (fun σs => [(0, .slice A n cc), (1, .int .i64 port), (2, .int .i64 vpi), (3, .int .i64 fr), (9, .pointer (some ⟨tb1, 0, none⟩)), (28, .int .i64 ((n : Nat) : Int)), (29, .int .i64 ((σs.1 : Nat) : Int))]) (fun σs wr => σs.1 ≤ n ∧ Own wr tb1 (encT σs.2.1 σs.2.2 64) 62 ∧ Inv σs.2.1 σs.2.2 64 ∧ Step No w wr) (fun σs wr => n - σs.1) ⟨0, noSlots, 0⟩ ⟨rfl, rfl, rfl, rfl, rfl, rfl, rfl, trivial⟩ ?_ ?_
    · exact ⟨Nat.zero_le _, httb1, hitb1, hS⟩
    rintro ⟨k, s, ln⟩ wr ⟨hk0, ht, hi, hS⟩
    try dsimp only at hk0 ht hi hS ⊢
    refine VC_seq ?_
    refine VC_region ?_
    refine VL_pure 1 [0, 1, 2, 3, 9, 28, 29, 30] [(0, .slice A n cc), (1, .int .i64 port), (2, .int .i64 vpi), (3, .int .i64 fr), (9, .pointer (some ⟨tb1, 0, none⟩)), (28, .int .i64 ((n : Nat) : Int)), (29, .int .i64 ((k : Nat) : Int)), (30, .bool (decide (((k : Nat) : Int) < ((n : Nat) : Int))))] (by kernel_rfl) rfl ?_
    refine VL_end (by kernel_rfl) ?_
    refine VQ_next ?_
    refine VC_seq ?_
    refine VC_dec (((k : Nat) : Int) < ((n : Nat) : Int)) (by kernel_rfl) (fun h2 => ?_) (fun h2 => ?_)
    · refine VC_skip ?_
      refine VQ_next ?_
      refine VC_seq ?_
      refine VC_block ?_
      refine VC_seq ?_
      refine VC_region ?_
      refine VL_pure 2 [0, 1, 2, 3, 9, 28, 29, 10] [(0, .slice A n cc), (1, .int .i64 port), (2, .int .i64 vpi), (3, .int .i64 fr), (9, .pointer (some ⟨tb1, 0, none⟩)), (28, .int .i64 ((n : Nat) : Int)), (29, .int .i64 ((k : Nat) : Int)), (10, .int .i64 ((k : Nat) : Int))] (by kernel_rfl) rfl ?_
      refine VL_end (by kernel_rfl) ?_
      refine VQ_next ?_
      have hk : k < n := by omega
      obtain ⟨lb, lo, rfl, hL⟩ := hA (by omega)
      replace hL : OpsB w lb lo n q := hL
      refine VC_det [[], [], [], [1, 2], [1, 2, 3], [1, 2, 3, 4], [], [], [6, 7], [6, 7, 8], [6, 7, 8, 9], [0, 1, 2, 3, 4, 5, 6, 7, 8, 9, 10]] 11 [.pointer (some ⟨tb1, 0, none⟩), .slice (some ⟨lb, lo, none⟩) n cc, .int .i64 ((k : Nat) : Int), .pointer (some ⟨lb, lo + k * 4, none⟩), .pointer (some ⟨lb, lo + k * 4, none⟩), .agg #[.int .i64 ((q k).p), .int .i64 ((q k).v), .int .i64 ((q k).c)], .slice (some ⟨lb, lo, none⟩) n cc, .int .i64 ((k : Nat) : Int), .pointer (some ⟨lb, lo + k * 4, none⟩), .pointer (some ⟨lb, lo + k * 4 + 3, none⟩), .int .i64 ((q k).n)] [0, 1, 2, 4, 6, 7, 9] [3, 5, 8, 10] (by kernel_rfl) (by kernel_rfl) (by kernel_rfl) (by kernel_rfl) ?_ ?_
      · intro w4 hs1
        replace hS := Step.trans hS hs1
        replace ht := ht.no hs1
        exact ⟨Det1_index (d := 35) (b := lb) (o := lo) (len := n) (sz := 4) (m := ((k : Nat) : Int)) (by kernel_rfl) (by kernel_rfl) k (by rfl) (by omega) (lo + k * 4) (by omega), Det1_load (d := 37) (t := 29) (a := ⟨lb, lo + k * 4, none⟩) (by kernel_rfl) (by kernel_rfl) (hL.key hS (by kernel_rfl) k hk), Det1_index (d := 40) (b := lb) (o := lo) (len := n) (sz := 4) (m := ((k : Nat) : Int)) (by kernel_rfl) (by kernel_rfl) k (by rfl) (by omega) (lo + k * 4) (by omega), Det1_load (d := 42) (t := 3) (a := ⟨lb, lo + k * 4 + 3, none⟩) (by kernel_rfl) (by kernel_rfl) (hL.num hS (by kernel_rfl) k hk), trivial⟩
      intro w4 hs1
      replace hS := Step.trans hS hs1
      replace ht := ht.no hs1
      refine VL_keep [0, 1, 2, 3, 9, 28, 29, 32, 37, 42] [(0, .slice (some ⟨lb, lo, none⟩) n cc), (1, .int .i64 port), (2, .int .i64 vpi), (3, .int .i64 fr), (9, .pointer (some ⟨tb1, 0, none⟩)), (28, .int .i64 ((n : Nat) : Int)), (29, .int .i64 ((k : Nat) : Int)), (32, .pointer (some ⟨tb1, 0, none⟩)), (37, .agg #[.int .i64 ((q k).p), .int .i64 ((q k).v), .int .i64 ((q k).c)]), (42, .int .i64 ((q k).n))] (by kernel_rfl) ?_
      have hzs4 := hS.size
      have hzl1 := ht.lt
      refine VL_call (d := 43) (f := 11) (args := #[.pointer (some ⟨tb1, 0, none⟩), .agg #[.int .i64 ((q k).p), .int .i64 ((q k).v), .int .i64 ((q k).c)], .int .i64 ((q k).n)]) (by kernel_rfl) (by kernel_rfl) (by kernel_rfl) Try.call11 (put_tab ((q k).p) ((q k).v) ((q k).c) ((q k).n) ht hi) ?_
      rintro _ w5 ⟨rfl, ht1, hi1, hc4⟩
      replace hS := Step.transNew hS hc4 (fun _ _ _ => by omega)
      refine VL_end (by kernel_rfl) ?_
      refine VQ_block_normal ?_
      refine VQ_next ?_
      refine VC_region ?_
      refine VL_pure 1 [0, 1, 2, 3, 9, 28, 44] [(0, .slice (some ⟨lb, lo, none⟩) n cc), (1, .int .i64 port), (2, .int .i64 vpi), (3, .int .i64 fr), (9, .pointer (some ⟨tb1, 0, none⟩)), (28, .int .i64 ((n : Nat) : Int)), (44, .int .i64 (IntKind.wrap .i64 (((k : Nat) : Int) + 1)))] (by kernel_rfl) rfl ?_
      refine VL_eq [(0, .slice (some ⟨lb, lo, none⟩) n cc), (1, .int .i64 port), (2, .int .i64 vpi), (3, .int .i64 fr), (9, .pointer (some ⟨tb1, 0, none⟩)), (28, .int .i64 ((n : Nat) : Int)), (44, .int .i64 ((k + 1 : Nat) : Int))] (by rw [wrap_i64 _ (by omega) (by omega)]; rfl) ?_
      refine VL_pure 2 [0, 1, 2, 3, 9, 28, 29] [(0, .slice (some ⟨lb, lo, none⟩) n cc), (1, .int .i64 port), (2, .int .i64 vpi), (3, .int .i64 fr), (9, .pointer (some ⟨tb1, 0, none⟩)), (28, .int .i64 ((n : Nat) : Int)), (29, .int .i64 ((k + 1 : Nat) : Int))] (by kernel_rfl) rfl ?_
      refine VL_end (by kernel_rfl) ?_
      refine VQ_again ⟨k + 1, (putS s ln 64 ((q k).p) ((q k).v) ((q k).c) ((q k).n)), (putL s ln 64 ((q k).p) ((q k).v) ((q k).c))⟩ ⟨rfl, rfl, rfl, rfl, rfl, rfl, rfl, trivial⟩ ?_ ?_
      · exact ⟨by omega, ht1, hi1, hS⟩
      · (try dsimp only); omega
    · refine VC_exit ?_
      refine VQ_then_exit ?_
      refine VQ_then_exit ?_
      refine VQ_block_hit ?_
      refine VQ_next ?_
      refine VC_seq ?_
      refine VC_region ?_
      refine VL_pure 4 [1, 2, 3, 9, 46, 47, 48, 49] [(1, .int .i64 port), (2, .int .i64 vpi), (3, .int .i64 fr), (9, .pointer (some ⟨tb1, 0, none⟩)), (46, .pointer (some ⟨tb1, 0, none⟩)), (47, .int .i64 port), (48, .int .i64 vpi), (49, .int .i64 fr)] (by kernel_rfl) rfl ?_
      have hzs5 := hS.size
      have hzl2 := ht.lt
      refine VL_call (d := 50) (f := 12) (args := #[.pointer (some ⟨tb1, 0, none⟩), .int .i64 port, .int .i64 vpi, .int .i64 fr]) (by kernel_rfl) (by kernel_rfl) (by kernel_rfl) Try.call12 (free_tab port vpi fr ht hi) ?_
      rintro _ w6 ⟨fr1, ok1, rfl, hfree1, hc5⟩
      replace hS := Step.trans hS hc5
      replace ht := ht.no hc5
      refine VL_pure 10 [1, 2, 3, 9, 11, 12] [(1, .int .i64 port), (2, .int .i64 vpi), (3, .int .i64 fr), (9, .pointer (some ⟨tb1, 0, none⟩)), (11, .int .i64 fr1), (12, .bool ok1)] (by kernel_rfl) rfl ?_
      refine VL_end (by kernel_rfl) ?_
      refine VQ_next ?_
      refine VC_seq ?_
      refine VC_seq ?_
      refine VC_region ?_
      refine VL_pure 2 [1, 2, 3, 9, 11, 54] [(1, .int .i64 port), (2, .int .i64 vpi), (3, .int .i64 fr), (9, .pointer (some ⟨tb1, 0, none⟩)), (11, .int .i64 fr1), (54, .bool (!ok1))] (by kernel_rfl) rfl ?_
      refine VL_end (by kernel_rfl) ?_
      refine VQ_next ?_
      refine VC_cond (!ok1) (by kernel_rfl) (fun h3 => ?_) (fun h3 => ?_)
      · try simp only [Bool.and_eq_true, Bool.or_eq_true, decide_eq_true_eq, Bool.not_eq_true', decide_eq_false_iff_not, Bool.and_eq_false_iff, Bool.or_eq_false_iff, beq_iff_eq, bne_iff_ne, beq_eq_false_iff_ne, bne_eq_false_iff_eq, Bool.not_eq_eq_eq_not, Bool.not_true, Bool.not_false] at h3
        obtain ⟨rfl, hz⟩ := free_no hi hfree1 h3
        refine VC_seq ?_
        refine VC_region ?_
        refine VL_pure 6 [3, 57, 60] [(3, .int .i64 fr), (57, .bool true), (60, .agg #[.int .i64 port, .int .i64 vpi, .int .i64 0])] (by kernel_rfl) rfl ?_
        have hzs6 := hS.size
        have hzl3 := ht.lt
        refine VL_call (d := 61) (f := 13) (args := #[.agg #[.int .i64 port, .int .i64 vpi, .int .i64 0]]) (by kernel_rfl) (by kernel_rfl) (by kernel_rfl) Try.call13 (right_any _ _ _ _) ?_
        rintro _ w7 ⟨rfl, hc6⟩
        replace hS := Step.trans hS hc6
        replace ht := ht.no hc6
        refine VL_pure 9 [3, 57, 63] [(3, .int .i64 fr), (57, .bool true), (63, .bool (!(rightB port vpi 0)))] (by kernel_rfl) rfl ?_
        refine VL_join (rightB port vpi 0) (fun bV => [(3, .int .i64 fr), (57, .bool true), (63, .bool (!bV))]) 12 [(57, .bool true), (66, .bool ((!(rightB port vpi 0)) || (decide (fr > 65471))))] rfl (fun hg1 J1 => ?_) (fun hg1 J1 => ?_) ?_
        · refine VL_pure 12 [57, 66] [(57, .bool true), (66, .bool (decide (fr > 65471)))] (by kernel_rfl) rfl ?_
          exact VL_eq _ (by simp only [hg1, Bool.true_and, Bool.false_and, Bool.true_or, Bool.false_or, Bool.not_true, Bool.not_false]) J1
        · refine VL_pure 12 [57, 66] [(57, .bool true), (66, .bool true)] (by kernel_rfl) rfl ?_
          exact VL_eq _ (by simp only [hg1, Bool.true_and, Bool.false_and, Bool.true_or, Bool.false_or, Bool.not_true, Bool.not_false]) J1
        refine VL_pure 14 [8] [(8, .bool ((!(rightB port vpi 0)) || (decide (fr > 65471))))] (by kernel_rfl) rfl ?_
        refine VL_end (by kernel_rfl) ?_
        refine VQ_next ?_
        refine VC_ret ?_
        refine VQ_then_ret ?_
        refine VQ_ret1 (.bool ((!(rightB port vpi 0)) || (decide (fr > 65471)))) (.inr rfl) rfl rfl ?_
        exact ⟨congrArg Value.bool (by first | exact hz | exact put_last hi y1 y2 ‹_›), hS⟩
      · try simp only [Bool.and_eq_true, Bool.or_eq_true, decide_eq_true_eq, Bool.not_eq_true', decide_eq_false_iff_not, Bool.and_eq_false_iff, Bool.or_eq_false_iff, beq_iff_eq, bne_iff_ne, beq_eq_false_iff_ne, bne_eq_false_iff_eq, Bool.not_eq_eq_eq_not, Bool.not_true, Bool.not_false] at h3
        obtain ⟨y1, y2, y3, y4, y5, y6, y7, y8⟩ := free_yes hi hfree1 h3
        refine VC_skip ?_
        refine VQ_next ?_
        refine VC_seq ?_
        refine VC_seq ?_
        refine VC_region ?_
        refine VL_pure 5 [1, 2, 3, 9, 11, 69, 73] [(1, .int .i64 port), (2, .int .i64 vpi), (3, .int .i64 fr), (9, .pointer (some ⟨tb1, 0, none⟩)), (11, .int .i64 fr1), (69, .pointer (some ⟨tb1, 0, none⟩)), (73, .agg #[.int .i64 port, .int .i64 vpi, .int .i64 fr1])] (by kernel_rfl) rfl ?_
        have hzs7 := hS.size
        have hzl4 := ht.lt
        refine VL_call (d := 74) (f := 14) (args := #[.pointer (some ⟨tb1, 0, none⟩), .agg #[.int .i64 port, .int .i64 vpi, .int .i64 fr1]]) (by kernel_rfl) (by kernel_rfl) (by kernel_rfl) Try.call14 (get_tab port vpi fr1 ht hi) ?_
        rintro _ w8 ⟨rfl, hc7⟩
        replace hS := Step.trans hS hc7
        replace ht := ht.no hc7
        refine VL_pure 9 [1, 2, 3, 9, 11, 75, 76] [(1, .int .i64 port), (2, .int .i64 vpi), (3, .int .i64 fr), (9, .pointer (some ⟨tb1, 0, none⟩)), (11, .int .i64 fr1), (75, .int .i64 ((val s port vpi fr1).getD 0)), (76, .bool ((val s port vpi fr1).isSome))] (by kernel_rfl) rfl ?_
        refine VL_eq [(1, .int .i64 port), (2, .int .i64 vpi), (3, .int .i64 fr), (9, .pointer (some ⟨tb1, 0, none⟩)), (11, .int .i64 fr1), (75, .int .i64 ((val s port vpi fr1).getD 0)), (76, .bool false)] (by rw [y2]; rfl) ?_
        refine VL_pure 11 [1, 2, 3, 9, 11, 14] [(1, .int .i64 port), (2, .int .i64 vpi), (3, .int .i64 fr), (9, .pointer (some ⟨tb1, 0, none⟩)), (11, .int .i64 fr1), (14, .bool false)] (by kernel_rfl) rfl ?_
        refine VL_end (by kernel_rfl) ?_
        refine VQ_next ?_
        refine VC_seq ?_
        refine VC_region ?_
        refine VL_pure 7 [1, 2, 3, 9, 11, 83] [(1, .int .i64 port), (2, .int .i64 vpi), (3, .int .i64 fr), (9, .pointer (some ⟨tb1, 0, none⟩)), (11, .int .i64 fr1), (83, .bool (decide (fr1 < fr)))] (by kernel_rfl) rfl ?_
        refine VL_known (decide (fr1 < fr)) (fun bV => [(1, .int .i64 port), (2, .int .i64 vpi), (3, .int .i64 fr), (9, .pointer (some ⟨tb1, 0, none⟩)), (11, .int .i64 fr1), (83, .bool bV)]) false rfl (decide_eq_false (by omega)) ?_
        refine VL_pure 13 [1, 2, 3, 9, 11, 89] [(1, .int .i64 port), (2, .int .i64 vpi), (3, .int .i64 fr), (9, .pointer (some ⟨tb1, 0, none⟩)), (11, .int .i64 fr1), (89, .bool (decide ((IntKind.wrap .i64 (fr1 - (imax fr 0))) > 64)))] (by kernel_rfl) rfl ?_
        refine VL_end (by kernel_rfl) ?_
        refine VQ_next ?_
        refine VC_is (b := decide ((IntKind.wrap .i64 (fr1 - (imax fr 0))) > 64)) false (by kernel_rfl) (decide_eq_false (by rw [wrap_i64 _ (by omega) (by omega)]; omega)) ?_
        refine VC_ite_false ?_
        refine VC_skip ?_
        refine VQ_next ?_
        refine VC_seq ?_
        refine VC_seq ?_
        refine VC_region ?_
        refine VL_pure 3 [1, 2, 9, 11, 15] [(1, .int .i64 port), (2, .int .i64 vpi), (9, .pointer (some ⟨tb1, 0, none⟩)), (11, .int .i64 fr1), (15, .int .i64 (imax fr 0))] (by kernel_rfl) rfl ?_
        refine VL_end (by kernel_rfl) ?_
        refine VQ_next ?_
        refine VC_block ?_
        refine VC_loop (σ := Int) (fun σs => [(1, .int .i64 port), (2, .int .i64 vpi), (9, .pointer (some ⟨tb1, 0, none⟩)), (11, .int .i64 fr1), (15, .int .i64 σs)]) (fun σs wr => imax fr 0 ≤ σs ∧ Own wr tb1 (encT s ln 64) 62 ∧ Step No w wr) (fun σs wr => (fr1 - σs).toNat) (imax fr 0) ⟨rfl, rfl, rfl, rfl, rfl, trivial⟩ ?_ ?_
        · exact ⟨Int.le_refl _, ht, hS⟩
        rintro i wr ⟨hi1, ht, hS⟩
        try dsimp only at hi1 ht hS ⊢
        refine VC_seq ?_
        refine VC_seq ?_
        refine VC_region ?_
        refine VL_pure 3 [1, 2, 9, 11, 15, 94] [(1, .int .i64 port), (2, .int .i64 vpi), (9, .pointer (some ⟨tb1, 0, none⟩)), (11, .int .i64 fr1), (15, .int .i64 i), (94, .bool (decide (i < fr1)))] (by kernel_rfl) rfl ?_
        refine VL_end (by kernel_rfl) ?_
        refine VQ_next ?_
        refine VC_dec (i < fr1) (by kernel_rfl) (fun h4 => ?_) (fun h4 => ?_)
        · refine VC_skip ?_
          refine VQ_next ?_
          refine VC_seq ?_
          refine VC_block ?_
          refine VC_seq ?_
          refine VC_region ?_
          refine VL_pure 5 [1, 2, 9, 11, 15, 98, 102] [(1, .int .i64 port), (2, .int .i64 vpi), (9, .pointer (some ⟨tb1, 0, none⟩)), (11, .int .i64 fr1), (15, .int .i64 i), (98, .pointer (some ⟨tb1, 0, none⟩)), (102, .agg #[.int .i64 port, .int .i64 vpi, .int .i64 i])] (by kernel_rfl) rfl ?_
          have hzs8 := hS.size
          have hzl5 := ht.lt
          refine VL_call (d := 103) (f := 14) (args := #[.pointer (some ⟨tb1, 0, none⟩), .agg #[.int .i64 port, .int .i64 vpi, .int .i64 i]]) (by kernel_rfl) (by kernel_rfl) (by kernel_rfl) Try.call14 (get_tab port vpi i ht hi) ?_
          rintro _ w9 ⟨rfl, hc8⟩
          replace hS := Step.trans hS hc8
          replace ht := ht.no hc8
          refine VL_pure 9 [1, 2, 9, 11, 15, 104, 105] [(1, .int .i64 port), (2, .int .i64 vpi), (9, .pointer (some ⟨tb1, 0, none⟩)), (11, .int .i64 fr1), (15, .int .i64 i), (104, .int .i64 ((val s port vpi i).getD 0)), (105, .bool ((val s port vpi i).isSome))] (by kernel_rfl) rfl ?_
          refine VL_eq [(1, .int .i64 port), (2, .int .i64 vpi), (9, .pointer (some ⟨tb1, 0, none⟩)), (11, .int .i64 fr1), (15, .int .i64 i), (104, .int .i64 ((val s port vpi i).getD 0)), (105, .bool true)] (by rw [y8 i hi1 (by omega)]) ?_
          refine VL_pure 11 [1, 2, 9, 11, 15, 17] [(1, .int .i64 port), (2, .int .i64 vpi), (9, .pointer (some ⟨tb1, 0, none⟩)), (11, .int .i64 fr1), (15, .int .i64 i), (17, .bool true)] (by kernel_rfl) rfl ?_
          refine VL_end (by kernel_rfl) ?_
          refine VQ_next ?_
          refine VC_seq ?_
          refine VC_region ?_
          refine VL_pure 2 [1, 2, 9, 11, 15, 107] [(1, .int .i64 port), (2, .int .i64 vpi), (9, .pointer (some ⟨tb1, 0, none⟩)), (11, .int .i64 fr1), (15, .int .i64 i), (107, .bool false)] (by kernel_rfl) rfl ?_
          refine VL_end (by kernel_rfl) ?_
          refine VQ_next ?_
          refine VC_false (by kernel_rfl) ?_
          refine VC_skip ?_
          refine VQ_block_normal ?_
          refine VQ_next ?_
          refine VC_region ?_
          refine VL_pure 2 [1, 2, 9, 11, 96] [(1, .int .i64 port), (2, .int .i64 vpi), (9, .pointer (some ⟨tb1, 0, none⟩)), (11, .int .i64 fr1), (96, .int .i64 (IntKind.wrap .i64 (i + 1)))] (by kernel_rfl) rfl ?_
          refine VL_eq [(1, .int .i64 port), (2, .int .i64 vpi), (9, .pointer (some ⟨tb1, 0, none⟩)), (11, .int .i64 fr1), (96, .int .i64 (i + 1))] (by rw [wrap_i64 _ (by omega) (by omega)]) ?_
          refine VL_pure 3 [1, 2, 9, 11, 15] [(1, .int .i64 port), (2, .int .i64 vpi), (9, .pointer (some ⟨tb1, 0, none⟩)), (11, .int .i64 fr1), (15, .int .i64 (i + 1))] (by kernel_rfl) rfl ?_
          refine VL_end (by kernel_rfl) ?_
          refine VQ_again (i + 1) ⟨rfl, rfl, rfl, rfl, rfl, trivial⟩ ?_ ?_
          · exact ⟨by omega, ht, hS⟩
          · (try dsimp only); omega
        · refine VC_exit ?_
          refine VQ_then_exit ?_
          refine VQ_then_exit ?_
          refine VQ_block_hit ?_
          refine VQ_next ?_
          refine VC_seq ?_
          refine VC_region ?_
          refine VL_pure 5 [9, 108, 112] [(9, .pointer (some ⟨tb1, 0, none⟩)), (108, .pointer (some ⟨tb1, 0, none⟩)), (112, .agg #[.int .i64 port, .int .i64 vpi, .int .i64 fr1])] (by kernel_rfl) rfl ?_
          have hzs9 := hS.size
          have hzl6 := ht.lt
          refine VL_call (d := 113) (f := 11) (args := #[.pointer (some ⟨tb1, 0, none⟩), .agg #[.int .i64 port, .int .i64 vpi, .int .i64 fr1], .int .i64 1]) (by kernel_rfl) (by kernel_rfl) (by kernel_rfl) Try.call11 (put_tab port vpi fr1 1 ht hi) ?_
          rintro _ w10 ⟨rfl, ht2, hi2, hc9⟩
          replace hS := Step.transNew hS hc9 (fun _ _ _ => by omega)
          refine VL_pure 8 [9, 115] [(9, .pointer (some ⟨tb1, 0, none⟩)), (115, .bool ((putC s ln 64 port vpi fr1) == 0))] (by kernel_rfl) rfl ?_
          refine VL_beq (putC s ln 64 port vpi fr1) 0 (fun bV => [(9, .pointer (some ⟨tb1, 0, none⟩)), (115, .bool bV)]) rfl (fun hg2 => ?_) (fun hg2 => ?_)
          · refine VL_pure 13 [8] [(8, .bool true)] (by kernel_rfl) rfl ?_
            refine VL_end (by kernel_rfl) ?_
            refine VQ_next ?_
            refine VC_ret ?_
            refine VQ_ret1 (.bool true) (.inr rfl) rfl rfl ?_
            exact ⟨rfl, hS⟩
          · refine VL_pure 9 [115, 116] [(115, .bool false), (116, .pointer (some ⟨tb1, 0, none⟩))] (by kernel_rfl) rfl ?_
            have hzs10 := hS.size
            have hzl7 := ht2.lt
            refine VL_call (d := 117) (f := 15) (args := #[.pointer (some ⟨tb1, 0, none⟩)]) (by kernel_rfl) (by kernel_rfl) (by kernel_rfl) Try.call15 (len_tab ht2) ?_
            rintro _ w11 ⟨rfl, hc10⟩
            replace hS := Step.trans hS hc10
            replace ht2 := ht2.no hc10
            refine VL_pure 13 [8] [(8, .bool ((putL s ln 64 port vpi fr1) == 64))] (by kernel_rfl) rfl ?_
            refine VL_end (by kernel_rfl) ?_
            refine VQ_next ?_
            refine VC_ret ?_
            refine VQ_ret1 (.bool ((putL s ln 64 port vpi fr1) == 64)) (.inr rfl) rfl rfl ?_
            exact ⟨congrArg Value.bool (by first | exact hz | exact put_last hi y1 y2 ‹_›), hS⟩

end Go.Proofs.Ytfkahhkojlfmdaa
