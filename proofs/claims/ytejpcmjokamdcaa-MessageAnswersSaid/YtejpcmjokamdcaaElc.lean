/- Layer 15: causes out of elements. -/
import Derived.Test.YtejpcmjokamdcaaProg
import Derived.Test.YtejpcmjokamdcaaEl1
import Derived.Test.YtejpcmjokamdcaaIe6
set_option linter.unusedVariables false
set_option linter.unusedSimpArgs false
namespace Go.Proofs.Ytejpcmjokamdcaa
open Go.Vc Go.RowKit

set_option maxRecDepth 100000 in
set_option maxHeartbeats 4000000 in
theorem is_any (id : Int) (A : Option Addr) (n c : Nat) (want size : Int) (w : World) :
  CV Try.prog 56 #[.agg #[.int .u8 id, .slice A n c], .int .u8 want, .int .i64 size] w (fun x w1 => x = .int .i64 (isE id want ((n : Nat) : Int) size) ∧ Step No w w1) := by
 have hS : Step No w w := Step.refl _ _
 refine CV_enter Try.f56 _ 18 [(0, .agg #[.int .u8 id, .slice A n c]), (1, .int .u8 want), (2, .int .i64 size)] Try.func56 rfl rfl (by kernel_rfl) rfl ?_
 refine VC_seq ?_
 refine VC_region ?_
 have hzs1 := hS.size
 refine VL_box (d := 3) (t := 60) (c := #[.int .u8 id, .slice A n c]) (by kernel_rfl) (by kernel_rfl) ?_
 intro b1 w1 hn1
 replace hS := Step.trans hS (hn1.step No)
 have ho1 := hn1.own
 have hzhn1 := hn1.size
 have hqhn1 := hn1.eqb
 refine VL_pure 2 [1, 2, 3] [(1, .int .u8 want), (2, .int .i64 size), (3, .pointer (some ⟨b1, 0, none⟩))] (by kernel_rfl) rfl ?_
 refine VL_end (by kernel_rfl) ?_
 refine VQ_next ?_
 refine VC_seq ?_
 refine VC_block ?_
 refine VC_seq ?_
 refine VC_region ?_
 refine VL_pure 1 [1, 2, 3, 8] [(1, .int .u8 want), (2, .int .i64 size), (3, .pointer (some ⟨b1, 0, none⟩)), (8, .pointer (some ⟨b1, 0, none⟩))] (by kernel_rfl) rfl ?_
 refine VL_load (d := 9) (t := 5) (a := ⟨b1, 0, none⟩) (v := .int .u8 id) (by kernel_rfl) (by kernel_rfl) (Loads.own1 ho1 (by kernel_rfl) (by rfl)) ?_
 refine VL_pure 5 [2, 3, 7] [(2, .int .i64 size), (3, .pointer (some ⟨b1, 0, none⟩)), (7, .bool (id != want))] (by kernel_rfl) rfl ?_
 refine VL_end (by kernel_rfl) ?_
 refine VQ_next ?_
 refine VC_ne id want (by kernel_rfl) (fun h1 => ?_) (fun h1 => ?_)
 ·refine VC_seq ?_
  refine VC_region ?_
  refine VL_pure 1 [6] [(6, .int .i64 12)] (by kernel_rfl) rfl ?_
  refine VL_end (by kernel_rfl) ?_
  refine VQ_next ?_
  refine VC_ret ?_
  refine VQ_block_ret ?_
  refine VQ_then_ret ?_
  refine VQ_ret1 (.int .i64 12) (.inr rfl) rfl rfl ?_
  exact ⟨congrArg (Value.int .i64) (by unfold isE; first | rw [if_pos (by omega)] | rw [if_neg (by omega), if_pos (by omega)] | rw [if_neg (by omega), if_neg (by omega)]), hS⟩
 ·refine VC_seq ?_
  refine VC_region ?_
  refine VL_pure 1 [2, 13] [(2, .int .i64 size), (13, .pointer (some ⟨b1, 1, none⟩))] (by kernel_rfl) rfl ?_
  refine VL_load (d := 14) (t := 25) (a := ⟨b1, 1, none⟩) (v := .slice A n c) (by kernel_rfl) (by kernel_rfl) (Loads.own1 ho1 (by kernel_rfl) (by rfl)) ?_
  refine VL_pure 6 [12] [(12, .bool (((n : Nat) : Int) != size))] (by kernel_rfl) rfl ?_
  refine VL_end (by kernel_rfl) ?_
  refine VQ_next ?_
  refine VC_ne ((n : Nat) : Int) size (by kernel_rfl) (fun h2 => ?_) (fun h2 => ?_)
  ·refine VC_seq ?_
   refine VC_region ?_
   refine VL_pure 1 [6] [(6, .int .i64 5)] (by kernel_rfl) rfl ?_
   refine VL_end (by kernel_rfl) ?_
   refine VQ_next ?_
   refine VC_ret ?_
   refine VQ_block_ret ?_
   refine VQ_then_ret ?_
   refine VQ_ret1 (.int .i64 5) (.inr rfl) rfl rfl ?_
   exact ⟨congrArg (Value.int .i64) (by unfold isE; first | rw [if_pos (by omega)] | rw [if_neg (by omega), if_pos (by omega)] | rw [if_neg (by omega), if_neg (by omega)]), hS⟩
  ·refine VC_skip ?_
   refine VQ_block_normal ?_
   refine VQ_next ?_
   refine VC_seq ?_
   refine VC_region ?_
   refine VL_pure 1 [6] [(6, .int .i64 0)] (by kernel_rfl) rfl ?_
   refine VL_end (by kernel_rfl) ?_
   refine VQ_next ?_
   refine VC_ret ?_
   refine VQ_ret1 (.int .i64 0) (.inr rfl) rfl rfl ?_
   exact ⟨congrArg (Value.int .i64) (by unfold isE; first | rw [if_pos (by omega)] | rw [if_neg (by omega), if_pos (by omega)] | rw [if_neg (by omega), if_neg (by omega)]), hS⟩

set_option maxRecDepth 100000 in
set_option maxHeartbeats 4000000 in
theorem rdcause_any (xi : Int) (A : Option Addr) (n c Bd : Nat) (bs : List Int) (w : World) (hn : bs.length = n) (hc : n ≤ c) (hA : Sl w Bd A (iL .u8 bs)) (hb : Bytes bs) (hBd : Bd ≤ w.heap.size) :
  CV Try.prog 37 #[.agg #[.int .u8 xi, .slice A n c]] w (fun x w1 => x = .tuple #[.int .i64 (rcV xi bs), .int .i64 (rcE xi bs)] ∧ Step No w w1) := by
 have hS : Step No w w := Step.refl _ _
 refine CV_enter Try.f37 _ 27 [(0, .agg #[.int .u8 xi, .slice A n c])] Try.func37 rfl rfl (by kernel_rfl) rfl ?_
 refine VC_seq ?_
 refine VC_region ?_
 have hzs1 := hS.size
 refine VL_box (d := 1) (t := 60) (c := #[.int .u8 xi, .slice A n c]) (by kernel_rfl) (by kernel_rfl) ?_
 intro b1 w1 hn1
 replace hS := Step.trans hS (hn1.step No)
 replace hA := hA.no (hn1.step No)
 have ho1 := hn1.own
 have hzhn1 := hn1.size
 have hqhn1 := hn1.eqb
 refine VL_pure 3 [1] [(1, .pointer (some ⟨b1, 0, none⟩))] (by kernel_rfl) rfl ?_
 refine VL_end (by kernel_rfl) ?_
 refine VQ_next ?_
 refine VC_seq ?_
 refine VC_seq ?_
 refine VC_region ?_
 refine VL_load (d := 5) (t := 60) (a := ⟨b1, 0, none⟩) (v := .agg #[.int .u8 xi, .slice A n c]) (by kernel_rfl) (by kernel_rfl) (Loads.ownL ho1 (n := 2) (by kernel_rfl) (by kernel_rfl) (by kernel_rfl)) ?_
 have hzs2 := hS.size
 have hzl1 := ho1.lt
 refine VL_call (d := 6) (f := 56) (by kernel_rfl) (by kernel_rfl) (by kernel_rfl) Try.call56 (is_any xi A n c 8 2 _) ?_
 rintro _ w2 ⟨rfl, hc1⟩
 replace hS := Step.trans hS hc1
 replace hA := hA.no hc1
 replace ho1 := ho1.no hc1
 refine VL_pure 3 [1, 4] [(1, .pointer (some ⟨b1, 0, none⟩)), (4, .int .i64 (isE xi 8 ((n : Nat) : Int) 2))] (by kernel_rfl) rfl ?_
 refine VL_end (by kernel_rfl) ?_
 refine VQ_next ?_
 refine VC_seq ?_
 refine VC_region ?_
 refine VL_pure 2 [1, 4, 8] [(1, .pointer (some ⟨b1, 0, none⟩)), (4, .int .i64 (isE xi 8 ((n : Nat) : Int) 2)), (8, .bool ((isE xi 8 ((n : Nat) : Int) 2) != 0))] (by kernel_rfl) rfl ?_
 refine VL_end (by kernel_rfl) ?_
 refine VQ_next ?_
 refine VC_ne (isE xi 8 ((n : Nat) : Int) 2) 0 (by kernel_rfl) (fun h1 => ?_) (fun h1 => ?_)
 ·refine VC_seq ?_
  refine VC_region ?_
  refine VL_pure 3 [2, 3] [(2, .int .i64 0), (3, .int .i64 (isE xi 8 ((n : Nat) : Int) 2))] (by kernel_rfl) rfl ?_
  refine VL_end (by kernel_rfl) ?_
  refine VQ_next ?_
  refine VC_ret ?_
  refine VQ_then_ret ?_
  refine VQ_ret2 (.int .i64 0) (.int .i64 (isE xi 8 ((n : Nat) : Int) 2)) (.inr rfl) rfl rfl rfl ?_
  obtain ⟨hq1, hq2⟩ := rc_is hn (by assumption)
  exact ⟨by rw [hq1, rcV_n hq2], hS⟩
 ·refine VC_skip ?_
  refine VQ_next ?_
  refine VC_seq ?_
  refine VC_seq ?_
  obtain ⟨hxi, hn2⟩ := isE_0 (by first | assumption | exact Classical.not_not.1 (by assumption))
  obtain ⟨sb1, so1, rfl, hlbsb1⟩ := hA.open (by simp only [iL_length]; omega)
  refine VC_region ?_
  refine VL_pure 1 [1, 10] [(1, .pointer (some ⟨b1, 0, none⟩)), (10, .pointer (some ⟨b1, 1, none⟩))] (by kernel_rfl) rfl ?_
  refine VL_load (d := 11) (t := 25) (a := ⟨b1, 1, none⟩) (v := .slice (some ⟨sb1, so1, none⟩) n c) (by kernel_rfl) (by kernel_rfl) (Loads.own1 ho1 (by kernel_rfl) (by rfl)) ?_
  refine VL_index (d := 12) (b := sb1) (o := so1) (len := n) (sz := 1) (m := 0) (by kernel_rfl) (by kernel_rfl) 0 (by rfl) (by omega) so1 (by omega) ?_
  refine VL_load (d := 13) (t := 5) (a := ⟨sb1, so1, none⟩) (v := .int .u8 (bs.getD 0 0)) (by kernel_rfl) (by kernel_rfl) (Sl.ldI hA (by kernel_rfl) 0 (by (try simp only [List.length_set, List.length_append, List.length_map, List.length_replicate, List.length_cons, List.length_nil, List.length_take, List.length_drop, List.length_range]) <;> omega)) ?_
  refine VL_pure 6 [1, 15] [(1, .pointer (some ⟨b1, 0, none⟩)), (15, .bool ((bs.getD 0 0) != 0))] (by kernel_rfl) rfl ?_
  refine VL_bne (bs.getD 0 0) 0 (fun bV => [(1, .pointer (some ⟨b1, 0, none⟩)), (15, .bool bV)]) rfl (fun hg1 => ?_) (fun hg1 => ?_)
  ·refine VL_pure 12 [1, 21] [(1, .pointer (some ⟨b1, 0, none⟩)), (21, .bool true)] (by kernel_rfl) rfl ?_
   refine VL_end (by kernel_rfl) ?_
   refine VQ_next ?_
   refine VC_true (by kernel_rfl) ?_
   refine VC_seq ?_
   refine VC_region ?_
   refine VL_pure 2 [2, 3] [(2, .int .i64 0), (3, .int .i64 5)] (by kernel_rfl) rfl ?_
   refine VL_end (by kernel_rfl) ?_
   refine VQ_next ?_
   refine VC_ret ?_
   refine VQ_then_ret ?_
   refine VQ_ret2 (.int .i64 0) (.int .i64 5) (.inr rfl) rfl rfl rfl ?_
   have hq := rc_5 (bs := bs) (show xi = 8 by omega) (by omega)
   exact ⟨by rw [rcV_n (show rcE xi bs ≠ 0 by rw [hq]; decide), hq], hS⟩
  ·refine VL_pure 7 [1, 15, 16] [(1, .pointer (some ⟨b1, 0, none⟩)), (15, .bool false), (16, .pointer (some ⟨b1, 1, none⟩))] (by kernel_rfl) rfl ?_
   refine VL_load (d := 17) (t := 25) (a := ⟨b1, 1, none⟩) (v := .slice (some ⟨sb1, so1, none⟩) n c) (by kernel_rfl) (by kernel_rfl) (Loads.own1 ho1 (by kernel_rfl) (by rfl)) ?_
   refine VL_index (d := 18) (b := sb1) (o := so1) (len := n) (sz := 1) (m := 1) (by kernel_rfl) (by kernel_rfl) 1 (by rfl) (by omega) (so1 + 1) (by omega) ?_
   refine VL_load (d := 19) (t := 5) (a := ⟨sb1, so1 + 1, none⟩) (v := .int .u8 (bs.getD 1 0)) (by kernel_rfl) (by kernel_rfl) (Sl.ldI hA (by kernel_rfl) 1 (by (try simp only [List.length_set, List.length_append, List.length_map, List.length_replicate, List.length_cons, List.length_nil, List.length_take, List.length_drop, List.length_range]) <;> omega)) ?_
   refine VL_pure 12 [1, 21] [(1, .pointer (some ⟨b1, 0, none⟩)), (21, .bool (decide ((bs.getD 1 0) > 127)))] (by kernel_rfl) rfl ?_
   refine VL_end (by kernel_rfl) ?_
   refine VQ_next ?_
   refine VC_dec ((bs.getD 1 0) > 127) (by kernel_rfl) (fun h2 => ?_) (fun h2 => ?_)
   ·refine VC_seq ?_
    refine VC_region ?_
    refine VL_pure 2 [2, 3] [(2, .int .i64 0), (3, .int .i64 5)] (by kernel_rfl) rfl ?_
    refine VL_end (by kernel_rfl) ?_
    refine VQ_next ?_
    refine VC_ret ?_
    refine VQ_then_ret ?_
    refine VQ_ret2 (.int .i64 0) (.int .i64 5) (.inr rfl) rfl rfl rfl ?_
    have hq := rc_5 (bs := bs) (show xi = 8 by omega) (by omega)
    exact ⟨by rw [rcV_n (show rcE xi bs ≠ 0 by rw [hq]; decide), hq], hS⟩
   ·refine VC_skip ?_
    refine VQ_next ?_
    refine VC_seq ?_
    refine VC_region ?_
    refine VL_pure 1 [22] [(22, .pointer (some ⟨b1, 1, none⟩))] (by kernel_rfl) rfl ?_
    refine VL_load (d := 23) (t := 25) (a := ⟨b1, 1, none⟩) (v := .slice (some ⟨sb1, so1, none⟩) n c) (by kernel_rfl) (by kernel_rfl) (Loads.own1 ho1 (by kernel_rfl) (by rfl)) ?_
    refine VL_index (d := 24) (b := sb1) (o := so1) (len := n) (sz := 1) (m := 1) (by kernel_rfl) (by kernel_rfl) 1 (by rfl) (by omega) (so1 + 1) (by omega) ?_
    refine VL_load (d := 25) (t := 5) (a := ⟨sb1, so1 + 1, none⟩) (v := .int .u8 (bs.getD 1 0)) (by kernel_rfl) (by kernel_rfl) (Sl.ldI hA (by kernel_rfl) 1 (by (try simp only [List.length_set, List.length_append, List.length_map, List.length_replicate, List.length_cons, List.length_nil, List.length_take, List.length_drop, List.length_range]) <;> omega)) ?_
    refine VL_pure 7 [2, 3] [(2, .int .i64 (IntKind.wrap .i64 (bs.getD 1 0))), (3, .int .i64 0)] (by kernel_rfl) rfl ?_
    refine VL_end (by kernel_rfl) ?_
    refine VQ_next ?_
    refine VC_ret ?_
    refine VQ_ret2 (.int .i64 (IntKind.wrap .i64 (bs.getD 1 0))) (.int .i64 0) (.inr rfl) rfl rfl rfl ?_
    have hq := rc_0 (bs := bs) (show xi = 8 by omega) (by omega) (by omega) (by omega)
    exact ⟨by rw [rcV_0 hq, hq], hS⟩

set_option maxRecDepth 100000 in
set_option maxHeartbeats 4000000 in
theorem rrdcause_any (xi : Int) (A : Option Addr) (n c Bd : Nat) (bs : List Int) (w : World) (hn : bs.length = n) (hc : n ≤ c) (hA : Sl w Bd A (iL .u8 bs)) (hb : Bytes bs) (hBd : Bd ≤ w.heap.size) :
  CV Try.prog 49 #[.agg #[.int .u8 xi, .slice A n c]] w (fun x w1 => x = .tuple #[.int .i64 (rcV xi bs), .int .i64 (rcE xi bs)] ∧ Step No w w1) := by
 have hS : Step No w w := Step.refl _ _
 refine CV_enter Try.f49 _ 30 [(0, .agg #[.int .u8 xi, .slice A n c])] Try.func49 rfl rfl (by kernel_rfl) rfl ?_
 refine VC_seq ?_
 refine VC_region ?_
 have hzs1 := hS.size
 refine VL_box (d := 1) (t := 60) (c := #[.int .u8 xi, .slice A n c]) (by kernel_rfl) (by kernel_rfl) ?_
 intro b1 w1 hn1
 replace hS := Step.trans hS (hn1.step No)
 replace hA := hA.no (hn1.step No)
 have ho1 := hn1.own
 have hzhn1 := hn1.size
 have hqhn1 := hn1.eqb
 refine VL_pure 3 [1] [(1, .pointer (some ⟨b1, 0, none⟩))] (by kernel_rfl) rfl ?_
 refine VL_end (by kernel_rfl) ?_
 refine VQ_next ?_
 refine VC_seq ?_
 refine VC_seq ?_
 refine VC_region ?_
 refine VL_pure 1 [1, 4] [(1, .pointer (some ⟨b1, 0, none⟩)), (4, .pointer (some ⟨b1, 0, none⟩))] (by kernel_rfl) rfl ?_
 refine VL_load (d := 5) (t := 5) (a := ⟨b1, 0, none⟩) (v := .int .u8 xi) (by kernel_rfl) (by kernel_rfl) (Loads.own1 ho1 (by kernel_rfl) (by rfl)) ?_
 refine VL_pure 3 [1, 6] [(1, .pointer (some ⟨b1, 0, none⟩)), (6, .bool (xi != 8))] (by kernel_rfl) rfl ?_
 refine VL_end (by kernel_rfl) ?_
 refine VQ_next ?_
 refine VC_ne xi 8 (by kernel_rfl) (fun h1 => ?_) (fun h1 => ?_)
 ·refine VC_seq ?_
  refine VC_region ?_
  refine VL_pure 2 [2, 3] [(2, .int .i64 0), (3, .int .i64 12)] (by kernel_rfl) rfl ?_
  refine VL_end (by kernel_rfl) ?_
  refine VQ_next ?_
  refine VC_ret ?_
  refine VQ_then_ret ?_
  refine VQ_ret2 (.int .i64 0) (.int .i64 12) (.inr rfl) rfl rfl rfl ?_
  have hq := rc_12 (bs := bs) (show xi ≠ 8 by assumption)
  exact ⟨by rw [rcV_n (show rcE xi bs ≠ 0 by rw [hq]; decide), hq], hS⟩
 ·refine VC_skip ?_
  refine VQ_next ?_
  refine VC_seq ?_
  refine VC_seq ?_
  refine VC_region ?_
  refine VL_pure 1 [1, 7] [(1, .pointer (some ⟨b1, 0, none⟩)), (7, .pointer (some ⟨b1, 1, none⟩))] (by kernel_rfl) rfl ?_
  refine VL_load (d := 8) (t := 25) (a := ⟨b1, 1, none⟩) (v := .slice A n c) (by kernel_rfl) (by kernel_rfl) (Loads.own1 ho1 (by kernel_rfl) (by rfl)) ?_
  refine VL_pure 5 [1, 11] [(1, .pointer (some ⟨b1, 0, none⟩)), (11, .bool (((n : Nat) : Int) != 2))] (by kernel_rfl) rfl ?_
  refine VL_bne ((n : Nat) : Int) 2 (fun bV => [(1, .pointer (some ⟨b1, 0, none⟩)), (11, .bool bV)]) rfl (fun hg1 => ?_) (fun hg1 => ?_)
  ·refine VL_pure 18 [1, 24] [(1, .pointer (some ⟨b1, 0, none⟩)), (24, .bool true)] (by kernel_rfl) rfl ?_
   refine VL_end (by kernel_rfl) ?_
   refine VQ_next ?_
   refine VC_true (by kernel_rfl) ?_
   refine VC_seq ?_
   refine VC_region ?_
   refine VL_pure 2 [2, 3] [(2, .int .i64 0), (3, .int .i64 5)] (by kernel_rfl) rfl ?_
   refine VL_end (by kernel_rfl) ?_
   refine VQ_next ?_
   refine VC_ret ?_
   refine VQ_then_ret ?_
   refine VQ_ret2 (.int .i64 0) (.int .i64 5) (.inr rfl) rfl rfl rfl ?_
   have hq := rc_5 (bs := bs) (show xi = 8 by omega) (by omega)
   exact ⟨by rw [rcV_n (show rcE xi bs ≠ 0 by rw [hq]; decide), hq], hS⟩
  ·refine VL_pure 6 [1, 11, 12] [(1, .pointer (some ⟨b1, 0, none⟩)), (11, .bool false), (12, .pointer (some ⟨b1, 1, none⟩))] (by kernel_rfl) rfl ?_
   refine VL_load (d := 13) (t := 25) (a := ⟨b1, 1, none⟩) (v := .slice A n c) (by kernel_rfl) (by kernel_rfl) (Loads.own1 ho1 (by kernel_rfl) (by rfl)) ?_
   obtain ⟨sb1, so1, rfl, hlbsb1⟩ := hA.open (by simp only [iL_length]; omega)
   refine VL_index (d := 14) (b := sb1) (o := so1) (len := n) (sz := 1) (m := 0) (by kernel_rfl) (by kernel_rfl) 0 (by rfl) (by omega) so1 (by omega) ?_
   refine VL_load (d := 15) (t := 5) (a := ⟨sb1, so1, none⟩) (v := .int .u8 (bs.getD 0 0)) (by kernel_rfl) (by kernel_rfl) (Sl.ldI hA (by kernel_rfl) 0 (by (try simp only [List.length_set, List.length_append, List.length_map, List.length_replicate, List.length_cons, List.length_nil, List.length_take, List.length_drop, List.length_range]) <;> omega)) ?_
   refine VL_pure 12 [1, 18] [(1, .pointer (some ⟨b1, 0, none⟩)), (18, .bool ((bs.getD 0 0) != 0))] (by kernel_rfl) rfl ?_
   refine VL_bne (bs.getD 0 0) 0 (fun bV => [(1, .pointer (some ⟨b1, 0, none⟩)), (18, .bool bV)]) rfl (fun hg2 => ?_) (fun hg2 => ?_)
   ·refine VL_pure 18 [1, 24] [(1, .pointer (some ⟨b1, 0, none⟩)), (24, .bool true)] (by kernel_rfl) rfl ?_
    refine VL_end (by kernel_rfl) ?_
    refine VQ_next ?_
    refine VC_true (by kernel_rfl) ?_
    refine VC_seq ?_
    refine VC_region ?_
    refine VL_pure 2 [2, 3] [(2, .int .i64 0), (3, .int .i64 5)] (by kernel_rfl) rfl ?_
    refine VL_end (by kernel_rfl) ?_
    refine VQ_next ?_
    refine VC_ret ?_
    refine VQ_then_ret ?_
    refine VQ_ret2 (.int .i64 0) (.int .i64 5) (.inr rfl) rfl rfl rfl ?_
    have hq := rc_5 (bs := bs) (show xi = 8 by omega) (by omega)
    exact ⟨by rw [rcV_n (show rcE xi bs ≠ 0 by rw [hq]; decide), hq], hS⟩
   ·refine VL_pure 13 [1, 18, 19] [(1, .pointer (some ⟨b1, 0, none⟩)), (18, .bool false), (19, .pointer (some ⟨b1, 1, none⟩))] (by kernel_rfl) rfl ?_
    refine VL_load (d := 20) (t := 25) (a := ⟨b1, 1, none⟩) (v := .slice (some ⟨sb1, so1, none⟩) n c) (by kernel_rfl) (by kernel_rfl) (Loads.own1 ho1 (by kernel_rfl) (by rfl)) ?_
    refine VL_index (d := 21) (b := sb1) (o := so1) (len := n) (sz := 1) (m := 1) (by kernel_rfl) (by kernel_rfl) 1 (by rfl) (by omega) (so1 + 1) (by omega) ?_
    refine VL_load (d := 22) (t := 5) (a := ⟨sb1, so1 + 1, none⟩) (v := .int .u8 (bs.getD 1 0)) (by kernel_rfl) (by kernel_rfl) (Sl.ldI hA (by kernel_rfl) 1 (by (try simp only [List.length_set, List.length_append, List.length_map, List.length_replicate, List.length_cons, List.length_nil, List.length_take, List.length_drop, List.length_range]) <;> omega)) ?_
    refine VL_pure 18 [1, 24] [(1, .pointer (some ⟨b1, 0, none⟩)), (24, .bool (decide ((bs.getD 1 0) > 127)))] (by kernel_rfl) rfl ?_
    refine VL_end (by kernel_rfl) ?_
    refine VQ_next ?_
    refine VC_dec ((bs.getD 1 0) > 127) (by kernel_rfl) (fun h2 => ?_) (fun h2 => ?_)
    ·refine VC_seq ?_
     refine VC_region ?_
     refine VL_pure 2 [2, 3] [(2, .int .i64 0), (3, .int .i64 5)] (by kernel_rfl) rfl ?_
     refine VL_end (by kernel_rfl) ?_
     refine VQ_next ?_
     refine VC_ret ?_
     refine VQ_then_ret ?_
     refine VQ_ret2 (.int .i64 0) (.int .i64 5) (.inr rfl) rfl rfl rfl ?_
     have hq := rc_5 (bs := bs) (show xi = 8 by omega) (by omega)
     exact ⟨by rw [rcV_n (show rcE xi bs ≠ 0 by rw [hq]; decide), hq], hS⟩
    ·refine VC_skip ?_
     refine VQ_next ?_
     refine VC_seq ?_
     refine VC_region ?_
     refine VL_pure 1 [25] [(25, .pointer (some ⟨b1, 1, none⟩))] (by kernel_rfl) rfl ?_
     refine VL_load (d := 26) (t := 25) (a := ⟨b1, 1, none⟩) (v := .slice (some ⟨sb1, so1, none⟩) n c) (by kernel_rfl) (by kernel_rfl) (Loads.own1 ho1 (by kernel_rfl) (by rfl)) ?_
     refine VL_index (d := 27) (b := sb1) (o := so1) (len := n) (sz := 1) (m := 1) (by kernel_rfl) (by kernel_rfl) 1 (by rfl) (by omega) (so1 + 1) (by omega) ?_
     refine VL_load (d := 28) (t := 5) (a := ⟨sb1, so1 + 1, none⟩) (v := .int .u8 (bs.getD 1 0)) (by kernel_rfl) (by kernel_rfl) (Sl.ldI hA (by kernel_rfl) 1 (by (try simp only [List.length_set, List.length_append, List.length_map, List.length_replicate, List.length_cons, List.length_nil, List.length_take, List.length_drop, List.length_range]) <;> omega)) ?_
     refine VL_pure 7 [2, 3] [(2, .int .i64 (IntKind.wrap .i64 (bs.getD 1 0))), (3, .int .i64 0)] (by kernel_rfl) rfl ?_
     refine VL_end (by kernel_rfl) ?_
     refine VQ_next ?_
     refine VC_ret ?_
     refine VQ_ret2 (.int .i64 (IntKind.wrap .i64 (bs.getD 1 0))) (.int .i64 0) (.inr rfl) rfl rfl rfl ?_
     have hq := rc_0 (bs := bs) (show xi = 8 by omega) (by omega) (by omega) (by omega)
     exact ⟨by rw [rcV_0 hq, hq], hS⟩

end Go.Proofs.Ytejpcmjokamdcaa
