/- Layer 16: known, Right, Pack; both sides. -/
import Derived.Test.YtejpcmjokamdcaaProg
import Derived.Test.YtejpcmjokamdcaaMe1
import Derived.Test.YtejpcmjokamdcaaEl3
set_option linter.unusedVariables false
set_option linter.unusedSimpArgs false
namespace Go.Proofs.Ytejpcmjokamdcaa
open Go.Vc Go.RowKit

set_option maxRecDepth 100000 in
set_option maxHeartbeats 4000000 in
theorem known_any (k : Int) (w : World) :
  CV Try.prog 30 #[.int .i64 k] w (fun x w1 => x = .bool (knownB k) ∧ Step No w w1) := by
 have hS : Step No w w := Step.refl _ _
 refine CV_enter Try.f30 _ 16 [(0, .int .i64 k)] Try.func30 rfl rfl (by kernel_rfl) rfl ?_
 refine VC_seq ?_
 refine VC_region ?_
 refine VL_pure 1 [0] [(0, .int .i64 k)] (by kernel_rfl) rfl ?_
 refine VL_end (by kernel_rfl) ?_
 refine VQ_next ?_
 refine VC_scope ?_
 refine VC_seq ?_
 refine VC_region ?_
 refine VL_pure 1 [0, 3] [(0, .int .i64 k), (3, .bool false)] (by kernel_rfl) rfl ?_
 refine VL_end (by kernel_rfl) ?_
 refine VQ_next ?_
 refine VC_seq ?_
 refine VC_label ?_
 refine VQ_next ?_
 refine VC_seq ?_
 refine VC_seq ?_
 refine VC_region ?_
 refine VL_pure 2 [0, 3, 6, 7] [(0, .int .i64 k), (3, .bool false), (6, .agg #[.int .i64 2, .int .i64 5, .int .i64 7, .int .i64 77, .int .i64 90]), (7, .int .i64 0)] (by kernel_rfl) rfl ?_
 refine VL_end (by kernel_rfl) ?_
 refine VQ_next ?_
 refine VC_block ?_
 refine VC_rounds ?_
 refine VCL_round ?_
 refine VC_seq ?_
 refine VC_region ?_
 refine VL_pure 1 [0, 3, 6, 7, 8] [(0, .int .i64 k), (3, .bool false), (6, .agg #[.int .i64 2, .int .i64 5, .int .i64 7, .int .i64 77, .int .i64 90]), (7, .int .i64 0), (8, .bool true)] (by kernel_rfl) rfl ?_
 refine VL_end (by kernel_rfl) ?_
 refine VQ_next ?_
 refine VC_seq ?_
 refine VC_true (by kernel_rfl) ?_
 refine VC_skip ?_
 refine VQ_next ?_
 refine VC_seq ?_
 refine VC_block ?_
 refine VC_seq ?_
 refine VC_region ?_
 refine VL_pure 2 [0, 6, 7, 5] [(0, .int .i64 k), (6, .agg #[.int .i64 2, .int .i64 5, .int .i64 7, .int .i64 77, .int .i64 90]), (7, .int .i64 0), (5, .int .i64 2)] (by kernel_rfl) rfl ?_
 refine VL_end (by kernel_rfl) ?_
 refine VQ_next ?_
 refine VC_seq ?_
 refine VC_region ?_
 refine VL_pure 4 [0, 6, 7, 3] [(0, .int .i64 k), (6, .agg #[.int .i64 2, .int .i64 5, .int .i64 7, .int .i64 77, .int .i64 90]), (7, .int .i64 0), (3, .bool (2 == k))] (by kernel_rfl) rfl ?_
 refine VL_end (by kernel_rfl) ?_
 refine VQ_next ?_
 refine VC_seq ?_
 refine VC_region ?_
 refine VL_pure 1 [0, 6, 7, 3, 13] [(0, .int .i64 k), (6, .agg #[.int .i64 2, .int .i64 5, .int .i64 7, .int .i64 77, .int .i64 90]), (7, .int .i64 0), (3, .bool (2 == k)), (13, .bool (2 == k))] (by kernel_rfl) rfl ?_
 refine VL_end (by kernel_rfl) ?_
 refine VQ_next ?_
 refine VC_eq 2 k (by kernel_rfl) (fun h1 => ?_) (fun h1 => ?_)
 ·refine VC_exit ?_
  refine VQ_block_miss (by kernel_rfl) ?_
  refine VQ_then_exit ?_
  refine VQ_then_exit ?_
  refine VQ_block_hit ?_
  refine VQ_next ?_
  refine VC_seq ?_
  refine VC_region ?_
  refine VL_pure 2 [2] [(2, .bool (2 == k))] (by kernel_rfl) rfl ?_
  refine VL_end (by kernel_rfl) ?_
  refine VQ_next ?_
  refine VC_ret ?_
  refine VQ_scope_ret ?_
  refine VQ_ret1 (.bool (2 == k)) (.inr rfl) rfl rfl ?_
  exact ⟨congrArg Value.bool (by rw [knownB, Bool.eq_iff_iff]; simp only [Bool.or_eq_true, beq_iff_eq, decide_eq_true_eq]; omega), hS⟩
 ·refine VC_skip ?_
  refine VQ_block_normal ?_
  refine VQ_next ?_
  refine VC_region ?_
  refine VL_pure 2 [0, 6, 7, 3] [(0, .int .i64 k), (6, .agg #[.int .i64 2, .int .i64 5, .int .i64 7, .int .i64 77, .int .i64 90]), (7, .int .i64 1), (3, .bool (2 == k))] (by kernel_rfl) rfl ?_
  refine VL_end (by kernel_rfl) ?_
  refine VQ_round ?_
  refine VCL_round ?_
  refine VC_seq ?_
  refine VC_region ?_
  refine VL_pure 1 [0, 6, 7, 3, 8] [(0, .int .i64 k), (6, .agg #[.int .i64 2, .int .i64 5, .int .i64 7, .int .i64 77, .int .i64 90]), (7, .int .i64 1), (3, .bool (2 == k)), (8, .bool true)] (by kernel_rfl) rfl ?_
  refine VL_end (by kernel_rfl) ?_
  refine VQ_next ?_
  refine VC_seq ?_
  refine VC_true (by kernel_rfl) ?_
  refine VC_skip ?_
  refine VQ_next ?_
  refine VC_seq ?_
  refine VC_block ?_
  refine VC_seq ?_
  refine VC_region ?_
  refine VL_pure 2 [0, 6, 7, 5] [(0, .int .i64 k), (6, .agg #[.int .i64 2, .int .i64 5, .int .i64 7, .int .i64 77, .int .i64 90]), (7, .int .i64 1), (5, .int .i64 5)] (by kernel_rfl) rfl ?_
  refine VL_end (by kernel_rfl) ?_
  refine VQ_next ?_
  refine VC_seq ?_
  refine VC_region ?_
  refine VL_pure 4 [0, 6, 7, 3] [(0, .int .i64 k), (6, .agg #[.int .i64 2, .int .i64 5, .int .i64 7, .int .i64 77, .int .i64 90]), (7, .int .i64 1), (3, .bool (5 == k))] (by kernel_rfl) rfl ?_
  refine VL_end (by kernel_rfl) ?_
  refine VQ_next ?_
  refine VC_seq ?_
  refine VC_region ?_
  refine VL_pure 1 [0, 6, 7, 3, 13] [(0, .int .i64 k), (6, .agg #[.int .i64 2, .int .i64 5, .int .i64 7, .int .i64 77, .int .i64 90]), (7, .int .i64 1), (3, .bool (5 == k)), (13, .bool (5 == k))] (by kernel_rfl) rfl ?_
  refine VL_end (by kernel_rfl) ?_
  refine VQ_next ?_
  refine VC_eq 5 k (by kernel_rfl) (fun h2 => ?_) (fun h2 => ?_)
  ·refine VC_exit ?_
   refine VQ_block_miss (by kernel_rfl) ?_
   refine VQ_then_exit ?_
   refine VQ_then_exit ?_
   refine VQ_block_hit ?_
   refine VQ_next ?_
   refine VC_seq ?_
   refine VC_region ?_
   refine VL_pure 2 [2] [(2, .bool (5 == k))] (by kernel_rfl) rfl ?_
   refine VL_end (by kernel_rfl) ?_
   refine VQ_next ?_
   refine VC_ret ?_
   refine VQ_scope_ret ?_
   refine VQ_ret1 (.bool (5 == k)) (.inr rfl) rfl rfl ?_
   exact ⟨congrArg Value.bool (by rw [knownB, Bool.eq_iff_iff]; simp only [Bool.or_eq_true, beq_iff_eq, decide_eq_true_eq]; omega), hS⟩
  ·refine VC_skip ?_
   refine VQ_block_normal ?_
   refine VQ_next ?_
   refine VC_region ?_
   refine VL_pure 2 [0, 6, 7, 3] [(0, .int .i64 k), (6, .agg #[.int .i64 2, .int .i64 5, .int .i64 7, .int .i64 77, .int .i64 90]), (7, .int .i64 2), (3, .bool (5 == k))] (by kernel_rfl) rfl ?_
   refine VL_end (by kernel_rfl) ?_
   refine VQ_round ?_
   refine VCL_round ?_
   refine VC_seq ?_
   refine VC_region ?_
   refine VL_pure 1 [0, 6, 7, 3, 8] [(0, .int .i64 k), (6, .agg #[.int .i64 2, .int .i64 5, .int .i64 7, .int .i64 77, .int .i64 90]), (7, .int .i64 2), (3, .bool (5 == k)), (8, .bool true)] (by kernel_rfl) rfl ?_
   refine VL_end (by kernel_rfl) ?_
   refine VQ_next ?_
   refine VC_seq ?_
   refine VC_true (by kernel_rfl) ?_
   refine VC_skip ?_
   refine VQ_next ?_
   refine VC_seq ?_
   refine VC_block ?_
   refine VC_seq ?_
   refine VC_region ?_
   refine VL_pure 2 [0, 6, 7, 5] [(0, .int .i64 k), (6, .agg #[.int .i64 2, .int .i64 5, .int .i64 7, .int .i64 77, .int .i64 90]), (7, .int .i64 2), (5, .int .i64 7)] (by kernel_rfl) rfl ?_
   refine VL_end (by kernel_rfl) ?_
   refine VQ_next ?_
   refine VC_seq ?_
   refine VC_region ?_
   refine VL_pure 4 [0, 6, 7, 3] [(0, .int .i64 k), (6, .agg #[.int .i64 2, .int .i64 5, .int .i64 7, .int .i64 77, .int .i64 90]), (7, .int .i64 2), (3, .bool (7 == k))] (by kernel_rfl) rfl ?_
   refine VL_end (by kernel_rfl) ?_
   refine VQ_next ?_
   refine VC_seq ?_
   refine VC_region ?_
   refine VL_pure 1 [0, 6, 7, 3, 13] [(0, .int .i64 k), (6, .agg #[.int .i64 2, .int .i64 5, .int .i64 7, .int .i64 77, .int .i64 90]), (7, .int .i64 2), (3, .bool (7 == k)), (13, .bool (7 == k))] (by kernel_rfl) rfl ?_
   refine VL_end (by kernel_rfl) ?_
   refine VQ_next ?_
   refine VC_eq 7 k (by kernel_rfl) (fun h3 => ?_) (fun h3 => ?_)
   ·refine VC_exit ?_
    refine VQ_block_miss (by kernel_rfl) ?_
    refine VQ_then_exit ?_
    refine VQ_then_exit ?_
    refine VQ_block_hit ?_
    refine VQ_next ?_
    refine VC_seq ?_
    refine VC_region ?_
    refine VL_pure 2 [2] [(2, .bool (7 == k))] (by kernel_rfl) rfl ?_
    refine VL_end (by kernel_rfl) ?_
    refine VQ_next ?_
    refine VC_ret ?_
    refine VQ_scope_ret ?_
    refine VQ_ret1 (.bool (7 == k)) (.inr rfl) rfl rfl ?_
    exact ⟨congrArg Value.bool (by rw [knownB, Bool.eq_iff_iff]; simp only [Bool.or_eq_true, beq_iff_eq, decide_eq_true_eq]; omega), hS⟩
   ·refine VC_skip ?_
    refine VQ_block_normal ?_
    refine VQ_next ?_
    refine VC_region ?_
    refine VL_pure 2 [0, 6, 7, 3] [(0, .int .i64 k), (6, .agg #[.int .i64 2, .int .i64 5, .int .i64 7, .int .i64 77, .int .i64 90]), (7, .int .i64 3), (3, .bool (7 == k))] (by kernel_rfl) rfl ?_
    refine VL_end (by kernel_rfl) ?_
    refine VQ_round ?_
    refine VCL_round ?_
    refine VC_seq ?_
    refine VC_region ?_
    refine VL_pure 1 [0, 6, 7, 3, 8] [(0, .int .i64 k), (6, .agg #[.int .i64 2, .int .i64 5, .int .i64 7, .int .i64 77, .int .i64 90]), (7, .int .i64 3), (3, .bool (7 == k)), (8, .bool true)] (by kernel_rfl) rfl ?_
    refine VL_end (by kernel_rfl) ?_
    refine VQ_next ?_
    refine VC_seq ?_
    refine VC_true (by kernel_rfl) ?_
    refine VC_skip ?_
    refine VQ_next ?_
    refine VC_seq ?_
    refine VC_block ?_
    refine VC_seq ?_
    refine VC_region ?_
    refine VL_pure 2 [0, 6, 7, 5] [(0, .int .i64 k), (6, .agg #[.int .i64 2, .int .i64 5, .int .i64 7, .int .i64 77, .int .i64 90]), (7, .int .i64 3), (5, .int .i64 77)] (by kernel_rfl) rfl ?_
    refine VL_end (by kernel_rfl) ?_
    refine VQ_next ?_
    refine VC_seq ?_
    refine VC_region ?_
    refine VL_pure 4 [0, 6, 7, 3] [(0, .int .i64 k), (6, .agg #[.int .i64 2, .int .i64 5, .int .i64 7, .int .i64 77, .int .i64 90]), (7, .int .i64 3), (3, .bool (77 == k))] (by kernel_rfl) rfl ?_
    refine VL_end (by kernel_rfl) ?_
    refine VQ_next ?_
    refine VC_seq ?_
    refine VC_region ?_
    refine VL_pure 1 [0, 6, 7, 3, 13] [(0, .int .i64 k), (6, .agg #[.int .i64 2, .int .i64 5, .int .i64 7, .int .i64 77, .int .i64 90]), (7, .int .i64 3), (3, .bool (77 == k)), (13, .bool (77 == k))] (by kernel_rfl) rfl ?_
    refine VL_end (by kernel_rfl) ?_
    refine VQ_next ?_
    refine VC_eq 77 k (by kernel_rfl) (fun h4 => ?_) (fun h4 => ?_)
    ·refine VC_exit ?_
     refine VQ_block_miss (by kernel_rfl) ?_
     refine VQ_then_exit ?_
     refine VQ_then_exit ?_
     refine VQ_block_hit ?_
     refine VQ_next ?_
     refine VC_seq ?_
     refine VC_region ?_
     refine VL_pure 2 [2] [(2, .bool (77 == k))] (by kernel_rfl) rfl ?_
     refine VL_end (by kernel_rfl) ?_
     refine VQ_next ?_
     refine VC_ret ?_
     refine VQ_scope_ret ?_
     refine VQ_ret1 (.bool (77 == k)) (.inr rfl) rfl rfl ?_
     exact ⟨congrArg Value.bool (by rw [knownB, Bool.eq_iff_iff]; simp only [Bool.or_eq_true, beq_iff_eq, decide_eq_true_eq]; omega), hS⟩
    ·refine VC_skip ?_
     refine VQ_block_normal ?_
     refine VQ_next ?_
     refine VC_region ?_
     refine VL_pure 2 [0, 6, 7, 3] [(0, .int .i64 k), (6, .agg #[.int .i64 2, .int .i64 5, .int .i64 7, .int .i64 77, .int .i64 90]), (7, .int .i64 4), (3, .bool (77 == k))] (by kernel_rfl) rfl ?_
     refine VL_end (by kernel_rfl) ?_
     refine VQ_round ?_
     refine VCL_round ?_
     refine VC_seq ?_
     refine VC_region ?_
     refine VL_pure 1 [0, 6, 7, 3, 8] [(0, .int .i64 k), (6, .agg #[.int .i64 2, .int .i64 5, .int .i64 7, .int .i64 77, .int .i64 90]), (7, .int .i64 4), (3, .bool (77 == k)), (8, .bool true)] (by kernel_rfl) rfl ?_
     refine VL_end (by kernel_rfl) ?_
     refine VQ_next ?_
     refine VC_seq ?_
     refine VC_true (by kernel_rfl) ?_
     refine VC_skip ?_
     refine VQ_next ?_
     refine VC_seq ?_
     refine VC_block ?_
     refine VC_seq ?_
     refine VC_region ?_
     refine VL_pure 2 [0, 6, 7, 5] [(0, .int .i64 k), (6, .agg #[.int .i64 2, .int .i64 5, .int .i64 7, .int .i64 77, .int .i64 90]), (7, .int .i64 4), (5, .int .i64 90)] (by kernel_rfl) rfl ?_
     refine VL_end (by kernel_rfl) ?_
     refine VQ_next ?_
     refine VC_seq ?_
     refine VC_region ?_
     refine VL_pure 4 [0, 6, 7, 3] [(0, .int .i64 k), (6, .agg #[.int .i64 2, .int .i64 5, .int .i64 7, .int .i64 77, .int .i64 90]), (7, .int .i64 4), (3, .bool (90 == k))] (by kernel_rfl) rfl ?_
     refine VL_end (by kernel_rfl) ?_
     refine VQ_next ?_
     refine VC_seq ?_
     refine VC_region ?_
     refine VL_pure 1 [0, 6, 7, 3, 13] [(0, .int .i64 k), (6, .agg #[.int .i64 2, .int .i64 5, .int .i64 7, .int .i64 77, .int .i64 90]), (7, .int .i64 4), (3, .bool (90 == k)), (13, .bool (90 == k))] (by kernel_rfl) rfl ?_
     refine VL_end (by kernel_rfl) ?_
     refine VQ_next ?_
     refine VC_eq 90 k (by kernel_rfl) (fun h5 => ?_) (fun h5 => ?_)
     ·refine VC_exit ?_
      refine VQ_block_miss (by kernel_rfl) ?_
      refine VQ_then_exit ?_
      refine VQ_then_exit ?_
      refine VQ_block_hit ?_
      refine VQ_next ?_
      refine VC_seq ?_
      refine VC_region ?_
      refine VL_pure 2 [2] [(2, .bool (90 == k))] (by kernel_rfl) rfl ?_
      refine VL_end (by kernel_rfl) ?_
      refine VQ_next ?_
      refine VC_ret ?_
      refine VQ_scope_ret ?_
      refine VQ_ret1 (.bool (90 == k)) (.inr rfl) rfl rfl ?_
      exact ⟨congrArg Value.bool (by rw [knownB, Bool.eq_iff_iff]; simp only [Bool.or_eq_true, beq_iff_eq, decide_eq_true_eq]; omega), hS⟩
     ·refine VC_skip ?_
      refine VQ_block_normal ?_
      refine VQ_next ?_
      refine VC_region ?_
      refine VL_pure 2 [0, 6, 7, 3] [(0, .int .i64 k), (6, .agg #[.int .i64 2, .int .i64 5, .int .i64 7, .int .i64 77, .int .i64 90]), (7, .int .i64 5), (3, .bool (90 == k))] (by kernel_rfl) rfl ?_
      refine VL_end (by kernel_rfl) ?_
      refine VQ_round ?_
      refine VCL_round ?_
      refine VC_seq ?_
      refine VC_region ?_
      refine VL_pure 1 [0, 6, 7, 3, 8] [(0, .int .i64 k), (6, .agg #[.int .i64 2, .int .i64 5, .int .i64 7, .int .i64 77, .int .i64 90]), (7, .int .i64 5), (3, .bool (90 == k)), (8, .bool false)] (by kernel_rfl) rfl ?_
      refine VL_end (by kernel_rfl) ?_
      refine VQ_next ?_
      refine VC_seq ?_
      refine VC_false (by kernel_rfl) ?_
      refine VC_exit ?_
      refine VQ_then_exit ?_
      refine VQ_then_exit ?_
      refine VQ_block_hit ?_
      refine VQ_next ?_
      refine VC_seq ?_
      refine VC_region ?_
      refine VL_pure 2 [2] [(2, .bool (90 == k))] (by kernel_rfl) rfl ?_
      refine VL_end (by kernel_rfl) ?_
      refine VQ_next ?_
      refine VC_ret ?_
      refine VQ_scope_ret ?_
      refine VQ_ret1 (.bool (90 == k)) (.inr rfl) rfl rfl ?_
      exact ⟨congrArg Value.bool (by rw [knownB, Bool.eq_iff_iff]; simp only [Bool.or_eq_true, beq_iff_eq, decide_eq_true_eq]; omega), hS⟩

set_option maxRecDepth 100000 in
set_option maxHeartbeats 4000000 in
theorem right16_any (r : Int) (bk : Bool) (k : Int) (A : Option Addr) (n c lo hi : Nat) (l : List IeV) (w : World) (hn : l.length = n) (hA : Ies w lo hi A l) (hlen : n ≤ 1000000) (hhi : hi ≤ w.heap.size) :
  CV Try.prog 17 #[.agg #[.int .i64 r, .bool bk, .int .i64 k, .slice A n c]] w (fun x w1 => x = .bool (rightM r k (vals l)) ∧ Step No w w1) := by
 have hS : Step No w w := Step.refl _ _
 refine CV_enter Try.f17 _ 28 [(0, .agg #[.int .i64 r, .bool bk, .int .i64 k, .slice A n c])] Try.func17 rfl rfl (by kernel_rfl) rfl ?_
 refine VC_seq ?_
 refine VC_region ?_
 have hzs1 := hS.size
 refine VL_box (d := 1) (t := 24) (c := #[.int .i64 r, .bool bk, .int .i64 k, .slice A n c]) (by kernel_rfl) (by kernel_rfl) ?_
 intro b1 w1 hn1
 replace hS := Step.trans hS (hn1.step No)
 replace hA := hA.no (hn1.step No)
 have ho1 := hn1.own
 have hzhn1 := hn1.size
 have hqhn1 := hn1.eqb
 refine VL_pure 2 [1] [(1, .pointer (some ⟨b1, 0, none⟩))] (by kernel_rfl) rfl ?_
 refine VL_end (by kernel_rfl) ?_
 refine VQ_next ?_
 refine VC_seq ?_
 refine VC_region ?_
 refine VL_pure 1 [1, 6] [(1, .pointer (some ⟨b1, 0, none⟩)), (6, .pointer (some ⟨b1, 3, none⟩))] (by kernel_rfl) rfl ?_
 refine VL_load (d := 7) (t := 22) (a := ⟨b1, 3, none⟩) (v := .slice A n c) (by kernel_rfl) (by kernel_rfl) (Loads.own1 ho1 (by kernel_rfl) (by rfl)) ?_
 have hzs2 := hS.size
 have hzl1 := ho1.lt
 refine VL_call (d := 8) (f := 28) (by kernel_rfl) (by kernel_rfl) (by kernel_rfl) Try.call28 (pack_any A n c lo hi l _ hn hA (by omega) (by first | exact Nat.le_refl _ | omega)) ?_
 rintro _ w2 ⟨A1, c1, rfl, hr1, hc1⟩
 replace hS := Step.trans hS hc1
 replace hA := hA.no hc1
 replace ho1 := ho1.no hc1
 obtain ⟨base1, hbase1E⟩ : ∃ x, x = w1.heap.size := ⟨_, rfl⟩
 rw [← hbase1E] at hr1
 have hbase1 : base1 ≤ w2.heap.size := by rw [hbase1E]; exact hc1.size
 have hplq1 := packT_le (vals l)
 refine VL_pure 8 [1, 4] [(1, .pointer (some ⟨b1, 0, none⟩)), (4, .int .i64 (packE (vals l)))] (by kernel_rfl) rfl ?_
 refine VL_end (by kernel_rfl) ?_
 refine VQ_next ?_
 refine VC_seq ?_
 refine VC_region ?_
 refine VL_pure 1 [1, 4, 11] [(1, .pointer (some ⟨b1, 0, none⟩)), (4, .int .i64 (packE (vals l))), (11, .pointer (some ⟨b1, 0, none⟩))] (by kernel_rfl) rfl ?_
 refine VL_load (d := 12) (t := 3) (a := ⟨b1, 0, none⟩) (v := .int .i64 r) (by kernel_rfl) (by kernel_rfl) (Loads.own1 ho1 (by kernel_rfl) (by rfl)) ?_
 refine VL_pure 4 [1, 4, 14] [(1, .pointer (some ⟨b1, 0, none⟩)), (4, .int .i64 (packE (vals l))), (14, .bool (decide (r ≥ 1)))] (by kernel_rfl) rfl ?_
 refine VL_dec (r ≥ 1) (fun bV => [(1, .pointer (some ⟨b1, 0, none⟩)), (4, .int .i64 (packE (vals l))), (14, .bool bV)]) rfl (fun hg1 => ?_) (fun hg1 => ?_)
 ·refine VL_pure 5 [1, 4, 14, 15] [(1, .pointer (some ⟨b1, 0, none⟩)), (4, .int .i64 (packE (vals l))), (14, .bool true), (15, .pointer (some ⟨b1, 0, none⟩))] (by kernel_rfl) rfl ?_
  refine VL_load (d := 16) (t := 3) (a := ⟨b1, 0, none⟩) (v := .int .i64 r) (by kernel_rfl) (by kernel_rfl) (Loads.own1 ho1 (by kernel_rfl) (by rfl)) ?_
  refine VL_pure 9 [1, 4, 19] [(1, .pointer (some ⟨b1, 0, none⟩)), (4, .int .i64 (packE (vals l))), (19, .bool (decide (r ≤ 8388607)))] (by kernel_rfl) rfl ?_
  refine VL_dec (r ≤ 8388607) (fun bV => [(1, .pointer (some ⟨b1, 0, none⟩)), (4, .int .i64 (packE (vals l))), (19, .bool bV)]) rfl (fun hg2 => ?_) (fun hg2 => ?_)
  ·refine VL_pure 10 [4, 19, 20] [(4, .int .i64 (packE (vals l))), (19, .bool true), (20, .pointer (some ⟨b1, 2, none⟩))] (by kernel_rfl) rfl ?_
   refine VL_load (d := 21) (t := 3) (a := ⟨b1, 2, none⟩) (v := .int .i64 k) (by kernel_rfl) (by kernel_rfl) (Loads.own1 ho1 (by kernel_rfl) (by rfl)) ?_
   have hzs3 := hS.size
   have hzl2 := ho1.lt
   refine VL_call (d := 22) (f := 30) (args := #[.int .i64 k]) (by kernel_rfl) (by kernel_rfl) (by kernel_rfl) Try.call30 (known_any k _) ?_
   rintro _ w3 ⟨rfl, hc2⟩
   replace hS := Step.trans hS hc2
   replace hA := hA.no hc2
   replace ho1 := ho1.no hc2
   replace hbase1 := Nat.le_trans hbase1 (hc2).size
   replace hr1 := hr1.no hc2
   refine VL_pure 14 [4, 24] [(4, .int .i64 (packE (vals l))), (24, .bool (knownB k))] (by kernel_rfl) rfl ?_
   refine VL_bool (knownB k) (fun bV => [(4, .int .i64 (packE (vals l))), (24, .bool bV)]) rfl (fun hg3 => ?_) (fun hg3 => ?_)
   ·refine VL_pure 18 [2] [(2, .bool ((packE (vals l)) == 0))] (by kernel_rfl) rfl ?_
    refine VL_end (by kernel_rfl) ?_
    refine VQ_next ?_
    refine VC_ret ?_
    refine VQ_ret1 (.bool ((packE (vals l)) == 0)) (.inr rfl) rfl rfl ?_
    exact ⟨congrArg Value.bool (by first | exact (rightM_F1 (by omega)).symm | exact (rightM_F2 (by assumption)).symm | exact rightM_E (by omega) (by assumption)), hS⟩
   ·refine VL_pure 18 [2] [(2, .bool false)] (by kernel_rfl) rfl ?_
    refine VL_end (by kernel_rfl) ?_
    refine VQ_next ?_
    refine VC_ret ?_
    refine VQ_ret1 (.bool false) (.inr rfl) rfl rfl ?_
    exact ⟨congrArg Value.bool (by first | exact (rightM_F1 (by omega)).symm | exact (rightM_F2 (by assumption)).symm | exact rightM_E (by omega) (by assumption)), hS⟩
  ·refine VL_pure 18 [2] [(2, .bool false)] (by kernel_rfl) rfl ?_
   refine VL_end (by kernel_rfl) ?_
   refine VQ_next ?_
   refine VC_ret ?_
   refine VQ_ret1 (.bool false) (.inr rfl) rfl rfl ?_
   exact ⟨congrArg Value.bool (by first | exact (rightM_F1 (by omega)).symm | exact (rightM_F2 (by assumption)).symm | exact rightM_E (by omega) (by assumption)), hS⟩
 ·refine VL_pure 18 [2] [(2, .bool false)] (by kernel_rfl) rfl ?_
  refine VL_end (by kernel_rfl) ?_
  refine VQ_next ?_
  refine VC_ret ?_
  refine VQ_ret1 (.bool false) (.inr rfl) rfl rfl ?_
  exact ⟨congrArg Value.bool (by first | exact (rightM_F1 (by omega)).symm | exact (rightM_F2 (by assumption)).symm | exact rightM_E (by omega) (by assumption)), hS⟩

set_option maxRecDepth 100000 in
set_option maxHeartbeats 4000000 in
theorem msgpack_no (r : Int) (bk : Bool) (k : Int) (A : Option Addr) (n c lo hi : Nat) (l : List IeV) (w : World) (hn : l.length = n) (hA : Ies w lo hi A l) (hlen : n ≤ 1000000) (hhi : hi ≤ w.heap.size) (hr : rightM r k (vals l) = false) :
  CV Try.prog 11 #[.agg #[.int .i64 r, .bool bk, .int .i64 k, .slice A n c]] w (fun x w1 => PackR w w1 5 x (msgT r bk k (vals l)) (msgE r bk k (vals l))) := by
 have hS : Step No w w := Step.refl _ _
 refine CV_enter Try.f11 _ 48 [(0, .agg #[.int .i64 r, .bool bk, .int .i64 k, .slice A n c])] Try.func11 rfl rfl (by kernel_rfl) rfl ?_
 refine VC_seq ?_
 refine VC_region ?_
 have hzs1 := hS.size
 refine VL_box (d := 1) (t := 24) (c := #[.int .i64 r, .bool bk, .int .i64 k, .slice A n c]) (by kernel_rfl) (by kernel_rfl) ?_
 intro b1 w1 hn1
 replace hS := Step.trans hS (hn1.step No)
 replace hA := hA.no (hn1.step No)
 have ho1 := hn1.own
 have hzhn1 := hn1.size
 have hqhn1 := hn1.eqb
 refine VL_pure 3 [1] [(1, .pointer (some ⟨b1, 0, none⟩))] (by kernel_rfl) rfl ?_
 refine VL_end (by kernel_rfl) ?_
 refine VQ_next ?_
 refine VC_seq ?_
 refine VC_seq ?_
 refine VC_region ?_
 refine VL_load (d := 8) (t := 24) (a := ⟨b1, 0, none⟩) (v := .agg #[.int .i64 r, .bool bk, .int .i64 k, .slice A n c]) (by kernel_rfl) (by kernel_rfl) (Loads.ownL ho1 (n := 4) (by kernel_rfl) (by kernel_rfl) (by kernel_rfl)) ?_
 have hzs2 := hS.size
 have hzl1 := ho1.lt
 refine VL_call (d := 9) (f := 17) (by kernel_rfl) (by kernel_rfl) (by kernel_rfl) Try.call17 (right16_any r bk k A n c lo hi l _ hn hA (by omega) (by first | exact Nat.le_refl _ | omega)) ?_
 rintro _ w2 ⟨rfl, hc1⟩
 replace hS := Step.trans hS hc1
 replace hA := hA.no hc1
 replace ho1 := ho1.no hc1
 refine VL_pure 3 [1, 10] [(1, .pointer (some ⟨b1, 0, none⟩)), (10, .bool (!(rightM r k (vals l))))] (by kernel_rfl) rfl ?_
 refine VL_end (by kernel_rfl) ?_
 refine VQ_next ?_
 refine VC_is (b := !(rightM r k (vals l))) true (by kernel_rfl) (by rw [hr]; rfl) ?_
 refine VC_ite_true ?_
 refine VC_seq ?_
 refine VC_region ?_
 refine VL_pure 2 [2, 3] [(2, .slice none 0 0), (3, .int .i64 1)] (by kernel_rfl) rfl ?_
 refine VL_end (by kernel_rfl) ?_
 refine VQ_next ?_
 refine VC_ret ?_
 refine VQ_then_ret ?_
 refine VQ_ret2 (.slice none 0 0) (.int .i64 1) (.inr rfl) rfl rfl rfl ?_
 exact MsgR.no (msg_no hr) hS

set_option maxRecDepth 100000 in
set_option maxHeartbeats 4000000 in
theorem msgpack_yes (r : Nat) (bk : Bool) (k : Int) (A : Option Addr) (n c lo hi : Nat) (l : List IeV) (w : World) (hn : l.length = n) (hA : Ies w lo hi A l) (hlen : n ≤ 1000000) (hhi : hi ≤ w.heap.size) (hr : rightM ((r : Nat) : Int) k (vals l) = true) :
  CV Try.prog 11 #[.agg #[.int .i64 ((r : Nat) : Int), .bool bk, .int .i64 k, .slice A n c]] w (fun x w1 => PackR w w1 5 x (msgT ((r : Nat) : Int) bk k (vals l)) (msgE ((r : Nat) : Int) bk k (vals l))) := by
 have hS : Step No w w := Step.refl _ _
 have hrt := (rightM_T hr).1
 refine CV_enter Try.f11 _ 48 [(0, .agg #[.int .i64 ((r : Nat) : Int), .bool bk, .int .i64 k, .slice A n c])] Try.func11 rfl rfl (by kernel_rfl) rfl ?_
 refine VC_seq ?_
 refine VC_region ?_
 have hzs1 := hS.size
 refine VL_box (d := 1) (t := 24) (c := #[.int .i64 ((r : Nat) : Int), .bool bk, .int .i64 k, .slice A n c]) (by kernel_rfl) (by kernel_rfl) ?_
 intro b1 w1 hn1
 replace hS := Step.trans hS (hn1.step No)
 replace hA := hA.no (hn1.step No)
 have ho1 := hn1.own
 have hzhn1 := hn1.size
 have hqhn1 := hn1.eqb
 refine VL_pure 3 [1] [(1, .pointer (some ⟨b1, 0, none⟩))] (by kernel_rfl) rfl ?_
 refine VL_end (by kernel_rfl) ?_
 refine VQ_next ?_
 refine VC_seq ?_
 refine VC_seq ?_
 refine VC_region ?_
 refine VL_load (d := 8) (t := 24) (a := ⟨b1, 0, none⟩) (v := .agg #[.int .i64 ((r : Nat) : Int), .bool bk, .int .i64 k, .slice A n c]) (by kernel_rfl) (by kernel_rfl) (Loads.ownL ho1 (n := 4) (by kernel_rfl) (by kernel_rfl) (by kernel_rfl)) ?_
 have hzs2 := hS.size
 have hzl1 := ho1.lt
 refine VL_call (d := 9) (f := 17) (by kernel_rfl) (by kernel_rfl) (by kernel_rfl) Try.call17 (right16_any ((r : Nat) : Int) bk k A n c lo hi l _ hn hA (by omega) (by first | exact Nat.le_refl _ | omega)) ?_
 rintro _ w2 ⟨rfl, hc1⟩
 replace hS := Step.trans hS hc1
 replace hA := hA.no hc1
 replace ho1 := ho1.no hc1
 refine VL_pure 3 [1, 10] [(1, .pointer (some ⟨b1, 0, none⟩)), (10, .bool (!(rightM ((r : Nat) : Int) k (vals l))))] (by kernel_rfl) rfl ?_
 refine VL_end (by kernel_rfl) ?_
 refine VQ_next ?_
 refine VC_is (b := !(rightM ((r : Nat) : Int) k (vals l))) false (by kernel_rfl) (by rw [hr]; rfl) ?_
 refine VC_ite_false ?_
 refine VC_skip ?_
 refine VQ_next ?_
 refine VC_seq ?_
 refine VC_region ?_
 refine VL_pure 1 [1, 12] [(1, .pointer (some ⟨b1, 0, none⟩)), (12, .pointer (some ⟨b1, 3, none⟩))] (by kernel_rfl) rfl ?_
 refine VL_load (d := 13) (t := 22) (a := ⟨b1, 3, none⟩) (v := .slice A n c) (by kernel_rfl) (by kernel_rfl) (Loads.own1 ho1 (by kernel_rfl) (by rfl)) ?_
 have hzs3 := hS.size
 have hzl2 := ho1.lt
 refine VL_call (d := 14) (f := 28) (by kernel_rfl) (by kernel_rfl) (by kernel_rfl) Try.call28 (pack_any A n c lo hi l _ hn hA (by omega) (by first | exact Nat.le_refl _ | omega)) ?_
 rintro _ w3 ⟨A1, c1, rfl, hr1, hc2⟩
 replace hS := Step.trans hS hc2
 replace hA := hA.no hc2
 replace ho1 := ho1.no hc2
 obtain ⟨base1, hbase1E⟩ : ∃ x, x = w2.heap.size := ⟨_, rfl⟩
 rw [← hbase1E] at hr1
 have hbase1 : base1 ≤ w3.heap.size := by rw [hbase1E]; exact hc2.size
 have hplq1 := packT_le (vals l)
 refine VL_pure 8 [1, 4] [(1, .pointer (some ⟨b1, 0, none⟩)), (4, .slice A1 ((packT (vals l)).length) c1)] (by kernel_rfl) rfl ?_
 refine VL_end (by kernel_rfl) ?_
 refine VQ_next ?_
 refine VC_seq ?_
 refine VC_region ?_
 refine VL_pure 1 [1, 4, 17] [(1, .pointer (some ⟨b1, 0, none⟩)), (4, .slice A1 ((packT (vals l)).length) c1), (17, .pointer (some ⟨b1, 0, none⟩))] (by kernel_rfl) rfl ?_
 refine VL_load (d := 18) (t := 3) (a := ⟨b1, 0, none⟩) (v := .int .i64 ((r : Nat) : Int)) (by kernel_rfl) (by kernel_rfl) (Loads.own1 ho1 (by kernel_rfl) (by rfl)) ?_
 refine VL_pure 3 [1, 4, 6] [(1, .pointer (some ⟨b1, 0, none⟩)), (4, .slice A1 ((packT (vals l)).length) c1), (6, .int .i64 ((r : Nat) : Int))] (by kernel_rfl) rfl ?_
 refine VL_end (by kernel_rfl) ?_
 refine VQ_next ?_
 refine VC_seq ?_
 refine VC_seq ?_
 refine VC_region ?_
 refine VL_pure 1 [1, 4, 6, 19] [(1, .pointer (some ⟨b1, 0, none⟩)), (4, .slice A1 ((packT (vals l)).length) c1), (6, .int .i64 ((r : Nat) : Int)), (19, .pointer (some ⟨b1, 1, none⟩))] (by kernel_rfl) rfl ?_
 refine VL_load (d := 20) (t := 4) (a := ⟨b1, 1, none⟩) (v := .bool bk) (by kernel_rfl) (by kernel_rfl) (Loads.own1 ho1 (by kernel_rfl) (by rfl)) ?_
 refine VL_end (by kernel_rfl) ?_
 refine VQ_next ?_
 refine VC_cond bk (by kernel_rfl) (fun h1 => ?_) (fun h1 => ?_)
 ·try simp only [Bool.and_eq_true, Bool.or_eq_true, decide_eq_true_eq, Bool.not_eq_true', decide_eq_false_iff_not, Bool.and_eq_false_iff, Bool.or_eq_false_iff, beq_iff_eq, bne_iff_ne, beq_eq_false_iff_ne, bne_eq_false_iff_eq, Bool.not_eq_eq_eq_not, Bool.not_true, Bool.not_false] at h1
  refine VC_region ?_
  refine VL_pure 2 [1, 4, 22] [(1, .pointer (some ⟨b1, 0, none⟩)), (4, .slice A1 ((packT (vals l)).length) c1), (22, .int .i64 (IntKind.wrap .i64 (((r : Nat) : Int) + 8388608)))] (by kernel_rfl) rfl ?_
  obtain ⟨N, hN⟩ := msgN_ex r
  refine VL_eq [(1, .pointer (some ⟨b1, 0, none⟩)), (4, .slice A1 ((packT (vals l)).length) c1), (22, .int .i64 ((N : Nat) : Int))] (by rw [wrap_i64 _ (by omega) (by omega), ← hN]) ?_
  refine VL_pure 3 [1, 4, 6] [(1, .pointer (some ⟨b1, 0, none⟩)), (4, .slice A1 ((packT (vals l)).length) c1), (6, .int .i64 ((N : Nat) : Int))] (by kernel_rfl) rfl ?_
  refine VL_end (by kernel_rfl) ?_
  refine VQ_next ?_
  refine VC_seq ?_
  refine VC_region ?_
  refine VL_pure 9 [4, 25, 28, 30, 31] [(4, .slice A1 ((packT (vals l)).length) c1), (25, .int .u8 (IntKind.wrap .u8 (((N : Nat) : Int).fdiv (2 ^ 16)))), (28, .int .u8 (IntKind.wrap .u8 (((N : Nat) : Int).fdiv (2 ^ 8)))), (30, .int .u8 (IntKind.wrap .u8 ((N : Nat) : Int))), (31, .pointer (some ⟨b1, 2, none⟩))] (by kernel_rfl) rfl ?_
  refine VL_load (d := 32) (t := 3) (a := ⟨b1, 2, none⟩) (v := .int .i64 k) (by kernel_rfl) (by kernel_rfl) (Loads.own1 ho1 (by kernel_rfl) (by rfl)) ?_
  refine VL_pure 18 [4, 25, 28, 30, 33, 37, 40] [(4, .slice A1 ((packT (vals l)).length) c1), (25, .int .u8 (IntKind.wrap .u8 (((N : Nat) : Int).fdiv (2 ^ 16)))), (28, .int .u8 (IntKind.wrap .u8 (((N : Nat) : Int).fdiv (2 ^ 8)))), (30, .int .u8 (IntKind.wrap .u8 ((N : Nat) : Int))), (33, .int .u8 (IntKind.wrap .u8 k)), (37, .int .u8 (IntKind.wrap .u8 ((((packT (vals l)).length : Nat) : Int).fdiv (2 ^ 8)))), (40, .int .u8 (IntKind.wrap .u8 (((packT (vals l)).length : Nat) : Int)))] (by kernel_rfl) rfl ?_
  have hzs4 := hS.size
  have hzl3 := ho1.lt
  have hzk1 := hbase1
  have hub1 := hr1.ub
  refine VL_bs (d := 41) (e := 5) (c := #[.int .u8 9, .int .u8 3, .int .u8 (IntKind.wrap .u8 (((N : Nat) : Int).fdiv (2 ^ 16))), .int .u8 (IntKind.wrap .u8 (((N : Nat) : Int).fdiv (2 ^ 8))), .int .u8 (IntKind.wrap .u8 ((N : Nat) : Int)), .int .u8 (IntKind.wrap .u8 k), .int .u8 128, .int .u8 (IntKind.wrap .u8 ((((packT (vals l)).length : Nat) : Int).fdiv (2 ^ 8))), .int .u8 (IntKind.wrap .u8 (((packT (vals l)).length : Nat) : Int))]) (len := 9) (by kernel_rfl) (by kernel_rfl) ?_
  intro b2 w4 hn2
  replace hS := Step.trans hS (hn2.step No)
  replace hA := hA.no (hn2.step No)
  replace ho1 := ho1.no (hn2.step No)
  replace hbase1 := Nat.le_trans hbase1 (hn2.step No).size
  replace hr1 := hr1.no (hn2.step No)
  have ho2 := hn2.own
  have hzhn2 := hn2.size
  have hqhn2 := hn2.eqb
  refine VL_pure 20 [41, 42] [(41, .slice (some ⟨b2, 0, none⟩) 9 9), (42, .slice A1 ((packT (vals l)).length) c1)] (by kernel_rfl) rfl ?_
  have hzs5 := hS.size
  have hzl4 := ho1.lt
  have hzk2 := hbase1
  have hzl5 := ho2.lt
  have hbase2 := Nat.le_of_lt ho2.lt
  refine VL_appendT (d := 43) (e := 5) (A := (some ⟨b2, 0, none⟩)) (m := 9) (c := 9) (A2 := A1) (m2 := ((packT (vals l)).length)) (c2 := c1) (bytes := 1) (by kernel_rfl) (by kernel_rfl) (by kernel_rfl) b2 w4.heap.size (iL .u8 ([9, 3, IntKind.wrap .u8 (((N : Nat) : Int).fdiv (2 ^ 16)), IntKind.wrap .u8 (((N : Nat) : Int).fdiv (2 ^ 8)), IntKind.wrap .u8 ((N : Nat) : Int), IntKind.wrap .u8 k, 128, IntKind.wrap .u8 ((((packT (vals l)).length : Nat) : Int).fdiv (2 ^ 8)), IntKind.wrap .u8 (((packT (vals l)).length : Nat) : Int)])) (iL .u8 (packT (vals l))) (Rw.of_new ho2 (Nat.le_refl _) (Nat.le_of_ble_eq_true (by kernel_rfl))) (by rw [iL_length]; first | done | exact (Rw.lenI hr1)) (Sl.mono (Rw.slI hr1) (by first | exact Nat.le_refl _ | omega)) iL_one ((packT (vals l)).length + 9) (by omega) (by simp only [maxLen]; omega) (by omega) (by omega) ?_
  intro A2 c2 w5 hr2 hg1
  replace hr2 : Rw w5 b2 5 A2 ((packT (vals l)).length + 9) c2 (iL .u8 (([9, 3, IntKind.wrap .u8 (((N : Nat) : Int).fdiv (2 ^ 16)), IntKind.wrap .u8 (((N : Nat) : Int).fdiv (2 ^ 8)), IntKind.wrap .u8 ((N : Nat) : Int), IntKind.wrap .u8 k, 128, IntKind.wrap .u8 ((((packT (vals l)).length : Nat) : Int).fdiv (2 ^ 8)), IntKind.wrap .u8 (((packT (vals l)).length : Nat) : Int)]) ++ (packT (vals l)))) := Rw.cast hr2 rfl (by simp only [iL, List.map_append, List.map_cons, List.map_nil, List.append_assoc, List.cons_append, List.nil_append, List.append_nil])
  have hzhg1 := hg1.size
  have hg1S : Step (fun k => b2 ≤ k ∧ (k < b1 ∨ b1 < k)) _ _ := Step.mono hg1 (fun i hi => ⟨hi.1, Nat.lt_or_gt_of_ne (hi.2.ne ho1 (by decide))⟩)
  replace hS := Step.transNew hS hg1S (fun i hi hG => by (try simp only at hG); omega)
  replace hA := hA.step hg1S (fun k hk1 hk2 hG => by (try simp only at hG); omega)
  replace ho1 := ho1.step hg1S (by (try simp only); omega)
  replace hbase1 := Nat.le_trans hbase1 (hg1S).size
  replace hr1 := hr1.stepU hub1 hg1S (fun k hk hk2 hG => by (try simp only at hG); omega)
  replace hbase2 := Nat.le_trans hbase2 (hg1S).size
  refine VL_pure 22 [7] [(7, .slice A2 ((packT (vals l)).length + 9) c2)] (by kernel_rfl) rfl ?_
  refine VL_end (by kernel_rfl) ?_
  refine VQ_next ?_
  refine VC_seq ?_
  refine VC_seq ?_
  refine VC_region ?_
  refine VL_pure 3 [7, 46] [(7, .slice A2 ((packT (vals l)).length + 9) c2), (46, .bool (decide ((((packT (vals l)).length + 9 : Nat) : Int) > 1000)))] (by kernel_rfl) rfl ?_
  refine VL_end (by kernel_rfl) ?_
  refine VQ_next ?_
  refine VC_dec ((((packT (vals l)).length + 9 : Nat) : Int) > 1000) (by kernel_rfl) (fun h2 => ?_) (fun h2 => ?_)
  ·refine VC_seq ?_
   refine VC_region ?_
   refine VL_pure 2 [2, 3] [(2, .slice none 0 0), (3, .int .i64 6)] (by kernel_rfl) rfl ?_
   refine VL_end (by kernel_rfl) ?_
   refine VQ_next ?_
   refine VC_ret ?_
   refine VQ_then_ret ?_
   refine VQ_ret2 (.slice none 0 0) (.int .i64 6) (.inr rfl) rfl rfl rfl ?_
   exact MsgR.no (msg_long hr (by omega)) hS
  ·refine VC_skip ?_
   refine VQ_next ?_
   refine VC_seq ?_
   refine VC_region ?_
   refine VL_pure 3 [2, 3] [(2, .slice A2 ((packT (vals l)).length + 9) c2), (3, .int .i64 0)] (by kernel_rfl) rfl ?_
   refine VL_end (by kernel_rfl) ?_
   refine VQ_next ?_
   refine VC_ret ?_
   refine VQ_ret2 (.slice A2 ((packT (vals l)).length + 9) c2) (.int .i64 0) (.inr rfl) rfl rfl rfl ?_
   exact MsgR.yes (msg_yes hr (by omega)).1 hr2 (by rw [hd_sh]; exact msg_row hr (by omega) (by first | exact msgN_T (by assumption) hN | exact msgN_F (by assumption))) (by omega) hS
 ·try simp only [Bool.and_eq_true, Bool.or_eq_true, decide_eq_true_eq, Bool.not_eq_true', decide_eq_false_iff_not, Bool.and_eq_false_iff, Bool.or_eq_false_iff, beq_iff_eq, bne_iff_ne, beq_eq_false_iff_ne, bne_eq_false_iff_eq, Bool.not_eq_eq_eq_not, Bool.not_true, Bool.not_false] at h1
  refine VC_skip ?_
  refine VQ_next ?_
  refine VC_seq ?_
  refine VC_region ?_
  refine VL_pure 9 [4, 25, 28, 30, 31] [(4, .slice A1 ((packT (vals l)).length) c1), (25, .int .u8 (IntKind.wrap .u8 (((r : Nat) : Int).fdiv (2 ^ 16)))), (28, .int .u8 (IntKind.wrap .u8 (((r : Nat) : Int).fdiv (2 ^ 8)))), (30, .int .u8 (IntKind.wrap .u8 ((r : Nat) : Int))), (31, .pointer (some ⟨b1, 2, none⟩))] (by kernel_rfl) rfl ?_
  refine VL_load (d := 32) (t := 3) (a := ⟨b1, 2, none⟩) (v := .int .i64 k) (by kernel_rfl) (by kernel_rfl) (Loads.own1 ho1 (by kernel_rfl) (by rfl)) ?_
  refine VL_pure 18 [4, 25, 28, 30, 33, 37, 40] [(4, .slice A1 ((packT (vals l)).length) c1), (25, .int .u8 (IntKind.wrap .u8 (((r : Nat) : Int).fdiv (2 ^ 16)))), (28, .int .u8 (IntKind.wrap .u8 (((r : Nat) : Int).fdiv (2 ^ 8)))), (30, .int .u8 (IntKind.wrap .u8 ((r : Nat) : Int))), (33, .int .u8 (IntKind.wrap .u8 k)), (37, .int .u8 (IntKind.wrap .u8 ((((packT (vals l)).length : Nat) : Int).fdiv (2 ^ 8)))), (40, .int .u8 (IntKind.wrap .u8 (((packT (vals l)).length : Nat) : Int)))] (by kernel_rfl) rfl ?_
  have hzs6 := hS.size
  have hzl6 := ho1.lt
  have hzk3 := hbase1
  have hub2 := hr1.ub
  refine VL_bs (d := 41) (e := 5) (c := #[.int .u8 9, .int .u8 3, .int .u8 (IntKind.wrap .u8 (((r : Nat) : Int).fdiv (2 ^ 16))), .int .u8 (IntKind.wrap .u8 (((r : Nat) : Int).fdiv (2 ^ 8))), .int .u8 (IntKind.wrap .u8 ((r : Nat) : Int)), .int .u8 (IntKind.wrap .u8 k), .int .u8 128, .int .u8 (IntKind.wrap .u8 ((((packT (vals l)).length : Nat) : Int).fdiv (2 ^ 8))), .int .u8 (IntKind.wrap .u8 (((packT (vals l)).length : Nat) : Int))]) (len := 9) (by kernel_rfl) (by kernel_rfl) ?_
  intro b3 w6 hn3
  replace hS := Step.trans hS (hn3.step No)
  replace hA := hA.no (hn3.step No)
  replace ho1 := ho1.no (hn3.step No)
  replace hbase1 := Nat.le_trans hbase1 (hn3.step No).size
  replace hr1 := hr1.no (hn3.step No)
  have ho3 := hn3.own
  have hzhn3 := hn3.size
  have hqhn3 := hn3.eqb
  refine VL_pure 20 [41, 42] [(41, .slice (some ⟨b3, 0, none⟩) 9 9), (42, .slice A1 ((packT (vals l)).length) c1)] (by kernel_rfl) rfl ?_
  have hzs7 := hS.size
  have hzl7 := ho1.lt
  have hzk4 := hbase1
  have hzl8 := ho3.lt
  have hbase3 := Nat.le_of_lt ho3.lt
  refine VL_appendT (d := 43) (e := 5) (A := (some ⟨b3, 0, none⟩)) (m := 9) (c := 9) (A2 := A1) (m2 := ((packT (vals l)).length)) (c2 := c1) (bytes := 1) (by kernel_rfl) (by kernel_rfl) (by kernel_rfl) b3 w6.heap.size (iL .u8 ([9, 3, IntKind.wrap .u8 (((r : Nat) : Int).fdiv (2 ^ 16)), IntKind.wrap .u8 (((r : Nat) : Int).fdiv (2 ^ 8)), IntKind.wrap .u8 ((r : Nat) : Int), IntKind.wrap .u8 k, 128, IntKind.wrap .u8 ((((packT (vals l)).length : Nat) : Int).fdiv (2 ^ 8)), IntKind.wrap .u8 (((packT (vals l)).length : Nat) : Int)])) (iL .u8 (packT (vals l))) (Rw.of_new ho3 (Nat.le_refl _) (Nat.le_of_ble_eq_true (by kernel_rfl))) (by rw [iL_length]; first | done | exact (Rw.lenI hr1)) (Sl.mono (Rw.slI hr1) (by first | exact Nat.le_refl _ | omega)) iL_one ((packT (vals l)).length + 9) (by omega) (by simp only [maxLen]; omega) (by omega) (by omega) ?_
  intro A3 c3 w7 hr3 hg2
  replace hr3 : Rw w7 b3 5 A3 ((packT (vals l)).length + 9) c3 (iL .u8 (([9, 3, IntKind.wrap .u8 (((r : Nat) : Int).fdiv (2 ^ 16)), IntKind.wrap .u8 (((r : Nat) : Int).fdiv (2 ^ 8)), IntKind.wrap .u8 ((r : Nat) : Int), IntKind.wrap .u8 k, 128, IntKind.wrap .u8 ((((packT (vals l)).length : Nat) : Int).fdiv (2 ^ 8)), IntKind.wrap .u8 (((packT (vals l)).length : Nat) : Int)]) ++ (packT (vals l)))) := Rw.cast hr3 rfl (by simp only [iL, List.map_append, List.map_cons, List.map_nil, List.append_assoc, List.cons_append, List.nil_append, List.append_nil])
  have hzhg2 := hg2.size
  have hg2S : Step (fun k => b3 ≤ k ∧ (k < b1 ∨ b1 < k)) _ _ := Step.mono hg2 (fun i hi => ⟨hi.1, Nat.lt_or_gt_of_ne (hi.2.ne ho1 (by decide))⟩)
  replace hS := Step.transNew hS hg2S (fun i hi hG => by (try simp only at hG); omega)
  replace hA := hA.step hg2S (fun k hk1 hk2 hG => by (try simp only at hG); omega)
  replace ho1 := ho1.step hg2S (by (try simp only); omega)
  replace hbase1 := Nat.le_trans hbase1 (hg2S).size
  replace hr1 := hr1.stepU hub2 hg2S (fun k hk hk2 hG => by (try simp only at hG); omega)
  replace hbase3 := Nat.le_trans hbase3 (hg2S).size
  refine VL_pure 22 [7] [(7, .slice A3 ((packT (vals l)).length + 9) c3)] (by kernel_rfl) rfl ?_
  refine VL_end (by kernel_rfl) ?_
  refine VQ_next ?_
  refine VC_seq ?_
  refine VC_seq ?_
  refine VC_region ?_
  refine VL_pure 3 [7, 46] [(7, .slice A3 ((packT (vals l)).length + 9) c3), (46, .bool (decide ((((packT (vals l)).length + 9 : Nat) : Int) > 1000)))] (by kernel_rfl) rfl ?_
  refine VL_end (by kernel_rfl) ?_
  refine VQ_next ?_
  refine VC_dec ((((packT (vals l)).length + 9 : Nat) : Int) > 1000) (by kernel_rfl) (fun h3 => ?_) (fun h3 => ?_)
  ·refine VC_seq ?_
   refine VC_region ?_
   refine VL_pure 2 [2, 3] [(2, .slice none 0 0), (3, .int .i64 6)] (by kernel_rfl) rfl ?_
   refine VL_end (by kernel_rfl) ?_
   refine VQ_next ?_
   refine VC_ret ?_
   refine VQ_then_ret ?_
   refine VQ_ret2 (.slice none 0 0) (.int .i64 6) (.inr rfl) rfl rfl rfl ?_
   exact MsgR.no (msg_long hr (by omega)) hS
  ·refine VC_skip ?_
   refine VQ_next ?_
   refine VC_seq ?_
   refine VC_region ?_
   refine VL_pure 3 [2, 3] [(2, .slice A3 ((packT (vals l)).length + 9) c3), (3, .int .i64 0)] (by kernel_rfl) rfl ?_
   refine VL_end (by kernel_rfl) ?_
   refine VQ_next ?_
   refine VC_ret ?_
   refine VQ_ret2 (.slice A3 ((packT (vals l)).length + 9) c3) (.int .i64 0) (.inr rfl) rfl rfl rfl ?_
   exact MsgR.yes (msg_yes hr (by omega)).1 hr3 (by rw [hd_sh]; exact msg_row hr (by omega) (by first | exact msgN_T (by assumption) hN | exact msgN_F (by assumption))) (by omega) hS

theorem msgpack_any (r : Int) (bk : Bool) (k : Int) (A : Option Addr) (n c lo hi : Nat) (l : List IeV) (w : World) (hn : l.length = n) (hA : Ies w lo hi A l) (hlen : n ≤ 1000000) (hhi : hi ≤ w.heap.size) : CV Try.prog 11 #[.agg #[.int .i64 r, .bool bk, .int .i64 k, .slice A n c]] w (fun x w1 => PackR w w1 5 x (msgT r bk k (vals l)) (msgE r bk k (vals l))) := by
  by_cases hr : rightM r k (vals l) = true
  · have h1 := (rightM_T hr).1
    obtain ⟨r, rfl⟩ : ∃ m : Nat, r = m := ⟨r.toNat, by omega⟩
    exact msgpack_yes r bk k A n c lo hi l w hn hA hlen hhi hr
  · exact msgpack_no r bk k A n c lo hi l w hn hA hlen hhi (by simpa using hr)

end Go.Proofs.Ytejpcmjokamdcaa
