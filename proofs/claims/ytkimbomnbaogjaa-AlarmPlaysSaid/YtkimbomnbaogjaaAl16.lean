/- The document's Sends; same. -/
import Derived.Test.YtkimbomnbaogjaaProg
import Derived.Test.YtkimbomnbaogjaaAl15
set_option linter.unusedVariables false
set_option linter.unusedSimpArgs false
namespace Go.Proofs.Ytkimbomnbaogjaa
open Go.Vc Go.RowKit

set_option maxRecDepth 20000 in
set_option maxHeartbeats 1000000 in
theorem rsends_any (b : Nat) (s : Al) (w : World) (ht : Own w b (rfC s) 41) (t : Int) :
    CV Try.prog 20 #[.pointer (some ⟨b, 0, none⟩), .int .i64 t] w (fun x w1 => w1.ownsRow w.heap.size 31 36 x (sendL s t).length ((sendL s t).flatMap omL) ∧ Step No w w1) := by
  have hS : Step No w w := Step.refl _ _
  have hbl := ht.lt
  refine CV_enter Try.f20 _ 45 [(0, .pointer (some ⟨b, 0, none⟩)), (1, .int .i64 t)] Try.func20 rfl rfl (by kernel_rfl) rfl ?_
  refine VC_seq ?_
  refine VC_region ?_
  refine VL_pure 1 [0, 1] [(0, .pointer (some ⟨b, 0, none⟩)), (1, .int .i64 t)] (by kernel_rfl) rfl ?_
  refine VL_end (by kernel_rfl) ?_
  refine VQ_next ?_
  refine VC_seq ?_
  refine VC_region ?_
  refine VL_pure 1 [0, 1, 5] [(0, .pointer (some ⟨b, 0, none⟩)), (1, .int .i64 t), (5, .slice none 0 0)] (by kernel_rfl) rfl ?_
  refine VL_end (by kernel_rfl) ?_
  refine VQ_next ?_
  refine VC_seq ?_
  refine VC_region ?_
  refine VL_pure 2 [0, 5, 9, 10] [(0, .pointer (some ⟨b, 0, none⟩)), (5, .slice none 0 0), (9, .pointer (some ⟨b, 0, none⟩)), (10, .int .i64 t)] (by kernel_rfl) rfl ?_
  have hzs1 := hS.size
  have hzl1 := ht.lt
  refine VL_call (d := 11) (f := 17) (by kernel_rfl) (by kernel_rfl) (by kernel_rfl) Try.call17 (rstate_any b s _ ht t) ?_
  rintro _ w1 ⟨rfl, hc1⟩
  replace hS := Step.trans hS hc1
  replace ht := ht.no hc1
  refine VL_pure 8 [0, 5, 6] [(0, .pointer (some ⟨b, 0, none⟩)), (5, .slice none 0 0), (6, .bool (aheadA s t))] (by kernel_rfl) rfl ?_
  refine VL_end (by kernel_rfl) ?_
  refine VQ_next ?_
  refine VC_seq ?_
  refine VC_seq ?_
  refine VC_region ?_
  refine VL_pure 3 [0, 5, 6, 16] [(0, .pointer (some ⟨b, 0, none⟩)), (5, .slice none 0 0), (6, .bool (aheadA s t)), (16, .pointer (some ⟨b, 17, none⟩))] (by kernel_rfl) rfl ?_
  refine VL_load (d := 17) (t := 4) (a := ⟨b, 17, none⟩) (v := .bool s.dn) (by kernel_rfl) (by kernel_rfl) (Loads.own1 ht (by kernel_rfl) (by rfl)) ?_
  refine VL_end (by kernel_rfl) ?_
  refine VQ_next ?_
  refine VC_cond s.dn (by kernel_rfl) (fun h1 => ?_) (fun h1 => ?_)
  · try simp only [Bool.and_eq_true, Bool.or_eq_true, decide_eq_true_eq, Bool.not_eq_true', decide_eq_false_iff_not, Bool.and_eq_false_iff, Bool.or_eq_false_iff, beq_iff_eq, bne_iff_ne, beq_eq_false_iff_ne, bne_eq_false_iff_eq, Bool.not_eq_eq_eq_not, Bool.not_true, Bool.not_false] at h1
    refine VC_region ?_
    refine VL_pure 4 [0, 6, 18, 21] [(0, .pointer (some ⟨b, 0, none⟩)), (6, .bool (aheadA s t)), (18, .slice none 0 0), (21, .pointer (some ⟨b, 0, none⟩))] (by kernel_rfl) rfl ?_
    refine VL_load (d := 22) (t := 22) (a := ⟨b, 0, none⟩) (v := .agg #[.int .u8 (s.here 0), .int .u8 (s.here 1), .int .u8 (s.here 2), .int .u8 (s.here 3), .int .u8 (s.here 4), .int .u8 (s.here 5), .int .u8 (s.here 6), .int .u8 (s.here 7), .int .u8 (s.here 8), .int .u8 (s.here 9), .int .u8 (s.here 10), .int .u8 (s.here 11), .int .u8 (s.here 12), .int .u8 (s.here 13), .int .u8 (s.here 14), .int .u8 (s.here 15)]) (by kernel_rfl) (by kernel_rfl) (Loads.ownL ht (n := 16) (by kernel_rfl) (by kernel_rfl) (by kernel_rfl)) ?_
    refine VL_pure 6 [0, 6, 18, 23] [(0, .pointer (some ⟨b, 0, none⟩)), (6, .bool (aheadA s t)), (18, .slice none 0 0), (23, .agg #[.int .i64 0, .int .u8 0, .bool false, .int .u32 0, .int .u8 (s.here 0), .int .u8 (s.here 1), .int .u8 (s.here 2), .int .u8 (s.here 3), .int .u8 (s.here 4), .int .u8 (s.here 5), .int .u8 (s.here 6), .int .u8 (s.here 7), .int .u8 (s.here 8), .int .u8 (s.here 9), .int .u8 (s.here 10), .int .u8 (s.here 11), .int .u8 (s.here 12), .int .u8 (s.here 13), .int .u8 (s.here 14), .int .u8 (s.here 15), .int .u8 0, .int .u8 0, .int .u8 0, .int .u8 0, .int .u8 0, .int .u8 0, .int .u8 0, .int .u8 0, .int .u8 0, .int .u8 0, .int .u8 0, .int .u8 0, .int .u8 0, .int .u8 0, .int .u8 0, .int .u8 0])] (by kernel_rfl) rfl ?_
    have hzs2 := hS.size
    have hzl2 := ht.lt
    refine VL_bs (d := 24) (e := 31) (c := #[.int .i64 0, .int .u8 0, .bool false, .int .u32 0, .int .u8 (s.here 0), .int .u8 (s.here 1), .int .u8 (s.here 2), .int .u8 (s.here 3), .int .u8 (s.here 4), .int .u8 (s.here 5), .int .u8 (s.here 6), .int .u8 (s.here 7), .int .u8 (s.here 8), .int .u8 (s.here 9), .int .u8 (s.here 10), .int .u8 (s.here 11), .int .u8 (s.here 12), .int .u8 (s.here 13), .int .u8 (s.here 14), .int .u8 (s.here 15), .int .u8 0, .int .u8 0, .int .u8 0, .int .u8 0, .int .u8 0, .int .u8 0, .int .u8 0, .int .u8 0, .int .u8 0, .int .u8 0, .int .u8 0, .int .u8 0, .int .u8 0, .int .u8 0, .int .u8 0, .int .u8 0]) (len := 1) (by kernel_rfl) (by kernel_rfl) ?_
    intro b1 w2 hn1
    replace hS := Step.trans hS (hn1.step No)
    replace ht := ht.no (hn1.step No)
    have ho1 := hn1.own
    have hzhn1 := hn1.size
    have hqhn1 := hn1.eqb
    have hrow1_ := hS.size
    refine VL_append (d := 25) (e := 31) (b := b1) (o := 0) (m := 1) (size := 36) (bytes := 48) (by kernel_rfl) (by kernel_rfl) (by kernel_rfl) w.heap.size 0 ([]) (omL (ais s)) (World.ownsRow_nil w2 w.heap.size 31 36) rfl (own_cells ho1) (omL_one (ais s)) (by simp [maxLen]) (by omega) (by omega) ?_
    intro rv1 w3 hrow1 hgr1
    replace hS := row_step hS (World.ownsRow_nil w2 w.heap.size 31 36) (Nat.le_refl _) hgr1
    replace ht := own_row ht (World.ownsRow_nil w2 w.heap.size 31 36) hbl hgr1
    refine VL_pure 9 [0, 6, 5] [(0, .pointer (some ⟨b, 0, none⟩)), (6, .bool (aheadA s t)), (5, rv1)] (by kernel_rfl) rfl ?_
    refine VL_end (by kernel_rfl) ?_
    refine VQ_next ?_
    refine VC_seq ?_
    refine VC_seq ?_
    refine VC_region ?_
    refine VL_pure 3 [0, 6, 5, 28] [(0, .pointer (some ⟨b, 0, none⟩)), (6, .bool (aheadA s t)), (5, rv1), (28, .pointer (some ⟨b, 17, none⟩))] (by kernel_rfl) rfl ?_
    refine VL_load (d := 29) (t := 4) (a := ⟨b, 17, none⟩) (v := .bool s.dn) (by kernel_rfl) (by kernel_rfl) (Loads.own1 ht (by kernel_rfl) (by rfl)) ?_
    refine VL_pure 5 [0, 6, 5, 30] [(0, .pointer (some ⟨b, 0, none⟩)), (6, .bool (aheadA s t)), (5, rv1), (30, .bool s.dn)] (by kernel_rfl) rfl ?_
    refine VL_bool s.dn (fun bV => [(0, .pointer (some ⟨b, 0, none⟩)), (6, .bool (aheadA s t)), (5, rv1), (30, .bool bV)]) rfl (fun hg1 => ?_) (fun hg1 => ?_)
    · refine VL_pure 7 [0, 5, 32] [(0, .pointer (some ⟨b, 0, none⟩)), (5, rv1), (32, .bool true)] (by kernel_rfl) rfl ?_
      refine VL_end (by kernel_rfl) ?_
      refine VQ_next ?_
      refine VC_true (by kernel_rfl) ?_
      refine VC_seq ?_
      refine VC_region ?_
      refine VL_pure 4 [33, 36] [(33, rv1), (36, .pointer (some ⟨b, 0, none⟩))] (by kernel_rfl) rfl ?_
      refine VL_load (d := 37) (t := 22) (a := ⟨b, 0, none⟩) (v := .agg #[.int .u8 (s.here 0), .int .u8 (s.here 1), .int .u8 (s.here 2), .int .u8 (s.here 3), .int .u8 (s.here 4), .int .u8 (s.here 5), .int .u8 (s.here 6), .int .u8 (s.here 7), .int .u8 (s.here 8), .int .u8 (s.here 9), .int .u8 (s.here 10), .int .u8 (s.here 11), .int .u8 (s.here 12), .int .u8 (s.here 13), .int .u8 (s.here 14), .int .u8 (s.here 15)]) (by kernel_rfl) (by kernel_rfl) (Loads.ownL ht (n := 16) (by kernel_rfl) (by kernel_rfl) (by kernel_rfl)) ?_
      refine VL_pure 6 [33, 38] [(33, rv1), (38, .agg #[.int .i64 1, .int .u8 0, .bool false, .int .u32 0, .int .u8 (s.here 0), .int .u8 (s.here 1), .int .u8 (s.here 2), .int .u8 (s.here 3), .int .u8 (s.here 4), .int .u8 (s.here 5), .int .u8 (s.here 6), .int .u8 (s.here 7), .int .u8 (s.here 8), .int .u8 (s.here 9), .int .u8 (s.here 10), .int .u8 (s.here 11), .int .u8 (s.here 12), .int .u8 (s.here 13), .int .u8 (s.here 14), .int .u8 (s.here 15), .int .u8 0, .int .u8 0, .int .u8 0, .int .u8 0, .int .u8 0, .int .u8 0, .int .u8 0, .int .u8 0, .int .u8 0, .int .u8 0, .int .u8 0, .int .u8 0, .int .u8 0, .int .u8 0, .int .u8 0, .int .u8 0])] (by kernel_rfl) rfl ?_
      have hzs3 := hS.size
      have hzl3 := ht.lt
      refine VL_bs (d := 39) (e := 31) (c := #[.int .i64 1, .int .u8 0, .bool false, .int .u32 0, .int .u8 (s.here 0), .int .u8 (s.here 1), .int .u8 (s.here 2), .int .u8 (s.here 3), .int .u8 (s.here 4), .int .u8 (s.here 5), .int .u8 (s.here 6), .int .u8 (s.here 7), .int .u8 (s.here 8), .int .u8 (s.here 9), .int .u8 (s.here 10), .int .u8 (s.here 11), .int .u8 (s.here 12), .int .u8 (s.here 13), .int .u8 (s.here 14), .int .u8 (s.here 15), .int .u8 0, .int .u8 0, .int .u8 0, .int .u8 0, .int .u8 0, .int .u8 0, .int .u8 0, .int .u8 0, .int .u8 0, .int .u8 0, .int .u8 0, .int .u8 0, .int .u8 0, .int .u8 0, .int .u8 0, .int .u8 0]) (len := 1) (by kernel_rfl) (by kernel_rfl) ?_
      intro b2 w4 hn2
      replace hS := Step.trans hS (hn2.step No)
      replace ht := ht.no (hn2.step No)
      replace hrow1 := row_no hrow1 (hn2.step No)
      have ho2 := hn2.own
      have hzhn2 := hn2.size
      have hqhn2 := hn2.eqb
      have hrow2_ := hS.size
      refine VL_append (d := 40) (e := 31) (b := b2) (o := 0) (m := 1) (size := 36) (bytes := 48) (by kernel_rfl) (by kernel_rfl) (by kernel_rfl) w.heap.size 1 ([] ++ omL (ais s)) (omL (rdi s)) hrow1 rfl (own_cells ho2) (omL_one (rdi s)) (by simp [maxLen]) (by omega) (by omega) ?_
      intro rv2 w5 hrow2 hgr2
      replace hS := row_step hS hrow1 (Nat.le_refl _) hgr2
      replace ht := own_row ht hrow1 hbl hgr2
      refine VL_pure 9 [4] [(4, rv2)] (by kernel_rfl) rfl ?_
      refine VL_end (by kernel_rfl) ?_
      refine VQ_next ?_
      refine VC_ret ?_
      refine VQ_then_ret ?_
      refine VQ_ret1 rv2 (.inr rfl) rfl rfl ?_
      first | exact ⟨by rw [send_1 (by assumption)]; simpa using hrow2, hS⟩ | exact absurd ‹s.dn = true› (by rw [‹s.dn = false›]; decide)
    · refine VL_pure 7 [0, 5, 32] [(0, .pointer (some ⟨b, 0, none⟩)), (5, rv1), (32, .bool (aheadA s t))] (by kernel_rfl) rfl ?_
      refine VL_end (by kernel_rfl) ?_
      refine VQ_next ?_
      refine VC_cond (aheadA s t) (by kernel_rfl) (fun h2 => ?_) (fun h2 => ?_)
      · try simp only [Bool.and_eq_true, Bool.or_eq_true, decide_eq_true_eq, Bool.not_eq_true', decide_eq_false_iff_not, Bool.and_eq_false_iff, Bool.or_eq_false_iff, beq_iff_eq, bne_iff_ne, beq_eq_false_iff_ne, bne_eq_false_iff_eq, Bool.not_eq_eq_eq_not, Bool.not_true, Bool.not_false] at h2
        refine VC_seq ?_
        refine VC_region ?_
        refine VL_pure 4 [33, 36] [(33, rv1), (36, .pointer (some ⟨b, 0, none⟩))] (by kernel_rfl) rfl ?_
        refine VL_load (d := 37) (t := 22) (a := ⟨b, 0, none⟩) (v := .agg #[.int .u8 (s.here 0), .int .u8 (s.here 1), .int .u8 (s.here 2), .int .u8 (s.here 3), .int .u8 (s.here 4), .int .u8 (s.here 5), .int .u8 (s.here 6), .int .u8 (s.here 7), .int .u8 (s.here 8), .int .u8 (s.here 9), .int .u8 (s.here 10), .int .u8 (s.here 11), .int .u8 (s.here 12), .int .u8 (s.here 13), .int .u8 (s.here 14), .int .u8 (s.here 15)]) (by kernel_rfl) (by kernel_rfl) (Loads.ownL ht (n := 16) (by kernel_rfl) (by kernel_rfl) (by kernel_rfl)) ?_
        refine VL_pure 6 [33, 38] [(33, rv1), (38, .agg #[.int .i64 1, .int .u8 0, .bool false, .int .u32 0, .int .u8 (s.here 0), .int .u8 (s.here 1), .int .u8 (s.here 2), .int .u8 (s.here 3), .int .u8 (s.here 4), .int .u8 (s.here 5), .int .u8 (s.here 6), .int .u8 (s.here 7), .int .u8 (s.here 8), .int .u8 (s.here 9), .int .u8 (s.here 10), .int .u8 (s.here 11), .int .u8 (s.here 12), .int .u8 (s.here 13), .int .u8 (s.here 14), .int .u8 (s.here 15), .int .u8 0, .int .u8 0, .int .u8 0, .int .u8 0, .int .u8 0, .int .u8 0, .int .u8 0, .int .u8 0, .int .u8 0, .int .u8 0, .int .u8 0, .int .u8 0, .int .u8 0, .int .u8 0, .int .u8 0, .int .u8 0])] (by kernel_rfl) rfl ?_
        have hzs4 := hS.size
        have hzl4 := ht.lt
        refine VL_bs (d := 39) (e := 31) (c := #[.int .i64 1, .int .u8 0, .bool false, .int .u32 0, .int .u8 (s.here 0), .int .u8 (s.here 1), .int .u8 (s.here 2), .int .u8 (s.here 3), .int .u8 (s.here 4), .int .u8 (s.here 5), .int .u8 (s.here 6), .int .u8 (s.here 7), .int .u8 (s.here 8), .int .u8 (s.here 9), .int .u8 (s.here 10), .int .u8 (s.here 11), .int .u8 (s.here 12), .int .u8 (s.here 13), .int .u8 (s.here 14), .int .u8 (s.here 15), .int .u8 0, .int .u8 0, .int .u8 0, .int .u8 0, .int .u8 0, .int .u8 0, .int .u8 0, .int .u8 0, .int .u8 0, .int .u8 0, .int .u8 0, .int .u8 0, .int .u8 0, .int .u8 0, .int .u8 0, .int .u8 0]) (len := 1) (by kernel_rfl) (by kernel_rfl) ?_
        intro b3 w6 hn3
        replace hS := Step.trans hS (hn3.step No)
        replace ht := ht.no (hn3.step No)
        replace hrow1 := row_no hrow1 (hn3.step No)
        have ho3 := hn3.own
        have hzhn3 := hn3.size
        have hqhn3 := hn3.eqb
        have hrow3_ := hS.size
        refine VL_append (d := 40) (e := 31) (b := b3) (o := 0) (m := 1) (size := 36) (bytes := 48) (by kernel_rfl) (by kernel_rfl) (by kernel_rfl) w.heap.size 1 ([] ++ omL (ais s)) (omL (rdi s)) hrow1 rfl (own_cells ho3) (omL_one (rdi s)) (by simp [maxLen]) (by omega) (by omega) ?_
        intro rv3 w7 hrow3 hgr3
        replace hS := row_step hS hrow1 (Nat.le_refl _) hgr3
        replace ht := own_row ht hrow1 hbl hgr3
        refine VL_pure 9 [4] [(4, rv3)] (by kernel_rfl) rfl ?_
        refine VL_end (by kernel_rfl) ?_
        refine VQ_next ?_
        refine VC_ret ?_
        refine VQ_then_ret ?_
        refine VQ_ret1 rv3 (.inr rfl) rfl rfl ?_
        first | exact ⟨by rw [send_1 (by assumption)]; simpa using hrow3, hS⟩ | exact absurd ‹s.dn = true› (by rw [‹s.dn = false›]; decide)
      · try simp only [Bool.and_eq_true, Bool.or_eq_true, decide_eq_true_eq, Bool.not_eq_true', decide_eq_false_iff_not, Bool.and_eq_false_iff, Bool.or_eq_false_iff, beq_iff_eq, bne_iff_ne, beq_eq_false_iff_ne, bne_eq_false_iff_eq, Bool.not_eq_eq_eq_not, Bool.not_true, Bool.not_false] at h2
        refine VC_skip ?_
        refine VQ_next ?_
        refine VC_seq ?_
        refine VC_region ?_
        refine VL_pure 2 [41, 42] [(41, rv1), (42, .agg #[.int .i64 4, .int .u8 0, .bool false, .int .u32 0, .int .u8 0, .int .u8 0, .int .u8 0, .int .u8 0, .int .u8 0, .int .u8 0, .int .u8 0, .int .u8 0, .int .u8 0, .int .u8 0, .int .u8 0, .int .u8 0, .int .u8 0, .int .u8 0, .int .u8 0, .int .u8 0, .int .u8 0, .int .u8 0, .int .u8 0, .int .u8 0, .int .u8 0, .int .u8 0, .int .u8 0, .int .u8 0, .int .u8 0, .int .u8 0, .int .u8 0, .int .u8 0, .int .u8 0, .int .u8 0, .int .u8 0, .int .u8 0])] (by kernel_rfl) rfl ?_
        have hzs5 := hS.size
        have hzl5 := ht.lt
        refine VL_bs (d := 43) (e := 31) (c := #[.int .i64 4, .int .u8 0, .bool false, .int .u32 0, .int .u8 0, .int .u8 0, .int .u8 0, .int .u8 0, .int .u8 0, .int .u8 0, .int .u8 0, .int .u8 0, .int .u8 0, .int .u8 0, .int .u8 0, .int .u8 0, .int .u8 0, .int .u8 0, .int .u8 0, .int .u8 0, .int .u8 0, .int .u8 0, .int .u8 0, .int .u8 0, .int .u8 0, .int .u8 0, .int .u8 0, .int .u8 0, .int .u8 0, .int .u8 0, .int .u8 0, .int .u8 0, .int .u8 0, .int .u8 0, .int .u8 0, .int .u8 0]) (len := 1) (by kernel_rfl) (by kernel_rfl) ?_
        intro b4 w8 hn4
        replace hS := Step.trans hS (hn4.step No)
        replace ht := ht.no (hn4.step No)
        replace hrow1 := row_no hrow1 (hn4.step No)
        have ho4 := hn4.own
        have hzhn4 := hn4.size
        have hqhn4 := hn4.eqb
        have hrow4_ := hS.size
        refine VL_append (d := 44) (e := 31) (b := b4) (o := 0) (m := 1) (size := 36) (bytes := 48) (by kernel_rfl) (by kernel_rfl) (by kernel_rfl) w.heap.size 1 ([] ++ omL (ais s)) (omL chk) hrow1 rfl (own_cells ho4) (omL_one chk) (by simp [maxLen]) (by omega) (by omega) ?_
        intro rv4 w9 hrow4 hgr4
        replace hS := row_step hS hrow1 (Nat.le_refl _) hgr4
        replace ht := own_row ht hrow1 hbl hgr4
        refine VL_pure 5 [4] [(4, rv4)] (by kernel_rfl) rfl ?_
        refine VL_end (by kernel_rfl) ?_
        refine VQ_next ?_
        refine VC_ret ?_
        refine VQ_ret1 rv4 (.inr rfl) rfl rfl ?_
        first | exact ⟨by rw [send_1 (by assumption)]; simpa using hrow4, hS⟩ | exact absurd ‹s.dn = true› (by rw [‹s.dn = false›]; decide)
  · try simp only [Bool.and_eq_true, Bool.or_eq_true, decide_eq_true_eq, Bool.not_eq_true', decide_eq_false_iff_not, Bool.and_eq_false_iff, Bool.or_eq_false_iff, beq_iff_eq, bne_iff_ne, beq_eq_false_iff_ne, bne_eq_false_iff_eq, Bool.not_eq_eq_eq_not, Bool.not_true, Bool.not_false] at h1
    refine VC_skip ?_
    refine VQ_next ?_
    refine VC_seq ?_
    refine VC_seq ?_
    refine VC_region ?_
    refine VL_pure 3 [0, 5, 6, 28] [(0, .pointer (some ⟨b, 0, none⟩)), (5, .slice none 0 0), (6, .bool (aheadA s t)), (28, .pointer (some ⟨b, 17, none⟩))] (by kernel_rfl) rfl ?_
    refine VL_load (d := 29) (t := 4) (a := ⟨b, 17, none⟩) (v := .bool s.dn) (by kernel_rfl) (by kernel_rfl) (Loads.own1 ht (by kernel_rfl) (by rfl)) ?_
    refine VL_pure 5 [0, 5, 6, 30] [(0, .pointer (some ⟨b, 0, none⟩)), (5, .slice none 0 0), (6, .bool (aheadA s t)), (30, .bool s.dn)] (by kernel_rfl) rfl ?_
    refine VL_bool s.dn (fun bV => [(0, .pointer (some ⟨b, 0, none⟩)), (5, .slice none 0 0), (6, .bool (aheadA s t)), (30, .bool bV)]) rfl (fun hg2 => ?_) (fun hg2 => ?_)
    · refine VL_pure 7 [0, 5, 32] [(0, .pointer (some ⟨b, 0, none⟩)), (5, .slice none 0 0), (32, .bool true)] (by kernel_rfl) rfl ?_
      refine VL_end (by kernel_rfl) ?_
      refine VQ_next ?_
      refine VC_true (by kernel_rfl) ?_
      refine VC_seq ?_
      refine VC_region ?_
      refine VL_pure 4 [33, 36] [(33, .slice none 0 0), (36, .pointer (some ⟨b, 0, none⟩))] (by kernel_rfl) rfl ?_
      refine VL_load (d := 37) (t := 22) (a := ⟨b, 0, none⟩) (v := .agg #[.int .u8 (s.here 0), .int .u8 (s.here 1), .int .u8 (s.here 2), .int .u8 (s.here 3), .int .u8 (s.here 4), .int .u8 (s.here 5), .int .u8 (s.here 6), .int .u8 (s.here 7), .int .u8 (s.here 8), .int .u8 (s.here 9), .int .u8 (s.here 10), .int .u8 (s.here 11), .int .u8 (s.here 12), .int .u8 (s.here 13), .int .u8 (s.here 14), .int .u8 (s.here 15)]) (by kernel_rfl) (by kernel_rfl) (Loads.ownL ht (n := 16) (by kernel_rfl) (by kernel_rfl) (by kernel_rfl)) ?_
      refine VL_pure 6 [33, 38] [(33, .slice none 0 0), (38, .agg #[.int .i64 1, .int .u8 0, .bool false, .int .u32 0, .int .u8 (s.here 0), .int .u8 (s.here 1), .int .u8 (s.here 2), .int .u8 (s.here 3), .int .u8 (s.here 4), .int .u8 (s.here 5), .int .u8 (s.here 6), .int .u8 (s.here 7), .int .u8 (s.here 8), .int .u8 (s.here 9), .int .u8 (s.here 10), .int .u8 (s.here 11), .int .u8 (s.here 12), .int .u8 (s.here 13), .int .u8 (s.here 14), .int .u8 (s.here 15), .int .u8 0, .int .u8 0, .int .u8 0, .int .u8 0, .int .u8 0, .int .u8 0, .int .u8 0, .int .u8 0, .int .u8 0, .int .u8 0, .int .u8 0, .int .u8 0, .int .u8 0, .int .u8 0, .int .u8 0, .int .u8 0])] (by kernel_rfl) rfl ?_
      have hzs6 := hS.size
      have hzl6 := ht.lt
      refine VL_bs (d := 39) (e := 31) (c := #[.int .i64 1, .int .u8 0, .bool false, .int .u32 0, .int .u8 (s.here 0), .int .u8 (s.here 1), .int .u8 (s.here 2), .int .u8 (s.here 3), .int .u8 (s.here 4), .int .u8 (s.here 5), .int .u8 (s.here 6), .int .u8 (s.here 7), .int .u8 (s.here 8), .int .u8 (s.here 9), .int .u8 (s.here 10), .int .u8 (s.here 11), .int .u8 (s.here 12), .int .u8 (s.here 13), .int .u8 (s.here 14), .int .u8 (s.here 15), .int .u8 0, .int .u8 0, .int .u8 0, .int .u8 0, .int .u8 0, .int .u8 0, .int .u8 0, .int .u8 0, .int .u8 0, .int .u8 0, .int .u8 0, .int .u8 0, .int .u8 0, .int .u8 0, .int .u8 0, .int .u8 0]) (len := 1) (by kernel_rfl) (by kernel_rfl) ?_
      intro b5 w10 hn5
      replace hS := Step.trans hS (hn5.step No)
      replace ht := ht.no (hn5.step No)
      have ho5 := hn5.own
      have hzhn5 := hn5.size
      have hqhn5 := hn5.eqb
      have hrow5_ := hS.size
      refine VL_append (d := 40) (e := 31) (b := b5) (o := 0) (m := 1) (size := 36) (bytes := 48) (by kernel_rfl) (by kernel_rfl) (by kernel_rfl) w.heap.size 0 ([]) (omL (rdi s)) (World.ownsRow_nil w10 w.heap.size 31 36) rfl (own_cells ho5) (omL_one (rdi s)) (by simp [maxLen]) (by omega) (by omega) ?_
      intro rv5 w11 hrow5 hgr5
      replace hS := row_step hS (World.ownsRow_nil w10 w.heap.size 31 36) (Nat.le_refl _) hgr5
      replace ht := own_row ht (World.ownsRow_nil w10 w.heap.size 31 36) hbl hgr5
      refine VL_pure 9 [4] [(4, rv5)] (by kernel_rfl) rfl ?_
      refine VL_end (by kernel_rfl) ?_
      refine VQ_next ?_
      refine VC_ret ?_
      refine VQ_then_ret ?_
      refine VQ_ret1 rv5 (.inr rfl) rfl rfl ?_
      first | exact ⟨by rw [send_2 (by assumption) (by assumption)]; simpa using hrow5, hS⟩ | exact absurd ‹s.dn = true› (by rw [‹s.dn = false›]; decide)
    · refine VL_pure 7 [0, 5, 32] [(0, .pointer (some ⟨b, 0, none⟩)), (5, .slice none 0 0), (32, .bool (aheadA s t))] (by kernel_rfl) rfl ?_
      refine VL_end (by kernel_rfl) ?_
      refine VQ_next ?_
      refine VC_cond (aheadA s t) (by kernel_rfl) (fun h3 => ?_) (fun h3 => ?_)
      · try simp only [Bool.and_eq_true, Bool.or_eq_true, decide_eq_true_eq, Bool.not_eq_true', decide_eq_false_iff_not, Bool.and_eq_false_iff, Bool.or_eq_false_iff, beq_iff_eq, bne_iff_ne, beq_eq_false_iff_ne, bne_eq_false_iff_eq, Bool.not_eq_eq_eq_not, Bool.not_true, Bool.not_false] at h3
        refine VC_seq ?_
        refine VC_region ?_
        refine VL_pure 4 [33, 36] [(33, .slice none 0 0), (36, .pointer (some ⟨b, 0, none⟩))] (by kernel_rfl) rfl ?_
        refine VL_load (d := 37) (t := 22) (a := ⟨b, 0, none⟩) (v := .agg #[.int .u8 (s.here 0), .int .u8 (s.here 1), .int .u8 (s.here 2), .int .u8 (s.here 3), .int .u8 (s.here 4), .int .u8 (s.here 5), .int .u8 (s.here 6), .int .u8 (s.here 7), .int .u8 (s.here 8), .int .u8 (s.here 9), .int .u8 (s.here 10), .int .u8 (s.here 11), .int .u8 (s.here 12), .int .u8 (s.here 13), .int .u8 (s.here 14), .int .u8 (s.here 15)]) (by kernel_rfl) (by kernel_rfl) (Loads.ownL ht (n := 16) (by kernel_rfl) (by kernel_rfl) (by kernel_rfl)) ?_
        refine VL_pure 6 [33, 38] [(33, .slice none 0 0), (38, .agg #[.int .i64 1, .int .u8 0, .bool false, .int .u32 0, .int .u8 (s.here 0), .int .u8 (s.here 1), .int .u8 (s.here 2), .int .u8 (s.here 3), .int .u8 (s.here 4), .int .u8 (s.here 5), .int .u8 (s.here 6), .int .u8 (s.here 7), .int .u8 (s.here 8), .int .u8 (s.here 9), .int .u8 (s.here 10), .int .u8 (s.here 11), .int .u8 (s.here 12), .int .u8 (s.here 13), .int .u8 (s.here 14), .int .u8 (s.here 15), .int .u8 0, .int .u8 0, .int .u8 0, .int .u8 0, .int .u8 0, .int .u8 0, .int .u8 0, .int .u8 0, .int .u8 0, .int .u8 0, .int .u8 0, .int .u8 0, .int .u8 0, .int .u8 0, .int .u8 0, .int .u8 0])] (by kernel_rfl) rfl ?_
        have hzs7 := hS.size
        have hzl7 := ht.lt
        refine VL_bs (d := 39) (e := 31) (c := #[.int .i64 1, .int .u8 0, .bool false, .int .u32 0, .int .u8 (s.here 0), .int .u8 (s.here 1), .int .u8 (s.here 2), .int .u8 (s.here 3), .int .u8 (s.here 4), .int .u8 (s.here 5), .int .u8 (s.here 6), .int .u8 (s.here 7), .int .u8 (s.here 8), .int .u8 (s.here 9), .int .u8 (s.here 10), .int .u8 (s.here 11), .int .u8 (s.here 12), .int .u8 (s.here 13), .int .u8 (s.here 14), .int .u8 (s.here 15), .int .u8 0, .int .u8 0, .int .u8 0, .int .u8 0, .int .u8 0, .int .u8 0, .int .u8 0, .int .u8 0, .int .u8 0, .int .u8 0, .int .u8 0, .int .u8 0, .int .u8 0, .int .u8 0, .int .u8 0, .int .u8 0]) (len := 1) (by kernel_rfl) (by kernel_rfl) ?_
        intro b6 w12 hn6
        replace hS := Step.trans hS (hn6.step No)
        replace ht := ht.no (hn6.step No)
        have ho6 := hn6.own
        have hzhn6 := hn6.size
        have hqhn6 := hn6.eqb
        have hrow6_ := hS.size
        refine VL_append (d := 40) (e := 31) (b := b6) (o := 0) (m := 1) (size := 36) (bytes := 48) (by kernel_rfl) (by kernel_rfl) (by kernel_rfl) w.heap.size 0 ([]) (omL (rdi s)) (World.ownsRow_nil w12 w.heap.size 31 36) rfl (own_cells ho6) (omL_one (rdi s)) (by simp [maxLen]) (by omega) (by omega) ?_
        intro rv6 w13 hrow6 hgr6
        replace hS := row_step hS (World.ownsRow_nil w12 w.heap.size 31 36) (Nat.le_refl _) hgr6
        replace ht := own_row ht (World.ownsRow_nil w12 w.heap.size 31 36) hbl hgr6
        refine VL_pure 9 [4] [(4, rv6)] (by kernel_rfl) rfl ?_
        refine VL_end (by kernel_rfl) ?_
        refine VQ_next ?_
        refine VC_ret ?_
        refine VQ_then_ret ?_
        refine VQ_ret1 rv6 (.inr rfl) rfl rfl ?_
        first | exact ⟨by rw [send_2 (by assumption) (by assumption)]; simpa using hrow6, hS⟩ | exact absurd ‹s.dn = true› (by rw [‹s.dn = false›]; decide)
      · try simp only [Bool.and_eq_true, Bool.or_eq_true, decide_eq_true_eq, Bool.not_eq_true', decide_eq_false_iff_not, Bool.and_eq_false_iff, Bool.or_eq_false_iff, beq_iff_eq, bne_iff_ne, beq_eq_false_iff_ne, bne_eq_false_iff_eq, Bool.not_eq_eq_eq_not, Bool.not_true, Bool.not_false] at h3
        refine VC_skip ?_
        refine VQ_next ?_
        refine VC_seq ?_
        refine VC_region ?_
        refine VL_pure 2 [41, 42] [(41, .slice none 0 0), (42, .agg #[.int .i64 4, .int .u8 0, .bool false, .int .u32 0, .int .u8 0, .int .u8 0, .int .u8 0, .int .u8 0, .int .u8 0, .int .u8 0, .int .u8 0, .int .u8 0, .int .u8 0, .int .u8 0, .int .u8 0, .int .u8 0, .int .u8 0, .int .u8 0, .int .u8 0, .int .u8 0, .int .u8 0, .int .u8 0, .int .u8 0, .int .u8 0, .int .u8 0, .int .u8 0, .int .u8 0, .int .u8 0, .int .u8 0, .int .u8 0, .int .u8 0, .int .u8 0, .int .u8 0, .int .u8 0, .int .u8 0, .int .u8 0])] (by kernel_rfl) rfl ?_
        have hzs8 := hS.size
        have hzl8 := ht.lt
        refine VL_bs (d := 43) (e := 31) (c := #[.int .i64 4, .int .u8 0, .bool false, .int .u32 0, .int .u8 0, .int .u8 0, .int .u8 0, .int .u8 0, .int .u8 0, .int .u8 0, .int .u8 0, .int .u8 0, .int .u8 0, .int .u8 0, .int .u8 0, .int .u8 0, .int .u8 0, .int .u8 0, .int .u8 0, .int .u8 0, .int .u8 0, .int .u8 0, .int .u8 0, .int .u8 0, .int .u8 0, .int .u8 0, .int .u8 0, .int .u8 0, .int .u8 0, .int .u8 0, .int .u8 0, .int .u8 0, .int .u8 0, .int .u8 0, .int .u8 0, .int .u8 0]) (len := 1) (by kernel_rfl) (by kernel_rfl) ?_
        intro b7 w14 hn7
        replace hS := Step.trans hS (hn7.step No)
        replace ht := ht.no (hn7.step No)
        have ho7 := hn7.own
        have hzhn7 := hn7.size
        have hqhn7 := hn7.eqb
        have hrow7_ := hS.size
        refine VL_append (d := 44) (e := 31) (b := b7) (o := 0) (m := 1) (size := 36) (bytes := 48) (by kernel_rfl) (by kernel_rfl) (by kernel_rfl) w.heap.size 0 ([]) (omL chk) (World.ownsRow_nil w14 w.heap.size 31 36) rfl (own_cells ho7) (omL_one chk) (by simp [maxLen]) (by omega) (by omega) ?_
        intro rv7 w15 hrow7 hgr7
        replace hS := row_step hS (World.ownsRow_nil w14 w.heap.size 31 36) (Nat.le_refl _) hgr7
        replace ht := own_row ht (World.ownsRow_nil w14 w.heap.size 31 36) hbl hgr7
        refine VL_pure 5 [4] [(4, rv7)] (by kernel_rfl) rfl ?_
        refine VL_end (by kernel_rfl) ?_
        refine VQ_next ?_
        refine VC_ret ?_
        refine VQ_ret1 rv7 (.inr rfl) rfl rfl ?_
        first | exact ⟨by rw [send_3 (by assumption) (by assumption)]; simpa using hrow7, hS⟩ | exact absurd ‹s.dn = true› (by rw [‹s.dn = false›]; decide)

end Go.Proofs.Ytkimbomnbaogjaa
