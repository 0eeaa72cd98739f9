/- Layer 14: has, Pack. -/
import Derived.Test.YteipakmfiiccpaaProg
import Derived.Test.YteipakmfiiccpaaOm1
import Derived.Test.YteipakmfiiccpaaAl1
import Derived.Test.YteipakmfiiccpaaSm3
set_option linter.unusedVariables false
set_option linter.unusedSimpArgs false
namespace Go.Proofs.Yteipakmfiiccpaa
open Go.Vc Go.RowKit

set_option maxRecDepth 100000 in
set_option maxHeartbeats 4000000 in
theorem has_any (o : Om) (w : World) :
    CV Try.prog 21 #[.agg #[.int .i64 o.k, .int .u8 o.d, .bool o.a, .int .u32 o.tg, .int .u8 (o.p 0), .int .u8 (o.p 1), .int .u8 (o.p 2), .int .u8 (o.p 3), .int .u8 (o.p 4), .int .u8 (o.p 5), .int .u8 (o.p 6), .int .u8 (o.p 7), .int .u8 (o.p 8), .int .u8 (o.p 9), .int .u8 (o.p 10), .int .u8 (o.p 11), .int .u8 (o.p 12), .int .u8 (o.p 13), .int .u8 (o.p 14), .int .u8 (o.p 15), .int .u8 (o.s 0), .int .u8 (o.s 1), .int .u8 (o.s 2), .int .u8 (o.s 3), .int .u8 (o.s 4), .int .u8 (o.s 5), .int .u8 (o.s 6), .int .u8 (o.s 7), .int .u8 (o.s 8), .int .u8 (o.s 9), .int .u8 (o.s 10), .int .u8 (o.s 11), .int .u8 (o.s 12), .int .u8 (o.s 13), .int .u8 (o.s 14), .int .u8 (o.s 15)]] w (fun x w1 => ∃ A' c', x = .slice A' (hasL o).length c' ∧ Rw w1 w.heap.size 5 A' (hasL o).length c' (iL .u8 (hasL o)) ∧ Step No w w1) := by
  have hS : Step No w w := Step.refl _ _
  refine CV_enter Try.f21 _ 45 [(0, .agg #[.int .i64 o.k, .int .u8 o.d, .bool o.a, .int .u32 o.tg, .int .u8 (o.p 0), .int .u8 (o.p 1), .int .u8 (o.p 2), .int .u8 (o.p 3), .int .u8 (o.p 4), .int .u8 (o.p 5), .int .u8 (o.p 6), .int .u8 (o.p 7), .int .u8 (o.p 8), .int .u8 (o.p 9), .int .u8 (o.p 10), .int .u8 (o.p 11), .int .u8 (o.p 12), .int .u8 (o.p 13), .int .u8 (o.p 14), .int .u8 (o.p 15), .int .u8 (o.s 0), .int .u8 (o.s 1), .int .u8 (o.s 2), .int .u8 (o.s 3), .int .u8 (o.s 4), .int .u8 (o.s 5), .int .u8 (o.s 6), .int .u8 (o.s 7), .int .u8 (o.s 8), .int .u8 (o.s 9), .int .u8 (o.s 10), .int .u8 (o.s 11), .int .u8 (o.s 12), .int .u8 (o.s 13), .int .u8 (o.s 14), .int .u8 (o.s 15)])] Try.func21 rfl rfl (by kernel_rfl) rfl ?_
  refine VC_seq ?_
  refine VC_region ?_
  have hzs1 := hS.size
  refine VL_box (d := 1) (t := 31) (c := #[.int .i64 o.k, .int .u8 o.d, .bool o.a, .int .u32 o.tg, .int .u8 (o.p 0), .int .u8 (o.p 1), .int .u8 (o.p 2), .int .u8 (o.p 3), .int .u8 (o.p 4), .int .u8 (o.p 5), .int .u8 (o.p 6), .int .u8 (o.p 7), .int .u8 (o.p 8), .int .u8 (o.p 9), .int .u8 (o.p 10), .int .u8 (o.p 11), .int .u8 (o.p 12), .int .u8 (o.p 13), .int .u8 (o.p 14), .int .u8 (o.p 15), .int .u8 (o.s 0), .int .u8 (o.s 1), .int .u8 (o.s 2), .int .u8 (o.s 3), .int .u8 (o.s 4), .int .u8 (o.s 5), .int .u8 (o.s 6), .int .u8 (o.s 7), .int .u8 (o.s 8), .int .u8 (o.s 9), .int .u8 (o.s 10), .int .u8 (o.s 11), .int .u8 (o.s 12), .int .u8 (o.s 13), .int .u8 (o.s 14), .int .u8 (o.s 15)]) (by kernel_rfl) (by kernel_rfl) ?_
  intro b1 w1 hn1
  replace hS := Step.trans hS (hn1.step No)
  have ho1 := hn1.own
  have hzhn1 := hn1.size
  have hqhn1 := hn1.eqb
  refine VL_pure 2 [1] [(1, .pointer (some ⟨b1, 0, none⟩))] (by kernel_rfl) rfl ?_
  refine VL_end (by kernel_rfl) ?_
  refine VQ_next ?_
  refine VC_seq ?_
  refine VC_region ?_
  refine VL_pure 1 [1, 3] [(1, .pointer (some ⟨b1, 0, none⟩)), (3, .slice none 0 0)] (by kernel_rfl) rfl ?_
  refine VL_end (by kernel_rfl) ?_
  refine VQ_next ?_
  refine VC_seq ?_
  refine VC_seq ?_
  refine VC_region ?_
  refine VL_pure 1 [1, 3, 5] [(1, .pointer (some ⟨b1, 0, none⟩)), (3, .slice none 0 0), (5, .pointer (some ⟨b1, 0, none⟩))] (by kernel_rfl) rfl ?_
  refine VL_load (d := 6) (t := 3) (a := ⟨b1, 0, none⟩) (v := .int .i64 o.k) (by kernel_rfl) (by kernel_rfl) (Loads.own1 ho1 (by kernel_rfl) (by rfl)) ?_
  refine VL_end (by kernel_rfl) ?_
  refine VQ_next ?_
  refine VC_block ?_
  refine VC_seq ?_
  refine VC_seq ?_
  refine VC_region ?_
  refine VL_pure 2 [1, 3, 6, 7] [(1, .pointer (some ⟨b1, 0, none⟩)), (3, .slice none 0 0), (6, .int .i64 o.k), (7, .bool (o.k == 0))] (by kernel_rfl) rfl ?_
  refine VL_end (by kernel_rfl) ?_
  refine VQ_next ?_
  refine VC_eq o.k 0 (by kernel_rfl) (fun h1 => ?_) (fun h1 => ?_)
  · refine VC_skip ?_
    refine VQ_next ?_
    refine VC_eq o.k 0 (by kernel_rfl) (fun h2 => ?_) (fun h2 => ?_)
    · have hs1 := drew_step w1
      have hs1z : w1.heap.size = w1.drew.heap.size := rfl
      refine VC_text [[], [0], [0, 1], [], [3], [0, 1, 2, 3, 4], [0, 1, 2, 3, 4, 5]] 5 (fun x y => Step (fun k => w1.heap.size ≤ k) x y) [2] [0, 1, 3, 4, 2] (by kernel_rfl) (by kernel_rfl) (by kernel_rfl) (by kernel_rfl) (fun x => Step.refl _ x) (fun h k => Step.trans h k) Step.weak ?_
      have hzs2 := hS.size
      have hzl1 := ho1.lt
      generalize w1.drew = w2 at hs1 hs1z ⊢
      replace hS := Step.trans hS hs1
      replace ho1 := ho1.no hs1
      refine VT_pures 1 (kn' := [(0, .pointer (some ⟨b1, 1, none⟩))]) (by kernel_rfl) ?_
      refine VT_load (d := 11) (t := 5) (a := ⟨b1, 1, none⟩) (v := .int .u8 o.d) (by kernel_rfl) (by kernel_rfl) ?_ ?_
      · intro w3 hr1
        replace hS := Step.transNew hS hr1 (fun i hi hG => by (try simp only at hG); omega)
        replace ho1 := ho1.step hr1 (by (try simp only); omega)
        exact (Loads.own1 ho1 (by kernel_rfl) (by rfl))
      refine VT_pures 2 (kn' := [(4, .slice (some ⟨b1, 4, none⟩) 16 16), (3, .pointer (some ⟨b1, 4, none⟩)), (1, .int .u8 o.d), (0, .pointer (some ⟨b1, 1, none⟩))]) (by kernel_rfl) ?_
      refine VT_chain (by kernel_rfl) ?_
      intro w4 hs2
      have hzhs2 := hs2.size
      replace hS := Step.trans hS hs2
      replace ho1 := ho1.no hs2
      have hzs3 := hS.size
      have hzl2 := ho1.lt
      refine VTc_bs (d := 12) (e := 5) (c := #[.int .u8 o.d]) (len := 1) (by kernel_rfl) (by kernel_rfl) (fun b w1 hn => hn.step _) ?_
      intro b2 w5 hn2
      replace hS := Step.trans hS (hn2.step No)
      replace ho1 := ho1.no (hn2.step No)
      have ho2 := hn2.own
      have hzhn2 := hn2.size
      have hqhn2 := hn2.eqb
      refine VT_end ?_
      intro w6 hs3
      replace hS := Step.trans hS hs3
      replace ho1 := ho1.no hs3
      replace ho2 := ho2.no hs3
      refine VL_keep [14, 12] [(14, .slice (some ⟨b1, 4, none⟩) 16 16), (12, .slice (some ⟨b2, 0, none⟩) 1 1)] (by kernel_rfl) ?_
      have hzs4 := hS.size
      have hzl3 := ho1.lt
      have hzl4 := ho2.lt
      have hbase1 := Nat.le_of_lt ho2.lt
      refine VL_appendS (d := 15) (e := 5) (A := (some ⟨b2, 0, none⟩)) (m := 1) (c := 1) (A2 := (some ⟨b1, 4, none⟩)) (m2 := 16) (c2 := 16) (bytes := 1) (by kernel_rfl) (by kernel_rfl) (by kernel_rfl) b2 w6.heap.size (iL .u8 ([o.d])) (iL .u8 (lp o.p)) (Rw.of_new ho2 (Nat.le_refl _) (Nat.le_of_ble_eq_true (by kernel_rfl))) (by rw [iL_length]; exact (by rfl)) (Sl.mono (Sl.cast (Own.slSub ho1 ho1.lt 4 16) (by rfl)) (by first | exact Nat.le_refl _ | omega)) iL_one 17 (by omega) (by simp only [maxLen]; omega) (by omega) (by omega) ?_
      intro A1 c1 w7 hr2 hg1
      replace hr2 : Rw w7 b2 5 A1 17 c1 (iL .u8 (([o.d]) ++ (lp o.p))) := Rw.cast hr2 rfl (by simp only [iL, List.map_append, List.map_cons, List.map_nil, List.append_assoc, List.cons_append, List.nil_append, List.append_nil])
      have hzhg1 := hg1.size
      replace hS := Step.transNew hS hg1 (fun i hi hG => by (try simp only at hG); omega)
      replace ho1 := ho1.step hg1 (by (try simp only); omega)
      replace hbase1 := Nat.le_trans hbase1 (hg1).size
      refine VL_pure 7 [3] [(3, .slice A1 17 c1)] (by kernel_rfl) rfl ?_
      refine VL_end (by kernel_rfl) ?_
      refine VQ_block_normal ?_
      refine VQ_next ?_
      refine VC_seq ?_
      refine VC_region ?_
      refine VL_pure 2 [2] [(2, .slice A1 17 c1)] (by kernel_rfl) rfl ?_
      refine VL_end (by kernel_rfl) ?_
      refine VQ_next ?_
      refine VC_ret ?_
      refine VQ_ret1 (.slice A1 17 c1) (.inr rfl) rfl rfl ?_
      exact ⟨_, _, by rw [has_len01 (by omega)], Rw.low (Rw.cast hr2 (has_len01 (by omega)).symm (by rw [has_01 (by omega)]; rfl)) (by omega), hS⟩
    · refine VC_seq ?_
      refine VC_region ?_
      refine VL_pure 2 [1, 3, 16] [(1, .pointer (some ⟨b1, 0, none⟩)), (3, .slice none 0 0), (16, .bool (o.k == 8))] (by kernel_rfl) rfl ?_
      refine VL_end (by kernel_rfl) ?_
      refine VQ_next ?_
      refine VC_eq o.k 8 (by kernel_rfl) (fun h3 => ?_) (fun h3 => ?_)
      · refine VC_seq ?_
        refine VC_region ?_
        have hzs5 := hS.size
        have hzl5 := ho1.lt
        refine VL_make (t := 32) (a := 5) (b := 5) (e := 5) (d := 18) (k := .u8) (bytes := 1) (by kernel_rfl) (by kernel_rfl) (by kernel_rfl) (by kernel_rfl) 5 rfl rfl (by omega) (by omega) ?_
        intro g1 w8 hn3
        replace hS := Step.trans hS (hn3.step No)
        replace ho1 := ho1.no (hn3.step No)
        have hzhn3 := hn3.size
        have hqhn3 := hn3.eqb
        have hr3 := Rw.made hn3.own (by simp only [maxLen]; omega)
        have hbase2 : g1 ≤ w8.heap.size := by omega
        have hglg1 : g1 < w8.heap.size := by omega
        refine VL_pure 2 [1, 3] [(1, .pointer (some ⟨b1, 0, none⟩)), (3, .slice (some ⟨g1, 0, none⟩) 5 5)] (by kernel_rfl) rfl ?_
        refine VL_end (by kernel_rfl) ?_
        refine VQ_next ?_
        refine VC_seq ?_
        refine VC_seq ?_
        refine VC_region ?_
        refine VL_pure 1 [1, 3, 19] [(1, .pointer (some ⟨b1, 0, none⟩)), (3, .slice (some ⟨g1, 0, none⟩) 5 5), (19, .pointer (some ⟨b1, 2, none⟩))] (by kernel_rfl) rfl ?_
        refine VL_load (d := 20) (t := 4) (a := ⟨b1, 2, none⟩) (v := .bool o.a) (by kernel_rfl) (by kernel_rfl) (Loads.own1 ho1 (by kernel_rfl) (by rfl)) ?_
        refine VL_end (by kernel_rfl) ?_
        refine VQ_next ?_
        refine VC_cond o.a (by kernel_rfl) (fun h4 => ?_) (fun h4 => ?_)
        · try simp only [Bool.and_eq_true, Bool.or_eq_true, decide_eq_true_eq, Bool.not_eq_true', decide_eq_false_iff_not, Bool.and_eq_false_iff, Bool.or_eq_false_iff, beq_iff_eq, bne_iff_ne, beq_eq_false_iff_ne, bne_eq_false_iff_eq, Bool.not_eq_eq_eq_not, Bool.not_true, Bool.not_false] at h4
          refine VC_region ?_
          refine VL_pure 1 [1, 3, 21] [(1, .pointer (some ⟨b1, 0, none⟩)), (3, .slice (some ⟨g1, 0, none⟩) 5 5), (21, .slice (some ⟨g1, 0, none⟩) 5 5)] (by kernel_rfl) rfl ?_
          refine VL_index (d := 22) (b := g1) (o := 0) (len := 5) (sz := 1) (m := 0) (by kernel_rfl) (by kernel_rfl) 0 (by rfl) (by omega) 0 (by omega) ?_
          obtain ⟨cur1, hgbcur1, hglcur1, howcur1, hcscur1, hcncur1, hcmcur1, hctcur1⟩ := hr3.openG
          refine VL_store (b := g1) (o := 0) (vs := [.int .u8 1]) (by kernel_rfl) (by kernel_rfl) howcur1 (by simp only [List.length_singleton]; omega) ?_
          intro w9 hw1
          replace hS := Step.transNew hS hw1.step (fun _ _ _ => by omega)
          replace ho1 := ho1.step hw1.step (show ¬ b1 = g1 by omega)
          replace hbase2 := Nat.le_trans hbase2 (hw1.step).size
          replace hglg1 := Nat.lt_of_lt_of_le hglg1 (hw1.step).size
          have ho3 := Rw.putI hctcur1 hw1 hgbcur1 hcscur1 hcncur1 hcmcur1 (j := 0) (by omega)
          have hzhw1 := hw1.same
          refine VL_end (by kernel_rfl) ?_
          refine VQ_next ?_
          refine VC_seq ?_
          refine VC_seq ?_
          refine VC_region ?_
          refine VL_pure 1 [1, 3, 23] [(1, .pointer (some ⟨b1, 0, none⟩)), (3, .slice (some ⟨g1, 0, none⟩) 5 5), (23, .int .i64 0)] (by kernel_rfl) rfl ?_
          refine VL_end (by kernel_rfl) ?_
          refine VQ_next ?_
          refine VC_block ?_
          refine VC_rounds ?_
          refine VCL_round ?_
          refine VC_seq ?_
          refine VC_region ?_
          refine VL_pure 1 [1, 3, 23, 24] [(1, .pointer (some ⟨b1, 0, none⟩)), (3, .slice (some ⟨g1, 0, none⟩) 5 5), (23, .int .i64 0), (24, .bool true)] (by kernel_rfl) rfl ?_
          refine VL_end (by kernel_rfl) ?_
          refine VQ_next ?_
          refine VC_seq ?_
          refine VC_true (by kernel_rfl) ?_
          refine VC_skip ?_
          refine VQ_next ?_
          refine VC_seq ?_
          refine VC_block ?_
          refine VC_seq ?_
          refine VC_region ?_
          refine VL_pure 2 [1, 3, 23, 4] [(1, .pointer (some ⟨b1, 0, none⟩)), (3, .slice (some ⟨g1, 0, none⟩) 5 5), (23, .int .i64 0), (4, .int .i64 0)] (by kernel_rfl) rfl ?_
          refine VL_end (by kernel_rfl) ?_
          refine VQ_next ?_
          refine VC_region ?_
          refine VL_pure 4 [1, 3, 23, 4, 26, 28, 29] [(1, .pointer (some ⟨b1, 0, none⟩)), (3, .slice (some ⟨g1, 0, none⟩) 5 5), (23, .int .i64 0), (4, .int .i64 0), (26, .slice (some ⟨g1, 0, none⟩) 5 5), (28, .int .i64 4), (29, .pointer (some ⟨b1, 3, none⟩))] (by kernel_rfl) rfl ?_
          refine VL_load (d := 30) (t := 22) (a := ⟨b1, 3, none⟩) (v := .int .u32 o.tg) (by kernel_rfl) (by kernel_rfl) (Loads.own1 ho1 (by kernel_rfl) (by rfl)) ?_
          refine VL_pure 9 [1, 3, 23, 26, 28, 34] [(1, .pointer (some ⟨b1, 0, none⟩)), (3, .slice (some ⟨g1, 0, none⟩) 5 5), (23, .int .i64 0), (26, .slice (some ⟨g1, 0, none⟩) 5 5), (28, .int .i64 4), (34, .int .u8 (IntKind.wrap .u8 (o.tg.fdiv (2 ^ 0))))] (by kernel_rfl) rfl ?_
          refine VL_index (d := 35) (b := g1) (o := 0) (len := 5) (sz := 1) (m := 4) (by kernel_rfl) (by kernel_rfl) 4 (by rfl) (by omega) 4 (by omega) ?_
          obtain ⟨cur2, hgbcur2, hglcur2, howcur2, hcscur2, hcncur2, hcmcur2, hctcur2⟩ := ho3.openG
          refine VL_store (b := g1) (o := 4) (vs := [.int .u8 (IntKind.wrap .u8 (o.tg.fdiv (2 ^ 0)))]) (by kernel_rfl) (by kernel_rfl) howcur2 (by simp only [List.length_singleton]; omega) ?_
          intro w10 hw2
          replace hS := Step.transNew hS hw2.step (fun _ _ _ => by omega)
          replace ho1 := ho1.step hw2.step (show ¬ b1 = g1 by omega)
          replace hbase2 := Nat.le_trans hbase2 (hw2.step).size
          replace hglg1 := Nat.lt_of_lt_of_le hglg1 (hw2.step).size
          have ho4 := Rw.putI hctcur2 hw2 hgbcur2 hcscur2 hcncur2 hcmcur2 (j := 4) (by omega)
          have hzhw2 := hw2.same
          refine VL_end (by kernel_rfl) ?_
          refine VQ_block_normal ?_
          refine VQ_next ?_
          refine VC_region ?_
          refine VL_pure 2 [1, 3, 23] [(1, .pointer (some ⟨b1, 0, none⟩)), (3, .slice (some ⟨g1, 0, none⟩) 5 5), (23, .int .i64 1)] (by kernel_rfl) rfl ?_
          refine VL_end (by kernel_rfl) ?_
          refine VQ_round ?_
          refine VCL_round ?_
          refine VC_seq ?_
          refine VC_region ?_
          refine VL_pure 1 [1, 3, 23, 24] [(1, .pointer (some ⟨b1, 0, none⟩)), (3, .slice (some ⟨g1, 0, none⟩) 5 5), (23, .int .i64 1), (24, .bool true)] (by kernel_rfl) rfl ?_
          refine VL_end (by kernel_rfl) ?_
          refine VQ_next ?_
          refine VC_seq ?_
          refine VC_true (by kernel_rfl) ?_
          refine VC_skip ?_
          refine VQ_next ?_
          refine VC_seq ?_
          refine VC_block ?_
          refine VC_seq ?_
          refine VC_region ?_
          refine VL_pure 2 [1, 3, 23, 4] [(1, .pointer (some ⟨b1, 0, none⟩)), (3, .slice (some ⟨g1, 0, none⟩) 5 5), (23, .int .i64 1), (4, .int .i64 1)] (by kernel_rfl) rfl ?_
          refine VL_end (by kernel_rfl) ?_
          refine VQ_next ?_
          refine VC_region ?_
          refine VL_pure 4 [1, 3, 23, 4, 26, 28, 29] [(1, .pointer (some ⟨b1, 0, none⟩)), (3, .slice (some ⟨g1, 0, none⟩) 5 5), (23, .int .i64 1), (4, .int .i64 1), (26, .slice (some ⟨g1, 0, none⟩) 5 5), (28, .int .i64 3), (29, .pointer (some ⟨b1, 3, none⟩))] (by kernel_rfl) rfl ?_
          refine VL_load (d := 30) (t := 22) (a := ⟨b1, 3, none⟩) (v := .int .u32 o.tg) (by kernel_rfl) (by kernel_rfl) (Loads.own1 ho1 (by kernel_rfl) (by rfl)) ?_
          refine VL_pure 9 [1, 3, 23, 26, 28, 34] [(1, .pointer (some ⟨b1, 0, none⟩)), (3, .slice (some ⟨g1, 0, none⟩) 5 5), (23, .int .i64 1), (26, .slice (some ⟨g1, 0, none⟩) 5 5), (28, .int .i64 3), (34, .int .u8 (IntKind.wrap .u8 (o.tg.fdiv (2 ^ 8))))] (by kernel_rfl) rfl ?_
          refine VL_index (d := 35) (b := g1) (o := 0) (len := 5) (sz := 1) (m := 3) (by kernel_rfl) (by kernel_rfl) 3 (by rfl) (by omega) 3 (by omega) ?_
          obtain ⟨cur3, hgbcur3, hglcur3, howcur3, hcscur3, hcncur3, hcmcur3, hctcur3⟩ := ho4.openG
          refine VL_store (b := g1) (o := 3) (vs := [.int .u8 (IntKind.wrap .u8 (o.tg.fdiv (2 ^ 8)))]) (by kernel_rfl) (by kernel_rfl) howcur3 (by simp only [List.length_singleton]; omega) ?_
          intro w11 hw3
          replace hS := Step.transNew hS hw3.step (fun _ _ _ => by omega)
          replace ho1 := ho1.step hw3.step (show ¬ b1 = g1 by omega)
          replace hbase2 := Nat.le_trans hbase2 (hw3.step).size
          replace hglg1 := Nat.lt_of_lt_of_le hglg1 (hw3.step).size
          have ho5 := Rw.putI hctcur3 hw3 hgbcur3 hcscur3 hcncur3 hcmcur3 (j := 3) (by omega)
          have hzhw3 := hw3.same
          refine VL_end (by kernel_rfl) ?_
          refine VQ_block_normal ?_
          refine VQ_next ?_
          refine VC_region ?_
          refine VL_pure 2 [1, 3, 23] [(1, .pointer (some ⟨b1, 0, none⟩)), (3, .slice (some ⟨g1, 0, none⟩) 5 5), (23, .int .i64 2)] (by kernel_rfl) rfl ?_
          refine VL_end (by kernel_rfl) ?_
          refine VQ_round ?_
          refine VCL_round ?_
          refine VC_seq ?_
          refine VC_region ?_
          refine VL_pure 1 [1, 3, 23, 24] [(1, .pointer (some ⟨b1, 0, none⟩)), (3, .slice (some ⟨g1, 0, none⟩) 5 5), (23, .int .i64 2), (24, .bool true)] (by kernel_rfl) rfl ?_
          refine VL_end (by kernel_rfl) ?_
          refine VQ_next ?_
          refine VC_seq ?_
          refine VC_true (by kernel_rfl) ?_
          refine VC_skip ?_
          refine VQ_next ?_
          refine VC_seq ?_
          refine VC_block ?_
          refine VC_seq ?_
          refine VC_region ?_
          refine VL_pure 2 [1, 3, 23, 4] [(1, .pointer (some ⟨b1, 0, none⟩)), (3, .slice (some ⟨g1, 0, none⟩) 5 5), (23, .int .i64 2), (4, .int .i64 2)] (by kernel_rfl) rfl ?_
          refine VL_end (by kernel_rfl) ?_
          refine VQ_next ?_
          refine VC_region ?_
          refine VL_pure 4 [1, 3, 23, 4, 26, 28, 29] [(1, .pointer (some ⟨b1, 0, none⟩)), (3, .slice (some ⟨g1, 0, none⟩) 5 5), (23, .int .i64 2), (4, .int .i64 2), (26, .slice (some ⟨g1, 0, none⟩) 5 5), (28, .int .i64 2), (29, .pointer (some ⟨b1, 3, none⟩))] (by kernel_rfl) rfl ?_
          refine VL_load (d := 30) (t := 22) (a := ⟨b1, 3, none⟩) (v := .int .u32 o.tg) (by kernel_rfl) (by kernel_rfl) (Loads.own1 ho1 (by kernel_rfl) (by rfl)) ?_
          refine VL_pure 9 [1, 3, 23, 26, 28, 34] [(1, .pointer (some ⟨b1, 0, none⟩)), (3, .slice (some ⟨g1, 0, none⟩) 5 5), (23, .int .i64 2), (26, .slice (some ⟨g1, 0, none⟩) 5 5), (28, .int .i64 2), (34, .int .u8 (IntKind.wrap .u8 (o.tg.fdiv (2 ^ 16))))] (by kernel_rfl) rfl ?_
          refine VL_index (d := 35) (b := g1) (o := 0) (len := 5) (sz := 1) (m := 2) (by kernel_rfl) (by kernel_rfl) 2 (by rfl) (by omega) 2 (by omega) ?_
          obtain ⟨cur4, hgbcur4, hglcur4, howcur4, hcscur4, hcncur4, hcmcur4, hctcur4⟩ := ho5.openG
          refine VL_store (b := g1) (o := 2) (vs := [.int .u8 (IntKind.wrap .u8 (o.tg.fdiv (2 ^ 16)))]) (by kernel_rfl) (by kernel_rfl) howcur4 (by simp only [List.length_singleton]; omega) ?_
          intro w12 hw4
          replace hS := Step.transNew hS hw4.step (fun _ _ _ => by omega)
          replace ho1 := ho1.step hw4.step (show ¬ b1 = g1 by omega)
          replace hbase2 := Nat.le_trans hbase2 (hw4.step).size
          replace hglg1 := Nat.lt_of_lt_of_le hglg1 (hw4.step).size
          have ho6 := Rw.putI hctcur4 hw4 hgbcur4 hcscur4 hcncur4 hcmcur4 (j := 2) (by omega)
          have hzhw4 := hw4.same
          refine VL_end (by kernel_rfl) ?_
          refine VQ_block_normal ?_
          refine VQ_next ?_
          refine VC_region ?_
          refine VL_pure 2 [1, 3, 23] [(1, .pointer (some ⟨b1, 0, none⟩)), (3, .slice (some ⟨g1, 0, none⟩) 5 5), (23, .int .i64 3)] (by kernel_rfl) rfl ?_
          refine VL_end (by kernel_rfl) ?_
          refine VQ_round ?_
          refine VCL_round ?_
          refine VC_seq ?_
          refine VC_region ?_
          refine VL_pure 1 [1, 3, 23, 24] [(1, .pointer (some ⟨b1, 0, none⟩)), (3, .slice (some ⟨g1, 0, none⟩) 5 5), (23, .int .i64 3), (24, .bool true)] (by kernel_rfl) rfl ?_
          refine VL_end (by kernel_rfl) ?_
          refine VQ_next ?_
          refine VC_seq ?_
          refine VC_true (by kernel_rfl) ?_
          refine VC_skip ?_
          refine VQ_next ?_
          refine VC_seq ?_
          refine VC_block ?_
          refine VC_seq ?_
          refine VC_region ?_
          refine VL_pure 2 [1, 3, 23, 4] [(1, .pointer (some ⟨b1, 0, none⟩)), (3, .slice (some ⟨g1, 0, none⟩) 5 5), (23, .int .i64 3), (4, .int .i64 3)] (by kernel_rfl) rfl ?_
          refine VL_end (by kernel_rfl) ?_
          refine VQ_next ?_
          refine VC_region ?_
          refine VL_pure 4 [1, 3, 23, 4, 26, 28, 29] [(1, .pointer (some ⟨b1, 0, none⟩)), (3, .slice (some ⟨g1, 0, none⟩) 5 5), (23, .int .i64 3), (4, .int .i64 3), (26, .slice (some ⟨g1, 0, none⟩) 5 5), (28, .int .i64 1), (29, .pointer (some ⟨b1, 3, none⟩))] (by kernel_rfl) rfl ?_
          refine VL_load (d := 30) (t := 22) (a := ⟨b1, 3, none⟩) (v := .int .u32 o.tg) (by kernel_rfl) (by kernel_rfl) (Loads.own1 ho1 (by kernel_rfl) (by rfl)) ?_
          refine VL_pure 9 [1, 3, 23, 26, 28, 34] [(1, .pointer (some ⟨b1, 0, none⟩)), (3, .slice (some ⟨g1, 0, none⟩) 5 5), (23, .int .i64 3), (26, .slice (some ⟨g1, 0, none⟩) 5 5), (28, .int .i64 1), (34, .int .u8 (IntKind.wrap .u8 (o.tg.fdiv (2 ^ 24))))] (by kernel_rfl) rfl ?_
          refine VL_index (d := 35) (b := g1) (o := 0) (len := 5) (sz := 1) (m := 1) (by kernel_rfl) (by kernel_rfl) 1 (by rfl) (by omega) 1 (by omega) ?_
          obtain ⟨cur5, hgbcur5, hglcur5, howcur5, hcscur5, hcncur5, hcmcur5, hctcur5⟩ := ho6.openG
          refine VL_store (b := g1) (o := 1) (vs := [.int .u8 (IntKind.wrap .u8 (o.tg.fdiv (2 ^ 24)))]) (by kernel_rfl) (by kernel_rfl) howcur5 (by simp only [List.length_singleton]; omega) ?_
          intro w13 hw5
          replace hS := Step.transNew hS hw5.step (fun _ _ _ => by omega)
          replace ho1 := ho1.step hw5.step (show ¬ b1 = g1 by omega)
          replace hbase2 := Nat.le_trans hbase2 (hw5.step).size
          replace hglg1 := Nat.lt_of_lt_of_le hglg1 (hw5.step).size
          have ho7 := Rw.putI hctcur5 hw5 hgbcur5 hcscur5 hcncur5 hcmcur5 (j := 1) (by omega)
          have hzhw5 := hw5.same
          refine VL_end (by kernel_rfl) ?_
          refine VQ_block_normal ?_
          refine VQ_next ?_
          refine VC_region ?_
          refine VL_pure 2 [1, 3, 23] [(1, .pointer (some ⟨b1, 0, none⟩)), (3, .slice (some ⟨g1, 0, none⟩) 5 5), (23, .int .i64 4)] (by kernel_rfl) rfl ?_
          refine VL_end (by kernel_rfl) ?_
          refine VQ_round ?_
          refine VCL_round ?_
          refine VC_seq ?_
          refine VC_region ?_
          refine VL_pure 1 [1, 3, 23, 24] [(1, .pointer (some ⟨b1, 0, none⟩)), (3, .slice (some ⟨g1, 0, none⟩) 5 5), (23, .int .i64 4), (24, .bool false)] (by kernel_rfl) rfl ?_
          refine VL_end (by kernel_rfl) ?_
          refine VQ_next ?_
          refine VC_seq ?_
          refine VC_false (by kernel_rfl) ?_
          refine VC_exit ?_
          refine VQ_then_exit ?_
          refine VQ_then_exit ?_
          refine VQ_block_hit ?_
          refine VQ_next ?_
          have hs4 := drew_step w13
          have hs4z : w13.heap.size = w13.drew.heap.size := rfl
          refine VC_text [[], [], [1], [0, 1, 2], [], [4], [0, 1, 2, 3, 4, 5], [0, 1, 2, 3, 4, 5, 6]] 6 (fun x y => Step (fun k => g1 ≤ k ∨ w13.heap.size ≤ k) x y) [3] [0, 1, 2, 4, 5, 3] (by kernel_rfl) (by kernel_rfl) (by kernel_rfl) (by kernel_rfl) (fun x => Step.refl _ x) (fun h k => Step.trans h k) Step.weak ?_
          have hzs6 := hS.size
          have hzl6 := ho1.lt
          generalize w13.drew = w14 at hs4 hs4z ⊢
          replace hS := Step.trans hS hs4
          replace ho1 := ho1.no hs4
          replace hbase2 := Nat.le_trans hbase2 (hs4).size
          replace hglg1 := Nat.lt_of_lt_of_le hglg1 (hs4).size
          replace ho7 := ho7.no hs4
          refine VT_pures 5 (kn' := [(5, .slice (some ⟨b1, 20, none⟩) 16 16), (4, .pointer (some ⟨b1, 20, none⟩)), (2, .slice (some ⟨b1, 4, none⟩) 16 16), (1, .pointer (some ⟨b1, 4, none⟩)), (0, .slice (some ⟨g1, 0, none⟩) 5 5)]) (by kernel_rfl) ?_
          refine VT_chain (by kernel_rfl) ?_
          intro w15 hs5
          have hzhs5 := hs5.size
          replace hS := Step.trans hS hs5
          replace ho1 := ho1.no hs5
          replace hbase2 := Nat.le_trans hbase2 (hs5).size
          replace hglg1 := Nat.lt_of_lt_of_le hglg1 (hs5).size
          replace ho7 := ho7.no hs5
          have hzs7 := hS.size
          have hzl7 := ho1.lt
          have hzk1 := hbase2
          have hzk2 := hglg1
          refine VTc_appendS (d := 40) (e := 5) (A := (some ⟨g1, 0, none⟩)) (mm := 5) (c := 5) (A2 := (some ⟨b1, 4, none⟩)) (m2 := 16) (c2 := 16) (bytes := 1) (by kernel_rfl) (by kernel_rfl) (by kernel_rfl) g1 w15.heap.size (iL .u8 ((((((List.replicate 5 0).set 0 1).set 4 (IntKind.wrap .u8 (o.tg.fdiv (2 ^ 0)))).set 3 (IntKind.wrap .u8 (o.tg.fdiv (2 ^ 8)))).set 2 (IntKind.wrap .u8 (o.tg.fdiv (2 ^ 16)))).set 1 (IntKind.wrap .u8 (o.tg.fdiv (2 ^ 24))))) (iL .u8 (lp o.p)) ho7 (by rw [iL_length]; exact (by rfl)) (Sl.mono (Sl.cast (Own.slSub ho1 ho1.lt 4 16) (by rfl)) (by first | exact Nat.le_refl _ | omega)) iL_one 21 (by omega) (by simp only [maxLen]; omega) (by omega) (by omega) ?_ ?_
          · intro w1 hs1; exact Step.mono hs1 (by intro i hi; (try simp only at hi ⊢); omega)
          intro A2 c2 w16 hr4 hg2
          replace hr4 : Rw w16 g1 5 A2 21 c2 (iL .u8 (((((((List.replicate 5 0).set 0 1).set 4 (IntKind.wrap .u8 (o.tg.fdiv (2 ^ 0)))).set 3 (IntKind.wrap .u8 (o.tg.fdiv (2 ^ 8)))).set 2 (IntKind.wrap .u8 (o.tg.fdiv (2 ^ 16)))).set 1 (IntKind.wrap .u8 (o.tg.fdiv (2 ^ 24)))) ++ (lp o.p))) := Rw.cast hr4 rfl (by simp only [iL, List.map_append, List.map_cons, List.map_nil, List.append_assoc, List.cons_append, List.nil_append, List.append_nil])
          have hzhg2 := hg2.size
          replace hS := Step.transNew hS hg2 (fun i hi hG => by (try simp only at hG); omega)
          replace ho1 := ho1.step hg2 (by (try simp only); omega)
          replace hbase2 := Nat.le_trans hbase2 (hg2).size
          replace hglg1 := Nat.lt_of_lt_of_le hglg1 (hg2).size
          refine VT_end ?_
          intro w17 hs6
          replace hS := Step.trans hS hs6
          replace ho1 := ho1.no hs6
          replace hbase2 := Nat.le_trans hbase2 (hs6).size
          replace hglg1 := Nat.lt_of_lt_of_le hglg1 (hs6).size
          replace hr4 := hr4.no hs6
          refine VL_keep [42, 40] [(42, .slice (some ⟨b1, 20, none⟩) 16 16), (40, .slice A2 21 c2)] (by kernel_rfl) ?_
          have hzs8 := hS.size
          have hzl8 := ho1.lt
          have hzk3 := hbase2
          have hzk4 := hglg1
          refine VL_appendS (d := 43) (e := 5) (A := A2) (m := 21) (c := c2) (A2 := (some ⟨b1, 20, none⟩)) (m2 := 16) (c2 := 16) (bytes := 1) (by kernel_rfl) (by kernel_rfl) (by kernel_rfl) g1 w17.heap.size (iL .u8 (((((((List.replicate 5 0).set 0 1).set 4 (IntKind.wrap .u8 (o.tg.fdiv (2 ^ 0)))).set 3 (IntKind.wrap .u8 (o.tg.fdiv (2 ^ 8)))).set 2 (IntKind.wrap .u8 (o.tg.fdiv (2 ^ 16)))).set 1 (IntKind.wrap .u8 (o.tg.fdiv (2 ^ 24)))) ++ (lp o.p))) (iL .u8 (lp o.s)) hr4 (by rw [iL_length]; exact (by rfl)) (Sl.mono (Sl.cast (Own.slSub ho1 ho1.lt 20 16) (by rfl)) (by first | exact Nat.le_refl _ | omega)) iL_one 37 (by omega) (by simp only [maxLen]; omega) (by omega) (by omega) ?_
          intro A3 c3 w18 hr5 hg3
          replace hr5 : Rw w18 g1 5 A3 37 c3 (iL .u8 (((((((List.replicate 5 0).set 0 1).set 4 (IntKind.wrap .u8 (o.tg.fdiv (2 ^ 0)))).set 3 (IntKind.wrap .u8 (o.tg.fdiv (2 ^ 8)))).set 2 (IntKind.wrap .u8 (o.tg.fdiv (2 ^ 16)))).set 1 (IntKind.wrap .u8 (o.tg.fdiv (2 ^ 24)))) ++ (lp o.p) ++ (lp o.s))) := Rw.cast hr5 rfl (by simp only [iL, List.map_append, List.map_cons, List.map_nil, List.append_assoc, List.cons_append, List.nil_append, List.append_nil])
          have hzhg3 := hg3.size
          replace hS := Step.transNew hS hg3 (fun i hi hG => by (try simp only at hG); omega)
          replace ho1 := ho1.step hg3 (by (try simp only); omega)
          replace hbase2 := Nat.le_trans hbase2 (hg3).size
          replace hglg1 := Nat.lt_of_lt_of_le hglg1 (hg3).size
          refine VL_pure 8 [3] [(3, .slice A3 37 c3)] (by kernel_rfl) rfl ?_
          refine VL_end (by kernel_rfl) ?_
          refine VQ_block_normal ?_
          refine VQ_next ?_
          refine VC_seq ?_
          refine VC_region ?_
          refine VL_pure 2 [2] [(2, .slice A3 37 c3)] (by kernel_rfl) rfl ?_
          refine VL_end (by kernel_rfl) ?_
          refine VQ_next ?_
          refine VC_ret ?_
          refine VQ_ret1 (.slice A3 37 c3) (.inr rfl) rfl rfl ?_
          exact ⟨_, _, by rw [has_len8 (by omega)], Rw.low (Rw.cast hr5 (has_len8 (by omega)).symm (by rw [has_8 (by omega)]; simp [iL, tagB, *])) (by omega), hS⟩
        · try simp only [Bool.and_eq_true, Bool.or_eq_true, decide_eq_true_eq, Bool.not_eq_true', decide_eq_false_iff_not, Bool.and_eq_false_iff, Bool.or_eq_false_iff, beq_iff_eq, bne_iff_ne, beq_eq_false_iff_ne, bne_eq_false_iff_eq, Bool.not_eq_eq_eq_not, Bool.not_true, Bool.not_false] at h4
          refine VC_skip ?_
          refine VQ_next ?_
          refine VC_seq ?_
          refine VC_seq ?_
          refine VC_region ?_
          refine VL_pure 1 [1, 3, 23] [(1, .pointer (some ⟨b1, 0, none⟩)), (3, .slice (some ⟨g1, 0, none⟩) 5 5), (23, .int .i64 0)] (by kernel_rfl) rfl ?_
          refine VL_end (by kernel_rfl) ?_
          refine VQ_next ?_
          refine VC_block ?_
          refine VC_rounds ?_
          refine VCL_round ?_
          refine VC_seq ?_
          refine VC_region ?_
          refine VL_pure 1 [1, 3, 23, 24] [(1, .pointer (some ⟨b1, 0, none⟩)), (3, .slice (some ⟨g1, 0, none⟩) 5 5), (23, .int .i64 0), (24, .bool true)] (by kernel_rfl) rfl ?_
          refine VL_end (by kernel_rfl) ?_
          refine VQ_next ?_
          refine VC_seq ?_
          refine VC_true (by kernel_rfl) ?_
          refine VC_skip ?_
          refine VQ_next ?_
          refine VC_seq ?_
          refine VC_block ?_
          refine VC_seq ?_
          refine VC_region ?_
          refine VL_pure 2 [1, 3, 23, 4] [(1, .pointer (some ⟨b1, 0, none⟩)), (3, .slice (some ⟨g1, 0, none⟩) 5 5), (23, .int .i64 0), (4, .int .i64 0)] (by kernel_rfl) rfl ?_
          refine VL_end (by kernel_rfl) ?_
          refine VQ_next ?_
          refine VC_region ?_
          refine VL_pure 4 [1, 3, 23, 4, 26, 28, 29] [(1, .pointer (some ⟨b1, 0, none⟩)), (3, .slice (some ⟨g1, 0, none⟩) 5 5), (23, .int .i64 0), (4, .int .i64 0), (26, .slice (some ⟨g1, 0, none⟩) 5 5), (28, .int .i64 4), (29, .pointer (some ⟨b1, 3, none⟩))] (by kernel_rfl) rfl ?_
          refine VL_load (d := 30) (t := 22) (a := ⟨b1, 3, none⟩) (v := .int .u32 o.tg) (by kernel_rfl) (by kernel_rfl) (Loads.own1 ho1 (by kernel_rfl) (by rfl)) ?_
          refine VL_pure 9 [1, 3, 23, 26, 28, 34] [(1, .pointer (some ⟨b1, 0, none⟩)), (3, .slice (some ⟨g1, 0, none⟩) 5 5), (23, .int .i64 0), (26, .slice (some ⟨g1, 0, none⟩) 5 5), (28, .int .i64 4), (34, .int .u8 (IntKind.wrap .u8 (o.tg.fdiv (2 ^ 0))))] (by kernel_rfl) rfl ?_
          refine VL_index (d := 35) (b := g1) (o := 0) (len := 5) (sz := 1) (m := 4) (by kernel_rfl) (by kernel_rfl) 4 (by rfl) (by omega) 4 (by omega) ?_
          obtain ⟨cur6, hgbcur6, hglcur6, howcur6, hcscur6, hcncur6, hcmcur6, hctcur6⟩ := hr3.openG
          refine VL_store (b := g1) (o := 4) (vs := [.int .u8 (IntKind.wrap .u8 (o.tg.fdiv (2 ^ 0)))]) (by kernel_rfl) (by kernel_rfl) howcur6 (by simp only [List.length_singleton]; omega) ?_
          intro w19 hw6
          replace hS := Step.transNew hS hw6.step (fun _ _ _ => by omega)
          replace ho1 := ho1.step hw6.step (show ¬ b1 = g1 by omega)
          replace hbase2 := Nat.le_trans hbase2 (hw6.step).size
          replace hglg1 := Nat.lt_of_lt_of_le hglg1 (hw6.step).size
          have ho8 := Rw.putI hctcur6 hw6 hgbcur6 hcscur6 hcncur6 hcmcur6 (j := 4) (by omega)
          have hzhw6 := hw6.same
          refine VL_end (by kernel_rfl) ?_
          refine VQ_block_normal ?_
          refine VQ_next ?_
          refine VC_region ?_
          refine VL_pure 2 [1, 3, 23] [(1, .pointer (some ⟨b1, 0, none⟩)), (3, .slice (some ⟨g1, 0, none⟩) 5 5), (23, .int .i64 1)] (by kernel_rfl) rfl ?_
          refine VL_end (by kernel_rfl) ?_
          refine VQ_round ?_
          refine VCL_round ?_
          refine VC_seq ?_
          refine VC_region ?_
          refine VL_pure 1 [1, 3, 23, 24] [(1, .pointer (some ⟨b1, 0, none⟩)), (3, .slice (some ⟨g1, 0, none⟩) 5 5), (23, .int .i64 1), (24, .bool true)] (by kernel_rfl) rfl ?_
          refine VL_end (by kernel_rfl) ?_
          refine VQ_next ?_
          refine VC_seq ?_
          refine VC_true (by kernel_rfl) ?_
          refine VC_skip ?_
          refine VQ_next ?_
          refine VC_seq ?_
          refine VC_block ?_
          refine VC_seq ?_
          refine VC_region ?_
          refine VL_pure 2 [1, 3, 23, 4] [(1, .pointer (some ⟨b1, 0, none⟩)), (3, .slice (some ⟨g1, 0, none⟩) 5 5), (23, .int .i64 1), (4, .int .i64 1)] (by kernel_rfl) rfl ?_
          refine VL_end (by kernel_rfl) ?_
          refine VQ_next ?_
          refine VC_region ?_
          refine VL_pure 4 [1, 3, 23, 4, 26, 28, 29] [(1, .pointer (some ⟨b1, 0, none⟩)), (3, .slice (some ⟨g1, 0, none⟩) 5 5), (23, .int .i64 1), (4, .int .i64 1), (26, .slice (some ⟨g1, 0, none⟩) 5 5), (28, .int .i64 3), (29, .pointer (some ⟨b1, 3, none⟩))] (by kernel_rfl) rfl ?_
          refine VL_load (d := 30) (t := 22) (a := ⟨b1, 3, none⟩) (v := .int .u32 o.tg) (by kernel_rfl) (by kernel_rfl) (Loads.own1 ho1 (by kernel_rfl) (by rfl)) ?_
          refine VL_pure 9 [1, 3, 23, 26, 28, 34] [(1, .pointer (some ⟨b1, 0, none⟩)), (3, .slice (some ⟨g1, 0, none⟩) 5 5), (23, .int .i64 1), (26, .slice (some ⟨g1, 0, none⟩) 5 5), (28, .int .i64 3), (34, .int .u8 (IntKind.wrap .u8 (o.tg.fdiv (2 ^ 8))))] (by kernel_rfl) rfl ?_
          refine VL_index (d := 35) (b := g1) (o := 0) (len := 5) (sz := 1) (m := 3) (by kernel_rfl) (by kernel_rfl) 3 (by rfl) (by omega) 3 (by omega) ?_
          obtain ⟨cur7, hgbcur7, hglcur7, howcur7, hcscur7, hcncur7, hcmcur7, hctcur7⟩ := ho8.openG
          refine VL_store (b := g1) (o := 3) (vs := [.int .u8 (IntKind.wrap .u8 (o.tg.fdiv (2 ^ 8)))]) (by kernel_rfl) (by kernel_rfl) howcur7 (by simp only [List.length_singleton]; omega) ?_
          intro w20 hw7
          replace hS := Step.transNew hS hw7.step (fun _ _ _ => by omega)
          replace ho1 := ho1.step hw7.step (show ¬ b1 = g1 by omega)
          replace hbase2 := Nat.le_trans hbase2 (hw7.step).size
          replace hglg1 := Nat.lt_of_lt_of_le hglg1 (hw7.step).size
          have ho9 := Rw.putI hctcur7 hw7 hgbcur7 hcscur7 hcncur7 hcmcur7 (j := 3) (by omega)
          have hzhw7 := hw7.same
          refine VL_end (by kernel_rfl) ?_
          refine VQ_block_normal ?_
          refine VQ_next ?_
          refine VC_region ?_
          refine VL_pure 2 [1, 3, 23] [(1, .pointer (some ⟨b1, 0, none⟩)), (3, .slice (some ⟨g1, 0, none⟩) 5 5), (23, .int .i64 2)] (by kernel_rfl) rfl ?_
          refine VL_end (by kernel_rfl) ?_
          refine VQ_round ?_
          refine VCL_round ?_
          refine VC_seq ?_
          refine VC_region ?_
          refine VL_pure 1 [1, 3, 23, 24] [(1, .pointer (some ⟨b1, 0, none⟩)), (3, .slice (some ⟨g1, 0, none⟩) 5 5), (23, .int .i64 2), (24, .bool true)] (by kernel_rfl) rfl ?_
          refine VL_end (by kernel_rfl) ?_
          refine VQ_next ?_
          refine VC_seq ?_
          refine VC_true (by kernel_rfl) ?_
          refine VC_skip ?_
          refine VQ_next ?_
          refine VC_seq ?_
          refine VC_block ?_
          refine VC_seq ?_
          refine VC_region ?_
          refine VL_pure 2 [1, 3, 23, 4] [(1, .pointer (some ⟨b1, 0, none⟩)), (3, .slice (some ⟨g1, 0, none⟩) 5 5), (23, .int .i64 2), (4, .int .i64 2)] (by kernel_rfl) rfl ?_
          refine VL_end (by kernel_rfl) ?_
          refine VQ_next ?_
          refine VC_region ?_
          refine VL_pure 4 [1, 3, 23, 4, 26, 28, 29] [(1, .pointer (some ⟨b1, 0, none⟩)), (3, .slice (some ⟨g1, 0, none⟩) 5 5), (23, .int .i64 2), (4, .int .i64 2), (26, .slice (some ⟨g1, 0, none⟩) 5 5), (28, .int .i64 2), (29, .pointer (some ⟨b1, 3, none⟩))] (by kernel_rfl) rfl ?_
          refine VL_load (d := 30) (t := 22) (a := ⟨b1, 3, none⟩) (v := .int .u32 o.tg) (by kernel_rfl) (by kernel_rfl) (Loads.own1 ho1 (by kernel_rfl) (by rfl)) ?_
          refine VL_pure 9 [1, 3, 23, 26, 28, 34] [(1, .pointer (some ⟨b1, 0, none⟩)), (3, .slice (some ⟨g1, 0, none⟩) 5 5), (23, .int .i64 2), (26, .slice (some ⟨g1, 0, none⟩) 5 5), (28, .int .i64 2), (34, .int .u8 (IntKind.wrap .u8 (o.tg.fdiv (2 ^ 16))))] (by kernel_rfl) rfl ?_
          refine VL_index (d := 35) (b := g1) (o := 0) (len := 5) (sz := 1) (m := 2) (by kernel_rfl) (by kernel_rfl) 2 (by rfl) (by omega) 2 (by omega) ?_
          obtain ⟨cur8, hgbcur8, hglcur8, howcur8, hcscur8, hcncur8, hcmcur8, hctcur8⟩ := ho9.openG
          refine VL_store (b := g1) (o := 2) (vs := [.int .u8 (IntKind.wrap .u8 (o.tg.fdiv (2 ^ 16)))]) (by kernel_rfl) (by kernel_rfl) howcur8 (by simp only [List.length_singleton]; omega) ?_
          intro w21 hw8
          replace hS := Step.transNew hS hw8.step (fun _ _ _ => by omega)
          replace ho1 := ho1.step hw8.step (show ¬ b1 = g1 by omega)
          replace hbase2 := Nat.le_trans hbase2 (hw8.step).size
          replace hglg1 := Nat.lt_of_lt_of_le hglg1 (hw8.step).size
          have ho10 := Rw.putI hctcur8 hw8 hgbcur8 hcscur8 hcncur8 hcmcur8 (j := 2) (by omega)
          have hzhw8 := hw8.same
          refine VL_end (by kernel_rfl) ?_
          refine VQ_block_normal ?_
          refine VQ_next ?_
          refine VC_region ?_
          refine VL_pure 2 [1, 3, 23] [(1, .pointer (some ⟨b1, 0, none⟩)), (3, .slice (some ⟨g1, 0, none⟩) 5 5), (23, .int .i64 3)] (by kernel_rfl) rfl ?_
          refine VL_end (by kernel_rfl) ?_
          refine VQ_round ?_
          refine VCL_round ?_
          refine VC_seq ?_
          refine VC_region ?_
          refine VL_pure 1 [1, 3, 23, 24] [(1, .pointer (some ⟨b1, 0, none⟩)), (3, .slice (some ⟨g1, 0, none⟩) 5 5), (23, .int .i64 3), (24, .bool true)] (by kernel_rfl) rfl ?_
          refine VL_end (by kernel_rfl) ?_
          refine VQ_next ?_
          refine VC_seq ?_
          refine VC_true (by kernel_rfl) ?_
          refine VC_skip ?_
          refine VQ_next ?_
          refine VC_seq ?_
          refine VC_block ?_
          refine VC_seq ?_
          refine VC_region ?_
          refine VL_pure 2 [1, 3, 23, 4] [(1, .pointer (some ⟨b1, 0, none⟩)), (3, .slice (some ⟨g1, 0, none⟩) 5 5), (23, .int .i64 3), (4, .int .i64 3)] (by kernel_rfl) rfl ?_
          refine VL_end (by kernel_rfl) ?_
          refine VQ_next ?_
          refine VC_region ?_
          refine VL_pure 4 [1, 3, 23, 4, 26, 28, 29] [(1, .pointer (some ⟨b1, 0, none⟩)), (3, .slice (some ⟨g1, 0, none⟩) 5 5), (23, .int .i64 3), (4, .int .i64 3), (26, .slice (some ⟨g1, 0, none⟩) 5 5), (28, .int .i64 1), (29, .pointer (some ⟨b1, 3, none⟩))] (by kernel_rfl) rfl ?_
          refine VL_load (d := 30) (t := 22) (a := ⟨b1, 3, none⟩) (v := .int .u32 o.tg) (by kernel_rfl) (by kernel_rfl) (Loads.own1 ho1 (by kernel_rfl) (by rfl)) ?_
          refine VL_pure 9 [1, 3, 23, 26, 28, 34] [(1, .pointer (some ⟨b1, 0, none⟩)), (3, .slice (some ⟨g1, 0, none⟩) 5 5), (23, .int .i64 3), (26, .slice (some ⟨g1, 0, none⟩) 5 5), (28, .int .i64 1), (34, .int .u8 (IntKind.wrap .u8 (o.tg.fdiv (2 ^ 24))))] (by kernel_rfl) rfl ?_
          refine VL_index (d := 35) (b := g1) (o := 0) (len := 5) (sz := 1) (m := 1) (by kernel_rfl) (by kernel_rfl) 1 (by rfl) (by omega) 1 (by omega) ?_
          obtain ⟨cur9, hgbcur9, hglcur9, howcur9, hcscur9, hcncur9, hcmcur9, hctcur9⟩ := ho10.openG
          refine VL_store (b := g1) (o := 1) (vs := [.int .u8 (IntKind.wrap .u8 (o.tg.fdiv (2 ^ 24)))]) (by kernel_rfl) (by kernel_rfl) howcur9 (by simp only [List.length_singleton]; omega) ?_
          intro w22 hw9
          replace hS := Step.transNew hS hw9.step (fun _ _ _ => by omega)
          replace ho1 := ho1.step hw9.step (show ¬ b1 = g1 by omega)
          replace hbase2 := Nat.le_trans hbase2 (hw9.step).size
          replace hglg1 := Nat.lt_of_lt_of_le hglg1 (hw9.step).size
          have ho11 := Rw.putI hctcur9 hw9 hgbcur9 hcscur9 hcncur9 hcmcur9 (j := 1) (by omega)
          have hzhw9 := hw9.same
          refine VL_end (by kernel_rfl) ?_
          refine VQ_block_normal ?_
          refine VQ_next ?_
          refine VC_region ?_
          refine VL_pure 2 [1, 3, 23] [(1, .pointer (some ⟨b1, 0, none⟩)), (3, .slice (some ⟨g1, 0, none⟩) 5 5), (23, .int .i64 4)] (by kernel_rfl) rfl ?_
          refine VL_end (by kernel_rfl) ?_
          refine VQ_round ?_
          refine VCL_round ?_
          refine VC_seq ?_
          refine VC_region ?_
          refine VL_pure 1 [1, 3, 23, 24] [(1, .pointer (some ⟨b1, 0, none⟩)), (3, .slice (some ⟨g1, 0, none⟩) 5 5), (23, .int .i64 4), (24, .bool false)] (by kernel_rfl) rfl ?_
          refine VL_end (by kernel_rfl) ?_
          refine VQ_next ?_
          refine VC_seq ?_
          refine VC_false (by kernel_rfl) ?_
          refine VC_exit ?_
          refine VQ_then_exit ?_
          refine VQ_then_exit ?_
          refine VQ_block_hit ?_
          refine VQ_next ?_
          have hs7 := drew_step w22
          have hs7z : w22.heap.size = w22.drew.heap.size := rfl
          refine VC_text [[], [], [1], [0, 1, 2], [], [4], [0, 1, 2, 3, 4, 5], [0, 1, 2, 3, 4, 5, 6]] 6 (fun x y => Step (fun k => g1 ≤ k ∨ w22.heap.size ≤ k) x y) [3] [0, 1, 2, 4, 5, 3] (by kernel_rfl) (by kernel_rfl) (by kernel_rfl) (by kernel_rfl) (fun x => Step.refl _ x) (fun h k => Step.trans h k) Step.weak ?_
          have hzs9 := hS.size
          have hzl9 := ho1.lt
          generalize w22.drew = w23 at hs7 hs7z ⊢
          replace hS := Step.trans hS hs7
          replace ho1 := ho1.no hs7
          replace hbase2 := Nat.le_trans hbase2 (hs7).size
          replace hglg1 := Nat.lt_of_lt_of_le hglg1 (hs7).size
          replace ho11 := ho11.no hs7
          refine VT_pures 5 (kn' := [(5, .slice (some ⟨b1, 20, none⟩) 16 16), (4, .pointer (some ⟨b1, 20, none⟩)), (2, .slice (some ⟨b1, 4, none⟩) 16 16), (1, .pointer (some ⟨b1, 4, none⟩)), (0, .slice (some ⟨g1, 0, none⟩) 5 5)]) (by kernel_rfl) ?_
          refine VT_chain (by kernel_rfl) ?_
          intro w24 hs8
          have hzhs8 := hs8.size
          replace hS := Step.trans hS hs8
          replace ho1 := ho1.no hs8
          replace hbase2 := Nat.le_trans hbase2 (hs8).size
          replace hglg1 := Nat.lt_of_lt_of_le hglg1 (hs8).size
          replace ho11 := ho11.no hs8
          have hzs10 := hS.size
          have hzl10 := ho1.lt
          have hzk5 := hbase2
          have hzk6 := hglg1
          refine VTc_appendS (d := 40) (e := 5) (A := (some ⟨g1, 0, none⟩)) (mm := 5) (c := 5) (A2 := (some ⟨b1, 4, none⟩)) (m2 := 16) (c2 := 16) (bytes := 1) (by kernel_rfl) (by kernel_rfl) (by kernel_rfl) g1 w24.heap.size (iL .u8 (((((List.replicate 5 0).set 4 (IntKind.wrap .u8 (o.tg.fdiv (2 ^ 0)))).set 3 (IntKind.wrap .u8 (o.tg.fdiv (2 ^ 8)))).set 2 (IntKind.wrap .u8 (o.tg.fdiv (2 ^ 16)))).set 1 (IntKind.wrap .u8 (o.tg.fdiv (2 ^ 24))))) (iL .u8 (lp o.p)) ho11 (by rw [iL_length]; exact (by rfl)) (Sl.mono (Sl.cast (Own.slSub ho1 ho1.lt 4 16) (by rfl)) (by first | exact Nat.le_refl _ | omega)) iL_one 21 (by omega) (by simp only [maxLen]; omega) (by omega) (by omega) ?_ ?_
          · intro w1 hs1; exact Step.mono hs1 (by intro i hi; (try simp only at hi ⊢); omega)
          intro A4 c4 w25 hr6 hg4
          replace hr6 : Rw w25 g1 5 A4 21 c4 (iL .u8 ((((((List.replicate 5 0).set 4 (IntKind.wrap .u8 (o.tg.fdiv (2 ^ 0)))).set 3 (IntKind.wrap .u8 (o.tg.fdiv (2 ^ 8)))).set 2 (IntKind.wrap .u8 (o.tg.fdiv (2 ^ 16)))).set 1 (IntKind.wrap .u8 (o.tg.fdiv (2 ^ 24)))) ++ (lp o.p))) := Rw.cast hr6 rfl (by simp only [iL, List.map_append, List.map_cons, List.map_nil, List.append_assoc, List.cons_append, List.nil_append, List.append_nil])
          have hzhg4 := hg4.size
          replace hS := Step.transNew hS hg4 (fun i hi hG => by (try simp only at hG); omega)
          replace ho1 := ho1.step hg4 (by (try simp only); omega)
          replace hbase2 := Nat.le_trans hbase2 (hg4).size
          replace hglg1 := Nat.lt_of_lt_of_le hglg1 (hg4).size
          refine VT_end ?_
          intro w26 hs9
          replace hS := Step.trans hS hs9
          replace ho1 := ho1.no hs9
          replace hbase2 := Nat.le_trans hbase2 (hs9).size
          replace hglg1 := Nat.lt_of_lt_of_le hglg1 (hs9).size
          replace hr6 := hr6.no hs9
          refine VL_keep [42, 40] [(42, .slice (some ⟨b1, 20, none⟩) 16 16), (40, .slice A4 21 c4)] (by kernel_rfl) ?_
          have hzs11 := hS.size
          have hzl11 := ho1.lt
          have hzk7 := hbase2
          have hzk8 := hglg1
          refine VL_appendS (d := 43) (e := 5) (A := A4) (m := 21) (c := c4) (A2 := (some ⟨b1, 20, none⟩)) (m2 := 16) (c2 := 16) (bytes := 1) (by kernel_rfl) (by kernel_rfl) (by kernel_rfl) g1 w26.heap.size (iL .u8 ((((((List.replicate 5 0).set 4 (IntKind.wrap .u8 (o.tg.fdiv (2 ^ 0)))).set 3 (IntKind.wrap .u8 (o.tg.fdiv (2 ^ 8)))).set 2 (IntKind.wrap .u8 (o.tg.fdiv (2 ^ 16)))).set 1 (IntKind.wrap .u8 (o.tg.fdiv (2 ^ 24)))) ++ (lp o.p))) (iL .u8 (lp o.s)) hr6 (by rw [iL_length]; exact (by rfl)) (Sl.mono (Sl.cast (Own.slSub ho1 ho1.lt 20 16) (by rfl)) (by first | exact Nat.le_refl _ | omega)) iL_one 37 (by omega) (by simp only [maxLen]; omega) (by omega) (by omega) ?_
          intro A5 c5 w27 hr7 hg5
          replace hr7 : Rw w27 g1 5 A5 37 c5 (iL .u8 ((((((List.replicate 5 0).set 4 (IntKind.wrap .u8 (o.tg.fdiv (2 ^ 0)))).set 3 (IntKind.wrap .u8 (o.tg.fdiv (2 ^ 8)))).set 2 (IntKind.wrap .u8 (o.tg.fdiv (2 ^ 16)))).set 1 (IntKind.wrap .u8 (o.tg.fdiv (2 ^ 24)))) ++ (lp o.p) ++ (lp o.s))) := Rw.cast hr7 rfl (by simp only [iL, List.map_append, List.map_cons, List.map_nil, List.append_assoc, List.cons_append, List.nil_append, List.append_nil])
          have hzhg5 := hg5.size
          replace hS := Step.transNew hS hg5 (fun i hi hG => by (try simp only at hG); omega)
          replace ho1 := ho1.step hg5 (by (try simp only); omega)
          replace hbase2 := Nat.le_trans hbase2 (hg5).size
          replace hglg1 := Nat.lt_of_lt_of_le hglg1 (hg5).size
          refine VL_pure 8 [3] [(3, .slice A5 37 c5)] (by kernel_rfl) rfl ?_
          refine VL_end (by kernel_rfl) ?_
          refine VQ_block_normal ?_
          refine VQ_next ?_
          refine VC_seq ?_
          refine VC_region ?_
          refine VL_pure 2 [2] [(2, .slice A5 37 c5)] (by kernel_rfl) rfl ?_
          refine VL_end (by kernel_rfl) ?_
          refine VQ_next ?_
          refine VC_ret ?_
          refine VQ_ret1 (.slice A5 37 c5) (.inr rfl) rfl rfl ?_
          exact ⟨_, _, by rw [has_len8 (by omega)], Rw.low (Rw.cast hr7 (has_len8 (by omega)).symm (by rw [has_8 (by omega)]; simp [iL, tagB, *])) (by omega), hS⟩
      · refine VC_skip ?_
        refine VQ_block_normal ?_
        refine VQ_next ?_
        refine VC_seq ?_
        refine VC_region ?_
        refine VL_pure 2 [2] [(2, .slice none 0 0)] (by kernel_rfl) rfl ?_
        refine VL_end (by kernel_rfl) ?_
        refine VQ_next ?_
        refine VC_ret ?_
        refine VQ_ret1 (.slice none 0 0) (.inr rfl) rfl rfl ?_
        exact ⟨none, 0, by rw [has_no (by omega) (by omega)]; rfl, by rw [has_no (by omega) (by omega)]; exact Rw.nil _ _ _, hS⟩
  · refine VC_region ?_
    refine VL_pure 2 [1, 3, 6, 7] [(1, .pointer (some ⟨b1, 0, none⟩)), (3, .slice none 0 0), (6, .int .i64 o.k), (7, .bool (o.k == 1))] (by kernel_rfl) rfl ?_
    refine VL_end (by kernel_rfl) ?_
    refine VQ_next ?_
    refine VC_eq o.k 1 (by kernel_rfl) (fun h5 => ?_) (fun h5 => ?_)
    · have hs10 := drew_step w1
      have hs10z : w1.heap.size = w1.drew.heap.size := rfl
      refine VC_text [[], [0], [0, 1], [], [3], [0, 1, 2, 3, 4], [0, 1, 2, 3, 4, 5]] 5 (fun x y => Step (fun k => w1.heap.size ≤ k) x y) [2] [0, 1, 3, 4, 2] (by kernel_rfl) (by kernel_rfl) (by kernel_rfl) (by kernel_rfl) (fun x => Step.refl _ x) (fun h k => Step.trans h k) Step.weak ?_
      have hzs12 := hS.size
      have hzl12 := ho1.lt
      generalize w1.drew = w28 at hs10 hs10z ⊢
      replace hS := Step.trans hS hs10
      replace ho1 := ho1.no hs10
      refine VT_pures 1 (kn' := [(0, .pointer (some ⟨b1, 1, none⟩))]) (by kernel_rfl) ?_
      refine VT_load (d := 11) (t := 5) (a := ⟨b1, 1, none⟩) (v := .int .u8 o.d) (by kernel_rfl) (by kernel_rfl) ?_ ?_
      · intro w29 hr8
        replace hS := Step.transNew hS hr8 (fun i hi hG => by (try simp only at hG); omega)
        replace ho1 := ho1.step hr8 (by (try simp only); omega)
        exact (Loads.own1 ho1 (by kernel_rfl) (by rfl))
      refine VT_pures 2 (kn' := [(4, .slice (some ⟨b1, 4, none⟩) 16 16), (3, .pointer (some ⟨b1, 4, none⟩)), (1, .int .u8 o.d), (0, .pointer (some ⟨b1, 1, none⟩))]) (by kernel_rfl) ?_
      refine VT_chain (by kernel_rfl) ?_
      intro w30 hs11
      have hzhs11 := hs11.size
      replace hS := Step.trans hS hs11
      replace ho1 := ho1.no hs11
      have hzs13 := hS.size
      have hzl13 := ho1.lt
      refine VTc_bs (d := 12) (e := 5) (c := #[.int .u8 o.d]) (len := 1) (by kernel_rfl) (by kernel_rfl) (fun b w1 hn => hn.step _) ?_
      intro b3 w31 hn4
      replace hS := Step.trans hS (hn4.step No)
      replace ho1 := ho1.no (hn4.step No)
      have ho12 := hn4.own
      have hzhn4 := hn4.size
      have hqhn4 := hn4.eqb
      refine VT_end ?_
      intro w32 hs12
      replace hS := Step.trans hS hs12
      replace ho1 := ho1.no hs12
      replace ho12 := ho12.no hs12
      refine VL_keep [14, 12] [(14, .slice (some ⟨b1, 4, none⟩) 16 16), (12, .slice (some ⟨b3, 0, none⟩) 1 1)] (by kernel_rfl) ?_
      have hzs14 := hS.size
      have hzl14 := ho1.lt
      have hzl15 := ho12.lt
      have hbase3 := Nat.le_of_lt ho12.lt
      refine VL_appendS (d := 15) (e := 5) (A := (some ⟨b3, 0, none⟩)) (m := 1) (c := 1) (A2 := (some ⟨b1, 4, none⟩)) (m2 := 16) (c2 := 16) (bytes := 1) (by kernel_rfl) (by kernel_rfl) (by kernel_rfl) b3 w32.heap.size (iL .u8 ([o.d])) (iL .u8 (lp o.p)) (Rw.of_new ho12 (Nat.le_refl _) (Nat.le_of_ble_eq_true (by kernel_rfl))) (by rw [iL_length]; exact (by rfl)) (Sl.mono (Sl.cast (Own.slSub ho1 ho1.lt 4 16) (by rfl)) (by first | exact Nat.le_refl _ | omega)) iL_one 17 (by omega) (by simp only [maxLen]; omega) (by omega) (by omega) ?_
      intro A6 c6 w33 hr9 hg6
      replace hr9 : Rw w33 b3 5 A6 17 c6 (iL .u8 (([o.d]) ++ (lp o.p))) := Rw.cast hr9 rfl (by simp only [iL, List.map_append, List.map_cons, List.map_nil, List.append_assoc, List.cons_append, List.nil_append, List.append_nil])
      have hzhg6 := hg6.size
      replace hS := Step.transNew hS hg6 (fun i hi hG => by (try simp only at hG); omega)
      replace ho1 := ho1.step hg6 (by (try simp only); omega)
      replace hbase3 := Nat.le_trans hbase3 (hg6).size
      refine VL_pure 7 [3] [(3, .slice A6 17 c6)] (by kernel_rfl) rfl ?_
      refine VL_end (by kernel_rfl) ?_
      refine VQ_block_normal ?_
      refine VQ_next ?_
      refine VC_seq ?_
      refine VC_region ?_
      refine VL_pure 2 [2] [(2, .slice A6 17 c6)] (by kernel_rfl) rfl ?_
      refine VL_end (by kernel_rfl) ?_
      refine VQ_next ?_
      refine VC_ret ?_
      refine VQ_ret1 (.slice A6 17 c6) (.inr rfl) rfl rfl ?_
      exact ⟨_, _, by rw [has_len01 (by omega)], Rw.low (Rw.cast hr9 (has_len01 (by omega)).symm (by rw [has_01 (by omega)]; rfl)) (by omega), hS⟩
    · refine VC_seq ?_
      refine VC_region ?_
      refine VL_pure 2 [1, 3, 16] [(1, .pointer (some ⟨b1, 0, none⟩)), (3, .slice none 0 0), (16, .bool (o.k == 8))] (by kernel_rfl) rfl ?_
      refine VL_end (by kernel_rfl) ?_
      refine VQ_next ?_
      refine VC_eq o.k 8 (by kernel_rfl) (fun h6 => ?_) (fun h6 => ?_)
      · refine VC_seq ?_
        refine VC_region ?_
        have hzs15 := hS.size
        have hzl16 := ho1.lt
        refine VL_make (t := 32) (a := 5) (b := 5) (e := 5) (d := 18) (k := .u8) (bytes := 1) (by kernel_rfl) (by kernel_rfl) (by kernel_rfl) (by kernel_rfl) 5 rfl rfl (by omega) (by omega) ?_
        intro g2 w34 hn5
        replace hS := Step.trans hS (hn5.step No)
        replace ho1 := ho1.no (hn5.step No)
        have hzhn5 := hn5.size
        have hqhn5 := hn5.eqb
        have hr10 := Rw.made hn5.own (by simp only [maxLen]; omega)
        have hbase4 : g2 ≤ w34.heap.size := by omega
        have hglg2 : g2 < w34.heap.size := by omega
        refine VL_pure 2 [1, 3] [(1, .pointer (some ⟨b1, 0, none⟩)), (3, .slice (some ⟨g2, 0, none⟩) 5 5)] (by kernel_rfl) rfl ?_
        refine VL_end (by kernel_rfl) ?_
        refine VQ_next ?_
        refine VC_seq ?_
        refine VC_seq ?_
        refine VC_region ?_
        refine VL_pure 1 [1, 3, 19] [(1, .pointer (some ⟨b1, 0, none⟩)), (3, .slice (some ⟨g2, 0, none⟩) 5 5), (19, .pointer (some ⟨b1, 2, none⟩))] (by kernel_rfl) rfl ?_
        refine VL_load (d := 20) (t := 4) (a := ⟨b1, 2, none⟩) (v := .bool o.a) (by kernel_rfl) (by kernel_rfl) (Loads.own1 ho1 (by kernel_rfl) (by rfl)) ?_
        refine VL_end (by kernel_rfl) ?_
        refine VQ_next ?_
        refine VC_cond o.a (by kernel_rfl) (fun h7 => ?_) (fun h7 => ?_)
        · try simp only [Bool.and_eq_true, Bool.or_eq_true, decide_eq_true_eq, Bool.not_eq_true', decide_eq_false_iff_not, Bool.and_eq_false_iff, Bool.or_eq_false_iff, beq_iff_eq, bne_iff_ne, beq_eq_false_iff_ne, bne_eq_false_iff_eq, Bool.not_eq_eq_eq_not, Bool.not_true, Bool.not_false] at h7
          refine VC_region ?_
          refine VL_pure 1 [1, 3, 21] [(1, .pointer (some ⟨b1, 0, none⟩)), (3, .slice (some ⟨g2, 0, none⟩) 5 5), (21, .slice (some ⟨g2, 0, none⟩) 5 5)] (by kernel_rfl) rfl ?_
          refine VL_index (d := 22) (b := g2) (o := 0) (len := 5) (sz := 1) (m := 0) (by kernel_rfl) (by kernel_rfl) 0 (by rfl) (by omega) 0 (by omega) ?_
          obtain ⟨cur10, hgbcur10, hglcur10, howcur10, hcscur10, hcncur10, hcmcur10, hctcur10⟩ := hr10.openG
          refine VL_store (b := g2) (o := 0) (vs := [.int .u8 1]) (by kernel_rfl) (by kernel_rfl) howcur10 (by simp only [List.length_singleton]; omega) ?_
          intro w35 hw10
          replace hS := Step.transNew hS hw10.step (fun _ _ _ => by omega)
          replace ho1 := ho1.step hw10.step (show ¬ b1 = g2 by omega)
          replace hbase4 := Nat.le_trans hbase4 (hw10.step).size
          replace hglg2 := Nat.lt_of_lt_of_le hglg2 (hw10.step).size
          have ho13 := Rw.putI hctcur10 hw10 hgbcur10 hcscur10 hcncur10 hcmcur10 (j := 0) (by omega)
          have hzhw10 := hw10.same
          refine VL_end (by kernel_rfl) ?_
          refine VQ_next ?_
          refine VC_seq ?_
          refine VC_seq ?_
          refine VC_region ?_
          refine VL_pure 1 [1, 3, 23] [(1, .pointer (some ⟨b1, 0, none⟩)), (3, .slice (some ⟨g2, 0, none⟩) 5 5), (23, .int .i64 0)] (by kernel_rfl) rfl ?_
          refine VL_end (by kernel_rfl) ?_
          refine VQ_next ?_
          refine VC_block ?_
          refine VC_rounds ?_
          refine VCL_round ?_
          refine VC_seq ?_
          refine VC_region ?_
          refine VL_pure 1 [1, 3, 23, 24] [(1, .pointer (some ⟨b1, 0, none⟩)), (3, .slice (some ⟨g2, 0, none⟩) 5 5), (23, .int .i64 0), (24, .bool true)] (by kernel_rfl) rfl ?_
          refine VL_end (by kernel_rfl) ?_
          refine VQ_next ?_
          refine VC_seq ?_
          refine VC_true (by kernel_rfl) ?_
          refine VC_skip ?_
          refine VQ_next ?_
          refine VC_seq ?_
          refine VC_block ?_
          refine VC_seq ?_
          refine VC_region ?_
          refine VL_pure 2 [1, 3, 23, 4] [(1, .pointer (some ⟨b1, 0, none⟩)), (3, .slice (some ⟨g2, 0, none⟩) 5 5), (23, .int .i64 0), (4, .int .i64 0)] (by kernel_rfl) rfl ?_
          refine VL_end (by kernel_rfl) ?_
          refine VQ_next ?_
          refine VC_region ?_
          refine VL_pure 4 [1, 3, 23, 4, 26, 28, 29] [(1, .pointer (some ⟨b1, 0, none⟩)), (3, .slice (some ⟨g2, 0, none⟩) 5 5), (23, .int .i64 0), (4, .int .i64 0), (26, .slice (some ⟨g2, 0, none⟩) 5 5), (28, .int .i64 4), (29, .pointer (some ⟨b1, 3, none⟩))] (by kernel_rfl) rfl ?_
          refine VL_load (d := 30) (t := 22) (a := ⟨b1, 3, none⟩) (v := .int .u32 o.tg) (by kernel_rfl) (by kernel_rfl) (Loads.own1 ho1 (by kernel_rfl) (by rfl)) ?_
          refine VL_pure 9 [1, 3, 23, 26, 28, 34] [(1, .pointer (some ⟨b1, 0, none⟩)), (3, .slice (some ⟨g2, 0, none⟩) 5 5), (23, .int .i64 0), (26, .slice (some ⟨g2, 0, none⟩) 5 5), (28, .int .i64 4), (34, .int .u8 (IntKind.wrap .u8 (o.tg.fdiv (2 ^ 0))))] (by kernel_rfl) rfl ?_
          refine VL_index (d := 35) (b := g2) (o := 0) (len := 5) (sz := 1) (m := 4) (by kernel_rfl) (by kernel_rfl) 4 (by rfl) (by omega) 4 (by omega) ?_
          obtain ⟨cur11, hgbcur11, hglcur11, howcur11, hcscur11, hcncur11, hcmcur11, hctcur11⟩ := ho13.openG
          refine VL_store (b := g2) (o := 4) (vs := [.int .u8 (IntKind.wrap .u8 (o.tg.fdiv (2 ^ 0)))]) (by kernel_rfl) (by kernel_rfl) howcur11 (by simp only [List.length_singleton]; omega) ?_
          intro w36 hw11
          replace hS := Step.transNew hS hw11.step (fun _ _ _ => by omega)
          replace ho1 := ho1.step hw11.step (show ¬ b1 = g2 by omega)
          replace hbase4 := Nat.le_trans hbase4 (hw11.step).size
          replace hglg2 := Nat.lt_of_lt_of_le hglg2 (hw11.step).size
          have ho14 := Rw.putI hctcur11 hw11 hgbcur11 hcscur11 hcncur11 hcmcur11 (j := 4) (by omega)
          have hzhw11 := hw11.same
          refine VL_end (by kernel_rfl) ?_
          refine VQ_block_normal ?_
          refine VQ_next ?_
          refine VC_region ?_
          refine VL_pure 2 [1, 3, 23] [(1, .pointer (some ⟨b1, 0, none⟩)), (3, .slice (some ⟨g2, 0, none⟩) 5 5), (23, .int .i64 1)] (by kernel_rfl) rfl ?_
          refine VL_end (by kernel_rfl) ?_
          refine VQ_round ?_
          refine VCL_round ?_
          refine VC_seq ?_
          refine VC_region ?_
          refine VL_pure 1 [1, 3, 23, 24] [(1, .pointer (some ⟨b1, 0, none⟩)), (3, .slice (some ⟨g2, 0, none⟩) 5 5), (23, .int .i64 1), (24, .bool true)] (by kernel_rfl) rfl ?_
          refine VL_end (by kernel_rfl) ?_
          refine VQ_next ?_
          refine VC_seq ?_
          refine VC_true (by kernel_rfl) ?_
          refine VC_skip ?_
          refine VQ_next ?_
          refine VC_seq ?_
          refine VC_block ?_
          refine VC_seq ?_
          refine VC_region ?_
          refine VL_pure 2 [1, 3, 23, 4] [(1, .pointer (some ⟨b1, 0, none⟩)), (3, .slice (some ⟨g2, 0, none⟩) 5 5), (23, .int .i64 1), (4, .int .i64 1)] (by kernel_rfl) rfl ?_
          refine VL_end (by kernel_rfl) ?_
          refine VQ_next ?_
          refine VC_region ?_
          refine VL_pure 4 [1, 3, 23, 4, 26, 28, 29] [(1, .pointer (some ⟨b1, 0, none⟩)), (3, .slice (some ⟨g2, 0, none⟩) 5 5), (23, .int .i64 1), (4, .int .i64 1), (26, .slice (some ⟨g2, 0, none⟩) 5 5), (28, .int .i64 3), (29, .pointer (some ⟨b1, 3, none⟩))] (by kernel_rfl) rfl ?_
          refine VL_load (d := 30) (t := 22) (a := ⟨b1, 3, none⟩) (v := .int .u32 o.tg) (by kernel_rfl) (by kernel_rfl) (Loads.own1 ho1 (by kernel_rfl) (by rfl)) ?_
          refine VL_pure 9 [1, 3, 23, 26, 28, 34] [(1, .pointer (some ⟨b1, 0, none⟩)), (3, .slice (some ⟨g2, 0, none⟩) 5 5), (23, .int .i64 1), (26, .slice (some ⟨g2, 0, none⟩) 5 5), (28, .int .i64 3), (34, .int .u8 (IntKind.wrap .u8 (o.tg.fdiv (2 ^ 8))))] (by kernel_rfl) rfl ?_
          refine VL_index (d := 35) (b := g2) (o := 0) (len := 5) (sz := 1) (m := 3) (by kernel_rfl) (by kernel_rfl) 3 (by rfl) (by omega) 3 (by omega) ?_
          obtain ⟨cur12, hgbcur12, hglcur12, howcur12, hcscur12, hcncur12, hcmcur12, hctcur12⟩ := ho14.openG
          refine VL_store (b := g2) (o := 3) (vs := [.int .u8 (IntKind.wrap .u8 (o.tg.fdiv (2 ^ 8)))]) (by kernel_rfl) (by kernel_rfl) howcur12 (by simp only [List.length_singleton]; omega) ?_
          intro w37 hw12
          replace hS := Step.transNew hS hw12.step (fun _ _ _ => by omega)
          replace ho1 := ho1.step hw12.step (show ¬ b1 = g2 by omega)
          replace hbase4 := Nat.le_trans hbase4 (hw12.step).size
          replace hglg2 := Nat.lt_of_lt_of_le hglg2 (hw12.step).size
          have ho15 := Rw.putI hctcur12 hw12 hgbcur12 hcscur12 hcncur12 hcmcur12 (j := 3) (by omega)
          have hzhw12 := hw12.same
          refine VL_end (by kernel_rfl) ?_
          refine VQ_block_normal ?_
          refine VQ_next ?_
          refine VC_region ?_
          refine VL_pure 2 [1, 3, 23] [(1, .pointer (some ⟨b1, 0, none⟩)), (3, .slice (some ⟨g2, 0, none⟩) 5 5), (23, .int .i64 2)] (by kernel_rfl) rfl ?_
          refine VL_end (by kernel_rfl) ?_
          refine VQ_round ?_
          refine VCL_round ?_
          refine VC_seq ?_
          refine VC_region ?_
          refine VL_pure 1 [1, 3, 23, 24] [(1, .pointer (some ⟨b1, 0, none⟩)), (3, .slice (some ⟨g2, 0, none⟩) 5 5), (23, .int .i64 2), (24, .bool true)] (by kernel_rfl) rfl ?_
          refine VL_end (by kernel_rfl) ?_
          refine VQ_next ?_
          refine VC_seq ?_
          refine VC_true (by kernel_rfl) ?_
          refine VC_skip ?_
          refine VQ_next ?_
          refine VC_seq ?_
          refine VC_block ?_
          refine VC_seq ?_
          refine VC_region ?_
          refine VL_pure 2 [1, 3, 23, 4] [(1, .pointer (some ⟨b1, 0, none⟩)), (3, .slice (some ⟨g2, 0, none⟩) 5 5), (23, .int .i64 2), (4, .int .i64 2)] (by kernel_rfl) rfl ?_
          refine VL_end (by kernel_rfl) ?_
          refine VQ_next ?_
          refine VC_region ?_
          refine VL_pure 4 [1, 3, 23, 4, 26, 28, 29] [(1, .pointer (some ⟨b1, 0, none⟩)), (3, .slice (some ⟨g2, 0, none⟩) 5 5), (23, .int .i64 2), (4, .int .i64 2), (26, .slice (some ⟨g2, 0, none⟩) 5 5), (28, .int .i64 2), (29, .pointer (some ⟨b1, 3, none⟩))] (by kernel_rfl) rfl ?_
          refine VL_load (d := 30) (t := 22) (a := ⟨b1, 3, none⟩) (v := .int .u32 o.tg) (by kernel_rfl) (by kernel_rfl) (Loads.own1 ho1 (by kernel_rfl) (by rfl)) ?_
          refine VL_pure 9 [1, 3, 23, 26, 28, 34] [(1, .pointer (some ⟨b1, 0, none⟩)), (3, .slice (some ⟨g2, 0, none⟩) 5 5), (23, .int .i64 2), (26, .slice (some ⟨g2, 0, none⟩) 5 5), (28, .int .i64 2), (34, .int .u8 (IntKind.wrap .u8 (o.tg.fdiv (2 ^ 16))))] (by kernel_rfl) rfl ?_
          refine VL_index (d := 35) (b := g2) (o := 0) (len := 5) (sz := 1) (m := 2) (by kernel_rfl) (by kernel_rfl) 2 (by rfl) (by omega) 2 (by omega) ?_
          obtain ⟨cur13, hgbcur13, hglcur13, howcur13, hcscur13, hcncur13, hcmcur13, hctcur13⟩ := ho15.openG
          refine VL_store (b := g2) (o := 2) (vs := [.int .u8 (IntKind.wrap .u8 (o.tg.fdiv (2 ^ 16)))]) (by kernel_rfl) (by kernel_rfl) howcur13 (by simp only [List.length_singleton]; omega) ?_
          intro w38 hw13
          replace hS := Step.transNew hS hw13.step (fun _ _ _ => by omega)
          replace ho1 := ho1.step hw13.step (show ¬ b1 = g2 by omega)
          replace hbase4 := Nat.le_trans hbase4 (hw13.step).size
          replace hglg2 := Nat.lt_of_lt_of_le hglg2 (hw13.step).size
          have ho16 := Rw.putI hctcur13 hw13 hgbcur13 hcscur13 hcncur13 hcmcur13 (j := 2) (by omega)
          have hzhw13 := hw13.same
          refine VL_end (by kernel_rfl) ?_
          refine VQ_block_normal ?_
          refine VQ_next ?_
          refine VC_region ?_
          refine VL_pure 2 [1, 3, 23] [(1, .pointer (some ⟨b1, 0, none⟩)), (3, .slice (some ⟨g2, 0, none⟩) 5 5), (23, .int .i64 3)] (by kernel_rfl) rfl ?_
          refine VL_end (by kernel_rfl) ?_
          refine VQ_round ?_
          refine VCL_round ?_
          refine VC_seq ?_
          refine VC_region ?_
          refine VL_pure 1 [1, 3, 23, 24] [(1, .pointer (some ⟨b1, 0, none⟩)), (3, .slice (some ⟨g2, 0, none⟩) 5 5), (23, .int .i64 3), (24, .bool true)] (by kernel_rfl) rfl ?_
          refine VL_end (by kernel_rfl) ?_
          refine VQ_next ?_
          refine VC_seq ?_
          refine VC_true (by kernel_rfl) ?_
          refine VC_skip ?_
          refine VQ_next ?_
          refine VC_seq ?_
          refine VC_block ?_
          refine VC_seq ?_
          refine VC_region ?_
          refine VL_pure 2 [1, 3, 23, 4] [(1, .pointer (some ⟨b1, 0, none⟩)), (3, .slice (some ⟨g2, 0, none⟩) 5 5), (23, .int .i64 3), (4, .int .i64 3)] (by kernel_rfl) rfl ?_
          refine VL_end (by kernel_rfl) ?_
          refine VQ_next ?_
          refine VC_region ?_
          refine VL_pure 4 [1, 3, 23, 4, 26, 28, 29] [(1, .pointer (some ⟨b1, 0, none⟩)), (3, .slice (some ⟨g2, 0, none⟩) 5 5), (23, .int .i64 3), (4, .int .i64 3), (26, .slice (some ⟨g2, 0, none⟩) 5 5), (28, .int .i64 1), (29, .pointer (some ⟨b1, 3, none⟩))] (by kernel_rfl) rfl ?_
          refine VL_load (d := 30) (t := 22) (a := ⟨b1, 3, none⟩) (v := .int .u32 o.tg) (by kernel_rfl) (by kernel_rfl) (Loads.own1 ho1 (by kernel_rfl) (by rfl)) ?_
          refine VL_pure 9 [1, 3, 23, 26, 28, 34] [(1, .pointer (some ⟨b1, 0, none⟩)), (3, .slice (some ⟨g2, 0, none⟩) 5 5), (23, .int .i64 3), (26, .slice (some ⟨g2, 0, none⟩) 5 5), (28, .int .i64 1), (34, .int .u8 (IntKind.wrap .u8 (o.tg.fdiv (2 ^ 24))))] (by kernel_rfl) rfl ?_
          refine VL_index (d := 35) (b := g2) (o := 0) (len := 5) (sz := 1) (m := 1) (by kernel_rfl) (by kernel_rfl) 1 (by rfl) (by omega) 1 (by omega) ?_
          obtain ⟨cur14, hgbcur14, hglcur14, howcur14, hcscur14, hcncur14, hcmcur14, hctcur14⟩ := ho16.openG
          refine VL_store (b := g2) (o := 1) (vs := [.int .u8 (IntKind.wrap .u8 (o.tg.fdiv (2 ^ 24)))]) (by kernel_rfl) (by kernel_rfl) howcur14 (by simp only [List.length_singleton]; omega) ?_
          intro w39 hw14
          replace hS := Step.transNew hS hw14.step (fun _ _ _ => by omega)
          replace ho1 := ho1.step hw14.step (show ¬ b1 = g2 by omega)
          replace hbase4 := Nat.le_trans hbase4 (hw14.step).size
          replace hglg2 := Nat.lt_of_lt_of_le hglg2 (hw14.step).size
          have ho17 := Rw.putI hctcur14 hw14 hgbcur14 hcscur14 hcncur14 hcmcur14 (j := 1) (by omega)
          have hzhw14 := hw14.same
          refine VL_end (by kernel_rfl) ?_
          refine VQ_block_normal ?_
          refine VQ_next ?_
          refine VC_region ?_
          refine VL_pure 2 [1, 3, 23] [(1, .pointer (some ⟨b1, 0, none⟩)), (3, .slice (some ⟨g2, 0, none⟩) 5 5), (23, .int .i64 4)] (by kernel_rfl) rfl ?_
          refine VL_end (by kernel_rfl) ?_
          refine VQ_round ?_
          refine VCL_round ?_
          refine VC_seq ?_
          refine VC_region ?_
          refine VL_pure 1 [1, 3, 23, 24] [(1, .pointer (some ⟨b1, 0, none⟩)), (3, .slice (some ⟨g2, 0, none⟩) 5 5), (23, .int .i64 4), (24, .bool false)] (by kernel_rfl) rfl ?_
          refine VL_end (by kernel_rfl) ?_
          refine VQ_next ?_
          refine VC_seq ?_
          refine VC_false (by kernel_rfl) ?_
          refine VC_exit ?_
          refine VQ_then_exit ?_
          refine VQ_then_exit ?_
          refine VQ_block_hit ?_
          refine VQ_next ?_
          have hs13 := drew_step w39
          have hs13z : w39.heap.size = w39.drew.heap.size := rfl
          refine VC_text [[], [], [1], [0, 1, 2], [], [4], [0, 1, 2, 3, 4, 5], [0, 1, 2, 3, 4, 5, 6]] 6 (fun x y => Step (fun k => g2 ≤ k ∨ w39.heap.size ≤ k) x y) [3] [0, 1, 2, 4, 5, 3] (by kernel_rfl) (by kernel_rfl) (by kernel_rfl) (by kernel_rfl) (fun x => Step.refl _ x) (fun h k => Step.trans h k) Step.weak ?_
          have hzs16 := hS.size
          have hzl17 := ho1.lt
          generalize w39.drew = w40 at hs13 hs13z ⊢
          replace hS := Step.trans hS hs13
          replace ho1 := ho1.no hs13
          replace hbase4 := Nat.le_trans hbase4 (hs13).size
          replace hglg2 := Nat.lt_of_lt_of_le hglg2 (hs13).size
          replace ho17 := ho17.no hs13
          refine VT_pures 5 (kn' := [(5, .slice (some ⟨b1, 20, none⟩) 16 16), (4, .pointer (some ⟨b1, 20, none⟩)), (2, .slice (some ⟨b1, 4, none⟩) 16 16), (1, .pointer (some ⟨b1, 4, none⟩)), (0, .slice (some ⟨g2, 0, none⟩) 5 5)]) (by kernel_rfl) ?_
          refine VT_chain (by kernel_rfl) ?_
          intro w41 hs14
          have hzhs14 := hs14.size
          replace hS := Step.trans hS hs14
          replace ho1 := ho1.no hs14
          replace hbase4 := Nat.le_trans hbase4 (hs14).size
          replace hglg2 := Nat.lt_of_lt_of_le hglg2 (hs14).size
          replace ho17 := ho17.no hs14
          have hzs17 := hS.size
          have hzl18 := ho1.lt
          have hzk9 := hbase4
          have hzk10 := hglg2
          refine VTc_appendS (d := 40) (e := 5) (A := (some ⟨g2, 0, none⟩)) (mm := 5) (c := 5) (A2 := (some ⟨b1, 4, none⟩)) (m2 := 16) (c2 := 16) (bytes := 1) (by kernel_rfl) (by kernel_rfl) (by kernel_rfl) g2 w41.heap.size (iL .u8 ((((((List.replicate 5 0).set 0 1).set 4 (IntKind.wrap .u8 (o.tg.fdiv (2 ^ 0)))).set 3 (IntKind.wrap .u8 (o.tg.fdiv (2 ^ 8)))).set 2 (IntKind.wrap .u8 (o.tg.fdiv (2 ^ 16)))).set 1 (IntKind.wrap .u8 (o.tg.fdiv (2 ^ 24))))) (iL .u8 (lp o.p)) ho17 (by rw [iL_length]; exact (by rfl)) (Sl.mono (Sl.cast (Own.slSub ho1 ho1.lt 4 16) (by rfl)) (by first | exact Nat.le_refl _ | omega)) iL_one 21 (by omega) (by simp only [maxLen]; omega) (by omega) (by omega) ?_ ?_
          · intro w1 hs1; exact Step.mono hs1 (by intro i hi; (try simp only at hi ⊢); omega)
          intro A7 c7 w42 hr11 hg7
          replace hr11 : Rw w42 g2 5 A7 21 c7 (iL .u8 (((((((List.replicate 5 0).set 0 1).set 4 (IntKind.wrap .u8 (o.tg.fdiv (2 ^ 0)))).set 3 (IntKind.wrap .u8 (o.tg.fdiv (2 ^ 8)))).set 2 (IntKind.wrap .u8 (o.tg.fdiv (2 ^ 16)))).set 1 (IntKind.wrap .u8 (o.tg.fdiv (2 ^ 24)))) ++ (lp o.p))) := Rw.cast hr11 rfl (by simp only [iL, List.map_append, List.map_cons, List.map_nil, List.append_assoc, List.cons_append, List.nil_append, List.append_nil])
          have hzhg7 := hg7.size
          replace hS := Step.transNew hS hg7 (fun i hi hG => by (try simp only at hG); omega)
          replace ho1 := ho1.step hg7 (by (try simp only); omega)
          replace hbase4 := Nat.le_trans hbase4 (hg7).size
          replace hglg2 := Nat.lt_of_lt_of_le hglg2 (hg7).size
          refine VT_end ?_
          intro w43 hs15
          replace hS := Step.trans hS hs15
          replace ho1 := ho1.no hs15
          replace hbase4 := Nat.le_trans hbase4 (hs15).size
          replace hglg2 := Nat.lt_of_lt_of_le hglg2 (hs15).size
          replace hr11 := hr11.no hs15
          refine VL_keep [42, 40] [(42, .slice (some ⟨b1, 20, none⟩) 16 16), (40, .slice A7 21 c7)] (by kernel_rfl) ?_
          have hzs18 := hS.size
          have hzl19 := ho1.lt
          have hzk11 := hbase4
          have hzk12 := hglg2
          refine VL_appendS (d := 43) (e := 5) (A := A7) (m := 21) (c := c7) (A2 := (some ⟨b1, 20, none⟩)) (m2 := 16) (c2 := 16) (bytes := 1) (by kernel_rfl) (by kernel_rfl) (by kernel_rfl) g2 w43.heap.size (iL .u8 (((((((List.replicate 5 0).set 0 1).set 4 (IntKind.wrap .u8 (o.tg.fdiv (2 ^ 0)))).set 3 (IntKind.wrap .u8 (o.tg.fdiv (2 ^ 8)))).set 2 (IntKind.wrap .u8 (o.tg.fdiv (2 ^ 16)))).set 1 (IntKind.wrap .u8 (o.tg.fdiv (2 ^ 24)))) ++ (lp o.p))) (iL .u8 (lp o.s)) hr11 (by rw [iL_length]; exact (by rfl)) (Sl.mono (Sl.cast (Own.slSub ho1 ho1.lt 20 16) (by rfl)) (by first | exact Nat.le_refl _ | omega)) iL_one 37 (by omega) (by simp only [maxLen]; omega) (by omega) (by omega) ?_
          intro A8 c8 w44 hr12 hg8
          replace hr12 : Rw w44 g2 5 A8 37 c8 (iL .u8 (((((((List.replicate 5 0).set 0 1).set 4 (IntKind.wrap .u8 (o.tg.fdiv (2 ^ 0)))).set 3 (IntKind.wrap .u8 (o.tg.fdiv (2 ^ 8)))).set 2 (IntKind.wrap .u8 (o.tg.fdiv (2 ^ 16)))).set 1 (IntKind.wrap .u8 (o.tg.fdiv (2 ^ 24)))) ++ (lp o.p) ++ (lp o.s))) := Rw.cast hr12 rfl (by simp only [iL, List.map_append, List.map_cons, List.map_nil, List.append_assoc, List.cons_append, List.nil_append, List.append_nil])
          have hzhg8 := hg8.size
          replace hS := Step.transNew hS hg8 (fun i hi hG => by (try simp only at hG); omega)
          replace ho1 := ho1.step hg8 (by (try simp only); omega)
          replace hbase4 := Nat.le_trans hbase4 (hg8).size
          replace hglg2 := Nat.lt_of_lt_of_le hglg2 (hg8).size
          refine VL_pure 8 [3] [(3, .slice A8 37 c8)] (by kernel_rfl) rfl ?_
          refine VL_end (by kernel_rfl) ?_
          refine VQ_block_normal ?_
          refine VQ_next ?_
          refine VC_seq ?_
          refine VC_region ?_
          refine VL_pure 2 [2] [(2, .slice A8 37 c8)] (by kernel_rfl) rfl ?_
          refine VL_end (by kernel_rfl) ?_
          refine VQ_next ?_
          refine VC_ret ?_
          refine VQ_ret1 (.slice A8 37 c8) (.inr rfl) rfl rfl ?_
          exact ⟨_, _, by rw [has_len8 (by omega)], Rw.low (Rw.cast hr12 (has_len8 (by omega)).symm (by rw [has_8 (by omega)]; simp [iL, tagB, *])) (by omega), hS⟩
        · try simp only [Bool.and_eq_true, Bool.or_eq_true, decide_eq_true_eq, Bool.not_eq_true', decide_eq_false_iff_not, Bool.and_eq_false_iff, Bool.or_eq_false_iff, beq_iff_eq, bne_iff_ne, beq_eq_false_iff_ne, bne_eq_false_iff_eq, Bool.not_eq_eq_eq_not, Bool.not_true, Bool.not_false] at h7
          refine VC_skip ?_
          refine VQ_next ?_
          refine VC_seq ?_
          refine VC_seq ?_
          refine VC_region ?_
          refine VL_pure 1 [1, 3, 23] [(1, .pointer (some ⟨b1, 0, none⟩)), (3, .slice (some ⟨g2, 0, none⟩) 5 5), (23, .int .i64 0)] (by kernel_rfl) rfl ?_
          refine VL_end (by kernel_rfl) ?_
          refine VQ_next ?_
          refine VC_block ?_
          refine VC_rounds ?_
          refine VCL_round ?_
          refine VC_seq ?_
          refine VC_region ?_
          refine VL_pure 1 [1, 3, 23, 24] [(1, .pointer (some ⟨b1, 0, none⟩)), (3, .slice (some ⟨g2, 0, none⟩) 5 5), (23, .int .i64 0), (24, .bool true)] (by kernel_rfl) rfl ?_
          refine VL_end (by kernel_rfl) ?_
          refine VQ_next ?_
          refine VC_seq ?_
          refine VC_true (by kernel_rfl) ?_
          refine VC_skip ?_
          refine VQ_next ?_
          refine VC_seq ?_
          refine VC_block ?_
          refine VC_seq ?_
          refine VC_region ?_
          refine VL_pure 2 [1, 3, 23, 4] [(1, .pointer (some ⟨b1, 0, none⟩)), (3, .slice (some ⟨g2, 0, none⟩) 5 5), (23, .int .i64 0), (4, .int .i64 0)] (by kernel_rfl) rfl ?_
          refine VL_end (by kernel_rfl) ?_
          refine VQ_next ?_
          refine VC_region ?_
          refine VL_pure 4 [1, 3, 23, 4, 26, 28, 29] [(1, .pointer (some ⟨b1, 0, none⟩)), (3, .slice (some ⟨g2, 0, none⟩) 5 5), (23, .int .i64 0), (4, .int .i64 0), (26, .slice (some ⟨g2, 0, none⟩) 5 5), (28, .int .i64 4), (29, .pointer (some ⟨b1, 3, none⟩))] (by kernel_rfl) rfl ?_
          refine VL_load (d := 30) (t := 22) (a := ⟨b1, 3, none⟩) (v := .int .u32 o.tg) (by kernel_rfl) (by kernel_rfl) (Loads.own1 ho1 (by kernel_rfl) (by rfl)) ?_
          refine VL_pure 9 [1, 3, 23, 26, 28, 34] [(1, .pointer (some ⟨b1, 0, none⟩)), (3, .slice (some ⟨g2, 0, none⟩) 5 5), (23, .int .i64 0), (26, .slice (some ⟨g2, 0, none⟩) 5 5), (28, .int .i64 4), (34, .int .u8 (IntKind.wrap .u8 (o.tg.fdiv (2 ^ 0))))] (by kernel_rfl) rfl ?_
          refine VL_index (d := 35) (b := g2) (o := 0) (len := 5) (sz := 1) (m := 4) (by kernel_rfl) (by kernel_rfl) 4 (by rfl) (by omega) 4 (by omega) ?_
          obtain ⟨cur15, hgbcur15, hglcur15, howcur15, hcscur15, hcncur15, hcmcur15, hctcur15⟩ := hr10.openG
          refine VL_store (b := g2) (o := 4) (vs := [.int .u8 (IntKind.wrap .u8 (o.tg.fdiv (2 ^ 0)))]) (by kernel_rfl) (by kernel_rfl) howcur15 (by simp only [List.length_singleton]; omega) ?_
          intro w45 hw15
          replace hS := Step.transNew hS hw15.step (fun _ _ _ => by omega)
          replace ho1 := ho1.step hw15.step (show ¬ b1 = g2 by omega)
          replace hbase4 := Nat.le_trans hbase4 (hw15.step).size
          replace hglg2 := Nat.lt_of_lt_of_le hglg2 (hw15.step).size
          have ho18 := Rw.putI hctcur15 hw15 hgbcur15 hcscur15 hcncur15 hcmcur15 (j := 4) (by omega)
          have hzhw15 := hw15.same
          refine VL_end (by kernel_rfl) ?_
          refine VQ_block_normal ?_
          refine VQ_next ?_
          refine VC_region ?_
          refine VL_pure 2 [1, 3, 23] [(1, .pointer (some ⟨b1, 0, none⟩)), (3, .slice (some ⟨g2, 0, none⟩) 5 5), (23, .int .i64 1)] (by kernel_rfl) rfl ?_
          refine VL_end (by kernel_rfl) ?_
          refine VQ_round ?_
          refine VCL_round ?_
          refine VC_seq ?_
          refine VC_region ?_
          refine VL_pure 1 [1, 3, 23, 24] [(1, .pointer (some ⟨b1, 0, none⟩)), (3, .slice (some ⟨g2, 0, none⟩) 5 5), (23, .int .i64 1), (24, .bool true)] (by kernel_rfl) rfl ?_
          refine VL_end (by kernel_rfl) ?_
          refine VQ_next ?_
          refine VC_seq ?_
          refine VC_true (by kernel_rfl) ?_
          refine VC_skip ?_
          refine VQ_next ?_
          refine VC_seq ?_
          refine VC_block ?_
          refine VC_seq ?_
          refine VC_region ?_
          refine VL_pure 2 [1, 3, 23, 4] [(1, .pointer (some ⟨b1, 0, none⟩)), (3, .slice (some ⟨g2, 0, none⟩) 5 5), (23, .int .i64 1), (4, .int .i64 1)] (by kernel_rfl) rfl ?_
          refine VL_end (by kernel_rfl) ?_
          refine VQ_next ?_
          refine VC_region ?_
          refine VL_pure 4 [1, 3, 23, 4, 26, 28, 29] [(1, .pointer (some ⟨b1, 0, none⟩)), (3, .slice (some ⟨g2, 0, none⟩) 5 5), (23, .int .i64 1), (4, .int .i64 1), (26, .slice (some ⟨g2, 0, none⟩) 5 5), (28, .int .i64 3), (29, .pointer (some ⟨b1, 3, none⟩))] (by kernel_rfl) rfl ?_
          refine VL_load (d := 30) (t := 22) (a := ⟨b1, 3, none⟩) (v := .int .u32 o.tg) (by kernel_rfl) (by kernel_rfl) (Loads.own1 ho1 (by kernel_rfl) (by rfl)) ?_
          refine VL_pure 9 [1, 3, 23, 26, 28, 34] [(1, .pointer (some ⟨b1, 0, none⟩)), (3, .slice (some ⟨g2, 0, none⟩) 5 5), (23, .int .i64 1), (26, .slice (some ⟨g2, 0, none⟩) 5 5), (28, .int .i64 3), (34, .int .u8 (IntKind.wrap .u8 (o.tg.fdiv (2 ^ 8))))] (by kernel_rfl) rfl ?_
          refine VL_index (d := 35) (b := g2) (o := 0) (len := 5) (sz := 1) (m := 3) (by kernel_rfl) (by kernel_rfl) 3 (by rfl) (by omega) 3 (by omega) ?_
          obtain ⟨cur16, hgbcur16, hglcur16, howcur16, hcscur16, hcncur16, hcmcur16, hctcur16⟩ := ho18.openG
          refine VL_store (b := g2) (o := 3) (vs := [.int .u8 (IntKind.wrap .u8 (o.tg.fdiv (2 ^ 8)))]) (by kernel_rfl) (by kernel_rfl) howcur16 (by simp only [List.length_singleton]; omega) ?_
          intro w46 hw16
          replace hS := Step.transNew hS hw16.step (fun _ _ _ => by omega)
          replace ho1 := ho1.step hw16.step (show ¬ b1 = g2 by omega)
          replace hbase4 := Nat.le_trans hbase4 (hw16.step).size
          replace hglg2 := Nat.lt_of_lt_of_le hglg2 (hw16.step).size
          have ho19 := Rw.putI hctcur16 hw16 hgbcur16 hcscur16 hcncur16 hcmcur16 (j := 3) (by omega)
          have hzhw16 := hw16.same
          refine VL_end (by kernel_rfl) ?_
          refine VQ_block_normal ?_
          refine VQ_next ?_
          refine VC_region ?_
          refine VL_pure 2 [1, 3, 23] [(1, .pointer (some ⟨b1, 0, none⟩)), (3, .slice (some ⟨g2, 0, none⟩) 5 5), (23, .int .i64 2)] (by kernel_rfl) rfl ?_
          refine VL_end (by kernel_rfl) ?_
          refine VQ_round ?_
          refine VCL_round ?_
          refine VC_seq ?_
          refine VC_region ?_
          refine VL_pure 1 [1, 3, 23, 24] [(1, .pointer (some ⟨b1, 0, none⟩)), (3, .slice (some ⟨g2, 0, none⟩) 5 5), (23, .int .i64 2), (24, .bool true)] (by kernel_rfl) rfl ?_
          refine VL_end (by kernel_rfl) ?_
          refine VQ_next ?_
          refine VC_seq ?_
          refine VC_true (by kernel_rfl) ?_
          refine VC_skip ?_
          refine VQ_next ?_
          refine VC_seq ?_
          refine VC_block ?_
          refine VC_seq ?_
          refine VC_region ?_
          refine VL_pure 2 [1, 3, 23, 4] [(1, .pointer (some ⟨b1, 0, none⟩)), (3, .slice (some ⟨g2, 0, none⟩) 5 5), (23, .int .i64 2), (4, .int .i64 2)] (by kernel_rfl) rfl ?_
          refine VL_end (by kernel_rfl) ?_
          refine VQ_next ?_
          refine VC_region ?_
          refine VL_pure 4 [1, 3, 23, 4, 26, 28, 29] [(1, .pointer (some ⟨b1, 0, none⟩)), (3, .slice (some ⟨g2, 0, none⟩) 5 5), (23, .int .i64 2), (4, .int .i64 2), (26, .slice (some ⟨g2, 0, none⟩) 5 5), (28, .int .i64 2), (29, .pointer (some ⟨b1, 3, none⟩))] (by kernel_rfl) rfl ?_
          refine VL_load (d := 30) (t := 22) (a := ⟨b1, 3, none⟩) (v := .int .u32 o.tg) (by kernel_rfl) (by kernel_rfl) (Loads.own1 ho1 (by kernel_rfl) (by rfl)) ?_
          refine VL_pure 9 [1, 3, 23, 26, 28, 34] [(1, .pointer (some ⟨b1, 0, none⟩)), (3, .slice (some ⟨g2, 0, none⟩) 5 5), (23, .int .i64 2), (26, .slice (some ⟨g2, 0, none⟩) 5 5), (28, .int .i64 2), (34, .int .u8 (IntKind.wrap .u8 (o.tg.fdiv (2 ^ 16))))] (by kernel_rfl) rfl ?_
          refine VL_index (d := 35) (b := g2) (o := 0) (len := 5) (sz := 1) (m := 2) (by kernel_rfl) (by kernel_rfl) 2 (by rfl) (by omega) 2 (by omega) ?_
          obtain ⟨cur17, hgbcur17, hglcur17, howcur17, hcscur17, hcncur17, hcmcur17, hctcur17⟩ := ho19.openG
          refine VL_store (b := g2) (o := 2) (vs := [.int .u8 (IntKind.wrap .u8 (o.tg.fdiv (2 ^ 16)))]) (by kernel_rfl) (by kernel_rfl) howcur17 (by simp only [List.length_singleton]; omega) ?_
          intro w47 hw17
          replace hS := Step.transNew hS hw17.step (fun _ _ _ => by omega)
          replace ho1 := ho1.step hw17.step (show ¬ b1 = g2 by omega)
          replace hbase4 := Nat.le_trans hbase4 (hw17.step).size
          replace hglg2 := Nat.lt_of_lt_of_le hglg2 (hw17.step).size
          have ho20 := Rw.putI hctcur17 hw17 hgbcur17 hcscur17 hcncur17 hcmcur17 (j := 2) (by omega)
          have hzhw17 := hw17.same
          refine VL_end (by kernel_rfl) ?_
          refine VQ_block_normal ?_
          refine VQ_next ?_
          refine VC_region ?_
          refine VL_pure 2 [1, 3, 23] [(1, .pointer (some ⟨b1, 0, none⟩)), (3, .slice (some ⟨g2, 0, none⟩) 5 5), (23, .int .i64 3)] (by kernel_rfl) rfl ?_
          refine VL_end (by kernel_rfl) ?_
          refine VQ_round ?_
          refine VCL_round ?_
          refine VC_seq ?_
          refine VC_region ?_
          refine VL_pure 1 [1, 3, 23, 24] [(1, .pointer (some ⟨b1, 0, none⟩)), (3, .slice (some ⟨g2, 0, none⟩) 5 5), (23, .int .i64 3), (24, .bool true)] (by kernel_rfl) rfl ?_
          refine VL_end (by kernel_rfl) ?_
          refine VQ_next ?_
          refine VC_seq ?_
          refine VC_true (by kernel_rfl) ?_
          refine VC_skip ?_
          refine VQ_next ?_
          refine VC_seq ?_
          refine VC_block ?_
          refine VC_seq ?_
          refine VC_region ?_
          refine VL_pure 2 [1, 3, 23, 4] [(1, .pointer (some ⟨b1, 0, none⟩)), (3, .slice (some ⟨g2, 0, none⟩) 5 5), (23, .int .i64 3), (4, .int .i64 3)] (by kernel_rfl) rfl ?_
          refine VL_end (by kernel_rfl) ?_
          refine VQ_next ?_
          refine VC_region ?_
          refine VL_pure 4 [1, 3, 23, 4, 26, 28, 29] [(1, .pointer (some ⟨b1, 0, none⟩)), (3, .slice (some ⟨g2, 0, none⟩) 5 5), (23, .int .i64 3), (4, .int .i64 3), (26, .slice (some ⟨g2, 0, none⟩) 5 5), (28, .int .i64 1), (29, .pointer (some ⟨b1, 3, none⟩))] (by kernel_rfl) rfl ?_
          refine VL_load (d := 30) (t := 22) (a := ⟨b1, 3, none⟩) (v := .int .u32 o.tg) (by kernel_rfl) (by kernel_rfl) (Loads.own1 ho1 (by kernel_rfl) (by rfl)) ?_
          refine VL_pure 9 [1, 3, 23, 26, 28, 34] [(1, .pointer (some ⟨b1, 0, none⟩)), (3, .slice (some ⟨g2, 0, none⟩) 5 5), (23, .int .i64 3), (26, .slice (some ⟨g2, 0, none⟩) 5 5), (28, .int .i64 1), (34, .int .u8 (IntKind.wrap .u8 (o.tg.fdiv (2 ^ 24))))] (by kernel_rfl) rfl ?_
          refine VL_index (d := 35) (b := g2) (o := 0) (len := 5) (sz := 1) (m := 1) (by kernel_rfl) (by kernel_rfl) 1 (by rfl) (by omega) 1 (by omega) ?_
          obtain ⟨cur18, hgbcur18, hglcur18, howcur18, hcscur18, hcncur18, hcmcur18, hctcur18⟩ := ho20.openG
          refine VL_store (b := g2) (o := 1) (vs := [.int .u8 (IntKind.wrap .u8 (o.tg.fdiv (2 ^ 24)))]) (by kernel_rfl) (by kernel_rfl) howcur18 (by simp only [List.length_singleton]; omega) ?_
          intro w48 hw18
          replace hS := Step.transNew hS hw18.step (fun _ _ _ => by omega)
          replace ho1 := ho1.step hw18.step (show ¬ b1 = g2 by omega)
          replace hbase4 := Nat.le_trans hbase4 (hw18.step).size
          replace hglg2 := Nat.lt_of_lt_of_le hglg2 (hw18.step).size
          have ho21 := Rw.putI hctcur18 hw18 hgbcur18 hcscur18 hcncur18 hcmcur18 (j := 1) (by omega)
          have hzhw18 := hw18.same
          refine VL_end (by kernel_rfl) ?_
          refine VQ_block_normal ?_
          refine VQ_next ?_
          refine VC_region ?_
          refine VL_pure 2 [1, 3, 23] [(1, .pointer (some ⟨b1, 0, none⟩)), (3, .slice (some ⟨g2, 0, none⟩) 5 5), (23, .int .i64 4)] (by kernel_rfl) rfl ?_
          refine VL_end (by kernel_rfl) ?_
          refine VQ_round ?_
          refine VCL_round ?_
          refine VC_seq ?_
          refine VC_region ?_
          refine VL_pure 1 [1, 3, 23, 24] [(1, .pointer (some ⟨b1, 0, none⟩)), (3, .slice (some ⟨g2, 0, none⟩) 5 5), (23, .int .i64 4), (24, .bool false)] (by kernel_rfl) rfl ?_
          refine VL_end (by kernel_rfl) ?_
          refine VQ_next ?_
          refine VC_seq ?_
          refine VC_false (by kernel_rfl) ?_
          refine VC_exit ?_
          refine VQ_then_exit ?_
          refine VQ_then_exit ?_
          refine VQ_block_hit ?_
          refine VQ_next ?_
          have hs16 := drew_step w48
          have hs16z : w48.heap.size = w48.drew.heap.size := rfl
          refine VC_text [[], [], [1], [0, 1, 2], [], [4], [0, 1, 2, 3, 4, 5], [0, 1, 2, 3, 4, 5, 6]] 6 (fun x y => Step (fun k => g2 ≤ k ∨ w48.heap.size ≤ k) x y) [3] [0, 1, 2, 4, 5, 3] (by kernel_rfl) (by kernel_rfl) (by kernel_rfl) (by kernel_rfl) (fun x => Step.refl _ x) (fun h k => Step.trans h k) Step.weak ?_
          have hzs19 := hS.size
          have hzl20 := ho1.lt
          generalize w48.drew = w49 at hs16 hs16z ⊢
          replace hS := Step.trans hS hs16
          replace ho1 := ho1.no hs16
          replace hbase4 := Nat.le_trans hbase4 (hs16).size
          replace hglg2 := Nat.lt_of_lt_of_le hglg2 (hs16).size
          replace ho21 := ho21.no hs16
          refine VT_pures 5 (kn' := [(5, .slice (some ⟨b1, 20, none⟩) 16 16), (4, .pointer (some ⟨b1, 20, none⟩)), (2, .slice (some ⟨b1, 4, none⟩) 16 16), (1, .pointer (some ⟨b1, 4, none⟩)), (0, .slice (some ⟨g2, 0, none⟩) 5 5)]) (by kernel_rfl) ?_
          refine VT_chain (by kernel_rfl) ?_
          intro w50 hs17
          have hzhs17 := hs17.size
          replace hS := Step.trans hS hs17
          replace ho1 := ho1.no hs17
          replace hbase4 := Nat.le_trans hbase4 (hs17).size
          replace hglg2 := Nat.lt_of_lt_of_le hglg2 (hs17).size
          replace ho21 := ho21.no hs17
          have hzs20 := hS.size
          have hzl21 := ho1.lt
          have hzk13 := hbase4
          have hzk14 := hglg2
          refine VTc_appendS (d := 40) (e := 5) (A := (some ⟨g2, 0, none⟩)) (mm := 5) (c := 5) (A2 := (some ⟨b1, 4, none⟩)) (m2 := 16) (c2 := 16) (bytes := 1) (by kernel_rfl) (by kernel_rfl) (by kernel_rfl) g2 w50.heap.size (iL .u8 (((((List.replicate 5 0).set 4 (IntKind.wrap .u8 (o.tg.fdiv (2 ^ 0)))).set 3 (IntKind.wrap .u8 (o.tg.fdiv (2 ^ 8)))).set 2 (IntKind.wrap .u8 (o.tg.fdiv (2 ^ 16)))).set 1 (IntKind.wrap .u8 (o.tg.fdiv (2 ^ 24))))) (iL .u8 (lp o.p)) ho21 (by rw [iL_length]; exact (by rfl)) (Sl.mono (Sl.cast (Own.slSub ho1 ho1.lt 4 16) (by rfl)) (by first | exact Nat.le_refl _ | omega)) iL_one 21 (by omega) (by simp only [maxLen]; omega) (by omega) (by omega) ?_ ?_
          · intro w1 hs1; exact Step.mono hs1 (by intro i hi; (try simp only at hi ⊢); omega)
          intro A9 c9 w51 hr13 hg9
          replace hr13 : Rw w51 g2 5 A9 21 c9 (iL .u8 ((((((List.replicate 5 0).set 4 (IntKind.wrap .u8 (o.tg.fdiv (2 ^ 0)))).set 3 (IntKind.wrap .u8 (o.tg.fdiv (2 ^ 8)))).set 2 (IntKind.wrap .u8 (o.tg.fdiv (2 ^ 16)))).set 1 (IntKind.wrap .u8 (o.tg.fdiv (2 ^ 24)))) ++ (lp o.p))) := Rw.cast hr13 rfl (by simp only [iL, List.map_append, List.map_cons, List.map_nil, List.append_assoc, List.cons_append, List.nil_append, List.append_nil])
          have hzhg9 := hg9.size
          replace hS := Step.transNew hS hg9 (fun i hi hG => by (try simp only at hG); omega)
          replace ho1 := ho1.step hg9 (by (try simp only); omega)
          replace hbase4 := Nat.le_trans hbase4 (hg9).size
          replace hglg2 := Nat.lt_of_lt_of_le hglg2 (hg9).size
          refine VT_end ?_
          intro w52 hs18
          replace hS := Step.trans hS hs18
          replace ho1 := ho1.no hs18
          replace hbase4 := Nat.le_trans hbase4 (hs18).size
          replace hglg2 := Nat.lt_of_lt_of_le hglg2 (hs18).size
          replace hr13 := hr13.no hs18
          refine VL_keep [42, 40] [(42, .slice (some ⟨b1, 20, none⟩) 16 16), (40, .slice A9 21 c9)] (by kernel_rfl) ?_
          have hzs21 := hS.size
          have hzl22 := ho1.lt
          have hzk15 := hbase4
          have hzk16 := hglg2
          refine VL_appendS (d := 43) (e := 5) (A := A9) (m := 21) (c := c9) (A2 := (some ⟨b1, 20, none⟩)) (m2 := 16) (c2 := 16) (bytes := 1) (by kernel_rfl) (by kernel_rfl) (by kernel_rfl) g2 w52.heap.size (iL .u8 ((((((List.replicate 5 0).set 4 (IntKind.wrap .u8 (o.tg.fdiv (2 ^ 0)))).set 3 (IntKind.wrap .u8 (o.tg.fdiv (2 ^ 8)))).set 2 (IntKind.wrap .u8 (o.tg.fdiv (2 ^ 16)))).set 1 (IntKind.wrap .u8 (o.tg.fdiv (2 ^ 24)))) ++ (lp o.p))) (iL .u8 (lp o.s)) hr13 (by rw [iL_length]; exact (by rfl)) (Sl.mono (Sl.cast (Own.slSub ho1 ho1.lt 20 16) (by rfl)) (by first | exact Nat.le_refl _ | omega)) iL_one 37 (by omega) (by simp only [maxLen]; omega) (by omega) (by omega) ?_
          intro A10 c10 w53 hr14 hg10
          replace hr14 : Rw w53 g2 5 A10 37 c10 (iL .u8 ((((((List.replicate 5 0).set 4 (IntKind.wrap .u8 (o.tg.fdiv (2 ^ 0)))).set 3 (IntKind.wrap .u8 (o.tg.fdiv (2 ^ 8)))).set 2 (IntKind.wrap .u8 (o.tg.fdiv (2 ^ 16)))).set 1 (IntKind.wrap .u8 (o.tg.fdiv (2 ^ 24)))) ++ (lp o.p) ++ (lp o.s))) := Rw.cast hr14 rfl (by simp only [iL, List.map_append, List.map_cons, List.map_nil, List.append_assoc, List.cons_append, List.nil_append, List.append_nil])
          have hzhg10 := hg10.size
          replace hS := Step.transNew hS hg10 (fun i hi hG => by (try simp only at hG); omega)
          replace ho1 := ho1.step hg10 (by (try simp only); omega)
          replace hbase4 := Nat.le_trans hbase4 (hg10).size
          replace hglg2 := Nat.lt_of_lt_of_le hglg2 (hg10).size
          refine VL_pure 8 [3] [(3, .slice A10 37 c10)] (by kernel_rfl) rfl ?_
          refine VL_end (by kernel_rfl) ?_
          refine VQ_block_normal ?_
          refine VQ_next ?_
          refine VC_seq ?_
          refine VC_region ?_
          refine VL_pure 2 [2] [(2, .slice A10 37 c10)] (by kernel_rfl) rfl ?_
          refine VL_end (by kernel_rfl) ?_
          refine VQ_next ?_
          refine VC_ret ?_
          refine VQ_ret1 (.slice A10 37 c10) (.inr rfl) rfl rfl ?_
          exact ⟨_, _, by rw [has_len8 (by omega)], Rw.low (Rw.cast hr14 (has_len8 (by omega)).symm (by rw [has_8 (by omega)]; simp [iL, tagB, *])) (by omega), hS⟩
      · refine VC_skip ?_
        refine VQ_block_normal ?_
        refine VQ_next ?_
        refine VC_seq ?_
        refine VC_region ?_
        refine VL_pure 2 [2] [(2, .slice none 0 0)] (by kernel_rfl) rfl ?_
        refine VL_end (by kernel_rfl) ?_
        refine VQ_next ?_
        refine VC_ret ?_
        refine VQ_ret1 (.slice none 0 0) (.inr rfl) rfl rfl ?_
        exact ⟨none, 0, by rw [has_no (by omega) (by omega)]; rfl, by rw [has_no (by omega) (by omega)]; exact Rw.nil _ _ _, hS⟩

set_option maxRecDepth 100000 in
set_option maxHeartbeats 4000000 in
theorem pack_any (o : Om) (w : World) :
    CV Try.prog 10 #[.agg #[.int .i64 o.k, .int .u8 o.d, .bool o.a, .int .u32 o.tg, .int .u8 (o.p 0), .int .u8 (o.p 1), .int .u8 (o.p 2), .int .u8 (o.p 3), .int .u8 (o.p 4), .int .u8 (o.p 5), .int .u8 (o.p 6), .int .u8 (o.p 7), .int .u8 (o.p 8), .int .u8 (o.p 9), .int .u8 (o.p 10), .int .u8 (o.p 11), .int .u8 (o.p 12), .int .u8 (o.p 13), .int .u8 (o.p 14), .int .u8 (o.p 15), .int .u8 (o.s 0), .int .u8 (o.s 1), .int .u8 (o.s 2), .int .u8 (o.s 3), .int .u8 (o.s 4), .int .u8 (o.s 5), .int .u8 (o.s 6), .int .u8 (o.s 7), .int .u8 (o.s 8), .int .u8 (o.s 9), .int .u8 (o.s 10), .int .u8 (o.s 11), .int .u8 (o.s 12), .int .u8 (o.s 13), .int .u8 (o.s 14), .int .u8 (o.s 15)]] w (fun x w1 => x = .tuple #[.agg (iA .u8 (packV o)), .int .i64 (packE o)] ∧ Step No w w1) := by
  have hS : Step No w w := Step.refl _ _
  have hle := has_le o
  refine CV_enter Try.f10 _ 36 [(0, .agg #[.int .i64 o.k, .int .u8 o.d, .bool o.a, .int .u32 o.tg, .int .u8 (o.p 0), .int .u8 (o.p 1), .int .u8 (o.p 2), .int .u8 (o.p 3), .int .u8 (o.p 4), .int .u8 (o.p 5), .int .u8 (o.p 6), .int .u8 (o.p 7), .int .u8 (o.p 8), .int .u8 (o.p 9), .int .u8 (o.p 10), .int .u8 (o.p 11), .int .u8 (o.p 12), .int .u8 (o.p 13), .int .u8 (o.p 14), .int .u8 (o.p 15), .int .u8 (o.s 0), .int .u8 (o.s 1), .int .u8 (o.s 2), .int .u8 (o.s 3), .int .u8 (o.s 4), .int .u8 (o.s 5), .int .u8 (o.s 6), .int .u8 (o.s 7), .int .u8 (o.s 8), .int .u8 (o.s 9), .int .u8 (o.s 10), .int .u8 (o.s 11), .int .u8 (o.s 12), .int .u8 (o.s 13), .int .u8 (o.s 14), .int .u8 (o.s 15)])] Try.func10 rfl rfl (by kernel_rfl) rfl ?_
  refine VC_seq ?_
  refine VC_region ?_
  have hzs1 := hS.size
  refine VL_box (d := 1) (t := 31) (c := #[.int .i64 o.k, .int .u8 o.d, .bool o.a, .int .u32 o.tg, .int .u8 (o.p 0), .int .u8 (o.p 1), .int .u8 (o.p 2), .int .u8 (o.p 3), .int .u8 (o.p 4), .int .u8 (o.p 5), .int .u8 (o.p 6), .int .u8 (o.p 7), .int .u8 (o.p 8), .int .u8 (o.p 9), .int .u8 (o.p 10), .int .u8 (o.p 11), .int .u8 (o.p 12), .int .u8 (o.p 13), .int .u8 (o.p 14), .int .u8 (o.p 15), .int .u8 (o.s 0), .int .u8 (o.s 1), .int .u8 (o.s 2), .int .u8 (o.s 3), .int .u8 (o.s 4), .int .u8 (o.s 5), .int .u8 (o.s 6), .int .u8 (o.s 7), .int .u8 (o.s 8), .int .u8 (o.s 9), .int .u8 (o.s 10), .int .u8 (o.s 11), .int .u8 (o.s 12), .int .u8 (o.s 13), .int .u8 (o.s 14), .int .u8 (o.s 15)]) (by kernel_rfl) (by kernel_rfl) ?_
  intro b1 w1 hn1
  replace hS := Step.trans hS (hn1.step No)
  have ho1 := hn1.own
  have hzhn1 := hn1.size
  have hqhn1 := hn1.eqb
  have hzs2 := hS.size
  have hzl1 := ho1.lt
  have hzs3 := hS.size
  have hzl2 := ho1.lt
  refine VL_box (d := 2) (t := 26) (c := iA .u8 (List.replicate 48 0)) (by kernel_rfl) (by kernel_rfl) ?_
  intro b2 w2 hn2
  replace hS := Step.trans hS (hn2.step No)
  replace ho1 := ho1.no (hn2.step No)
  have ho2 := hn2.own
  have hzhn2 := hn2.size
  have hqhn2 := hn2.eqb
  refine VL_pure 3 [1, 2] [(1, .pointer (some ⟨b1, 0, none⟩)), (2, .pointer (some ⟨b2, 0, none⟩))] (by kernel_rfl) rfl ?_
  refine VL_end (by kernel_rfl) ?_
  refine VQ_next ?_
  refine VC_seq ?_
  refine VC_region ?_
  have hzs4 := hS.size
  have hzl3 := ho1.lt
  have hzl4 := ho2.lt
  have hzs5 := hS.size
  have hzl5 := ho1.lt
  have hzl6 := ho2.lt
  refine VL_box (d := 4) (t := 26) (c := iA .u8 (List.replicate 48 0)) (by kernel_rfl) (by kernel_rfl) ?_
  intro b3 w3 hn3
  replace hS := Step.trans hS (hn3.step No)
  replace ho1 := ho1.no (hn3.step No)
  replace ho2 := ho2.no (hn3.step No)
  have ho3 := hn3.own
  have hzhn3 := hn3.size
  have hqhn3 := hn3.eqb
  refine VL_end (by kernel_rfl) ?_
  refine VQ_next ?_
  refine VC_seq ?_
  refine VC_seq ?_
  refine VC_region ?_
  refine VL_load (d := 7) (t := 31) (a := ⟨b1, 0, none⟩) (v := .agg #[.int .i64 o.k, .int .u8 o.d, .bool o.a, .int .u32 o.tg, .int .u8 (o.p 0), .int .u8 (o.p 1), .int .u8 (o.p 2), .int .u8 (o.p 3), .int .u8 (o.p 4), .int .u8 (o.p 5), .int .u8 (o.p 6), .int .u8 (o.p 7), .int .u8 (o.p 8), .int .u8 (o.p 9), .int .u8 (o.p 10), .int .u8 (o.p 11), .int .u8 (o.p 12), .int .u8 (o.p 13), .int .u8 (o.p 14), .int .u8 (o.p 15), .int .u8 (o.s 0), .int .u8 (o.s 1), .int .u8 (o.s 2), .int .u8 (o.s 3), .int .u8 (o.s 4), .int .u8 (o.s 5), .int .u8 (o.s 6), .int .u8 (o.s 7), .int .u8 (o.s 8), .int .u8 (o.s 9), .int .u8 (o.s 10), .int .u8 (o.s 11), .int .u8 (o.s 12), .int .u8 (o.s 13), .int .u8 (o.s 14), .int .u8 (o.s 15)]) (by kernel_rfl) (by kernel_rfl) (Loads.ownL ho1 (n := 36) (by kernel_rfl) (by kernel_rfl) (by kernel_rfl)) ?_
  have hzs6 := hS.size
  have hzl7 := ho1.lt
  have hzl8 := ho2.lt
  have hzl9 := ho3.lt
  refine VL_call (d := 8) (f := 14) (by kernel_rfl) (by kernel_rfl) (by kernel_rfl) Try.call14 (right_any o _) ?_
  rintro _ w4 ⟨rfl, hc1⟩
  replace hS := Step.trans hS hc1
  replace ho1 := ho1.no hc1
  replace ho2 := ho2.no hc1
  replace ho3 := ho3.no hc1
  refine VL_pure 3 [1, 2, 4, 9] [(1, .pointer (some ⟨b1, 0, none⟩)), (2, .pointer (some ⟨b2, 0, none⟩)), (4, .pointer (some ⟨b3, 0, none⟩)), (9, .bool (!(rightO o)))] (by kernel_rfl) rfl ?_
  refine VL_end (by kernel_rfl) ?_
  refine VQ_next ?_
  refine VC_cond (!(rightO o)) (by kernel_rfl) (fun h1 => ?_) (fun h1 => ?_)
  · try simp only [Bool.and_eq_true, Bool.or_eq_true, decide_eq_true_eq, Bool.not_eq_true', decide_eq_false_iff_not, Bool.and_eq_false_iff, Bool.or_eq_false_iff, beq_iff_eq, bne_iff_ne, beq_eq_false_iff_ne, bne_eq_false_iff_eq, Bool.not_eq_eq_eq_not, Bool.not_true, Bool.not_false] at h1
    refine VC_seq ?_
    refine VC_region ?_
    refine VL_load (d := 10) (t := 26) (a := ⟨b3, 0, none⟩) (v := .agg (iA .u8 (List.replicate 48 0))) (by kernel_rfl) (by kernel_rfl) (Loads.arr (N := 48) ho3 (by kernel_rfl) (by (try simp only [List.length_set, List.length_append, List.length_map, List.length_replicate, List.length_cons, List.length_nil, List.length_take, List.length_drop, List.length_range]) <;> omega)) ?_
    refine VL_storeA (b := b2) (sz := 48) (k := .u8) (bs := List.replicate 48 0) (by kernel_rfl) (by kernel_rfl) (by first | rw [sealL_len, preL_len] | simp) ho2 (iA_size.trans (by (try simp only [List.length_set, List.length_append, List.length_map, List.length_replicate, List.length_cons, List.length_nil, List.length_take, List.length_drop, List.length_range]) <;> omega)) ?_
    intro w5 hw1
    replace hS := Step.transNew hS hw1.step (fun _ _ _ => by omega)
    replace ho1 := ho1.step hw1.step (show ¬ b1 = b2 by omega)
    replace ho3 := ho3.step hw1.step (show ¬ b3 = b2 by omega)
    have ho4 := hw1.own
    have hzhw1 := hw1.same
    refine VL_pure 3 [2, 3] [(2, .pointer (some ⟨b2, 0, none⟩)), (3, .int .i64 1)] (by kernel_rfl) rfl ?_
    refine VL_end (by kernel_rfl) ?_
    refine VQ_next ?_
    refine VC_ret ?_
    refine VQ_then_ret ?_
    refine VQ_retC1T1 (T := 26) (.agg (iA .u8 (List.replicate 48 0))) (.int .i64 1) (.inr rfl) rfl rfl rfl (Loads.arr (N := 48) ho4 (by kernel_rfl) (by first | rw [sealL_len, preL_len] | simp)) ?_
    exact ⟨by unfold packV packE; (rw [if_neg (by simp_all), if_neg (by simp_all)] <;> rfl), hS⟩
  · try simp only [Bool.and_eq_true, Bool.or_eq_true, decide_eq_true_eq, Bool.not_eq_true', decide_eq_false_iff_not, Bool.and_eq_false_iff, Bool.or_eq_false_iff, beq_iff_eq, bne_iff_ne, beq_eq_false_iff_ne, bne_eq_false_iff_eq, Bool.not_eq_eq_eq_not, Bool.not_true, Bool.not_false] at h1
    refine VC_skip ?_
    refine VQ_next ?_
    refine VC_seq ?_
    refine VC_region ?_
    refine VL_pure 1 [1, 2, 4, 11] [(1, .pointer (some ⟨b1, 0, none⟩)), (2, .pointer (some ⟨b2, 0, none⟩)), (4, .pointer (some ⟨b3, 0, none⟩)), (11, .pointer (some ⟨b1, 0, none⟩))] (by kernel_rfl) rfl ?_
    refine VL_load (d := 12) (t := 3) (a := ⟨b1, 0, none⟩) (v := .int .i64 o.k) (by kernel_rfl) (by kernel_rfl) (Loads.own1 ho1 (by kernel_rfl) (by rfl)) ?_
    refine VL_pure 4 [1, 2, 4, 14] [(1, .pointer (some ⟨b1, 0, none⟩)), (2, .pointer (some ⟨b2, 0, none⟩)), (4, .pointer (some ⟨b3, 0, none⟩)), (14, .int .u8 (IntKind.wrap .u8 (16 + (IntKind.wrap .u8 o.k))))] (by kernel_rfl) rfl ?_
    refine VL_index (d := 15) (b := b3) (o := 0) (len := 48) (sz := 1) (m := 0) (by kernel_rfl) (by kernel_rfl) 0 (by rfl) (by omega) 0 (by omega) ?_
    refine VL_store (b := b3) (o := 0) (vs := [.int .u8 (IntKind.wrap .u8 (16 + (IntKind.wrap .u8 o.k)))]) (by kernel_rfl) (by kernel_rfl) ho3 (by simp only [iA_size, List.length_singleton]; exact (by first | (rw [preI_len _ _ (by omega)]; omega) | (simp only [List.length_replicate, List.length_set]; omega) | simp)) ?_
    intro w6 hw2
    replace hS := Step.transNew hS hw2.step (fun _ _ _ => by omega)
    replace ho1 := ho1.step hw2.step (show ¬ b1 = b3 by omega)
    replace ho2 := ho2.step hw2.step (show ¬ b2 = b3 by omega)
    have ho5 := Own.cast hw2.own (iA_set 0 (IntKind.wrap .u8 (16 + (IntKind.wrap .u8 o.k))) (by first | (rw [preI_len _ _ (by omega)]; omega) | (simp only [List.length_replicate, List.length_set]; omega) | simp))
    have hzhw2 := hw2.same
    refine VL_end (by kernel_rfl) ?_
    refine VQ_next ?_
    refine VC_seq ?_
    refine VC_region ?_
    refine VL_load (d := 16) (t := 31) (a := ⟨b1, 0, none⟩) (v := .agg #[.int .i64 o.k, .int .u8 o.d, .bool o.a, .int .u32 o.tg, .int .u8 (o.p 0), .int .u8 (o.p 1), .int .u8 (o.p 2), .int .u8 (o.p 3), .int .u8 (o.p 4), .int .u8 (o.p 5), .int .u8 (o.p 6), .int .u8 (o.p 7), .int .u8 (o.p 8), .int .u8 (o.p 9), .int .u8 (o.p 10), .int .u8 (o.p 11), .int .u8 (o.p 12), .int .u8 (o.p 13), .int .u8 (o.p 14), .int .u8 (o.p 15), .int .u8 (o.s 0), .int .u8 (o.s 1), .int .u8 (o.s 2), .int .u8 (o.s 3), .int .u8 (o.s 4), .int .u8 (o.s 5), .int .u8 (o.s 6), .int .u8 (o.s 7), .int .u8 (o.s 8), .int .u8 (o.s 9), .int .u8 (o.s 10), .int .u8 (o.s 11), .int .u8 (o.s 12), .int .u8 (o.s 13), .int .u8 (o.s 14), .int .u8 (o.s 15)]) (by kernel_rfl) (by kernel_rfl) (Loads.ownL ho1 (n := 36) (by kernel_rfl) (by kernel_rfl) (by kernel_rfl)) ?_
    have hzs7 := hS.size
    have hzl10 := ho1.lt
    have hzl11 := ho2.lt
    have hzl12 := ho5.lt
    refine VL_call (d := 17) (f := 21) (by kernel_rfl) (by kernel_rfl) (by kernel_rfl) Try.call21 (has_any o _) ?_
    rintro _ w7 ⟨A1, c1, rfl, hr1, hc2⟩
    replace hS := Step.trans hS hc2
    replace ho1 := ho1.no hc2
    replace ho2 := ho2.no hc2
    replace ho5 := ho5.no hc2
    obtain ⟨base1, hbase1E⟩ : ∃ x, x = w6.heap.size := ⟨_, rfl⟩
    rw [← hbase1E] at hr1
    have hbase1 : base1 ≤ w7.heap.size := by rw [hbase1E]; exact hc2.size
    refine VL_pure 3 [2, 4, 5] [(2, .pointer (some ⟨b2, 0, none⟩)), (4, .pointer (some ⟨b3, 0, none⟩)), (5, .slice A1 ((hasL o).length) c1)] (by kernel_rfl) rfl ?_
    refine VL_end (by kernel_rfl) ?_
    refine VQ_next ?_
    refine VC_seq ?_
    refine VC_region ?_
    refine VL_pure 2 [2, 4, 5, 18, 19] [(2, .pointer (some ⟨b2, 0, none⟩)), (4, .pointer (some ⟨b3, 0, none⟩)), (5, .slice A1 ((hasL o).length) c1), (18, .slice (some ⟨b3, 1, none⟩) 47 47), (19, .slice A1 ((hasL o).length) c1)] (by kernel_rfl) rfl ?_
    refine VL_copyA (d := 20) (b := b3) (o := 1) (dl := 47) (A2 := A1) (sl := ((hasL o).length)) (k := .u8) (bs := ((List.replicate 48 0).set 0 (IntKind.wrap .u8 (16 + (IntKind.wrap .u8 o.k))))) (vs := (hasL o)) (by kernel_rfl) (by kernel_rfl) (Rw.lenI hr1) (by omega) (Rw.slI hr1) ho5 (by simp only [List.length_replicate, List.length_set]; omega) ?_
    intro w8 hw3
    replace hS := Step.transNew hS hw3.step (fun _ _ _ => by omega)
    replace ho1 := ho1.step hw3.step (show ¬ b1 = b3 by omega)
    replace ho2 := ho2.step hw3.step (show ¬ b2 = b3 by omega)
    replace hbase1 := Nat.le_trans hbase1 (hw3.step).size
    replace hr1 := hr1.step hw3.step (fun k hk (hF : k = b3) => by omega)
    have ho6 := hw3.own
    have hzhw3 := hw3.same
    refine VL_end (by kernel_rfl) ?_
    refine VQ_next ?_
    refine VC_seq ?_
    refine VC_seq ?_
    refine VC_region ?_
    refine VL_pure 3 [2, 4, 5, 23] [(2, .pointer (some ⟨b2, 0, none⟩)), (4, .pointer (some ⟨b3, 0, none⟩)), (5, .slice A1 ((hasL o).length) c1), (23, .int .i64 (IntKind.wrap .i64 (45 - (((hasL o).length : Nat) : Int))))] (by kernel_rfl) rfl ?_
    have he1 : IntKind.wrap .i64 (45 - (((hasL o).length : Nat) : Int)) = ((45 - ((hasL o).length) : Nat) : Int) := (by rw [wrap_i64 _ (by omega) (by omega)]; omega)
    refine VL_eq [(2, .pointer (some ⟨b2, 0, none⟩)), (4, .pointer (some ⟨b3, 0, none⟩)), (5, .slice A1 ((hasL o).length) c1), (23, .int .i64 ((45 - ((hasL o).length) : Nat) : Int))] (by rw [he1]) ?_
    refine VL_pure 4 [2, 4, 5, 23, 24] [(2, .pointer (some ⟨b2, 0, none⟩)), (4, .pointer (some ⟨b3, 0, none⟩)), (5, .slice A1 ((hasL o).length) c1), (23, .int .i64 ((45 - ((hasL o).length) : Nat) : Int)), (24, .int .i64 0)] (by kernel_rfl) rfl ?_
    refine VL_end (by kernel_rfl) ?_
    refine VQ_next ?_
    refine VC_block ?_
    refine VC_loop (σ := Nat) (fun σs => [(2, .pointer (some ⟨b2, 0, none⟩)), (4, .pointer (some ⟨b3, 0, none⟩)), (5, .slice A1 ((hasL o).length) c1), (23, .int .i64 ((45 - ((hasL o).length) : Nat) : Int)), (24, .int .i64 ((σs : Nat) : Int))]) (fun σs w9 => (σs ≤ 45 - (hasL o).length) ∧ (Step No w w9) ∧ (Own w9 b1 #[.int .i64 o.k, .int .u8 o.d, .bool o.a, .int .u32 o.tg, .int .u8 (o.p 0), .int .u8 (o.p 1), .int .u8 (o.p 2), .int .u8 (o.p 3), .int .u8 (o.p 4), .int .u8 (o.p 5), .int .u8 (o.p 6), .int .u8 (o.p 7), .int .u8 (o.p 8), .int .u8 (o.p 9), .int .u8 (o.p 10), .int .u8 (o.p 11), .int .u8 (o.p 12), .int .u8 (o.p 13), .int .u8 (o.p 14), .int .u8 (o.p 15), .int .u8 (o.s 0), .int .u8 (o.s 1), .int .u8 (o.s 2), .int .u8 (o.s 3), .int .u8 (o.s 4), .int .u8 (o.s 5), .int .u8 (o.s 6), .int .u8 (o.s 7), .int .u8 (o.s 8), .int .u8 (o.s 9), .int .u8 (o.s 10), .int .u8 (o.s 11), .int .u8 (o.s 12), .int .u8 (o.s 13), .int .u8 (o.s 14), .int .u8 (o.s 15)] 31) ∧ (Own w9 b2 (iA .u8 (List.replicate 48 0)) 26) ∧ (base1 ≤ w9.heap.size) ∧ (Rw w9 base1 5 A1 ((hasL o).length) c1 (iL .u8 (hasL o))) ∧ (Own w9 b3 (iA .u8 (preI o σs)) 26)) (fun σs w9 => 45 - (hasL o).length - σs) 0 ⟨rfl, rfl, rfl, rfl, rfl, trivial⟩ ?_ ?_
    · exact ⟨Nat.zero_le _, hS, ho1, ho2, hbase1, hr1, (Own.cast ho6 (by rw [preI_0]))⟩
    rintro i w9 ⟨hi, hS, ho1, ho2, hbase1, hr1, ho7⟩
    try dsimp only at hi hS ho1 ho2 hbase1 hr1 ho7 ⊢
    refine VC_seq ?_
    refine VC_region ?_
    refine VL_pure 1 [2, 4, 5, 23, 24, 25] [(2, .pointer (some ⟨b2, 0, none⟩)), (4, .pointer (some ⟨b3, 0, none⟩)), (5, .slice A1 ((hasL o).length) c1), (23, .int .i64 ((45 - ((hasL o).length) : Nat) : Int)), (24, .int .i64 ((i : Nat) : Int)), (25, .bool (decide (((i : Nat) : Int) < ((45 - ((hasL o).length) : Nat) : Int))))] (by kernel_rfl) rfl ?_
    refine VL_end (by kernel_rfl) ?_
    refine VQ_next ?_
    refine VC_seq ?_
    refine VC_dec (((i : Nat) : Int) < ((45 - ((hasL o).length) : Nat) : Int)) (by kernel_rfl) (fun h2 => ?_) (fun h2 => ?_)
    · refine VC_skip ?_
      refine VQ_next ?_
      refine VC_seq ?_
      refine VC_block ?_
      refine VC_seq ?_
      refine VC_region ?_
      refine VL_pure 2 [2, 4, 5, 23, 24, 6] [(2, .pointer (some ⟨b2, 0, none⟩)), (4, .pointer (some ⟨b3, 0, none⟩)), (5, .slice A1 ((hasL o).length) c1), (23, .int .i64 ((45 - ((hasL o).length) : Nat) : Int)), (24, .int .i64 ((i : Nat) : Int)), (6, .int .i64 ((i : Nat) : Int))] (by kernel_rfl) rfl ?_
      refine VL_end (by kernel_rfl) ?_
      refine VQ_next ?_
      refine VC_region ?_
      refine VL_pure 3 [2, 4, 5, 23, 24, 6, 29] [(2, .pointer (some ⟨b2, 0, none⟩)), (4, .pointer (some ⟨b3, 0, none⟩)), (5, .slice A1 ((hasL o).length) c1), (23, .int .i64 ((45 - ((hasL o).length) : Nat) : Int)), (24, .int .i64 ((i : Nat) : Int)), (6, .int .i64 ((i : Nat) : Int)), (29, .int .i64 (IntKind.wrap .i64 (1 + (((hasL o).length : Nat) : Int))))] (by kernel_rfl) rfl ?_
      have he2 : IntKind.wrap .i64 (1 + (((hasL o).length : Nat) : Int)) = (((hasL o).length + 1 : Nat) : Int) := (by rw [wrap_i64 _ (by omega) (by omega)]; omega)
      refine VL_eq [(2, .pointer (some ⟨b2, 0, none⟩)), (4, .pointer (some ⟨b3, 0, none⟩)), (5, .slice A1 ((hasL o).length) c1), (23, .int .i64 ((45 - ((hasL o).length) : Nat) : Int)), (24, .int .i64 ((i : Nat) : Int)), (6, .int .i64 ((i : Nat) : Int)), (29, .int .i64 (((hasL o).length + 1 : Nat) : Int))] (by rw [he2]) ?_
      refine VL_pure 5 [2, 4, 5, 23, 24, 31] [(2, .pointer (some ⟨b2, 0, none⟩)), (4, .pointer (some ⟨b3, 0, none⟩)), (5, .slice A1 ((hasL o).length) c1), (23, .int .i64 ((45 - ((hasL o).length) : Nat) : Int)), (24, .int .i64 ((i : Nat) : Int)), (31, .int .i64 (IntKind.wrap .i64 ((((hasL o).length + 1 : Nat) : Int) + ((i : Nat) : Int))))] (by kernel_rfl) rfl ?_
      have he3 : IntKind.wrap .i64 ((((hasL o).length + 1 : Nat) : Int) + ((i : Nat) : Int)) = (((hasL o).length + 1 + i : Nat) : Int) := (by rw [wrap_i64 _ (by omega) (by omega)]; omega)
      refine VL_eq [(2, .pointer (some ⟨b2, 0, none⟩)), (4, .pointer (some ⟨b3, 0, none⟩)), (5, .slice A1 ((hasL o).length) c1), (23, .int .i64 ((45 - ((hasL o).length) : Nat) : Int)), (24, .int .i64 ((i : Nat) : Int)), (31, .int .i64 (((hasL o).length + 1 + i : Nat) : Int))] (by rw [he3]) ?_
      refine VL_index (d := 32) (b := b3) (o := 0) (len := 48) (sz := 1) (m := (((hasL o).length + 1 + i : Nat) : Int)) (by kernel_rfl) (by kernel_rfl) ((hasL o).length + 1 + i) (by rfl) (by omega) ((hasL o).length + 1 + i) (by omega) ?_
      refine VL_store (b := b3) (o := ((hasL o).length + 1 + i)) (vs := [.int .u8 106]) (by kernel_rfl) (by kernel_rfl) ho7 (by simp only [iA_size, List.length_singleton]; exact (by first | (rw [preI_len _ _ (by omega)]; omega) | (simp only [List.length_replicate, List.length_set]; omega) | simp)) ?_
      intro w10 hw4
      replace hS := Step.transNew hS hw4.step (fun _ _ _ => by omega)
      replace ho1 := ho1.step hw4.step (show ¬ b1 = b3 by omega)
      replace ho2 := ho2.step hw4.step (show ¬ b2 = b3 by omega)
      replace hbase1 := Nat.le_trans hbase1 (hw4.step).size
      replace hr1 := hr1.step hw4.step (fun k hk (hF : k = b3) => by omega)
      have ho8 := Own.cast hw4.own (iA_set ((hasL o).length + 1 + i) 106 (by first | (rw [preI_len _ _ (by omega)]; omega) | (simp only [List.length_replicate, List.length_set]; omega) | simp))
      have hzhw4 := hw4.same
      refine VL_end (by kernel_rfl) ?_
      refine VQ_block_normal ?_
      refine VQ_next ?_
      refine VC_region ?_
      refine VL_pure 1 [2, 4, 5, 23, 33] [(2, .pointer (some ⟨b2, 0, none⟩)), (4, .pointer (some ⟨b3, 0, none⟩)), (5, .slice A1 ((hasL o).length) c1), (23, .int .i64 ((45 - ((hasL o).length) : Nat) : Int)), (33, .int .i64 (IntKind.wrap .i64 (((i : Nat) : Int) + 1)))] (by kernel_rfl) rfl ?_
      have he4 : IntKind.wrap .i64 (((i : Nat) : Int) + 1) = ((i + 1 : Nat) : Int) := (by rw [wrap_i64 _ (by omega) (by omega)]; omega)
      refine VL_eq [(2, .pointer (some ⟨b2, 0, none⟩)), (4, .pointer (some ⟨b3, 0, none⟩)), (5, .slice A1 ((hasL o).length) c1), (23, .int .i64 ((45 - ((hasL o).length) : Nat) : Int)), (33, .int .i64 ((i + 1 : Nat) : Int))] (by rw [he4]) ?_
      refine VL_pure 2 [2, 4, 5, 23, 24] [(2, .pointer (some ⟨b2, 0, none⟩)), (4, .pointer (some ⟨b3, 0, none⟩)), (5, .slice A1 ((hasL o).length) c1), (23, .int .i64 ((45 - ((hasL o).length) : Nat) : Int)), (24, .int .i64 ((i + 1 : Nat) : Int))] (by kernel_rfl) rfl ?_
      refine VL_end (by kernel_rfl) ?_
      refine VQ_again (i + 1) ⟨rfl, rfl, rfl, rfl, rfl, trivial⟩ ?_ ?_
      · exact ⟨(by omega), hS, ho1, ho2, hbase1, hr1, (Own.cast ho8 (by rw [preI_succ _ _ (by omega)]))⟩
      · (try dsimp only); omega
    · refine VC_exit ?_
      refine VQ_then_exit ?_
      refine VQ_then_exit ?_
      refine VQ_block_hit ?_
      refine VQ_next ?_
      refine VC_seq ?_
      obtain rfl : i = 45 - (hasL o).length := by omega
      replace ho7 : Own w9 b3 (iA .u8 (preL o)) 26 := ho7
      refine VC_region ?_
      refine VL_load (d := 34) (t := 26) (a := ⟨b3, 0, none⟩) (v := .agg (iA .u8 (preL o))) (by kernel_rfl) (by kernel_rfl) (Loads.arr (N := 48) ho7 (by kernel_rfl) (preL_len _)) ?_
      have hzs8 := hS.size
      have hzl13 := ho1.lt
      have hzl14 := ho2.lt
      have hzl15 := ho7.lt
      refine VL_call (d := 35) (f := 18) (args := #[.agg (iA .u8 (preL o))]) (by kernel_rfl) (by kernel_rfl) (by kernel_rfl) Try.call18 (seal_any (preL o) _ (preL_len _)) ?_
      rintro _ w11 ⟨rfl, hc3⟩
      replace hS := Step.trans hS hc3
      replace ho1 := ho1.no hc3
      replace ho2 := ho2.no hc3
      replace hbase1 := Nat.le_trans hbase1 (hc3).size
      replace hr1 := hr1.no hc3
      replace ho7 := ho7.no hc3
      refine VL_storeA (b := b2) (sz := 48) (k := .u8) (bs := sealL (preL o)) (by kernel_rfl) (by kernel_rfl) (by first | rw [sealL_len, preL_len] | simp) ho2 (iA_size.trans (by (try simp only [List.length_set, List.length_append, List.length_map, List.length_replicate, List.length_cons, List.length_nil, List.length_take, List.length_drop, List.length_range]) <;> omega)) ?_
      intro w12 hw5
      replace hS := Step.transNew hS hw5.step (fun _ _ _ => by omega)
      replace ho1 := ho1.step hw5.step (show ¬ b1 = b2 by omega)
      replace hbase1 := Nat.le_trans hbase1 (hw5.step).size
      replace hr1 := hr1.step hw5.step (fun k hk (hF : k = b2) => by omega)
      replace ho7 := ho7.step hw5.step (show ¬ b3 = b2 by omega)
      have ho9 := hw5.own
      have hzhw5 := hw5.same
      refine VL_pure 4 [2, 3] [(2, .pointer (some ⟨b2, 0, none⟩)), (3, .int .i64 0)] (by kernel_rfl) rfl ?_
      refine VL_end (by kernel_rfl) ?_
      refine VQ_next ?_
      refine VC_ret ?_
      refine VQ_retC1T1 (T := 26) (.agg (iA .u8 (sealL (preL o)))) (.int .i64 0) (.inr rfl) rfl rfl rfl (Loads.arr (N := 48) ho9 (by kernel_rfl) (by first | rw [sealL_len, preL_len] | simp)) ?_
      exact ⟨by unfold packV packE; (rw [if_pos (by assumption), if_pos (by assumption)] <;> rfl), hS⟩

end Go.Proofs.Yteipakmfiiccpaa
