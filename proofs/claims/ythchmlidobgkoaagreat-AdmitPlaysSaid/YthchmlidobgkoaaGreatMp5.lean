import Derived.Test.YthchmlidobgkoaaGreatProg
import Derived.Test.YthchmlidobgkoaaGreatMp4
section
/- Layer 20: the document's contracts, costs, buckets. -/
set_option linter.unusedVariables false
set_option linter.unusedSimpArgs false
set_option maxRecDepth 100000
set_option maxHeartbeats 4000000
namespace Go.Proofs.YthchmlidobgkoaaGreat
open Go.Vc Go.RowKit
theorem TDa1aa {P : Prop} (h : P := by first | exact need_no (by assumption) | exact need_cbr (by assumption) (by assumption) | exact need_abr (by assumption) (by assumption) | exact need_vbr (by assumption) (by omega) | (exfalso; omega) | exact need_ubr (by assumption) (by omega) (by omega) (by omega) (by omega) (by omega)) : P := h
theorem TDa1ab {P : Prop} (h : P := by first | exact Eq.symm (by assumption) | exact right11 (by omega) (by omega) (by assumption) | exact right12 (from_none (by assumption))) : P := h
theorem TDa1ac {P : Prop} (h : P := by intro i hi; first | exact hi | exact ⟨_, by assumption, hi⟩ | (have hi9 : i = bk := hi; (first | show _ ∨ _ | show _ = _); omega)) : P := h
theorem TDa1ad {P : Prop} (h : P := by have h9 := hx.toBkI.max_le h1; have h8 := hx.step; have h7 := hx.zero; unfold Lv.take; rw [if_pos h1]; unfold takeB; rw [if_pos h1]; simp only; first | rw [lv_next (by assumption) h9.2 h8 hcl] | rw [lv_first (by first | exact h7 (by assumption) | exact h7 (by simp_all)) h8 hcl]) : P := h
theorem TDa1ae {P : Prop} (h : P := by unfold fitsB; simp only [*, Bool.not_false, Bool.not_true, Bool.true_or, Bool.false_or] <;> first | rfl | exact decide_eq_decide.2 (by omega)) : P := h

theorem from_w (n a b : Int) (w : World) :
  CV Tryz.prog 56 #[I6 n, I6 a, I6 b] w (fun x w1 => x = Bo (fromB n a b) ∧ w1 = w) := by
 refine VCe Tryz.func56 (Vrp (Vs (Vr (Vp 4 (Vand 10 14 8 [] (decide (n ≥ a)) (decide (n ≤ b)) (fun hg1 J1 => ?_) ?_)))))
 ·exact Vp 8 (Vk [14] J1)
 refine Ve (Vn (VC_ret (Vr1 (Bo ((decide (n ≥ a)) && (decide (n ≤ b)))) ?_)))
 exact ⟨congrArg Value.bool (by unfold fromB; first | rfl | simp [*]), rfl⟩

theorem from_ce (n a b : Int) : CE Tryz.prog 56 #[.int .i64 n, .int .i64 a, .int .i64 b] (.bool (fromB n a b)) := fun w => from_w n a b w
theorem dheld_w (t : Int) (w : World) :
  CV Tryz.prog 74 #[I6 t] w (fun x w1 => x = I6 (clT t) ∧ w1 = w) := by
 refine VCe Tryz.func74 (Vrp (Vrp (VC_ret (Vr1 (I6 (imax 0 (imin t 1152921504606846976))) ?_))))
 exact ⟨rfl, rfl⟩

theorem dheld_ce (t : Int) : CE Tryz.prog 74 #[.int .i64 t] (.int .i64 (clT t)) := fun w => dheld_w t w
theorem dright_any (c : Con) (w : World) :
  CV Tryz.prog 31 #[.agg #[I6 c.kind, I6 c.peak, I6 c.early, I6 c.whole, I6 c.burst, I6 c.least]] w (fun x w1 => x = I6 (rightC c) ∧ Step No w w1) := by
 have hS : Step No w w := Step.refl _ _
 refine VCe Tryz.func31 (Vs (Vr ?_))
 refine Vx 0 32 #[I6 c.kind, I6 c.peak, I6 c.early, I6 c.whole, I6 c.burst, I6 c.least] ?_
 intro b1 w1 hn1
 replace hS := Step.trans hS (hn1.step No)
 have ho1 := hn1.own
 refine Ve (Vn (Vs (Vs (Vr (Vl 1 ho1 ?_)))))
 refine Vc 2 Tryz.call56 ((from_ce c.kind 1 7) w1) ?_
 rintro _ w2 ⟨rfl, hc1⟩
 subst w2
 refine Ve (Vn (Vif (!(fromB c.kind 1 7)) (fun h1 => ?_) (fun h1 => ?_)))
 ·try simp only [BB] at h1
  refine Vrp (VC_ret (VQ_then_ret (Vr1 (I6 12) ?_)))
  exact ⟨congrArg (Value.int .i64) TDa1ab, hS⟩
 ·try simp only [BB] at h1
  refine VC_skip (Vn (Vs (Vr (Vl 1 ho1 (Vp 4 (Vor 12 16 8 [1] (c.kind == 2) (c.kind == 3) (fun hg1 J1 => ?_) ?_))))))
  ·refine Vl 5 ho1 ?_
   exact Vp 8 (Vk [16, 1] J1)
  refine Vp 9 (Vor 17 21 13 [1] ((c.kind == 2) || (c.kind == 3)) (c.kind == 4) (fun hg2 J2 => ?_) ?_)
  ·refine Vl 10 ho1 ?_
   exact Vp 13 (Vk [21, 1] J2)
  refine Ve (Vn (Vs (Vr (Vl 1 ho1 ?_))))
  refine Vc 2 Tryz.call56 ((from_ce c.peak 1 1099511627776) w1) ?_
  rintro _ w3 ⟨rfl, hc2⟩
  subst w3
  refine Vp 4 (Vand 25 29 8 [1, 3] (spanB c.peak 1) (spanB c.early 0) (fun hg3 J3 => ?_) ?_)
  ·refine Vl 5 ho1 ?_
   refine Vc 6 Tryz.call56 ((from_ce c.early 0 1099511627776) w1) ?_
   rintro _ w4 ⟨rfl, hc3⟩
   subst w4
   exact Vp 8 (Vk [29, 1, 3] J3)
  refine Ve (Vn (Vs (Vrp (Vif (((c.kind == 2) || (c.kind == 3)) || (c.kind == 4)) (fun h2 => ?_) (fun h2 => ?_)))))
  ·try simp only [BB] at h2
   refine Vr (Vp 2 (Vand 32 38 8 [1] ((spanB c.peak 1) && (spanB c.early 0)) (spanB c.whole c.peak) (fun hg4 J4 => ?_) ?_))
   ·refine Vl 3 ho1 (Vl 5 ho1 ?_)
    refine Vc 6 Tryz.call56 ((from_ce c.whole c.peak 1099511627776) w1) ?_
    rintro _ w5 ⟨rfl, hc4⟩
    subst w5
    exact Vp 8 (Vk [38, 1] J4)
   refine Vp 9 (Vand 39 43 13 [1] (((spanB c.peak 1) && (spanB c.early 0)) && (spanB c.whole c.peak)) (spanB c.burst 0) (fun hg5 J5 => ?_) ?_)
   ·refine Vl 10 ho1 ?_
    refine Vc 11 Tryz.call56 ((from_ce c.burst 0 1099511627776) w1) ?_
    rintro _ w6 ⟨rfl, hc5⟩
    subst w6
    exact Vp 13 (Vk [43, 1] J5)
   refine Ve (Vn (Vs (Vs (Vr (Vl 1 ho1 (Ve (Vn (Viz (b := c.kind == 5) (by rw [beq_eq_false_iff_ne]; omega) (Vr (Vp 2 (Vand 72 76 6 [] ((((spanB c.peak 1) && (spanB c.early 0)) && (spanB c.whole c.peak)) && (spanB c.burst 0)) (c.least == 0) (fun hg6 J6 => ?_) ?_)))))))))))
   ·refine Vl 3 ho1 ?_
    exact Vp 6 (Vk [76] J6)
   refine Ve (Vn (Vs (Vs ?_)))
   have hkk := from_kind (c := c) (by assumption)
   have hE : (((((spanB c.peak 1) && (spanB c.early 0)) && (spanB c.whole c.peak)) && (spanB c.burst 0)) && (c.least == 0)) = (rightC c == 0) := right_vbr (by omega)
   refine VqC 4 (Bo (((((spanB c.peak 1) && (spanB c.early 0)) && (spanB c.whole c.peak)) && (spanB c.burst 0)) && (c.least == 0))) (Bo ((rightC c) == 0)) (by rw [hE]) (Vr (Ve (Vn (Vif (!((rightC c) == 0)) (fun h3 => ?_) (fun h3 => ?_)))))
   ·try simp only [BB] at h3
    refine Vrp (VC_ret (VQ_then_ret (Vr1 (I6 11) ?_)))
    exact ⟨congrArg (Value.int .i64) TDa1ab, hS⟩
   ·try simp only [BB] at h3
    refine VC_skip (Vn (Vrp (VC_ret (Vr1 (I6 0) ?_))))
    exact ⟨congrArg (Value.int .i64) TDa1ab, hS⟩
  ·try simp only [BB] at h2
   refine Vr (Vp 2 (Vand 45 49 6 [1] ((spanB c.peak 1) && (spanB c.early 0)) (c.whole == 0) (fun hg7 J7 => ?_) ?_))
   ·refine Vl 3 ho1 ?_
    exact Vp 6 (Vk [49, 1] J7)
   refine Vp 7 (Vand 50 54 11 [1] (((spanB c.peak 1) && (spanB c.early 0)) && (c.whole == 0)) (c.burst == 0) (fun hg8 J8 => ?_) ?_)
   ·refine Vl 8 ho1 ?_
    exact Vp 11 (Vk [54, 1] J8)
   refine Ve (Vn (Vs (Vs (Vr (Vl 1 ho1 (Ve (Vn (Vie c.kind 5 (fun h4 => ?_) (fun h4 => ?_)))))))))
   ·refine Vr (Vp 2 (Vand 59 70 13 [] ((((spanB c.peak 1) && (spanB c.early 0)) && (c.whole == 0)) && (c.burst == 0)) ((c.least == 0) || (spanB c.least c.peak)) (fun hg9 J9 => ?_) ?_))
    ·refine Vl 3 ho1 (Vp 6 (Vor 63 69 12 [59] (c.least == 0) (spanB c.least c.peak) (fun hg10 J10 => ?_) ?_))
     ·refine Vl 7 ho1 (Vl 9 ho1 ?_)
      refine Vc 10 Tryz.call56 ((from_ce c.least c.peak 1099511627776) w1) ?_
      rintro _ w7 ⟨rfl, hc6⟩
      subst w7
      exact Vp 12 (Vk [69, 59] J10)
     exact Vp 13 (Vk [70] J9)
    refine Ve (Vn (Vs (Vs ?_)))
    have hE : (((((spanB c.peak 1) && (spanB c.early 0)) && (c.whole == 0)) && (c.burst == 0)) && ((c.least == 0) || (spanB c.least c.peak))) = (rightC c == 0) := right_abr (by omega)
    refine VqC 4 (Bo (((((spanB c.peak 1) && (spanB c.early 0)) && (c.whole == 0)) && (c.burst == 0)) && ((c.least == 0) || (spanB c.least c.peak)))) (Bo ((rightC c) == 0)) (by rw [hE]) (Vr (Ve (Vn (Vif (!((rightC c) == 0)) (fun h5 => ?_) (fun h5 => ?_)))))
    ·try simp only [BB] at h5
     refine Vrp (VC_ret (VQ_then_ret (Vr1 (I6 11) ?_)))
     exact ⟨congrArg (Value.int .i64) TDa1ab, hS⟩
    ·try simp only [BB] at h5
     refine VC_skip (Vn (Vrp (VC_ret (Vr1 (I6 0) ?_))))
     exact ⟨congrArg (Value.int .i64) TDa1ab, hS⟩
   ·refine Vr (Vp 2 (Vand 72 76 6 [] ((((spanB c.peak 1) && (spanB c.early 0)) && (c.whole == 0)) && (c.burst == 0)) (c.least == 0) (fun hg11 J11 => ?_) ?_))
    ·refine Vl 3 ho1 ?_
     exact Vp 6 (Vk [76] J11)
    refine Ve (Vn (Vs (Vs ?_)))
    have hkk := from_kind (c := c) (by assumption)
    have hE : (((((spanB c.peak 1) && (spanB c.early 0)) && (c.whole == 0)) && (c.burst == 0)) && (c.least == 0)) = (rightC c == 0) := right_cbr (by omega)
    refine VqC 4 (Bo (((((spanB c.peak 1) && (spanB c.early 0)) && (c.whole == 0)) && (c.burst == 0)) && (c.least == 0))) (Bo ((rightC c) == 0)) (by rw [hE]) (Vr (Ve (Vn (Vif (!((rightC c) == 0)) (fun h6 => ?_) (fun h6 => ?_)))))
    ·try simp only [BB] at h6
     refine Vrp (VC_ret (VQ_then_ret (Vr1 (I6 11) ?_)))
     exact ⟨congrArg (Value.int .i64) TDa1ab, hS⟩
    ·try simp only [BB] at h6
     refine VC_skip (Vn (Vrp (VC_ret (Vr1 (I6 0) ?_))))
     exact ⟨congrArg (Value.int .i64) TDa1ab, hS⟩

theorem dup_w (n b : Int) (g0 : 0 ≤ n) (g1 : n ≤ 2305843009213693952) (g2 : 1 ≤ b) (w : World) :
  CV Tryz.prog 58 #[I6 n, I6 b] w (fun x w1 => x = I6 (upC n b) ∧ w1 = w) := by
 have hq0 : n.tdiv b = n / b := Int.tdiv_eq_ediv_of_nonneg g0
 have hq1 : n.tmod b = n % b := Int.tmod_eq_emod_of_nonneg g0
 have hq2 : 0 ≤ n / b := Int.ediv_nonneg g0 (by omega)
 have hq3 : n / b ≤ n := Int.ediv_le_self b g0
 refine VCe Tryz.func58 (Vrp (Vs (Vs (Vr (VL_pure 2 [0, 1, 5, 6] [(0, I6 n), (1, I6 b), (5, I6 n), (6, I6 b)] (by kernel_rfl) rfl (VL_rem (d := 7) (k := .i64) (x := n) (y := b) (by kernel_rfl) (by kernel_rfl) (by omega) (Ve (Vn (Vid ((n.tmod b) > 0) (fun h1 => ?_) (fun h1 => ?_))))))))))
 ·refine Vs (Vr (VL_pure 2 [9, 10] [(9, I6 n), (10, I6 b)] (by kernel_rfl) rfl (VL_quo (d := 11) (k := .i64) (x := n) (y := b) (by kernel_rfl) (by kernel_rfl) (by omega) (Ve (Vn (VC_ret (VQ_then_ret (Vr1 (I6 (IntKind.wrap .i64 ((IntKind.wrap .i64 (n.tdiv b)) + 1))) ?_))))))))
  exact ⟨congrArg (Value.int .i64) (by rw [hq1] at h1; rw [upC_at g2, if_pos h1, hq0, wrap_i64 (n / b) (by omega) (by omega), wrap_i64 _ (by omega) (by omega)]), rfl⟩
 ·refine VC_skip (Vn (Vs (Vr (VL_pure 2 [13, 14] [(13, I6 n), (14, I6 b)] (by kernel_rfl) rfl (VL_quo (d := 15) (k := .i64) (x := n) (y := b) (by kernel_rfl) (by kernel_rfl) (by omega) (Ve (Vn (VC_ret (Vr1 (I6 (IntKind.wrap .i64 (n.tdiv b))) ?_)))))))))
  exact ⟨congrArg (Value.int .i64) (by rw [hq1] at h1; rw [upC_at g2, if_neg h1, hq0, wrap_i64 (n / b) (by omega) (by omega)]), rfl⟩

theorem dper_w (s : Int) (w : World) :
  CV Tryz.prog 57 #[I6 s] w (fun x w1 => x = I6 (perC s) ∧ w1 = w) := by
 refine VCe Tryz.func57 (Vrp (Vs (Vrp (Vid (s < 1) (fun h1 => ?_) (fun h1 => ?_)))))
 ·refine Vrp (VC_ret (VQ_then_ret (Vr1 (I6 0) ?_)))
  exact ⟨congrArg (Value.int .i64) (by unfold perC; rw [if_pos h1]), rfl⟩
 ·refine VC_skip (Vn (Vs (Vr (Vc 1 Tryz.call58 ((fun w9 => dup_w 1048576 s (by omega) (by omega) (by omega) w9) w) ?_))))
  rintro _ w1 ⟨rfl, hc1⟩
  subst w1
  refine Ve (Vn (VC_ret (Vr1 (I6 (upC 1048576 s)) ?_)))
  exact ⟨congrArg (Value.int .i64) (per_up h1), rfl⟩

theorem dper_ce (s : Int) : CE Tryz.prog 57 #[.int .i64 s] (.int .i64 (perC s)) := fun w => dper_w s w
theorem dup_ce {c : Con} (h1 : 0 ≤ perC c.whole * 4096 ∧ perC c.whole * 4096 ≤ 4294967296) (h2 : 0 ≤ perC c.peak * c.burst ∧ perC c.peak * c.burst ≤ 1152921504606846976) (h3 : 0 ≤ c.burst ∧ c.burst ≤ 1099511627776) : CE Tryz.prog 58 #[.int .i64 (IntKind.wrap .i64 (IntKind.wrap .i64 (perC c.whole * 4096) + IntKind.wrap .i64 (perC c.peak * c.burst))), .int .i64 (IntKind.wrap .i64 (c.burst + 4096))] (.int .i64 (upC (perC c.whole * 4096 + perC c.peak * c.burst) (c.burst + 4096))) := by
  intro w
  rw [num_eq h1 h2, bur_eq h3]
  exact dup_w _ _ (by omega) (by omega) (by omega) w
theorem dneed_any (c : Con) (w : World) :
  CV Tryz.prog 33 #[.agg #[I6 c.kind, I6 c.peak, I6 c.early, I6 c.whole, I6 c.burst, I6 c.least]] w (fun x w1 => x = I6 (needC c) ∧ Step No w w1) := by
 have hS : Step No w w := Step.refl _ _
 refine VCe Tryz.func33 (Vs (Vr ?_))
 refine Vx 0 32 #[I6 c.kind, I6 c.peak, I6 c.early, I6 c.whole, I6 c.burst, I6 c.least] ?_
 intro b1 w1 hn1
 replace hS := Step.trans hS (hn1.step No)
 have ho1 := hn1.own
 refine Ve (Vn (Vs (Vs (Vr (Vl 0 ho1 ?_)))))
 refine Vc 1 Tryz.call31 (dright_any c _) ?_
 rintro _ w2 ⟨rfl, hc1⟩
 replace hS := Step.trans hS hc1
 replace ho1 := ho1.no hc1
 refine Ve (Vn (Viu (rightC c) 0 (fun h1 => ?_) (fun h1 => ?_)))
 ·refine Vrp (VC_ret (VQ_then_ret (Vr1 (I6 0) ?_)))
  exact ⟨congrArg (Value.int .i64) TDa1aa, hS⟩
 ·refine VC_skip (Vn (Vs (Vs (Vr (Vl 1 ho1 (Ve (Vn (VC_block (Vrp (Vie c.kind 1 (fun h2 => ?_) (fun h2 => ?_)))))))))))
  ·refine Vs (Vr (Vl 1 ho1 ?_))
   refine Vc 2 Tryz.call57 ((dper_ce c.peak) w2) ?_
   rintro _ w3 ⟨rfl, hc2⟩
   subst w3
   refine Ve (Vn (VC_ret (VQ_block_ret (VQ_then_ret (Vr1 (I6 (perC c.peak)) ?_)))))
   exact ⟨congrArg (Value.int .i64) TDa1aa, hS⟩
  ·refine Vrp (Vie c.kind 5 (fun h3 => ?_) (fun h3 => ?_))
   ·refine Vs (Vr (Vl 1 ho1 ?_))
    refine Vc 2 Tryz.call57 ((dper_ce c.least) w2) ?_
    rintro _ w4 ⟨rfl, hc3⟩
    subst w4
    refine Ve (Vn (VC_ret (VQ_block_ret (VQ_then_ret (Vr1 (I6 (perC c.least)) ?_)))))
    exact ⟨congrArg (Value.int .i64) TDa1aa, hS⟩
   ·refine Vs (Vrp (Vie c.kind 6 (fun h4 => ?_) (fun h4 => ?_)))
    ·refine VC_skip (Vn (Vie c.kind 6 (fun h5 => ?_) (fun h5 => ?_)))
     ·refine Vrp (VC_ret (VQ_block_ret (VQ_then_ret (Vr1 (I6 0) ?_))))
      exact ⟨congrArg (Value.int .i64) TDa1aa, hS⟩
     ·refine VC_skip (VQ_block_normal (Vn (Vs ?_)))
      have hr0 : rightC c = 0 := by assumption
      have hk : c.kind = 2 ∨ c.kind = 3 ∨ c.kind = 4 := by omega
      obtain ⟨hn1, hn2, hn3⟩ := vbr_num hr0 hk
      refine Vd 14 [(1, I6 c.whole), (2, I6 (perC c.whole)), (5, I6 c.peak), (6, I6 (perC c.peak)), (8, I6 c.burst), (12, I6 c.burst)] [1, 2, 5, 6, 8, 12] ?_ ?_
      ·intro w5 hs1
       replace ho1 := ho1.no hs1
       exact ⟨Dl ho1, Dc Tryz.call57 ((dper_ce c.whole).no _), Dl ho1, Dc Tryz.call57 ((dper_ce c.peak).no _), Dl ho1, Dl ho1, trivial⟩
      intro w5 hs1
      replace hS := Step.trans hS hs1
      refine VL_keep [31, 34] [(31, I6 (IntKind.wrap .i64 ((IntKind.wrap .i64 ((perC c.whole) * 4096)) + (IntKind.wrap .i64 ((perC c.peak) * c.burst))))), (34, I6 (IntKind.wrap .i64 (c.burst + 4096)))] (by kernel_rfl) ?_
      refine Vc 14 Tryz.call58 ((dup_ce hn1 hn2 hn3) w5) ?_
      rintro _ w6 ⟨rfl, hc4⟩
      subst w6
      refine Ve (Vn (VC_ret (Vr1 (I6 (upC (perC c.whole * 4096 + perC c.peak * c.burst) (c.burst + 4096))) ?_)))
      exact ⟨congrArg (Value.int .i64) TDa1aa, hS⟩
    ·refine Vr (Ve (Vn (Vie c.kind 7 (fun h6 => ?_) (fun h6 => ?_))))
     ·refine Vrp (VC_ret (VQ_block_ret (VQ_then_ret (Vr1 (I6 0) ?_))))
      exact ⟨congrArg (Value.int .i64) TDa1aa, hS⟩
     ·refine VC_skip (VQ_block_normal (Vn (Vs ?_)))
      have hr0 : rightC c = 0 := by assumption
      have hkk := right_pe hr0
      have hk : c.kind = 2 ∨ c.kind = 3 ∨ c.kind = 4 := by omega
      obtain ⟨hn1, hn2, hn3⟩ := vbr_num hr0 hk
      refine Vd 14 [(1, I6 c.whole), (2, I6 (perC c.whole)), (5, I6 c.peak), (6, I6 (perC c.peak)), (8, I6 c.burst), (12, I6 c.burst)] [1, 2, 5, 6, 8, 12] ?_ ?_
      ·intro w7 hs2
       replace ho1 := ho1.no hs2
       exact ⟨Dl ho1, Dc Tryz.call57 ((dper_ce c.whole).no _), Dl ho1, Dc Tryz.call57 ((dper_ce c.peak).no _), Dl ho1, Dl ho1, trivial⟩
      intro w7 hs2
      replace hS := Step.trans hS hs2
      refine VL_keep [31, 34] [(31, I6 (IntKind.wrap .i64 ((IntKind.wrap .i64 ((perC c.whole) * 4096)) + (IntKind.wrap .i64 ((perC c.peak) * c.burst))))), (34, I6 (IntKind.wrap .i64 (c.burst + 4096)))] (by kernel_rfl) ?_
      refine Vc 14 Tryz.call58 ((dup_ce hn1 hn2 hn3) w7) ?_
      rintro _ w8 ⟨rfl, hc5⟩
      subst w8
      refine Ve (Vn (VC_ret (Vr1 (I6 (upC (perC c.whole * 4096 + perC c.peak * c.burst) (c.burst + 4096))) ?_)))
      exact ⟨congrArg (Value.int .i64) TDa1aa, hS⟩

theorem dbnew_any (s e : Int) (w : World) :
  CV Tryz.prog 62 #[I6 s, I6 e] w (fun x w1 => ∃ bk, x = Pt bk 0 ∧ w.heap.size ≤ bk ∧ Own w1 bk #[I6 (bkNew s e).step, I6 (bkNew s e).early, I6 ((bkNew s e).next - 0), I6 0, Bo (bkNew s e).any] 126 ∧ Step No w w1) := by
 have hS : Step No w w := Step.refl _ _
 refine VCe Tryz.func62 (Vrp (Vs (Vr (Vp 1 ?_))))
 refine Vc 1 Tryz.call74 ((dheld_ce s) w) ?_
 rintro _ w1 ⟨rfl, hc1⟩
 subst w1
 refine Vp 4 ?_
 refine Vc 4 Tryz.call74 ((dheld_ce e) w) ?_
 rintro _ w2 ⟨rfl, hc2⟩
 subst w2
 refine Vp 6 ?_
 refine Vx 6 126 #[I6 (imax 1 (clT s)), I6 (clT e), I6 0, I6 0, Bo false] ?_
 intro b1 w3 hn1
 replace hS := Step.trans hS (hn1.step No)
 have ho1 := hn1.own
 have hzhn1 := hn1.size
 have hqhn1 := hn1.eqb
 refine Ve (Vn (VC_ret (Vr1 (Pt b1 0) ?_)))
 exact ⟨b1, rfl, by omega, Own.cast ho1 (by rw [clT_one]; rfl), hS⟩

theorem dlevel_any (bk : Nat) (x : Lv) (t : Int) (w : World) (hx : LvI x) (ho : Own w bk #[I6 x.b.step, I6 x.b.early, I6 (x.b.next - x.at_), I6 x.at_, Bo x.b.any] 126) :
  CV Tryz.prog 77 #[Pt bk 0, I6 t] w (fun q w1 => q = I6 (x.b.next - clT t) ∧ Step No w w1) := by
 have hS : Step No w w := Step.refl _ _
 have hlo := hx.lo
 have hnx := hx.next
 have hcl := clT_le t
 refine VCe Tryz.func77 (Vrp (Vs (Vd 11 [(3, I6 (x.b.next - x.at_)), (5, I6 (clT t)), (9, I6 x.at_)] [3, 5, 9] ?_ ?_)))
 ·intro w1 hs1
  replace ho := ho.no hs1
  exact ⟨Dl ho, Dc Tryz.call74 ((dheld_ce t).no _), Dl ho, trivial⟩
 intro w1 hs1
 replace hS := Step.trans hS hs1
 refine Ve (Vn (VC_ret (Vr1 (I6 (IntKind.wrap .i64 ((x.b.next - x.at_) - (IntKind.wrap .i64 ((clT t) - x.at_))))) ?_)))
 exact ⟨congrArg (Value.int .i64) (by rw [wrap_i64 (clT t - x.at_) (by omega) (by omega), wrap_i64 _ (by omega) (by omega)]; omega), hS⟩

theorem dfits_any (bk : Nat) (x : Lv) (t : Int) (w : World) (hx : LvI x) (ho : Own w bk #[I6 x.b.step, I6 x.b.early, I6 (x.b.next - x.at_), I6 x.at_, Bo x.b.any] 126) :
  CV Tryz.prog 76 #[Pt bk 0, I6 t] w (fun q w1 => q = Bo (fitsB x.b t) ∧ Step No w w1) := by
 have hS : Step No w w := Step.refl _ _
 refine VCe Tryz.func76 (Vrp (Vs ?_))
 have hs1 := drew_step w
 have hs1z : w.heap.size = w.drew.heap.size := rfl
 refine Tx 13 (fun k => w.heap.size ≤ k) [8] [0, 1, 2, 3, 4, 5, 6, 7, 9, 10, 11, 12, 8] ?_
 have hzl1 := ho.lt
 generalize w.drew = w1 at hs1 hs1z ⊢
 replace hS := Step.trans hS hs1
 replace ho := ho.no hs1
 refine Tp 3 (Tl (fun w2 hr1 => ho.step hr1 (by (try simp only); omega)) (Tp 2 ?_))
 rcases Bool.eq_false_or_eq_true x.b.any with hg1 | hg1
 ·refine Tq [(5, Bo (!x.b.any)), (4, Bo (!x.b.any)), (3, Bo x.b.any)] [(5, Bo false), (4, Bo false), (3, Bo true)] (by simp only [hg1, Bool.not_true, Bool.not_false]) ?_
  try simp only [bne_iff_ne, beq_iff_eq, decide_eq_true_eq, decide_eq_false_iff_not, bne_eq_false_iff_eq, beq_eq_false_iff_ne, ne_eq] at hg1
  refine Tp 5 (Tl (fun w3 hr2 => ho.step hr2 (by (try simp only); omega)) (Th ?_))
  intro w4 hs2
  replace hS := Step.trans hS hs2
  replace ho := ho.no hs2
  refine Tc Tryz.call77 (dlevel_any bk x t _ hx ho) ?_ ?_
  ·rintro _ w5 ⟨rfl, hc1⟩
   exact Step.mono hc1 (by intro i hi; first | exact hi.elim | exact .inl hi | ((try simp only at hi ⊢); omega))
  rintro _ w5 ⟨rfl, hc1⟩
  replace hS := Step.trans hS hc1
  refine VT_end ?_
  intro w6 hs3
  replace hS := Step.trans hS hs3
  refine Ve (Vn (VC_ret (Vr1 (Bo (decide ((x.b.next - clT t) ≤ x.b.early))) ?_)))
  exact ⟨congrArg Value.bool TDa1ae, hS⟩
 ·refine Tq [(5, Bo (!x.b.any)), (4, Bo (!x.b.any)), (3, Bo x.b.any)] [(5, Bo true), (4, Bo true), (3, Bo false)] (by simp only [hg1, Bool.not_true, Bool.not_false]) ?_
  try simp only [bne_iff_ne, beq_iff_eq, decide_eq_true_eq, decide_eq_false_iff_not, bne_eq_false_iff_eq, beq_eq_false_iff_ne, ne_eq] at hg1
  refine Tp 7 (VT_end ?_)
  intro w7 hs4
  replace hS := Step.trans hS hs4
  refine Ve (Vn (VC_ret (Vr1 (Bo true) ?_)))
  exact ⟨congrArg Value.bool TDa1ae, hS⟩

theorem dbtake_any (bk : Nat) (x : Lv) (t : Int) (w : World) (hx : LvI x) (ho : Own w bk #[I6 x.b.step, I6 x.b.early, I6 (x.b.next - x.at_), I6 x.at_, Bo x.b.any] 126) :
  CV Tryz.prog 67 #[Pt bk 0, I6 t] w (fun q w1 => q = Bo (fitsB x.b t) ∧ Own w1 bk #[I6 (x.take t).b.step, I6 (x.take t).b.early, I6 ((x.take t).b.next - (x.take t).at_), I6 (x.take t).at_, Bo (x.take t).b.any] 126 ∧ Step (Just bk) w w1) := by
 have hS : Step (Just bk) w w := Step.refl _ _
 have hcl := clT_le t
 refine VCe Tryz.func67 (Vrp (Vs (Vs (Vr (Vp 2 ?_)))))
 refine Vc 2 Tryz.call76 (dfits_any bk x t _ hx ho) ?_
 rintro _ w1 ⟨rfl, hc1⟩
 replace hS := Step.trans hS (Step.weak hc1)
 replace ho := ho.no hc1
 refine Ve (Vn (Vif (!(fitsB x.b t)) (fun h1 => ?_) (fun h1 => ?_)))
 ·try simp only [BB] at h1
  refine Vrp (VC_ret (VQ_then_ret (Vr1 (Bo false) ?_)))
  exact ⟨congrArg Value.bool h1.symm, Own.cast ho (by unfold Lv.take; rw [if_neg (by rw [h1]; decide)]), hS⟩
 ·try simp only [BB] at h1
  refine VC_skip (Vn (Vrp (Vs (Vs (Vr (Vl 3 ho (Ve (Vn (Vif x.b.any (fun h2 => ?_) (fun h2 => ?_))))))))))
  ·try simp only [BB] at h2
   refine Vr (Vp 2 ?_)
   refine Vc 2 Tryz.call77 (dlevel_any bk x t _ hx ho) ?_
   rintro _ w2 ⟨rfl, hc2⟩
   replace hS := Step.trans hS (Step.weak hc2)
   replace ho := ho.no hc2
   refine Ve (Vn (Vs (Vr (Vl 5 ho (Vst 9 (o := 2) [I6 (IntKind.wrap .i64 ((imax 0 (x.b.next - clT t)) + x.b.step))] ho #[I6 x.b.step, I6 x.b.early, I6 (IntKind.wrap .i64 ((imax 0 (x.b.next - clT t)) + x.b.step)), I6 x.at_, Bo x.b.any] ?_)))))
   intro w3 hw1
   replace hS := Step.trans hS (Step.mono hw1.step TDa1ac)
   have ho1 := hw1.own
   refine Ve (Vn (Vs (Vr (Vp 2 ?_))))
   refine Vc 2 Tryz.call74 ((dheld_ce t) w3) ?_
   rintro _ w4 ⟨rfl, hc3⟩
   subst w4
   refine Vst 5 (o := 3) [I6 (clT t)] ho1 #[I6 x.b.step, I6 x.b.early, I6 (IntKind.wrap .i64 ((imax 0 (x.b.next - clT t)) + x.b.step)), I6 (clT t), Bo x.b.any] ?_
   intro w5 hw2
   replace hS := Step.trans hS (Step.mono hw2.step TDa1ac)
   have ho2 := hw2.own
   refine Ve (Vn (Vs (Vr (Vst 3 (o := 4) [Bo true] ho2 #[I6 x.b.step, I6 x.b.early, I6 (IntKind.wrap .i64 ((imax 0 (x.b.next - clT t)) + x.b.step)), I6 (clT t), Bo true] ?_))))
   intro w6 hw3
   replace hS := Step.trans hS (Step.mono hw3.step TDa1ac)
   have ho3 := hw3.own
   refine Ve (Vn (Vrp (VC_ret (Vr1 (Bo true) ?_))))
   exact ⟨congrArg Value.bool h1.symm, Own.cast ho3 TDa1ad, hS⟩
  ·try simp only [BB] at h2
   refine VC_skip (Vn (Vs (Vr (Vl 5 ho (Vst 9 (o := 2) [I6 (IntKind.wrap .i64 (0 + x.b.step))] ho #[I6 x.b.step, I6 x.b.early, I6 (IntKind.wrap .i64 (0 + x.b.step)), I6 x.at_, Bo x.b.any] ?_)))))
   intro w7 hw4
   replace hS := Step.trans hS (Step.mono hw4.step TDa1ac)
   have ho4 := hw4.own
   refine Ve (Vn (Vs (Vr (Vp 2 ?_))))
   refine Vc 2 Tryz.call74 ((dheld_ce t) w7) ?_
   rintro _ w8 ⟨rfl, hc4⟩
   subst w8
   refine Vst 5 (o := 3) [I6 (clT t)] ho4 #[I6 x.b.step, I6 x.b.early, I6 (IntKind.wrap .i64 (0 + x.b.step)), I6 (clT t), Bo x.b.any] ?_
   intro w9 hw5
   replace hS := Step.trans hS (Step.mono hw5.step TDa1ac)
   have ho5 := hw5.own
   refine Ve (Vn (Vs (Vr (Vst 3 (o := 4) [Bo true] ho5 #[I6 x.b.step, I6 x.b.early, I6 (IntKind.wrap .i64 (0 + x.b.step)), I6 (clT t), Bo true] ?_))))
   intro w10 hw6
   replace hS := Step.trans hS (Step.mono hw6.step TDa1ac)
   have ho6 := hw6.own
   refine Ve (Vn (Vrp (VC_ret (Vr1 (Bo true) ?_))))
   exact ⟨congrArg Value.bool h1.symm, Own.cast ho6 TDa1ad, hS⟩

end Go.Proofs.YthchmlidobgkoaaGreat
end

section
/- The calculus: make of truth values (few, and known how many). -/
set_option linter.unusedVariables false
set_option linter.unusedSimpArgs false
namespace Go.Vc
open Go.RowKit
section
variable {r : Option Nat} {n : Nat} {ds : List Deferred} {P : Program} {ops : Array Oper} {Q : Exit → Act → World → Prop} {l : List (Nat × Value)} {w : World} {i : Nat}
theorem run_makeSliceB {t e : TypeId} {inf : TypeInfo} (ht : P.underlying t = some (.slice e)) (hi : P.info? e = some inf) (hz : inf.zero = some (.bool false)) (hs : inf.size = 1) (m : Nat) (hm : inf.bytes * m ≤ 281474976710656) (hm2 : m ≤ 4611686018427387904) :
    (Instr.makeSlice t (.int .i64 (m : Int)) (.int .i64 (m : Int))).run P w = .ok (.slice (some ⟨w.heap.size, 0, none⟩) m m) (w.alloc (.cells (Array.replicate m (.bool false)) e)) := by
  have hw : IntKind.wrap .i64 (m : Int) = (m : Int) := wrap_i64 _ (by omega) (by omega)
  have hb : ¬ (281474976710656 : Int) < (inf.bytes : Int) * (m : Int) := by
    have h1 : ((inf.bytes * m : Nat) : Int) ≤ 281474976710656 := Int.ofNat_le.2 hm
    rw [Int.natCast_mul] at h1
    omega
  have h0 : ¬ (m : Int) < 0 := by omega
  have hzc : ((Array.range m).map fun x => (Value.bool false).cells[x % (Value.bool false).cells.size]!) = Array.replicate m (.bool false) := by
    apply Array.ext
    · simp
    · intro q h1 h2
      simp [Value.cells]
      simp [Nat.mod_one]
  have e1 : decide ((m : Int) < 0) = false := decide_eq_false h0
  have e2 : decide ((inf.bytes : Int) * (m : Int) > 2 ^ 48) = false := decide_eq_false (by rw [show ((2 : Int) ^ 48) = 281474976710656 from rfl]; exact hb)
  have e3 : decide ((m : Int) > (m : Int)) = false := decide_eq_false (by omega)
  have hai : ∀ w : World, (asInt (.int .i64 (m : Int))).run P w = .ok (m : Int) w := fun w => by simp [asInt, asIntOf]
  have hti : (typeInfo e).run P w = .ok inf w := by simp only [typeInfo, program, Sem.run_bind, Sem.run, Result.andThen_ok, hi]; rfl
  have hzv : (zeroValue e).run P w = .ok (.bool false) w := by simp [zeroValue, typeInfo, program, Sem.run, hi, hz]
  unfold Instr.makeSlice
  simp only [Sem.run_bind, run_underlying' ht, Result.andThen_ok, hai, Sem.run_pure, hti, hw, e1, e2, e3, Bool.false_or, Bool.or_self, Bool.false_eq_true, if_false, run_askRoom, run_sizeOf hi, hs, Int.toNat_natCast, Nat.mul_one]
  by_cases hm0 : m = 0
  · subst hm0
    simp only [if_true, Sem.run_bind, Sem.run_pure, Result.andThen_ok, newRow, newObj, Sem.run]
    rw [show (Array.range 0) = #[] from rfl]
    simp only [Array.map_empty]
    rfl
  · simp only [if_neg hm0, Sem.run_bind, Sem.run_pure, Result.andThen_ok, hzv, newRow, newObj, Sem.run, hzc]
    rfl
theorem VL_makeB {d t e : TypeId} {a b : Int} {bytes : Nat} (h : mkOp n ops l i = some (d, t, a, b)) (hi' : Nat.blt i ops.size = true) (ht : P.underlying t = some (.slice e)) (hi : (P.info? e).map (fun i => (i.zero, i.size, i.bytes)) = some (some (.bool false), 1, bytes)) (m : Nat) (ha : a = (m : Nat)) (hb : b = (m : Nat)) (hm : bytes * m ≤ 281474976710656) (hm2 : m ≤ 4611686018427387904)
    (next : ∀ g w1, New w w1 g (.cells (Array.replicate m (.bool false)) e) → VL r n ds P ops Q (i + 1) ((d, .slice (some ⟨g, 0, none⟩) m m) :: l) w1) : VL r n ds P ops Q i l w := by
  refine VL_of_V1 hi' ?_
  obtain ⟨inf, hinf, hh⟩ := Option.map_eq_some_iff.1 hi
  simp only [Prod.mk.injEq] at hh
  obtain ⟨hz, hs, hby⟩ := hh
  subst hby; subst ha; subst hb
  unfold mkOp at h
  split at h
  · rename_i _ d' t' x y ty pos aft gd ho
    split at h
    · rename_i xa yb hx hy
      cases hq : Nat.blt d' n with
      | false => rw [hq] at h; cases h
      | true =>
        rw [hq] at h
        simp only [cond_true, Option.some.injEq, Prod.mk.injEq] at h
        obtain ⟨rfl, rfl, rfl, rfl⟩ := h
        refine V1_value ho rfl hq ?_ (next w.heap.size _ ⟨rfl, rfl⟩)
        simp only [execOp, hx, hy, Sem.run_bind, run_makeSliceB ht hinf hz hs m hm hm2, Result.andThen_ok, Sem.run_pure]
    · cases h
  · cases h
end
end Go.Vc
end

section
/- Layer 20, the document's side: a policer in memory. -/
set_option linter.unusedVariables false
set_option linter.unusedSimpArgs false
namespace Go.Proofs.YthchmlidobgkoaaGreat
open Go.Vc Go.RowKit
/-- A rule, when its bucket last took one, the bucket's block. -/
structure Db where
  r : Rl
  at_ : Int
  p : Nat
abbrev Db.lv (x : Db) : Lv := ⟨x.r.b, x.at_⟩
def Db.take (t : Int) (x : Db) : Db := ⟨takeR t x.r, (x.lv.take t).at_, x.p⟩
def drl (x : Db) : List Value := [.int .i64 x.r.step, .int .i64 x.r.early, .bool x.r.zero, .bool x.r.tag]
theorem drl_len (x : Db) : (drl x).length = 4 := rfl
def dpt (x : Db) : List Value := [.pointer (some ⟨x.p, 0, none⟩)]
theorem dpt_len (x : Db) : (dpt x).length = 1 := rfl
def lvA (x : Lv) : Array Value := #[.int .i64 x.b.step, .int .i64 x.b.early, .int .i64 (x.b.next - x.at_), .int .i64 x.at_, .bool x.b.any]
def DbsW (w : World) (l : List Db) : Prop := ∀ x ∈ l, Own w x.p (lvA x.lv) 126 ∧ LvI x.lv
def DT (w : World) (k : Nat) : Prop := TyB w 96 k ∨ TyB w 100 k ∨ TyB w 97 k ∨ TyB w 126 k
section
variable {w w' : World} {F : Nat → Prop} {l : List Db}
theorem DbsW.step (h : DbsW w l) (hs : Step F w w') (hF : ∀ x ∈ l, ¬ F x.p) : DbsW w' l := fun x hx => ⟨(h x hx).1.step hs (hF x hx), (h x hx).2⟩
theorem DT.lt {k : Nat} (h : DT w k) : k < w.heap.size := by rcases h with h | h | h | h <;> exact h.lt
theorem DT.step {k : Nat} (h : DT w k) (hs : Step F w w') (hF : ¬ F k) : DT w' k := by
  rcases h with h | h | h | h
  · exact .inl (h.step hs hF)
  · exact .inr (.inl (h.step hs hF))
  · exact .inr (.inr (.inl (h.step hs hF)))
  · exact .inr (.inr (.inr (h.step hs hF)))
def dpolA (k : Con) (rb bb n c c' : Nat) (c0 c1 c2 c3 : Int) : Array Value := #[.int .i64 k.kind, .int .i64 k.peak, .int .i64 k.early, .int .i64 k.whole, .int .i64 k.burst, .int .i64 k.least, .slice (some ⟨rb, 0, none⟩) n c, .slice (some ⟨bb, 0, none⟩) n c', .int .i64 c0, .int .i64 c1, .int .i64 c2, .int .i64 c3]
structure DPX (w : World) (pp : Nat) (Y : Nat → Prop) (k : Con) (l : List Db) (rb bb c c' : Nat) (c0 c1 c2 c3 : Int) : Prop where
  own : Own w pp (dpolA k rb bb l.length c c' c0 c1 c2 c3) 96
  row : RowE w rb 100 (flat drl l)
  brow : RowE w bb 97 (flat dpt l)
  bks : DbsW w l
  nodup : (l.map Db.p).Nodup
  inP : Y pp
  inR : Y rb
  inBB : Y bb
  inB : ∀ x ∈ l, Y x.p
  ty : ∀ q, Y q → DT w q
  pos : 0 < l.length
/-- A policer of the document at an address, by its rules. -/
def DPl (w : World) (pp : Nat) (Y : Nat → Prop) (k : Con) (rs : List Rl) : Prop := RlsI rs ∧ rightC k = 0 ∧ ∃ l rb bb c c' c0 c1 c2 c3, rs = l.map Db.r ∧ DPX w pp Y k l rb bb c c' c0 c1 c2 c3
theorem DPX.step {pp : Nat} {Y : Nat → Prop} {k : Con} {rb bb c c' : Nat} {c0 c1 c2 c3 : Int} (h : DPX w pp Y k l rb bb c c' c0 c1 c2 c3) (hs : Step F w w') (hF : ∀ q, Y q → ¬ F q) : DPX w' pp Y k l rb bb c c' c0 c1 c2 c3 :=
  ⟨h.own.step hs (hF _ h.inP), h.row.step hs (hF _ h.inR), h.brow.step hs (hF _ h.inBB), h.bks.step hs fun x hx => hF _ (h.inB x hx), h.nodup, h.inP, h.inR, h.inBB, h.inB, fun q hq => (h.ty q hq).step hs (hF q hq), h.pos⟩
theorem DPl.step {pp : Nat} {Y : Nat → Prop} {k : Con} {rs : List Rl} (h : DPl w pp Y k rs) (hs : Step F w w') (hF : ∀ q, Y q → ¬ F q) : DPl w' pp Y k rs := by
  obtain ⟨h0, hk, l, rb, bb, c, c', c0, c1, c2, c3, h1, h2⟩ := h
  exact ⟨h0, hk, l, rb, bb, c, c', c0, c1, c2, c3, h1, h2.step hs hF⟩
theorem DPl.no {pp : Nat} {Y : Nat → Prop} {k : Con} {rs : List Rl} (h : DPl w pp Y k rs) (hs : Step No w w') : DPl w' pp Y k rs := h.step hs fun _ _ => id
theorem DPl.inP {pp : Nat} {Y : Nat → Prop} {k : Con} {rs : List Rl} (h : DPl w pp Y k rs) : Y pp := by obtain ⟨h0, hk, l, rb, bb, c, c', c0, c1, c2, c3, h1, h2⟩ := h; exact h2.inP
theorem DPl.ty {pp : Nat} {Y : Nat → Prop} {k : Con} {rs : List Rl} (h : DPl w pp Y k rs) {q : Nat} (hq : Y q) : DT w q := by obtain ⟨h0, hk, l, rb, bb, c, c', c0, c1, c2, c3, h1, h2⟩ := h; exact h2.ty q hq
theorem DPl.lt {pp : Nat} {Y : Nat → Prop} {k : Con} {rs : List Rl} (h : DPl w pp Y k rs) : pp < w.heap.size := (h.ty h.inP).lt
end
end Go.Proofs.YthchmlidobgkoaaGreat
end

section
/- The calculus: rows of truth values. -/
set_option linter.unusedVariables false
set_option linter.unusedSimpArgs false
namespace Go.Vc
open Go.RowKit
def bL (bs : List Bool) : List Value := bs.map Value.bool
theorem bL_set (bs : List Bool) (j : Nat) (v : Bool) : bL (bs.set j v) = (bL bs).set j (.bool v) := by simp [bL, List.map_set]
theorem bL_get {bs : List Bool} (j : Nat) (hj : j < bs.length) : (bL bs)[j]? = some (.bool (bs.getD j false)) := by
  simp [bL, hj]
section
variable {P : Program} {w w' : World} {base n c : Nat} {e : TypeId} {A : Option Addr} {bs : List Bool}
theorem Rw.madeB {g m : Nat} (ho : Own w g (Array.replicate m (.bool false)) e) (hm : m ≤ maxLen) : Rw w g e (some ⟨g, 0, none⟩) m m (bL (List.replicate m false)) :=
  Rw.of_own ho (Nat.le_refl _) (by simp) (Nat.le_refl _) hm (by rw [List.take_of_length_le (by simp)]; simp [bL])
theorem Rw.putB {g j : Nat} {cur : Array Value} {v : Bool} (hx : cur.toList.take n = bL bs) (hw : Wr w w' g (setRow cur j [.bool v]) e) (hb : base ≤ g) (hs : cur.size = c) (hn : n ≤ c) (hm : c ≤ maxLen) (hj : j < n) : Rw w' base e (some ⟨g, 0, none⟩) n c (bL (bs.set j v)) := by
  rw [bL_set]; exact Rw.put hx hw hb hs hn hm hj
theorem Rw.ldB {g j : Nat} {t : TypeId} (h : Rw w base e (some ⟨g, 0, none⟩) n c (bL bs)) (ht : oneB P t = true) (hj : j < n) : Loads P t w ⟨g, j, none⟩ (.bool (bs.getD j false)) :=
  h.ld ht (bL_get j (by have := h.len; simp [bL] at this; omega))
end
end Go.Vc
end

section
/- Layer 20: the document's verdict. -/
set_option linter.unusedVariables false
set_option linter.unusedSimpArgs false
set_option maxRecDepth 100000
set_option maxHeartbeats 4000000
namespace Go.Proofs.YthchmlidobgkoaaGreat
open Go.Vc Go.RowKit
theorem TDa4aa {P : Prop} (h : P := by rw [verdD_succ hy1, ← hv]; exact stD_of (by simp_all) (by rw [hv]; exact verdD_cases _ _ _)) : P := h
theorem TDa4ab {P : Prop} (h : P := by rw [wrap_i64 _ (by omega) (by omega)]; omega) : P := h
theorem TDa4ac {P : Prop} (h : P := by rw [List.length_set]; exact hlen) : P := h
theorem TDa4ae {P : Prop} (h : P := by simp only [hg13, Bool.true_and, Bool.false_and, Bool.true_or, Bool.false_or, Bool.not_true, Bool.not_false]) : P := h
theorem TDa4af {P : Prop} (h : P := by simp only [hg15, Bool.true_and, Bool.false_and, Bool.true_or, Bool.false_or, Bool.not_true, Bool.not_false]) : P := h
theorem TDa4ag {P : Prop} (h : P := by simp only [hg16, Bool.true_and, Bool.false_and, Bool.true_or, Bool.false_or, Bool.not_true, Bool.not_false]) : P := h
theorem TDa4ah {P : Prop} (h : P := by simp only [hg17, Bool.true_and, Bool.false_and, Bool.true_or, Bool.false_or, Bool.not_true, Bool.not_false]) : P := h
theorem TDa4ai {P : Prop} (h : P := by simp only [hg1, Bool.true_and, Bool.false_and, Bool.true_or, Bool.false_or, Bool.not_true, Bool.not_false]) : P := h
theorem TDa4aj {P : Prop} (h : P := by simp only [hg6, Bool.true_and, Bool.false_and, Bool.true_or, Bool.false_or, Bool.not_true, Bool.not_false]) : P := h
theorem TDa4ak {P : Prop} (h : P := by unfold polV; rw [← hv]; first | exact pol_t (by assumption) | exact pol_f (by assumption)) : P := h
theorem TDa4al {P : Prop} (h : P := by rw [setB (by omega), if_pos rfl]) : P := h
theorem TDa4am {P : Prop} (h : P := by simp only [List.length_singleton]; omega) : P := h

def stD (t clp v : Int) (x : Db) : Int := if askB clp x.r = true then vS t v x.r else v
def verdD (t clp : Int) (l : List Db) : Int := l.foldl (stD t clp) 1
theorem verdD_succ {t clp : Int} {l : List Db} {i : Nat} {x : Db} (h : l[i]? = some x) : verdD t clp (l.take (i + 1)) = stD t clp (verdD t clp (l.take i)) x := by
  unfold verdD
  rw [List.take_add_one, h]
  simp [List.foldl_append]
theorem verdD_all (t clp : Int) (l : List Db) : verdD t clp l = verdR t clp (l.map Db.r) := by
  unfold verdD verdR
  generalize (1 : Int) = v
  induction l generalizing v with
  | nil => rfl
  | cons x l ih =>
    simp only [List.map_cons, List.filter_cons, List.foldl_cons]
    by_cases ha : askB clp x.r = true
    · rw [if_pos ha, List.foldl_cons, ← ih]; unfold stD; rw [if_pos ha]
    · rw [if_neg ha, ← ih]; unfold stD; rw [if_neg ha]
def tkB (v clp : Int) (r : Rl) : Bool := (askB clp r && (v == 1)) || (!r.zero && (v == 2))
theorem setB {bs : List Bool} {i : Nat} {b : Bool} (h : i < bs.length) (j : Nat) : (bs.set i b).getD j false = if j = i then b else bs.getD j false := by
  rw [List.getD_eq_getElem?_getD, List.getElem?_set]
  by_cases e : i = j
  · subst e; simp [h]
  · rw [if_neg e, if_neg (by omega), List.getD_eq_getElem?_getD]
theorem ask_set {l : List Db} {qs : List Bool} {i : Nat} {clp : Int} {y : Db} (hl : i < qs.length) (hy : l[i]? = some y) (hz : ∀ j x, j < i → l[j]? = some x → qs.getD j false = askB clp x.r) {b : Bool} (hb : b = askB clp y.r) : ∀ j x, j < i + 1 → l[j]? = some x → (qs.set i b).getD j false = askB clp x.r := by
  intro j x hj hx
  rw [setB hl]
  by_cases e : j = i
  · subst e; rw [hy] at hx; cases hx; rw [if_pos rfl, hb]
  · rw [if_neg e]; exact hz j x (by omega) hx
theorem tk_set {l : List Db} {bs : List Bool} {i : Nat} {v clp : Int} {y : Db} (hl : i < bs.length) (hy : l[i]? = some y) (hz : ∀ j x, j < i → l[j]? = some x → bs.getD j false = tkB v clp x.r) {b : Bool} (hb : b = tkB v clp y.r) : ∀ j x, j < i + 1 → l[j]? = some x → (bs.set i b).getD j false = tkB v clp x.r := by
  intro j x hj hx
  rw [setB hl]
  by_cases e : j = i
  · subst e; rw [hy] at hx; cases hx; rw [if_pos rfl, hb]
  · rw [if_neg e]; exact hz j x (by omega) hx
theorem ak_set {l : List Db} {bs : List Bool} {i : Nat} {clp : Int} (hl : i < bs.length) (hz : ∀ j x, i ≤ j → l[j]? = some x → bs.getD j false = askB clp x.r) {b : Bool} : ∀ j x, i + 1 ≤ j → l[j]? = some x → (bs.set i b).getD j false = askB clp x.r := by
  intro j x hj hx
  rw [setB hl, if_neg (by omega)]
  exact hz j x (by omega) hx
theorem stD_of {t clp v : Int} {x : Db} {v' : Int} (h : v' = if (askB clp x.r && !fitsB x.r.b t) && !x.r.tag then 3 else if ((askB clp x.r && !fitsB x.r.b t) && x.r.tag) && (v == 1) then 2 else v) (hv : v = 1 ∨ v = 2 ∨ v = 3) : v' = stD t clp v x := by
  subst h
  unfold stD vS
  cases askB clp x.r <;> cases fitsB x.r.b t <;> cases x.r.tag <;> rcases hv with rfl | rfl | rfl <;> simp
theorem pol_t {v clp : Int} {k : Con} (h : (v = 1 ∧ k.kind = 7) ∧ clp = 0) : 2 = if v = 1 ∧ decide (k.kind = 7) = true ∧ clp = 0 then 2 else v := by rw [if_pos ⟨h.1.1, by simp [h.1.2], h.2⟩]
theorem pol_f {v clp : Int} {k : Con} (h : (¬ v = 1 ∨ ¬ k.kind = 7) ∨ ¬ clp = 0) : v = if v = 1 ∧ decide (k.kind = 7) = true ∧ clp = 0 then 2 else v := by
  rw [if_neg]
  rintro ⟨a, b, c⟩
  have b := of_decide_eq_true b
  omega
theorem verdD_cases (t clp : Int) (l : List Db) : verdD t clp l = 1 ∨ verdD t clp l = 2 ∨ verdD t clp l = 3 := by rw [verdD_all]; exact verdR_cases t clp _
theorem dverd_any (pp rb bb c c2 n : Nat) (k : Con) (c0 c1 c2i c3 : Int) (t clp : Int) (l : List Db) (w : World) (hn : l.length = n) (hn2 : n ≤ 2) (hp : Own w pp #[.int .i64 k.kind, .int .i64 k.peak, .int .i64 k.early, .int .i64 k.whole, .int .i64 k.burst, .int .i64 k.least, .slice (some ⟨rb, 0, none⟩) n c, .slice (some ⟨bb, 0, none⟩) n c2, .int .i64 c0, .int .i64 c1, .int .i64 c2i, .int .i64 c3] 96) (hR : RowE w rb 100 (flat drl l)) (hB : RowE w bb 97 (flat dpt l)) (hb : DbsW w l) :
  CV Tryz.prog 66 #[.pointer (some ⟨pp, 0, none⟩), .int .i64 t, .int .i64 clp] w (fun q w1 => ∃ bs g, q = .tuple #[.int .i64 (polV (decide (k.kind = 7)) t clp (l.map Db.r)), .slice (some ⟨g, 0, none⟩) n n] ∧ w.heap.size ≤ g ∧ Rw w1 g 4 (some ⟨g, 0, none⟩) n n (bL bs) ∧ (∀ j x, l[j]? = some x → bs.getD j false = tkB (verdR t clp (l.map Db.r)) clp x.r) ∧ Step No w w1) := by
 have hS : Step No w w := Step.refl _ _
 have hRow := hR.sl
 have hBow := hB.sl
 have hrl := hR.lt
 have hbbl := hB.lt
 have hbl : ∀ x ∈ l, x.p < w.heap.size := fun x hx => (hb x hx).1.lt
 refine CV_enter Tryz.f66 _ 151 [(0, .pointer (some ⟨pp, 0, none⟩)), (1, .int .i64 t), (2, .int .i64 clp)] Tryz.func66 rfl rfl (by kernel_rfl) rfl ?_
 refine VC_seq ?_
 refine VC_region ?_
 refine VL_pure 2 [0, 1, 2] [(0, .pointer (some ⟨pp, 0, none⟩)), (1, .int .i64 t), (2, .int .i64 clp)] (by kernel_rfl) rfl ?_
 refine VL_end (by kernel_rfl) ?_
 refine VQ_next ?_
 refine VC_seq ?_
 refine VC_region ?_
 refine VL_pure 3 [0, 1, 2, 14] [(0, .pointer (some ⟨pp, 0, none⟩)), (1, .int .i64 t), (2, .int .i64 clp), (14, .pointer (some ⟨pp, 6, none⟩))] (by kernel_rfl) rfl ?_
 refine VL_load (d := 15) (t := 91) (a := ⟨pp, 6, none⟩) (v := .slice (some ⟨rb, 0, none⟩) n c) (by kernel_rfl) (by kernel_rfl) (Loads.own1 hp (by kernel_rfl) (by rfl)) ?_
 refine VL_pure 5 [0, 1, 2, 16] [(0, .pointer (some ⟨pp, 0, none⟩)), (1, .int .i64 t), (2, .int .i64 clp), (16, .int .i64 ((n : Nat) : Int))] (by kernel_rfl) rfl ?_
 have hzl1 := hp.lt
 have hzk1 := hrl
 have hzk2 := hbbl
 refine VL_makeB (t := 113) (a := ((n : Nat) : Int)) (b := ((n : Nat) : Int)) (e := 4) (d := 17) (bytes := 1) (by kernel_rfl) (by kernel_rfl) (by kernel_rfl) (by kernel_rfl) n rfl rfl (by omega) (by omega) ?_
 intro g1 w1 hn1
 replace hS := Step.trans hS (hn1.step No)
 replace hp := hp.no (hn1.step No)
 replace hRow := hRow.step (hn1.step No) (fun k hk1 hk2 hF => hF)
 replace hBow := hBow.step (hn1.step No) (fun k hk1 hk2 hF => hF)
 replace hb := (fun h9 s9 => DbsW.step h9 s9 (fun _ _ => id)) hb (hn1.step No)
 replace hrl := Nat.lt_of_lt_of_le hrl (hn1.step No).size
 replace hbbl := Nat.lt_of_lt_of_le hbbl (hn1.step No).size
 have hzhn1 := hn1.size
 have hqhn1 := hn1.eqb
 have hr1 := Rw.madeB hn1.own (by simp only [maxLen]; omega)
 have hbase1 : g1 ≤ w1.heap.size := by omega
 have hglg1 : g1 < w1.heap.size := by omega
 refine VL_pure 7 [0, 1, 2, 8] [(0, .pointer (some ⟨pp, 0, none⟩)), (1, .int .i64 t), (2, .int .i64 clp), (8, .slice (some ⟨g1, 0, none⟩) n n)] (by kernel_rfl) rfl ?_
 refine VL_end (by kernel_rfl) ?_
 refine VQ_next ?_
 refine VC_seq ?_
 refine VC_region ?_
 refine VL_pure 1 [0, 1, 2, 8, 9] [(0, .pointer (some ⟨pp, 0, none⟩)), (1, .int .i64 t), (2, .int .i64 clp), (8, .slice (some ⟨g1, 0, none⟩) n n), (9, .int .i64 1)] (by kernel_rfl) rfl ?_
 refine VL_end (by kernel_rfl) ?_
 refine VQ_next ?_
 refine VC_seq ?_
 refine VC_seq ?_
 refine VC_region ?_
 refine VL_pure 3 [0, 1, 2, 8, 9, 20] [(0, .pointer (some ⟨pp, 0, none⟩)), (1, .int .i64 t), (2, .int .i64 clp), (8, .slice (some ⟨g1, 0, none⟩) n n), (9, .int .i64 1), (20, .pointer (some ⟨pp, 6, none⟩))] (by kernel_rfl) rfl ?_
 refine VL_load (d := 21) (t := 91) (a := ⟨pp, 6, none⟩) (v := .slice (some ⟨rb, 0, none⟩) n c) (by kernel_rfl) (by kernel_rfl) (Loads.own1 hp (by kernel_rfl) (by rfl)) ?_
 refine VL_pure 6 [0, 1, 2, 8, 9, 22, 23] [(0, .pointer (some ⟨pp, 0, none⟩)), (1, .int .i64 t), (2, .int .i64 clp), (8, .slice (some ⟨g1, 0, none⟩) n n), (9, .int .i64 1), (22, .int .i64 ((n : Nat) : Int)), (23, .int .i64 0)] (by kernel_rfl) rfl ?_
 refine VL_end (by kernel_rfl) ?_
 refine VQ_next ?_
 refine VC_block ?_
 refine VC_loop (σ := Nat × Int × (List Bool)) (fun σs => [(0, .pointer (some ⟨pp, 0, none⟩)), (1, .int .i64 t), (2, .int .i64 clp), (8, .slice (some ⟨g1, 0, none⟩) n n), (22, .int .i64 ((n : Nat) : Int)), (23, .int .i64 ((σs.1 : Nat) : Int)), (9, .int .i64 σs.2.1)]) (fun σs w2 => (σs.1 ≤ n) ∧ (σs.2.1 = verdD t clp (l.take σs.1)) ∧ (σs.2.2.length = n) ∧ (∀ j x, j < σs.1 → l[j]? = some x → σs.2.2.getD j false = askB clp x.r) ∧ (Step No w w2) ∧ (Own w2 pp #[.int .i64 k.kind, .int .i64 k.peak, .int .i64 k.early, .int .i64 k.whole, .int .i64 k.burst, .int .i64 k.least, .slice (some ⟨rb, 0, none⟩) n c, .slice (some ⟨bb, 0, none⟩) n c2, .int .i64 c0, .int .i64 c1, .int .i64 c2i, .int .i64 c3] 96) ∧ (Sl2 w2 rb (rb + 1) (some ⟨rb, 0, none⟩) (flat drl l)) ∧ (Sl2 w2 bb (bb + 1) (some ⟨bb, 0, none⟩) (flat dpt l)) ∧ (DbsW w2 l) ∧ (rb < w2.heap.size) ∧ (bb < w2.heap.size) ∧ (g1 ≤ w2.heap.size) ∧ (g1 < w2.heap.size) ∧ (Rw w2 g1 4 (some ⟨g1, 0, none⟩) n n (bL σs.2.2))) (fun σs w2 => n - σs.1) ⟨0, 1, List.replicate n false⟩ ⟨rfl, rfl, rfl, rfl, rfl, rfl, rfl, trivial⟩ ?_ ?_
 ·exact ⟨Nat.zero_le _, rfl, (by simp), fun j x hj => absurd hj (Nat.not_lt_zero _), hS, hp, hRow, hBow, hb, hrl, hbbl, hbase1, hglg1, (Rw.cast hr1 rfl rfl)⟩
 rintro ⟨i, v, qs⟩ w2 ⟨hi, hv, hlen, hz, hS, hp, hRow, hBow, hb, hrl, hbbl, hbase1, hglg1, hr2⟩
 try dsimp only at hi hv hlen hz hS hp hRow hBow hb hrl hbbl hbase1 hglg1 hr2 ⊢
 refine VC_seq ?_
 refine VC_region ?_
 refine VL_pure 1 [0, 1, 2, 8, 22, 23, 9, 24] [(0, .pointer (some ⟨pp, 0, none⟩)), (1, .int .i64 t), (2, .int .i64 clp), (8, .slice (some ⟨g1, 0, none⟩) n n), (22, .int .i64 ((n : Nat) : Int)), (23, .int .i64 ((i : Nat) : Int)), (9, .int .i64 v), (24, .bool (decide (((i : Nat) : Int) < ((n : Nat) : Int))))] (by kernel_rfl) rfl ?_
 refine VL_end (by kernel_rfl) ?_
 refine VQ_next ?_
 refine VC_seq ?_
 refine VC_dec (((i : Nat) : Int) < ((n : Nat) : Int)) (by kernel_rfl) (fun h1 => ?_) (fun h1 => ?_)
 ·refine VC_skip ?_
  refine VQ_next ?_
  refine VC_seq ?_
  refine VC_block ?_
  refine VC_seq ?_
  refine VC_region ?_
  refine VL_pure 2 [0, 1, 2, 8, 22, 23, 9, 10] [(0, .pointer (some ⟨pp, 0, none⟩)), (1, .int .i64 t), (2, .int .i64 clp), (8, .slice (some ⟨g1, 0, none⟩) n n), (22, .int .i64 ((n : Nat) : Int)), (23, .int .i64 ((i : Nat) : Int)), (9, .int .i64 v), (10, .int .i64 ((i : Nat) : Int))] (by kernel_rfl) rfl ?_
  refine VL_end (by kernel_rfl) ?_
  refine VQ_next ?_
  refine VC_seq ?_
  refine VC_region ?_
  refine VL_pure 5 [0, 1, 2, 8, 22, 23, 9, 10, 26, 27, 30] [(0, .pointer (some ⟨pp, 0, none⟩)), (1, .int .i64 t), (2, .int .i64 clp), (8, .slice (some ⟨g1, 0, none⟩) n n), (22, .int .i64 ((n : Nat) : Int)), (23, .int .i64 ((i : Nat) : Int)), (9, .int .i64 v), (10, .int .i64 ((i : Nat) : Int)), (26, .slice (some ⟨g1, 0, none⟩) n n), (27, .int .i64 ((i : Nat) : Int)), (30, .pointer (some ⟨pp, 6, none⟩))] (by kernel_rfl) rfl ?_
  refine VL_load (d := 31) (t := 91) (a := ⟨pp, 6, none⟩) (v := .slice (some ⟨rb, 0, none⟩) n c) (by kernel_rfl) (by kernel_rfl) (Loads.own1 hp (by kernel_rfl) (by rfl)) ?_
  refine VL_pure 7 [0, 1, 2, 8, 22, 23, 9, 10, 26, 27, 31, 32] [(0, .pointer (some ⟨pp, 0, none⟩)), (1, .int .i64 t), (2, .int .i64 clp), (8, .slice (some ⟨g1, 0, none⟩) n n), (22, .int .i64 ((n : Nat) : Int)), (23, .int .i64 ((i : Nat) : Int)), (9, .int .i64 v), (10, .int .i64 ((i : Nat) : Int)), (26, .slice (some ⟨g1, 0, none⟩) n n), (27, .int .i64 ((i : Nat) : Int)), (31, .slice (some ⟨rb, 0, none⟩) n c), (32, .int .i64 ((i : Nat) : Int))] (by kernel_rfl) rfl ?_
  refine VL_index (d := 33) (b := rb) (o := 0) (len := n) (sz := 4) (m := ((i : Nat) : Int)) (by kernel_rfl) (by kernel_rfl) i (by rfl) (by omega) (i * 4) (by omega) ?_
  refine VL_pure 9 [0, 1, 2, 8, 22, 23, 9, 10, 26, 27, 34] [(0, .pointer (some ⟨pp, 0, none⟩)), (1, .int .i64 t), (2, .int .i64 clp), (8, .slice (some ⟨g1, 0, none⟩) n n), (22, .int .i64 ((n : Nat) : Int)), (23, .int .i64 ((i : Nat) : Int)), (9, .int .i64 v), (10, .int .i64 ((i : Nat) : Int)), (26, .slice (some ⟨g1, 0, none⟩) n n), (27, .int .i64 ((i : Nat) : Int)), (34, .pointer (some ⟨rb, i * 4 + 2, none⟩))] (by kernel_rfl) rfl ?_
  obtain ⟨y1, hy1⟩ : ∃ x, l[i]? = some x := ⟨_, List.getElem?_eq_getElem (by omega)⟩
  have hmy1 := List.mem_of_getElem? hy1
  refine VL_load (d := 35) (t := 4) (a := ⟨rb, i * 4 + 2, none⟩) (v := .bool y1.r.zero) (by kernel_rfl) (by kernel_rfl) (Sl.flatOne (sz := 4) (Sl2.sl hRow) drl_len hy1 2 (by rfl) (by decide) (by kernel_rfl) _ (by first | rfl | omega)) ?_
  refine VL_pure 12 [0, 1, 2, 8, 22, 23, 9, 10, 26, 27, 37] [(0, .pointer (some ⟨pp, 0, none⟩)), (1, .int .i64 t), (2, .int .i64 clp), (8, .slice (some ⟨g1, 0, none⟩) n n), (22, .int .i64 ((n : Nat) : Int)), (23, .int .i64 ((i : Nat) : Int)), (9, .int .i64 v), (10, .int .i64 ((i : Nat) : Int)), (26, .slice (some ⟨g1, 0, none⟩) n n), (27, .int .i64 ((i : Nat) : Int)), (37, .bool (!y1.r.zero))] (by kernel_rfl) rfl ?_
  refine VL_join y1.r.zero (fun bV => [(0, .pointer (some ⟨pp, 0, none⟩)), (1, .int .i64 t), (2, .int .i64 clp), (8, .slice (some ⟨g1, 0, none⟩) n n), (22, .int .i64 ((n : Nat) : Int)), (23, .int .i64 ((i : Nat) : Int)), (9, .int .i64 v), (10, .int .i64 ((i : Nat) : Int)), (26, .slice (some ⟨g1, 0, none⟩) n n), (27, .int .i64 ((i : Nat) : Int)), (37, .bool (!bV))]) 15 [(0, .pointer (some ⟨pp, 0, none⟩)), (1, .int .i64 t), (2, .int .i64 clp), (8, .slice (some ⟨g1, 0, none⟩) n n), (22, .int .i64 ((n : Nat) : Int)), (23, .int .i64 ((i : Nat) : Int)), (9, .int .i64 v), (10, .int .i64 ((i : Nat) : Int)), (26, .slice (some ⟨g1, 0, none⟩) n n), (27, .int .i64 ((i : Nat) : Int)), (40, .bool ((!y1.r.zero) || (clp == 0)))] rfl (fun hg1 J1 => ?_) (fun hg1 J1 => ?_) ?_
  ·refine VL_pure 15 [0, 1, 2, 8, 22, 23, 9, 10, 26, 27, 40] [(0, .pointer (some ⟨pp, 0, none⟩)), (1, .int .i64 t), (2, .int .i64 clp), (8, .slice (some ⟨g1, 0, none⟩) n n), (22, .int .i64 ((n : Nat) : Int)), (23, .int .i64 ((i : Nat) : Int)), (9, .int .i64 v), (10, .int .i64 ((i : Nat) : Int)), (26, .slice (some ⟨g1, 0, none⟩) n n), (27, .int .i64 ((i : Nat) : Int)), (40, .bool (clp == 0))] (by kernel_rfl) rfl ?_
   exact VL_eq _ TDa4ai J1
  ·refine VL_pure 15 [0, 1, 2, 8, 22, 23, 9, 10, 26, 27, 40] [(0, .pointer (some ⟨pp, 0, none⟩)), (1, .int .i64 t), (2, .int .i64 clp), (8, .slice (some ⟨g1, 0, none⟩) n n), (22, .int .i64 ((n : Nat) : Int)), (23, .int .i64 ((i : Nat) : Int)), (9, .int .i64 v), (10, .int .i64 ((i : Nat) : Int)), (26, .slice (some ⟨g1, 0, none⟩) n n), (27, .int .i64 ((i : Nat) : Int)), (40, .bool true)] (by kernel_rfl) rfl ?_
   exact VL_eq _ TDa4ai J1
  refine VL_eq [(0, .pointer (some ⟨pp, 0, none⟩)), (1, .int .i64 t), (2, .int .i64 clp), (8, .slice (some ⟨g1, 0, none⟩) n n), (22, .int .i64 ((n : Nat) : Int)), (23, .int .i64 ((i : Nat) : Int)), (9, .int .i64 v), (10, .int .i64 ((i : Nat) : Int)), (26, .slice (some ⟨g1, 0, none⟩) n n), (27, .int .i64 ((i : Nat) : Int)), (40, .bool (askB clp y1.r))] (by rfl) ?_
  refine VL_index (d := 41) (b := g1) (o := 0) (len := n) (sz := 1) (m := ((i : Nat) : Int)) (by kernel_rfl) (by kernel_rfl) i (by rfl) (by omega) i (by omega) ?_
  obtain ⟨cur1, hgbcur1, hglcur1, howcur1, hcscur1, hcncur1, hcmcur1, hctcur1⟩ := hr2.openG
  refine VL_store (b := g1) (o := i) (vs := [.bool (askB clp y1.r)]) (by kernel_rfl) (by kernel_rfl) howcur1 TDa4am ?_
  intro w3 hw1
  replace hS := Step.transNew hS hw1.step (fun _ _ _ => by omega)
  replace hp := hp.step hw1.step (show ¬ pp = g1 by omega)
  replace hRow := hRow.step hw1.step (fun k hk1 hk2 (hF : k = g1) => by omega)
  replace hBow := hBow.step hw1.step (fun k hk1 hk2 (hF : k = g1) => by omega)
  replace hb := DbsW.step hb hw1.step (fun x9 hx9 hF9 => by have h8 := hbl x9 hx9; have h7 : x9.p = g1 := hF9; omega)
  replace hrl := Nat.lt_of_lt_of_le hrl (hw1.step).size
  replace hbbl := Nat.lt_of_lt_of_le hbbl (hw1.step).size
  replace hbase1 := Nat.le_trans hbase1 (hw1.step).size
  replace hglg1 := Nat.lt_of_lt_of_le hglg1 (hw1.step).size
  have ho1 := Rw.putB hctcur1 hw1 hgbcur1 hcscur1 hcncur1 hcmcur1 (j := i) (by omega)
  refine VL_end (by kernel_rfl) ?_
  refine VQ_next ?_
  refine VC_seq ?_
  refine VC_seq ?_
  refine VC_region ?_
  refine VL_pure 2 [0, 1, 2, 8, 22, 23, 9, 10, 42, 43] [(0, .pointer (some ⟨pp, 0, none⟩)), (1, .int .i64 t), (2, .int .i64 clp), (8, .slice (some ⟨g1, 0, none⟩) n n), (22, .int .i64 ((n : Nat) : Int)), (23, .int .i64 ((i : Nat) : Int)), (9, .int .i64 v), (10, .int .i64 ((i : Nat) : Int)), (42, .slice (some ⟨g1, 0, none⟩) n n), (43, .int .i64 ((i : Nat) : Int))] (by kernel_rfl) rfl ?_
  refine VL_index (d := 44) (b := g1) (o := 0) (len := n) (sz := 1) (m := ((i : Nat) : Int)) (by kernel_rfl) (by kernel_rfl) i (by rfl) (by omega) i (by omega) ?_
  refine VL_load (d := 45) (t := 4) (a := ⟨g1, i, none⟩) (v := .bool ((qs.set i (askB clp y1.r)).getD i false)) (by kernel_rfl) (by kernel_rfl) (Rw.ldB ho1 (by kernel_rfl) (by omega)) ?_
  refine VL_pure 5 [0, 1, 2, 8, 22, 23, 9, 10, 46] [(0, .pointer (some ⟨pp, 0, none⟩)), (1, .int .i64 t), (2, .int .i64 clp), (8, .slice (some ⟨g1, 0, none⟩) n n), (22, .int .i64 ((n : Nat) : Int)), (23, .int .i64 ((i : Nat) : Int)), (9, .int .i64 v), (10, .int .i64 ((i : Nat) : Int)), (46, .bool ((qs.set i (askB clp y1.r)).getD i false))] (by kernel_rfl) rfl ?_
  refine VL_eq [(0, .pointer (some ⟨pp, 0, none⟩)), (1, .int .i64 t), (2, .int .i64 clp), (8, .slice (some ⟨g1, 0, none⟩) n n), (22, .int .i64 ((n : Nat) : Int)), (23, .int .i64 ((i : Nat) : Int)), (9, .int .i64 v), (10, .int .i64 ((i : Nat) : Int)), (46, .bool (askB clp y1.r))] TDa4al ?_
  refine VL_bool (askB clp y1.r) (fun bV => [(0, .pointer (some ⟨pp, 0, none⟩)), (1, .int .i64 t), (2, .int .i64 clp), (8, .slice (some ⟨g1, 0, none⟩) n n), (22, .int .i64 ((n : Nat) : Int)), (23, .int .i64 ((i : Nat) : Int)), (9, .int .i64 v), (10, .int .i64 ((i : Nat) : Int)), (46, .bool bV)]) rfl (fun hg2 => ?_) (fun hg2 => ?_)
  ·refine VL_pure 8 [0, 1, 2, 8, 22, 23, 9, 10, 46, 49] [(0, .pointer (some ⟨pp, 0, none⟩)), (1, .int .i64 t), (2, .int .i64 clp), (8, .slice (some ⟨g1, 0, none⟩) n n), (22, .int .i64 ((n : Nat) : Int)), (23, .int .i64 ((i : Nat) : Int)), (9, .int .i64 v), (10, .int .i64 ((i : Nat) : Int)), (46, .bool true), (49, .pointer (some ⟨pp, 7, none⟩))] (by kernel_rfl) rfl ?_
   refine VL_load (d := 50) (t := 93) (a := ⟨pp, 7, none⟩) (v := .slice (some ⟨bb, 0, none⟩) n c2) (by kernel_rfl) (by kernel_rfl) (Loads.own1 hp (by kernel_rfl) (by rfl)) ?_
   refine VL_pure 10 [0, 1, 2, 8, 22, 23, 9, 10, 46, 50, 51] [(0, .pointer (some ⟨pp, 0, none⟩)), (1, .int .i64 t), (2, .int .i64 clp), (8, .slice (some ⟨g1, 0, none⟩) n n), (22, .int .i64 ((n : Nat) : Int)), (23, .int .i64 ((i : Nat) : Int)), (9, .int .i64 v), (10, .int .i64 ((i : Nat) : Int)), (46, .bool true), (50, .slice (some ⟨bb, 0, none⟩) n c2), (51, .int .i64 ((i : Nat) : Int))] (by kernel_rfl) rfl ?_
   refine VL_index (d := 52) (b := bb) (o := 0) (len := n) (sz := 1) (m := ((i : Nat) : Int)) (by kernel_rfl) (by kernel_rfl) i (by rfl) (by omega) i (by omega) ?_
   refine VL_load (d := 53) (t := 97) (a := ⟨bb, i, none⟩) (v := .pointer (some ⟨y1.p, 0, none⟩)) (by kernel_rfl) (by kernel_rfl) (Sl.flatOne (sz := 1) (Sl2.sl hBow) dpt_len hy1 0 (by rfl) (by decide) (by kernel_rfl) _ (by first | rfl | omega)) ?_
   refine VL_pure 13 [0, 1, 2, 8, 22, 23, 9, 10, 46, 53, 54] [(0, .pointer (some ⟨pp, 0, none⟩)), (1, .int .i64 t), (2, .int .i64 clp), (8, .slice (some ⟨g1, 0, none⟩) n n), (22, .int .i64 ((n : Nat) : Int)), (23, .int .i64 ((i : Nat) : Int)), (9, .int .i64 v), (10, .int .i64 ((i : Nat) : Int)), (46, .bool true), (53, .pointer (some ⟨y1.p, 0, none⟩)), (54, .int .i64 t)] (by kernel_rfl) rfl ?_
   refine VL_call (d := 55) (f := 76) (args := #[.pointer (some ⟨y1.p, 0, none⟩), .int .i64 t]) (by kernel_rfl) (by kernel_rfl) (by kernel_rfl) Tryz.call76 (dfits_any y1.p y1.lv t _ (hb y1 hmy1).2 (hb y1 hmy1).1) ?_
   rintro _ w4 ⟨rfl, hc1⟩
   replace hS := Step.trans hS hc1
   replace hp := hp.no hc1
   replace hRow := hRow.step hc1 (fun k hk1 hk2 hF => hF)
   replace hBow := hBow.step hc1 (fun k hk1 hk2 hF => hF)
   replace hb := (fun h9 s9 => DbsW.step h9 s9 (fun _ _ => id)) hb hc1
   replace hrl := Nat.lt_of_lt_of_le hrl (hc1).size
   replace hbbl := Nat.lt_of_lt_of_le hbbl (hc1).size
   replace hbase1 := Nat.le_trans hbase1 (hc1).size
   replace hglg1 := Nat.lt_of_lt_of_le hglg1 (hc1).size
   replace ho1 := ho1.no hc1
   refine VL_pure 17 [0, 1, 2, 8, 22, 23, 9, 10, 58] [(0, .pointer (some ⟨pp, 0, none⟩)), (1, .int .i64 t), (2, .int .i64 clp), (8, .slice (some ⟨g1, 0, none⟩) n n), (22, .int .i64 ((n : Nat) : Int)), (23, .int .i64 ((i : Nat) : Int)), (9, .int .i64 v), (10, .int .i64 ((i : Nat) : Int)), (58, .bool (!(fitsB y1.r.b t)))] (by kernel_rfl) rfl ?_
   refine VL_bool (fitsB y1.r.b t) (fun bV => [(0, .pointer (some ⟨pp, 0, none⟩)), (1, .int .i64 t), (2, .int .i64 clp), (8, .slice (some ⟨g1, 0, none⟩) n n), (22, .int .i64 ((n : Nat) : Int)), (23, .int .i64 ((i : Nat) : Int)), (9, .int .i64 v), (10, .int .i64 ((i : Nat) : Int)), (58, .bool (!bV))]) rfl (fun hg3 => ?_) (fun hg3 => ?_)
   ·refine VL_pure 30 [0, 1, 2, 8, 22, 23, 9, 10, 71] [(0, .pointer (some ⟨pp, 0, none⟩)), (1, .int .i64 t), (2, .int .i64 clp), (8, .slice (some ⟨g1, 0, none⟩) n n), (22, .int .i64 ((n : Nat) : Int)), (23, .int .i64 ((i : Nat) : Int)), (9, .int .i64 v), (10, .int .i64 ((i : Nat) : Int)), (71, .bool false)] (by kernel_rfl) rfl ?_
    refine VL_end (by kernel_rfl) ?_
    refine VQ_next ?_
    refine VC_false (by kernel_rfl) ?_
    refine VC_skip ?_
    refine VQ_next ?_
    refine VC_seq ?_
    refine VC_region ?_
    refine VL_pure 2 [0, 1, 2, 8, 22, 23, 9, 10, 72, 73] [(0, .pointer (some ⟨pp, 0, none⟩)), (1, .int .i64 t), (2, .int .i64 clp), (8, .slice (some ⟨g1, 0, none⟩) n n), (22, .int .i64 ((n : Nat) : Int)), (23, .int .i64 ((i : Nat) : Int)), (9, .int .i64 v), (10, .int .i64 ((i : Nat) : Int)), (72, .slice (some ⟨g1, 0, none⟩) n n), (73, .int .i64 ((i : Nat) : Int))] (by kernel_rfl) rfl ?_
    refine VL_index (d := 74) (b := g1) (o := 0) (len := n) (sz := 1) (m := ((i : Nat) : Int)) (by kernel_rfl) (by kernel_rfl) i (by rfl) (by omega) i (by omega) ?_
    refine VL_load (d := 75) (t := 4) (a := ⟨g1, i, none⟩) (v := .bool ((qs.set i (askB clp y1.r)).getD i false)) (by kernel_rfl) (by kernel_rfl) (Rw.ldB ho1 (by kernel_rfl) (by omega)) ?_
    refine VL_pure 5 [0, 1, 2, 8, 22, 23, 9, 10, 76] [(0, .pointer (some ⟨pp, 0, none⟩)), (1, .int .i64 t), (2, .int .i64 clp), (8, .slice (some ⟨g1, 0, none⟩) n n), (22, .int .i64 ((n : Nat) : Int)), (23, .int .i64 ((i : Nat) : Int)), (9, .int .i64 v), (10, .int .i64 ((i : Nat) : Int)), (76, .bool ((qs.set i (askB clp y1.r)).getD i false))] (by kernel_rfl) rfl ?_
    refine VL_eq [(0, .pointer (some ⟨pp, 0, none⟩)), (1, .int .i64 t), (2, .int .i64 clp), (8, .slice (some ⟨g1, 0, none⟩) n n), (22, .int .i64 ((n : Nat) : Int)), (23, .int .i64 ((i : Nat) : Int)), (9, .int .i64 v), (10, .int .i64 ((i : Nat) : Int)), (76, .bool (askB clp y1.r))] TDa4al ?_
    refine VL_bool (askB clp y1.r) (fun bV => [(0, .pointer (some ⟨pp, 0, none⟩)), (1, .int .i64 t), (2, .int .i64 clp), (8, .slice (some ⟨g1, 0, none⟩) n n), (22, .int .i64 ((n : Nat) : Int)), (23, .int .i64 ((i : Nat) : Int)), (9, .int .i64 v), (10, .int .i64 ((i : Nat) : Int)), (76, .bool bV)]) rfl (fun hg4 => ?_) (fun hg4 => ?_)
    ·refine VL_pure 8 [0, 1, 2, 8, 22, 23, 9, 10, 76, 79] [(0, .pointer (some ⟨pp, 0, none⟩)), (1, .int .i64 t), (2, .int .i64 clp), (8, .slice (some ⟨g1, 0, none⟩) n n), (22, .int .i64 ((n : Nat) : Int)), (23, .int .i64 ((i : Nat) : Int)), (9, .int .i64 v), (10, .int .i64 ((i : Nat) : Int)), (76, .bool true), (79, .pointer (some ⟨pp, 7, none⟩))] (by kernel_rfl) rfl ?_
     refine VL_load (d := 80) (t := 93) (a := ⟨pp, 7, none⟩) (v := .slice (some ⟨bb, 0, none⟩) n c2) (by kernel_rfl) (by kernel_rfl) (Loads.own1 hp (by kernel_rfl) (by rfl)) ?_
     refine VL_pure 10 [0, 1, 2, 8, 22, 23, 9, 10, 76, 80, 81] [(0, .pointer (some ⟨pp, 0, none⟩)), (1, .int .i64 t), (2, .int .i64 clp), (8, .slice (some ⟨g1, 0, none⟩) n n), (22, .int .i64 ((n : Nat) : Int)), (23, .int .i64 ((i : Nat) : Int)), (9, .int .i64 v), (10, .int .i64 ((i : Nat) : Int)), (76, .bool true), (80, .slice (some ⟨bb, 0, none⟩) n c2), (81, .int .i64 ((i : Nat) : Int))] (by kernel_rfl) rfl ?_
     refine VL_index (d := 82) (b := bb) (o := 0) (len := n) (sz := 1) (m := ((i : Nat) : Int)) (by kernel_rfl) (by kernel_rfl) i (by rfl) (by omega) i (by omega) ?_
     refine VL_load (d := 83) (t := 97) (a := ⟨bb, i, none⟩) (v := .pointer (some ⟨y1.p, 0, none⟩)) (by kernel_rfl) (by kernel_rfl) (Sl.flatOne (sz := 1) (Sl2.sl hBow) dpt_len hy1 0 (by rfl) (by decide) (by kernel_rfl) _ (by first | rfl | omega)) ?_
     refine VL_pure 13 [0, 1, 2, 8, 22, 23, 9, 10, 76, 83, 84] [(0, .pointer (some ⟨pp, 0, none⟩)), (1, .int .i64 t), (2, .int .i64 clp), (8, .slice (some ⟨g1, 0, none⟩) n n), (22, .int .i64 ((n : Nat) : Int)), (23, .int .i64 ((i : Nat) : Int)), (9, .int .i64 v), (10, .int .i64 ((i : Nat) : Int)), (76, .bool true), (83, .pointer (some ⟨y1.p, 0, none⟩)), (84, .int .i64 t)] (by kernel_rfl) rfl ?_
     refine VL_call (d := 85) (f := 76) (args := #[.pointer (some ⟨y1.p, 0, none⟩), .int .i64 t]) (by kernel_rfl) (by kernel_rfl) (by kernel_rfl) Tryz.call76 (dfits_any y1.p y1.lv t _ (hb y1 hmy1).2 (hb y1 hmy1).1) ?_
     rintro _ w5 ⟨rfl, hc2⟩
     replace hS := Step.trans hS hc2
     replace hp := hp.no hc2
     replace hRow := hRow.step hc2 (fun k hk1 hk2 hF => hF)
     replace hBow := hBow.step hc2 (fun k hk1 hk2 hF => hF)
     replace hb := (fun h9 s9 => DbsW.step h9 s9 (fun _ _ => id)) hb hc2
     replace hrl := Nat.lt_of_lt_of_le hrl (hc2).size
     replace hbbl := Nat.lt_of_lt_of_le hbbl (hc2).size
     replace hbase1 := Nat.le_trans hbase1 (hc2).size
     replace hglg1 := Nat.lt_of_lt_of_le hglg1 (hc2).size
     replace ho1 := ho1.no hc2
     refine VL_pure 17 [0, 1, 2, 8, 22, 23, 9, 10, 88] [(0, .pointer (some ⟨pp, 0, none⟩)), (1, .int .i64 t), (2, .int .i64 clp), (8, .slice (some ⟨g1, 0, none⟩) n n), (22, .int .i64 ((n : Nat) : Int)), (23, .int .i64 ((i : Nat) : Int)), (9, .int .i64 v), (10, .int .i64 ((i : Nat) : Int)), (88, .bool (!(fitsB y1.r.b t)))] (by kernel_rfl) rfl ?_
     refine VL_bool (fitsB y1.r.b t) (fun bV => [(0, .pointer (some ⟨pp, 0, none⟩)), (1, .int .i64 t), (2, .int .i64 clp), (8, .slice (some ⟨g1, 0, none⟩) n n), (22, .int .i64 ((n : Nat) : Int)), (23, .int .i64 ((i : Nat) : Int)), (9, .int .i64 v), (10, .int .i64 ((i : Nat) : Int)), (88, .bool (!bV))]) rfl (fun hg5 => ?_) (fun hg5 => ?_)
     ·refine VL_pure 27 [0, 1, 2, 8, 22, 23, 9, 98] [(0, .pointer (some ⟨pp, 0, none⟩)), (1, .int .i64 t), (2, .int .i64 clp), (8, .slice (some ⟨g1, 0, none⟩) n n), (22, .int .i64 ((n : Nat) : Int)), (23, .int .i64 ((i : Nat) : Int)), (9, .int .i64 v), (98, .bool false)] (by kernel_rfl) rfl ?_
      refine VL_end (by kernel_rfl) ?_
      refine VQ_next ?_
      refine VC_false (by kernel_rfl) ?_
      refine VC_skip ?_
      refine VQ_block_normal ?_
      refine VQ_next ?_
      refine VC_region ?_
      refine VL_pure 1 [0, 1, 2, 8, 22, 9, 99] [(0, .pointer (some ⟨pp, 0, none⟩)), (1, .int .i64 t), (2, .int .i64 clp), (8, .slice (some ⟨g1, 0, none⟩) n n), (22, .int .i64 ((n : Nat) : Int)), (9, .int .i64 v), (99, .int .i64 (IntKind.wrap .i64 (((i : Nat) : Int) + 1)))] (by kernel_rfl) rfl ?_
      have he1 : IntKind.wrap .i64 (((i : Nat) : Int) + 1) = ((i + 1 : Nat) : Int) := TDa4ab
      refine VL_eq [(0, .pointer (some ⟨pp, 0, none⟩)), (1, .int .i64 t), (2, .int .i64 clp), (8, .slice (some ⟨g1, 0, none⟩) n n), (22, .int .i64 ((n : Nat) : Int)), (9, .int .i64 v), (99, .int .i64 ((i + 1 : Nat) : Int))] (by rw [he1]) ?_
      refine VL_pure 2 [0, 1, 2, 8, 22, 9, 23] [(0, .pointer (some ⟨pp, 0, none⟩)), (1, .int .i64 t), (2, .int .i64 clp), (8, .slice (some ⟨g1, 0, none⟩) n n), (22, .int .i64 ((n : Nat) : Int)), (9, .int .i64 v), (23, .int .i64 ((i + 1 : Nat) : Int))] (by kernel_rfl) rfl ?_
      refine VL_end (by kernel_rfl) ?_
      refine VQ_again ⟨i + 1, v, qs.set i (askB clp y1.r)⟩ ⟨rfl, rfl, rfl, rfl, rfl, rfl, rfl, trivial⟩ ?_ ?_
      ·exact ⟨(by omega), TDa4aa, TDa4ac, (ask_set (by omega) hy1 hz rfl), hS, hp, hRow, hBow, hb, hrl, hbbl, hbase1, hglg1, (Rw.cast ho1 rfl rfl)⟩
      ·(try dsimp only); omega
     ·refine VL_pure 20 [0, 1, 2, 8, 22, 23, 9, 10, 88, 91] [(0, .pointer (some ⟨pp, 0, none⟩)), (1, .int .i64 t), (2, .int .i64 clp), (8, .slice (some ⟨g1, 0, none⟩) n n), (22, .int .i64 ((n : Nat) : Int)), (23, .int .i64 ((i : Nat) : Int)), (9, .int .i64 v), (10, .int .i64 ((i : Nat) : Int)), (88, .bool true), (91, .pointer (some ⟨pp, 6, none⟩))] (by kernel_rfl) rfl ?_
      refine VL_load (d := 92) (t := 91) (a := ⟨pp, 6, none⟩) (v := .slice (some ⟨rb, 0, none⟩) n c) (by kernel_rfl) (by kernel_rfl) (Loads.own1 hp (by kernel_rfl) (by rfl)) ?_
      refine VL_pure 22 [0, 1, 2, 8, 22, 23, 9, 88, 92, 93] [(0, .pointer (some ⟨pp, 0, none⟩)), (1, .int .i64 t), (2, .int .i64 clp), (8, .slice (some ⟨g1, 0, none⟩) n n), (22, .int .i64 ((n : Nat) : Int)), (23, .int .i64 ((i : Nat) : Int)), (9, .int .i64 v), (88, .bool true), (92, .slice (some ⟨rb, 0, none⟩) n c), (93, .int .i64 ((i : Nat) : Int))] (by kernel_rfl) rfl ?_
      refine VL_index (d := 94) (b := rb) (o := 0) (len := n) (sz := 4) (m := ((i : Nat) : Int)) (by kernel_rfl) (by kernel_rfl) i (by rfl) (by omega) (i * 4) (by omega) ?_
      refine VL_pure 24 [0, 1, 2, 8, 22, 23, 9, 88, 95] [(0, .pointer (some ⟨pp, 0, none⟩)), (1, .int .i64 t), (2, .int .i64 clp), (8, .slice (some ⟨g1, 0, none⟩) n n), (22, .int .i64 ((n : Nat) : Int)), (23, .int .i64 ((i : Nat) : Int)), (9, .int .i64 v), (88, .bool true), (95, .pointer (some ⟨rb, i * 4 + 3, none⟩))] (by kernel_rfl) rfl ?_
      refine VL_load (d := 96) (t := 4) (a := ⟨rb, i * 4 + 3, none⟩) (v := .bool y1.r.tag) (by kernel_rfl) (by kernel_rfl) (Sl.flatOne (sz := 4) (Sl2.sl hRow) drl_len hy1 3 (by rfl) (by decide) (by kernel_rfl) _ (by first | rfl | omega)) ?_
      refine VL_pure 27 [0, 1, 2, 8, 22, 23, 9, 98] [(0, .pointer (some ⟨pp, 0, none⟩)), (1, .int .i64 t), (2, .int .i64 clp), (8, .slice (some ⟨g1, 0, none⟩) n n), (22, .int .i64 ((n : Nat) : Int)), (23, .int .i64 ((i : Nat) : Int)), (9, .int .i64 v), (98, .bool (!y1.r.tag))] (by kernel_rfl) rfl ?_
      refine VL_end (by kernel_rfl) ?_
      refine VQ_next ?_
      refine VC_cond (!y1.r.tag) (by kernel_rfl) (fun h2 => ?_) (fun h2 => ?_)
      ·try simp only [Bool.and_eq_true, Bool.or_eq_true, decide_eq_true_eq, Bool.not_eq_true', decide_eq_false_iff_not, Bool.and_eq_false_iff, Bool.or_eq_false_iff, beq_iff_eq, bne_iff_ne, beq_eq_false_iff_ne, bne_eq_false_iff_eq, Bool.not_eq_eq_eq_not, Bool.not_true, Bool.not_false] at h2
       refine VC_region ?_
       refine VL_pure 1 [0, 1, 2, 8, 22, 23, 9] [(0, .pointer (some ⟨pp, 0, none⟩)), (1, .int .i64 t), (2, .int .i64 clp), (8, .slice (some ⟨g1, 0, none⟩) n n), (22, .int .i64 ((n : Nat) : Int)), (23, .int .i64 ((i : Nat) : Int)), (9, .int .i64 3)] (by kernel_rfl) rfl ?_
       refine VL_end (by kernel_rfl) ?_
       refine VQ_block_normal ?_
       refine VQ_next ?_
       refine VC_region ?_
       refine VL_pure 1 [0, 1, 2, 8, 22, 9, 99] [(0, .pointer (some ⟨pp, 0, none⟩)), (1, .int .i64 t), (2, .int .i64 clp), (8, .slice (some ⟨g1, 0, none⟩) n n), (22, .int .i64 ((n : Nat) : Int)), (9, .int .i64 3), (99, .int .i64 (IntKind.wrap .i64 (((i : Nat) : Int) + 1)))] (by kernel_rfl) rfl ?_
       have he2 : IntKind.wrap .i64 (((i : Nat) : Int) + 1) = ((i + 1 : Nat) : Int) := TDa4ab
       refine VL_eq [(0, .pointer (some ⟨pp, 0, none⟩)), (1, .int .i64 t), (2, .int .i64 clp), (8, .slice (some ⟨g1, 0, none⟩) n n), (22, .int .i64 ((n : Nat) : Int)), (9, .int .i64 3), (99, .int .i64 ((i + 1 : Nat) : Int))] (by rw [he2]) ?_
       refine VL_pure 2 [0, 1, 2, 8, 22, 9, 23] [(0, .pointer (some ⟨pp, 0, none⟩)), (1, .int .i64 t), (2, .int .i64 clp), (8, .slice (some ⟨g1, 0, none⟩) n n), (22, .int .i64 ((n : Nat) : Int)), (9, .int .i64 3), (23, .int .i64 ((i + 1 : Nat) : Int))] (by kernel_rfl) rfl ?_
       refine VL_end (by kernel_rfl) ?_
       refine VQ_again ⟨i + 1, 3, qs.set i (askB clp y1.r)⟩ ⟨rfl, rfl, rfl, rfl, rfl, rfl, rfl, trivial⟩ ?_ ?_
       ·exact ⟨(by omega), TDa4aa, TDa4ac, (ask_set (by omega) hy1 hz rfl), hS, hp, hRow, hBow, hb, hrl, hbbl, hbase1, hglg1, (Rw.cast ho1 rfl rfl)⟩
       ·(try dsimp only); omega
      ·try simp only [Bool.and_eq_true, Bool.or_eq_true, decide_eq_true_eq, Bool.not_eq_true', decide_eq_false_iff_not, Bool.and_eq_false_iff, Bool.or_eq_false_iff, beq_iff_eq, bne_iff_ne, beq_eq_false_iff_ne, bne_eq_false_iff_eq, Bool.not_eq_eq_eq_not, Bool.not_true, Bool.not_false] at h2
       refine VC_skip ?_
       refine VQ_block_normal ?_
       refine VQ_next ?_
       refine VC_region ?_
       refine VL_pure 1 [0, 1, 2, 8, 22, 9, 99] [(0, .pointer (some ⟨pp, 0, none⟩)), (1, .int .i64 t), (2, .int .i64 clp), (8, .slice (some ⟨g1, 0, none⟩) n n), (22, .int .i64 ((n : Nat) : Int)), (9, .int .i64 v), (99, .int .i64 (IntKind.wrap .i64 (((i : Nat) : Int) + 1)))] (by kernel_rfl) rfl ?_
       have he3 : IntKind.wrap .i64 (((i : Nat) : Int) + 1) = ((i + 1 : Nat) : Int) := TDa4ab
       refine VL_eq [(0, .pointer (some ⟨pp, 0, none⟩)), (1, .int .i64 t), (2, .int .i64 clp), (8, .slice (some ⟨g1, 0, none⟩) n n), (22, .int .i64 ((n : Nat) : Int)), (9, .int .i64 v), (99, .int .i64 ((i + 1 : Nat) : Int))] (by rw [he3]) ?_
       refine VL_pure 2 [0, 1, 2, 8, 22, 9, 23] [(0, .pointer (some ⟨pp, 0, none⟩)), (1, .int .i64 t), (2, .int .i64 clp), (8, .slice (some ⟨g1, 0, none⟩) n n), (22, .int .i64 ((n : Nat) : Int)), (9, .int .i64 v), (23, .int .i64 ((i + 1 : Nat) : Int))] (by kernel_rfl) rfl ?_
       refine VL_end (by kernel_rfl) ?_
       refine VQ_again ⟨i + 1, v, qs.set i (askB clp y1.r)⟩ ⟨rfl, rfl, rfl, rfl, rfl, rfl, rfl, trivial⟩ ?_ ?_
       ·exact ⟨(by omega), TDa4aa, TDa4ac, (ask_set (by omega) hy1 hz rfl), hS, hp, hRow, hBow, hb, hrl, hbbl, hbase1, hglg1, (Rw.cast ho1 rfl rfl)⟩
       ·(try dsimp only); omega
    ·refine VL_pure 27 [0, 1, 2, 8, 22, 23, 9, 98] [(0, .pointer (some ⟨pp, 0, none⟩)), (1, .int .i64 t), (2, .int .i64 clp), (8, .slice (some ⟨g1, 0, none⟩) n n), (22, .int .i64 ((n : Nat) : Int)), (23, .int .i64 ((i : Nat) : Int)), (9, .int .i64 v), (98, .bool false)] (by kernel_rfl) rfl ?_
     refine VL_end (by kernel_rfl) ?_
     refine VQ_next ?_
     refine VC_false (by kernel_rfl) ?_
     refine VC_skip ?_
     refine VQ_block_normal ?_
     refine VQ_next ?_
     refine VC_region ?_
     refine VL_pure 1 [0, 1, 2, 8, 22, 9, 99] [(0, .pointer (some ⟨pp, 0, none⟩)), (1, .int .i64 t), (2, .int .i64 clp), (8, .slice (some ⟨g1, 0, none⟩) n n), (22, .int .i64 ((n : Nat) : Int)), (9, .int .i64 v), (99, .int .i64 (IntKind.wrap .i64 (((i : Nat) : Int) + 1)))] (by kernel_rfl) rfl ?_
     have he4 : IntKind.wrap .i64 (((i : Nat) : Int) + 1) = ((i + 1 : Nat) : Int) := TDa4ab
     refine VL_eq [(0, .pointer (some ⟨pp, 0, none⟩)), (1, .int .i64 t), (2, .int .i64 clp), (8, .slice (some ⟨g1, 0, none⟩) n n), (22, .int .i64 ((n : Nat) : Int)), (9, .int .i64 v), (99, .int .i64 ((i + 1 : Nat) : Int))] (by rw [he4]) ?_
     refine VL_pure 2 [0, 1, 2, 8, 22, 9, 23] [(0, .pointer (some ⟨pp, 0, none⟩)), (1, .int .i64 t), (2, .int .i64 clp), (8, .slice (some ⟨g1, 0, none⟩) n n), (22, .int .i64 ((n : Nat) : Int)), (9, .int .i64 v), (23, .int .i64 ((i + 1 : Nat) : Int))] (by kernel_rfl) rfl ?_
     refine VL_end (by kernel_rfl) ?_
     refine VQ_again ⟨i + 1, v, qs.set i (askB clp y1.r)⟩ ⟨rfl, rfl, rfl, rfl, rfl, rfl, rfl, trivial⟩ ?_ ?_
     ·exact ⟨(by omega), TDa4aa, TDa4ac, (ask_set (by omega) hy1 hz rfl), hS, hp, hRow, hBow, hb, hrl, hbbl, hbase1, hglg1, (Rw.cast ho1 rfl rfl)⟩
     ·(try dsimp only); omega
   ·refine VL_pure 20 [0, 1, 2, 8, 22, 23, 9, 10, 58, 61] [(0, .pointer (some ⟨pp, 0, none⟩)), (1, .int .i64 t), (2, .int .i64 clp), (8, .slice (some ⟨g1, 0, none⟩) n n), (22, .int .i64 ((n : Nat) : Int)), (23, .int .i64 ((i : Nat) : Int)), (9, .int .i64 v), (10, .int .i64 ((i : Nat) : Int)), (58, .bool true), (61, .pointer (some ⟨pp, 6, none⟩))] (by kernel_rfl) rfl ?_
    refine VL_load (d := 62) (t := 91) (a := ⟨pp, 6, none⟩) (v := .slice (some ⟨rb, 0, none⟩) n c) (by kernel_rfl) (by kernel_rfl) (Loads.own1 hp (by kernel_rfl) (by rfl)) ?_
    refine VL_pure 22 [0, 1, 2, 8, 22, 23, 9, 10, 58, 62, 63] [(0, .pointer (some ⟨pp, 0, none⟩)), (1, .int .i64 t), (2, .int .i64 clp), (8, .slice (some ⟨g1, 0, none⟩) n n), (22, .int .i64 ((n : Nat) : Int)), (23, .int .i64 ((i : Nat) : Int)), (9, .int .i64 v), (10, .int .i64 ((i : Nat) : Int)), (58, .bool true), (62, .slice (some ⟨rb, 0, none⟩) n c), (63, .int .i64 ((i : Nat) : Int))] (by kernel_rfl) rfl ?_
    refine VL_index (d := 64) (b := rb) (o := 0) (len := n) (sz := 4) (m := ((i : Nat) : Int)) (by kernel_rfl) (by kernel_rfl) i (by rfl) (by omega) (i * 4) (by omega) ?_
    refine VL_pure 24 [0, 1, 2, 8, 22, 23, 9, 10, 58, 65] [(0, .pointer (some ⟨pp, 0, none⟩)), (1, .int .i64 t), (2, .int .i64 clp), (8, .slice (some ⟨g1, 0, none⟩) n n), (22, .int .i64 ((n : Nat) : Int)), (23, .int .i64 ((i : Nat) : Int)), (9, .int .i64 v), (10, .int .i64 ((i : Nat) : Int)), (58, .bool true), (65, .pointer (some ⟨rb, i * 4 + 3, none⟩))] (by kernel_rfl) rfl ?_
    refine VL_load (d := 66) (t := 4) (a := ⟨rb, i * 4 + 3, none⟩) (v := .bool y1.r.tag) (by kernel_rfl) (by kernel_rfl) (Sl.flatOne (sz := 4) (Sl2.sl hRow) drl_len hy1 3 (by rfl) (by decide) (by kernel_rfl) _ (by first | rfl | omega)) ?_
    refine VL_pure 27 [0, 1, 2, 8, 22, 23, 9, 10, 68] [(0, .pointer (some ⟨pp, 0, none⟩)), (1, .int .i64 t), (2, .int .i64 clp), (8, .slice (some ⟨g1, 0, none⟩) n n), (22, .int .i64 ((n : Nat) : Int)), (23, .int .i64 ((i : Nat) : Int)), (9, .int .i64 v), (10, .int .i64 ((i : Nat) : Int)), (68, .bool y1.r.tag)] (by kernel_rfl) rfl ?_
    refine VL_join y1.r.tag (fun bV => [(0, .pointer (some ⟨pp, 0, none⟩)), (1, .int .i64 t), (2, .int .i64 clp), (8, .slice (some ⟨g1, 0, none⟩) n n), (22, .int .i64 ((n : Nat) : Int)), (23, .int .i64 ((i : Nat) : Int)), (9, .int .i64 v), (10, .int .i64 ((i : Nat) : Int)), (68, .bool bV)]) 30 [(0, .pointer (some ⟨pp, 0, none⟩)), (1, .int .i64 t), (2, .int .i64 clp), (8, .slice (some ⟨g1, 0, none⟩) n n), (22, .int .i64 ((n : Nat) : Int)), (23, .int .i64 ((i : Nat) : Int)), (9, .int .i64 v), (10, .int .i64 ((i : Nat) : Int)), (71, .bool (y1.r.tag && (v == 1)))] rfl (fun hg6 J2 => ?_) (fun hg6 J2 => ?_) ?_
    ·refine VL_pure 30 [0, 1, 2, 8, 22, 23, 9, 10, 71] [(0, .pointer (some ⟨pp, 0, none⟩)), (1, .int .i64 t), (2, .int .i64 clp), (8, .slice (some ⟨g1, 0, none⟩) n n), (22, .int .i64 ((n : Nat) : Int)), (23, .int .i64 ((i : Nat) : Int)), (9, .int .i64 v), (10, .int .i64 ((i : Nat) : Int)), (71, .bool (v == 1))] (by kernel_rfl) rfl ?_
     exact VL_eq _ TDa4aj J2
    ·refine VL_pure 30 [0, 1, 2, 8, 22, 23, 9, 10, 71] [(0, .pointer (some ⟨pp, 0, none⟩)), (1, .int .i64 t), (2, .int .i64 clp), (8, .slice (some ⟨g1, 0, none⟩) n n), (22, .int .i64 ((n : Nat) : Int)), (23, .int .i64 ((i : Nat) : Int)), (9, .int .i64 v), (10, .int .i64 ((i : Nat) : Int)), (71, .bool false)] (by kernel_rfl) rfl ?_
     exact VL_eq _ TDa4aj J2
    refine VL_end (by kernel_rfl) ?_
    refine VQ_next ?_
    refine VC_cond (y1.r.tag && (v == 1)) (by kernel_rfl) (fun h3 => ?_) (fun h3 => ?_)
    ·try simp only [Bool.and_eq_true, Bool.or_eq_true, decide_eq_true_eq, Bool.not_eq_true', decide_eq_false_iff_not, Bool.and_eq_false_iff, Bool.or_eq_false_iff, beq_iff_eq, bne_iff_ne, beq_eq_false_iff_ne, bne_eq_false_iff_eq, Bool.not_eq_eq_eq_not, Bool.not_true, Bool.not_false] at h3
     refine VC_region ?_
     refine VL_pure 1 [0, 1, 2, 8, 22, 23, 9, 10] [(0, .pointer (some ⟨pp, 0, none⟩)), (1, .int .i64 t), (2, .int .i64 clp), (8, .slice (some ⟨g1, 0, none⟩) n n), (22, .int .i64 ((n : Nat) : Int)), (23, .int .i64 ((i : Nat) : Int)), (9, .int .i64 2), (10, .int .i64 ((i : Nat) : Int))] (by kernel_rfl) rfl ?_
     refine VL_end (by kernel_rfl) ?_
     refine VQ_next ?_
     refine VC_seq ?_
     refine VC_region ?_
     refine VL_pure 2 [0, 1, 2, 8, 22, 23, 9, 10, 72, 73] [(0, .pointer (some ⟨pp, 0, none⟩)), (1, .int .i64 t), (2, .int .i64 clp), (8, .slice (some ⟨g1, 0, none⟩) n n), (22, .int .i64 ((n : Nat) : Int)), (23, .int .i64 ((i : Nat) : Int)), (9, .int .i64 2), (10, .int .i64 ((i : Nat) : Int)), (72, .slice (some ⟨g1, 0, none⟩) n n), (73, .int .i64 ((i : Nat) : Int))] (by kernel_rfl) rfl ?_
     refine VL_index (d := 74) (b := g1) (o := 0) (len := n) (sz := 1) (m := ((i : Nat) : Int)) (by kernel_rfl) (by kernel_rfl) i (by rfl) (by omega) i (by omega) ?_
     refine VL_load (d := 75) (t := 4) (a := ⟨g1, i, none⟩) (v := .bool ((qs.set i (askB clp y1.r)).getD i false)) (by kernel_rfl) (by kernel_rfl) (Rw.ldB ho1 (by kernel_rfl) (by omega)) ?_
     refine VL_pure 5 [0, 1, 2, 8, 22, 23, 9, 10, 76] [(0, .pointer (some ⟨pp, 0, none⟩)), (1, .int .i64 t), (2, .int .i64 clp), (8, .slice (some ⟨g1, 0, none⟩) n n), (22, .int .i64 ((n : Nat) : Int)), (23, .int .i64 ((i : Nat) : Int)), (9, .int .i64 2), (10, .int .i64 ((i : Nat) : Int)), (76, .bool ((qs.set i (askB clp y1.r)).getD i false))] (by kernel_rfl) rfl ?_
     refine VL_eq [(0, .pointer (some ⟨pp, 0, none⟩)), (1, .int .i64 t), (2, .int .i64 clp), (8, .slice (some ⟨g1, 0, none⟩) n n), (22, .int .i64 ((n : Nat) : Int)), (23, .int .i64 ((i : Nat) : Int)), (9, .int .i64 2), (10, .int .i64 ((i : Nat) : Int)), (76, .bool (askB clp y1.r))] TDa4al ?_
     refine VL_bool (askB clp y1.r) (fun bV => [(0, .pointer (some ⟨pp, 0, none⟩)), (1, .int .i64 t), (2, .int .i64 clp), (8, .slice (some ⟨g1, 0, none⟩) n n), (22, .int .i64 ((n : Nat) : Int)), (23, .int .i64 ((i : Nat) : Int)), (9, .int .i64 2), (10, .int .i64 ((i : Nat) : Int)), (76, .bool bV)]) rfl (fun hg7 => ?_) (fun hg7 => ?_)
     ·refine VL_pure 8 [0, 1, 2, 8, 22, 23, 9, 10, 76, 79] [(0, .pointer (some ⟨pp, 0, none⟩)), (1, .int .i64 t), (2, .int .i64 clp), (8, .slice (some ⟨g1, 0, none⟩) n n), (22, .int .i64 ((n : Nat) : Int)), (23, .int .i64 ((i : Nat) : Int)), (9, .int .i64 2), (10, .int .i64 ((i : Nat) : Int)), (76, .bool true), (79, .pointer (some ⟨pp, 7, none⟩))] (by kernel_rfl) rfl ?_
      refine VL_load (d := 80) (t := 93) (a := ⟨pp, 7, none⟩) (v := .slice (some ⟨bb, 0, none⟩) n c2) (by kernel_rfl) (by kernel_rfl) (Loads.own1 hp (by kernel_rfl) (by rfl)) ?_
      refine VL_pure 10 [0, 1, 2, 8, 22, 23, 9, 10, 76, 80, 81] [(0, .pointer (some ⟨pp, 0, none⟩)), (1, .int .i64 t), (2, .int .i64 clp), (8, .slice (some ⟨g1, 0, none⟩) n n), (22, .int .i64 ((n : Nat) : Int)), (23, .int .i64 ((i : Nat) : Int)), (9, .int .i64 2), (10, .int .i64 ((i : Nat) : Int)), (76, .bool true), (80, .slice (some ⟨bb, 0, none⟩) n c2), (81, .int .i64 ((i : Nat) : Int))] (by kernel_rfl) rfl ?_
      refine VL_index (d := 82) (b := bb) (o := 0) (len := n) (sz := 1) (m := ((i : Nat) : Int)) (by kernel_rfl) (by kernel_rfl) i (by rfl) (by omega) i (by omega) ?_
      refine VL_load (d := 83) (t := 97) (a := ⟨bb, i, none⟩) (v := .pointer (some ⟨y1.p, 0, none⟩)) (by kernel_rfl) (by kernel_rfl) (Sl.flatOne (sz := 1) (Sl2.sl hBow) dpt_len hy1 0 (by rfl) (by decide) (by kernel_rfl) _ (by first | rfl | omega)) ?_
      refine VL_pure 13 [0, 1, 2, 8, 22, 23, 9, 10, 76, 83, 84] [(0, .pointer (some ⟨pp, 0, none⟩)), (1, .int .i64 t), (2, .int .i64 clp), (8, .slice (some ⟨g1, 0, none⟩) n n), (22, .int .i64 ((n : Nat) : Int)), (23, .int .i64 ((i : Nat) : Int)), (9, .int .i64 2), (10, .int .i64 ((i : Nat) : Int)), (76, .bool true), (83, .pointer (some ⟨y1.p, 0, none⟩)), (84, .int .i64 t)] (by kernel_rfl) rfl ?_
      refine VL_call (d := 85) (f := 76) (args := #[.pointer (some ⟨y1.p, 0, none⟩), .int .i64 t]) (by kernel_rfl) (by kernel_rfl) (by kernel_rfl) Tryz.call76 (dfits_any y1.p y1.lv t _ (hb y1 hmy1).2 (hb y1 hmy1).1) ?_
      rintro _ w6 ⟨rfl, hc3⟩
      replace hS := Step.trans hS hc3
      replace hp := hp.no hc3
      replace hRow := hRow.step hc3 (fun k hk1 hk2 hF => hF)
      replace hBow := hBow.step hc3 (fun k hk1 hk2 hF => hF)
      replace hb := (fun h9 s9 => DbsW.step h9 s9 (fun _ _ => id)) hb hc3
      replace hrl := Nat.lt_of_lt_of_le hrl (hc3).size
      replace hbbl := Nat.lt_of_lt_of_le hbbl (hc3).size
      replace hbase1 := Nat.le_trans hbase1 (hc3).size
      replace hglg1 := Nat.lt_of_lt_of_le hglg1 (hc3).size
      replace ho1 := ho1.no hc3
      refine VL_pure 17 [0, 1, 2, 8, 22, 23, 9, 10, 88] [(0, .pointer (some ⟨pp, 0, none⟩)), (1, .int .i64 t), (2, .int .i64 clp), (8, .slice (some ⟨g1, 0, none⟩) n n), (22, .int .i64 ((n : Nat) : Int)), (23, .int .i64 ((i : Nat) : Int)), (9, .int .i64 2), (10, .int .i64 ((i : Nat) : Int)), (88, .bool (!(fitsB y1.r.b t)))] (by kernel_rfl) rfl ?_
      refine VL_bool (fitsB y1.r.b t) (fun bV => [(0, .pointer (some ⟨pp, 0, none⟩)), (1, .int .i64 t), (2, .int .i64 clp), (8, .slice (some ⟨g1, 0, none⟩) n n), (22, .int .i64 ((n : Nat) : Int)), (23, .int .i64 ((i : Nat) : Int)), (9, .int .i64 2), (10, .int .i64 ((i : Nat) : Int)), (88, .bool (!bV))]) rfl (fun hg8 => ?_) (fun hg8 => ?_)
      ·refine VL_pure 27 [0, 1, 2, 8, 22, 23, 9, 98] [(0, .pointer (some ⟨pp, 0, none⟩)), (1, .int .i64 t), (2, .int .i64 clp), (8, .slice (some ⟨g1, 0, none⟩) n n), (22, .int .i64 ((n : Nat) : Int)), (23, .int .i64 ((i : Nat) : Int)), (9, .int .i64 2), (98, .bool false)] (by kernel_rfl) rfl ?_
       refine VL_end (by kernel_rfl) ?_
       refine VQ_next ?_
       refine VC_false (by kernel_rfl) ?_
       refine VC_skip ?_
       refine VQ_block_normal ?_
       refine VQ_next ?_
       refine VC_region ?_
       refine VL_pure 1 [0, 1, 2, 8, 22, 9, 99] [(0, .pointer (some ⟨pp, 0, none⟩)), (1, .int .i64 t), (2, .int .i64 clp), (8, .slice (some ⟨g1, 0, none⟩) n n), (22, .int .i64 ((n : Nat) : Int)), (9, .int .i64 2), (99, .int .i64 (IntKind.wrap .i64 (((i : Nat) : Int) + 1)))] (by kernel_rfl) rfl ?_
       have he5 : IntKind.wrap .i64 (((i : Nat) : Int) + 1) = ((i + 1 : Nat) : Int) := TDa4ab
       refine VL_eq [(0, .pointer (some ⟨pp, 0, none⟩)), (1, .int .i64 t), (2, .int .i64 clp), (8, .slice (some ⟨g1, 0, none⟩) n n), (22, .int .i64 ((n : Nat) : Int)), (9, .int .i64 2), (99, .int .i64 ((i + 1 : Nat) : Int))] (by rw [he5]) ?_
       refine VL_pure 2 [0, 1, 2, 8, 22, 9, 23] [(0, .pointer (some ⟨pp, 0, none⟩)), (1, .int .i64 t), (2, .int .i64 clp), (8, .slice (some ⟨g1, 0, none⟩) n n), (22, .int .i64 ((n : Nat) : Int)), (9, .int .i64 2), (23, .int .i64 ((i + 1 : Nat) : Int))] (by kernel_rfl) rfl ?_
       refine VL_end (by kernel_rfl) ?_
       refine VQ_again ⟨i + 1, 2, qs.set i (askB clp y1.r)⟩ ⟨rfl, rfl, rfl, rfl, rfl, rfl, rfl, trivial⟩ ?_ ?_
       ·exact ⟨(by omega), TDa4aa, TDa4ac, (ask_set (by omega) hy1 hz rfl), hS, hp, hRow, hBow, hb, hrl, hbbl, hbase1, hglg1, (Rw.cast ho1 rfl rfl)⟩
       ·(try dsimp only); omega
      ·refine VL_pure 20 [0, 1, 2, 8, 22, 23, 9, 10, 88, 91] [(0, .pointer (some ⟨pp, 0, none⟩)), (1, .int .i64 t), (2, .int .i64 clp), (8, .slice (some ⟨g1, 0, none⟩) n n), (22, .int .i64 ((n : Nat) : Int)), (23, .int .i64 ((i : Nat) : Int)), (9, .int .i64 2), (10, .int .i64 ((i : Nat) : Int)), (88, .bool true), (91, .pointer (some ⟨pp, 6, none⟩))] (by kernel_rfl) rfl ?_
       refine VL_load (d := 92) (t := 91) (a := ⟨pp, 6, none⟩) (v := .slice (some ⟨rb, 0, none⟩) n c) (by kernel_rfl) (by kernel_rfl) (Loads.own1 hp (by kernel_rfl) (by rfl)) ?_
       refine VL_pure 22 [0, 1, 2, 8, 22, 23, 9, 88, 92, 93] [(0, .pointer (some ⟨pp, 0, none⟩)), (1, .int .i64 t), (2, .int .i64 clp), (8, .slice (some ⟨g1, 0, none⟩) n n), (22, .int .i64 ((n : Nat) : Int)), (23, .int .i64 ((i : Nat) : Int)), (9, .int .i64 2), (88, .bool true), (92, .slice (some ⟨rb, 0, none⟩) n c), (93, .int .i64 ((i : Nat) : Int))] (by kernel_rfl) rfl ?_
       refine VL_index (d := 94) (b := rb) (o := 0) (len := n) (sz := 4) (m := ((i : Nat) : Int)) (by kernel_rfl) (by kernel_rfl) i (by rfl) (by omega) (i * 4) (by omega) ?_
       refine VL_pure 24 [0, 1, 2, 8, 22, 23, 9, 88, 95] [(0, .pointer (some ⟨pp, 0, none⟩)), (1, .int .i64 t), (2, .int .i64 clp), (8, .slice (some ⟨g1, 0, none⟩) n n), (22, .int .i64 ((n : Nat) : Int)), (23, .int .i64 ((i : Nat) : Int)), (9, .int .i64 2), (88, .bool true), (95, .pointer (some ⟨rb, i * 4 + 3, none⟩))] (by kernel_rfl) rfl ?_
       refine VL_load (d := 96) (t := 4) (a := ⟨rb, i * 4 + 3, none⟩) (v := .bool y1.r.tag) (by kernel_rfl) (by kernel_rfl) (Sl.flatOne (sz := 4) (Sl2.sl hRow) drl_len hy1 3 (by rfl) (by decide) (by kernel_rfl) _ (by first | rfl | omega)) ?_
       refine VL_pure 27 [0, 1, 2, 8, 22, 23, 9, 98] [(0, .pointer (some ⟨pp, 0, none⟩)), (1, .int .i64 t), (2, .int .i64 clp), (8, .slice (some ⟨g1, 0, none⟩) n n), (22, .int .i64 ((n : Nat) : Int)), (23, .int .i64 ((i : Nat) : Int)), (9, .int .i64 2), (98, .bool (!y1.r.tag))] (by kernel_rfl) rfl ?_
       refine VL_end (by kernel_rfl) ?_
       refine VQ_next ?_
       refine VC_cond (!y1.r.tag) (by kernel_rfl) (fun h4 => ?_) (fun h4 => ?_)
       ·try simp only [Bool.and_eq_true, Bool.or_eq_true, decide_eq_true_eq, Bool.not_eq_true', decide_eq_false_iff_not, Bool.and_eq_false_iff, Bool.or_eq_false_iff, beq_iff_eq, bne_iff_ne, beq_eq_false_iff_ne, bne_eq_false_iff_eq, Bool.not_eq_eq_eq_not, Bool.not_true, Bool.not_false] at h4
        refine VC_region ?_
        refine VL_pure 1 [0, 1, 2, 8, 22, 23, 9] [(0, .pointer (some ⟨pp, 0, none⟩)), (1, .int .i64 t), (2, .int .i64 clp), (8, .slice (some ⟨g1, 0, none⟩) n n), (22, .int .i64 ((n : Nat) : Int)), (23, .int .i64 ((i : Nat) : Int)), (9, .int .i64 3)] (by kernel_rfl) rfl ?_
        refine VL_end (by kernel_rfl) ?_
        refine VQ_block_normal ?_
        refine VQ_next ?_
        refine VC_region ?_
        refine VL_pure 1 [0, 1, 2, 8, 22, 9, 99] [(0, .pointer (some ⟨pp, 0, none⟩)), (1, .int .i64 t), (2, .int .i64 clp), (8, .slice (some ⟨g1, 0, none⟩) n n), (22, .int .i64 ((n : Nat) : Int)), (9, .int .i64 3), (99, .int .i64 (IntKind.wrap .i64 (((i : Nat) : Int) + 1)))] (by kernel_rfl) rfl ?_
        have he6 : IntKind.wrap .i64 (((i : Nat) : Int) + 1) = ((i + 1 : Nat) : Int) := TDa4ab
        refine VL_eq [(0, .pointer (some ⟨pp, 0, none⟩)), (1, .int .i64 t), (2, .int .i64 clp), (8, .slice (some ⟨g1, 0, none⟩) n n), (22, .int .i64 ((n : Nat) : Int)), (9, .int .i64 3), (99, .int .i64 ((i + 1 : Nat) : Int))] (by rw [he6]) ?_
        refine VL_pure 2 [0, 1, 2, 8, 22, 9, 23] [(0, .pointer (some ⟨pp, 0, none⟩)), (1, .int .i64 t), (2, .int .i64 clp), (8, .slice (some ⟨g1, 0, none⟩) n n), (22, .int .i64 ((n : Nat) : Int)), (9, .int .i64 3), (23, .int .i64 ((i + 1 : Nat) : Int))] (by kernel_rfl) rfl ?_
        refine VL_end (by kernel_rfl) ?_
        refine VQ_again ⟨i + 1, 3, qs.set i (askB clp y1.r)⟩ ⟨rfl, rfl, rfl, rfl, rfl, rfl, rfl, trivial⟩ ?_ ?_
        ·exact ⟨(by omega), TDa4aa, TDa4ac, (ask_set (by omega) hy1 hz rfl), hS, hp, hRow, hBow, hb, hrl, hbbl, hbase1, hglg1, (Rw.cast ho1 rfl rfl)⟩
        ·(try dsimp only); omega
       ·try simp only [Bool.and_eq_true, Bool.or_eq_true, decide_eq_true_eq, Bool.not_eq_true', decide_eq_false_iff_not, Bool.and_eq_false_iff, Bool.or_eq_false_iff, beq_iff_eq, bne_iff_ne, beq_eq_false_iff_ne, bne_eq_false_iff_eq, Bool.not_eq_eq_eq_not, Bool.not_true, Bool.not_false] at h4
        refine VC_skip ?_
        refine VQ_block_normal ?_
        refine VQ_next ?_
        refine VC_region ?_
        refine VL_pure 1 [0, 1, 2, 8, 22, 9, 99] [(0, .pointer (some ⟨pp, 0, none⟩)), (1, .int .i64 t), (2, .int .i64 clp), (8, .slice (some ⟨g1, 0, none⟩) n n), (22, .int .i64 ((n : Nat) : Int)), (9, .int .i64 2), (99, .int .i64 (IntKind.wrap .i64 (((i : Nat) : Int) + 1)))] (by kernel_rfl) rfl ?_
        have he7 : IntKind.wrap .i64 (((i : Nat) : Int) + 1) = ((i + 1 : Nat) : Int) := TDa4ab
        refine VL_eq [(0, .pointer (some ⟨pp, 0, none⟩)), (1, .int .i64 t), (2, .int .i64 clp), (8, .slice (some ⟨g1, 0, none⟩) n n), (22, .int .i64 ((n : Nat) : Int)), (9, .int .i64 2), (99, .int .i64 ((i + 1 : Nat) : Int))] (by rw [he7]) ?_
        refine VL_pure 2 [0, 1, 2, 8, 22, 9, 23] [(0, .pointer (some ⟨pp, 0, none⟩)), (1, .int .i64 t), (2, .int .i64 clp), (8, .slice (some ⟨g1, 0, none⟩) n n), (22, .int .i64 ((n : Nat) : Int)), (9, .int .i64 2), (23, .int .i64 ((i + 1 : Nat) : Int))] (by kernel_rfl) rfl ?_
        refine VL_end (by kernel_rfl) ?_
        refine VQ_again ⟨i + 1, 2, qs.set i (askB clp y1.r)⟩ ⟨rfl, rfl, rfl, rfl, rfl, rfl, rfl, trivial⟩ ?_ ?_
        ·exact ⟨(by omega), TDa4aa, TDa4ac, (ask_set (by omega) hy1 hz rfl), hS, hp, hRow, hBow, hb, hrl, hbbl, hbase1, hglg1, (Rw.cast ho1 rfl rfl)⟩
        ·(try dsimp only); omega
     ·refine VL_pure 27 [0, 1, 2, 8, 22, 23, 9, 98] [(0, .pointer (some ⟨pp, 0, none⟩)), (1, .int .i64 t), (2, .int .i64 clp), (8, .slice (some ⟨g1, 0, none⟩) n n), (22, .int .i64 ((n : Nat) : Int)), (23, .int .i64 ((i : Nat) : Int)), (9, .int .i64 2), (98, .bool false)] (by kernel_rfl) rfl ?_
      refine VL_end (by kernel_rfl) ?_
      refine VQ_next ?_
      refine VC_false (by kernel_rfl) ?_
      refine VC_skip ?_
      refine VQ_block_normal ?_
      refine VQ_next ?_
      refine VC_region ?_
      refine VL_pure 1 [0, 1, 2, 8, 22, 9, 99] [(0, .pointer (some ⟨pp, 0, none⟩)), (1, .int .i64 t), (2, .int .i64 clp), (8, .slice (some ⟨g1, 0, none⟩) n n), (22, .int .i64 ((n : Nat) : Int)), (9, .int .i64 2), (99, .int .i64 (IntKind.wrap .i64 (((i : Nat) : Int) + 1)))] (by kernel_rfl) rfl ?_
      have he8 : IntKind.wrap .i64 (((i : Nat) : Int) + 1) = ((i + 1 : Nat) : Int) := TDa4ab
      refine VL_eq [(0, .pointer (some ⟨pp, 0, none⟩)), (1, .int .i64 t), (2, .int .i64 clp), (8, .slice (some ⟨g1, 0, none⟩) n n), (22, .int .i64 ((n : Nat) : Int)), (9, .int .i64 2), (99, .int .i64 ((i + 1 : Nat) : Int))] (by rw [he8]) ?_
      refine VL_pure 2 [0, 1, 2, 8, 22, 9, 23] [(0, .pointer (some ⟨pp, 0, none⟩)), (1, .int .i64 t), (2, .int .i64 clp), (8, .slice (some ⟨g1, 0, none⟩) n n), (22, .int .i64 ((n : Nat) : Int)), (9, .int .i64 2), (23, .int .i64 ((i + 1 : Nat) : Int))] (by kernel_rfl) rfl ?_
      refine VL_end (by kernel_rfl) ?_
      refine VQ_again ⟨i + 1, 2, qs.set i (askB clp y1.r)⟩ ⟨rfl, rfl, rfl, rfl, rfl, rfl, rfl, trivial⟩ ?_ ?_
      ·exact ⟨(by omega), TDa4aa, TDa4ac, (ask_set (by omega) hy1 hz rfl), hS, hp, hRow, hBow, hb, hrl, hbbl, hbase1, hglg1, (Rw.cast ho1 rfl rfl)⟩
      ·(try dsimp only); omega
    ·try simp only [Bool.and_eq_true, Bool.or_eq_true, decide_eq_true_eq, Bool.not_eq_true', decide_eq_false_iff_not, Bool.and_eq_false_iff, Bool.or_eq_false_iff, beq_iff_eq, bne_iff_ne, beq_eq_false_iff_ne, bne_eq_false_iff_eq, Bool.not_eq_eq_eq_not, Bool.not_true, Bool.not_false] at h3
     refine VC_skip ?_
     refine VQ_next ?_
     refine VC_seq ?_
     refine VC_region ?_
     refine VL_pure 2 [0, 1, 2, 8, 22, 23, 9, 10, 72, 73] [(0, .pointer (some ⟨pp, 0, none⟩)), (1, .int .i64 t), (2, .int .i64 clp), (8, .slice (some ⟨g1, 0, none⟩) n n), (22, .int .i64 ((n : Nat) : Int)), (23, .int .i64 ((i : Nat) : Int)), (9, .int .i64 v), (10, .int .i64 ((i : Nat) : Int)), (72, .slice (some ⟨g1, 0, none⟩) n n), (73, .int .i64 ((i : Nat) : Int))] (by kernel_rfl) rfl ?_
     refine VL_index (d := 74) (b := g1) (o := 0) (len := n) (sz := 1) (m := ((i : Nat) : Int)) (by kernel_rfl) (by kernel_rfl) i (by rfl) (by omega) i (by omega) ?_
     refine VL_load (d := 75) (t := 4) (a := ⟨g1, i, none⟩) (v := .bool ((qs.set i (askB clp y1.r)).getD i false)) (by kernel_rfl) (by kernel_rfl) (Rw.ldB ho1 (by kernel_rfl) (by omega)) ?_
     refine VL_pure 5 [0, 1, 2, 8, 22, 23, 9, 10, 76] [(0, .pointer (some ⟨pp, 0, none⟩)), (1, .int .i64 t), (2, .int .i64 clp), (8, .slice (some ⟨g1, 0, none⟩) n n), (22, .int .i64 ((n : Nat) : Int)), (23, .int .i64 ((i : Nat) : Int)), (9, .int .i64 v), (10, .int .i64 ((i : Nat) : Int)), (76, .bool ((qs.set i (askB clp y1.r)).getD i false))] (by kernel_rfl) rfl ?_
     refine VL_eq [(0, .pointer (some ⟨pp, 0, none⟩)), (1, .int .i64 t), (2, .int .i64 clp), (8, .slice (some ⟨g1, 0, none⟩) n n), (22, .int .i64 ((n : Nat) : Int)), (23, .int .i64 ((i : Nat) : Int)), (9, .int .i64 v), (10, .int .i64 ((i : Nat) : Int)), (76, .bool (askB clp y1.r))] TDa4al ?_
     refine VL_bool (askB clp y1.r) (fun bV => [(0, .pointer (some ⟨pp, 0, none⟩)), (1, .int .i64 t), (2, .int .i64 clp), (8, .slice (some ⟨g1, 0, none⟩) n n), (22, .int .i64 ((n : Nat) : Int)), (23, .int .i64 ((i : Nat) : Int)), (9, .int .i64 v), (10, .int .i64 ((i : Nat) : Int)), (76, .bool bV)]) rfl (fun hg9 => ?_) (fun hg9 => ?_)
     ·refine VL_pure 8 [0, 1, 2, 8, 22, 23, 9, 10, 76, 79] [(0, .pointer (some ⟨pp, 0, none⟩)), (1, .int .i64 t), (2, .int .i64 clp), (8, .slice (some ⟨g1, 0, none⟩) n n), (22, .int .i64 ((n : Nat) : Int)), (23, .int .i64 ((i : Nat) : Int)), (9, .int .i64 v), (10, .int .i64 ((i : Nat) : Int)), (76, .bool true), (79, .pointer (some ⟨pp, 7, none⟩))] (by kernel_rfl) rfl ?_
      refine VL_load (d := 80) (t := 93) (a := ⟨pp, 7, none⟩) (v := .slice (some ⟨bb, 0, none⟩) n c2) (by kernel_rfl) (by kernel_rfl) (Loads.own1 hp (by kernel_rfl) (by rfl)) ?_
      refine VL_pure 10 [0, 1, 2, 8, 22, 23, 9, 10, 76, 80, 81] [(0, .pointer (some ⟨pp, 0, none⟩)), (1, .int .i64 t), (2, .int .i64 clp), (8, .slice (some ⟨g1, 0, none⟩) n n), (22, .int .i64 ((n : Nat) : Int)), (23, .int .i64 ((i : Nat) : Int)), (9, .int .i64 v), (10, .int .i64 ((i : Nat) : Int)), (76, .bool true), (80, .slice (some ⟨bb, 0, none⟩) n c2), (81, .int .i64 ((i : Nat) : Int))] (by kernel_rfl) rfl ?_
      refine VL_index (d := 82) (b := bb) (o := 0) (len := n) (sz := 1) (m := ((i : Nat) : Int)) (by kernel_rfl) (by kernel_rfl) i (by rfl) (by omega) i (by omega) ?_
      refine VL_load (d := 83) (t := 97) (a := ⟨bb, i, none⟩) (v := .pointer (some ⟨y1.p, 0, none⟩)) (by kernel_rfl) (by kernel_rfl) (Sl.flatOne (sz := 1) (Sl2.sl hBow) dpt_len hy1 0 (by rfl) (by decide) (by kernel_rfl) _ (by first | rfl | omega)) ?_
      refine VL_pure 13 [0, 1, 2, 8, 22, 23, 9, 10, 76, 83, 84] [(0, .pointer (some ⟨pp, 0, none⟩)), (1, .int .i64 t), (2, .int .i64 clp), (8, .slice (some ⟨g1, 0, none⟩) n n), (22, .int .i64 ((n : Nat) : Int)), (23, .int .i64 ((i : Nat) : Int)), (9, .int .i64 v), (10, .int .i64 ((i : Nat) : Int)), (76, .bool true), (83, .pointer (some ⟨y1.p, 0, none⟩)), (84, .int .i64 t)] (by kernel_rfl) rfl ?_
      refine VL_call (d := 85) (f := 76) (args := #[.pointer (some ⟨y1.p, 0, none⟩), .int .i64 t]) (by kernel_rfl) (by kernel_rfl) (by kernel_rfl) Tryz.call76 (dfits_any y1.p y1.lv t _ (hb y1 hmy1).2 (hb y1 hmy1).1) ?_
      rintro _ w7 ⟨rfl, hc4⟩
      replace hS := Step.trans hS hc4
      replace hp := hp.no hc4
      replace hRow := hRow.step hc4 (fun k hk1 hk2 hF => hF)
      replace hBow := hBow.step hc4 (fun k hk1 hk2 hF => hF)
      replace hb := (fun h9 s9 => DbsW.step h9 s9 (fun _ _ => id)) hb hc4
      replace hrl := Nat.lt_of_lt_of_le hrl (hc4).size
      replace hbbl := Nat.lt_of_lt_of_le hbbl (hc4).size
      replace hbase1 := Nat.le_trans hbase1 (hc4).size
      replace hglg1 := Nat.lt_of_lt_of_le hglg1 (hc4).size
      replace ho1 := ho1.no hc4
      refine VL_pure 17 [0, 1, 2, 8, 22, 23, 9, 10, 88] [(0, .pointer (some ⟨pp, 0, none⟩)), (1, .int .i64 t), (2, .int .i64 clp), (8, .slice (some ⟨g1, 0, none⟩) n n), (22, .int .i64 ((n : Nat) : Int)), (23, .int .i64 ((i : Nat) : Int)), (9, .int .i64 v), (10, .int .i64 ((i : Nat) : Int)), (88, .bool (!(fitsB y1.r.b t)))] (by kernel_rfl) rfl ?_
      refine VL_bool (fitsB y1.r.b t) (fun bV => [(0, .pointer (some ⟨pp, 0, none⟩)), (1, .int .i64 t), (2, .int .i64 clp), (8, .slice (some ⟨g1, 0, none⟩) n n), (22, .int .i64 ((n : Nat) : Int)), (23, .int .i64 ((i : Nat) : Int)), (9, .int .i64 v), (10, .int .i64 ((i : Nat) : Int)), (88, .bool (!bV))]) rfl (fun hg10 => ?_) (fun hg10 => ?_)
      ·refine VL_pure 27 [0, 1, 2, 8, 22, 23, 9, 98] [(0, .pointer (some ⟨pp, 0, none⟩)), (1, .int .i64 t), (2, .int .i64 clp), (8, .slice (some ⟨g1, 0, none⟩) n n), (22, .int .i64 ((n : Nat) : Int)), (23, .int .i64 ((i : Nat) : Int)), (9, .int .i64 v), (98, .bool false)] (by kernel_rfl) rfl ?_
       refine VL_end (by kernel_rfl) ?_
       refine VQ_next ?_
       refine VC_false (by kernel_rfl) ?_
       refine VC_skip ?_
       refine VQ_block_normal ?_
       refine VQ_next ?_
       refine VC_region ?_
       refine VL_pure 1 [0, 1, 2, 8, 22, 9, 99] [(0, .pointer (some ⟨pp, 0, none⟩)), (1, .int .i64 t), (2, .int .i64 clp), (8, .slice (some ⟨g1, 0, none⟩) n n), (22, .int .i64 ((n : Nat) : Int)), (9, .int .i64 v), (99, .int .i64 (IntKind.wrap .i64 (((i : Nat) : Int) + 1)))] (by kernel_rfl) rfl ?_
       have he9 : IntKind.wrap .i64 (((i : Nat) : Int) + 1) = ((i + 1 : Nat) : Int) := TDa4ab
       refine VL_eq [(0, .pointer (some ⟨pp, 0, none⟩)), (1, .int .i64 t), (2, .int .i64 clp), (8, .slice (some ⟨g1, 0, none⟩) n n), (22, .int .i64 ((n : Nat) : Int)), (9, .int .i64 v), (99, .int .i64 ((i + 1 : Nat) : Int))] (by rw [he9]) ?_
       refine VL_pure 2 [0, 1, 2, 8, 22, 9, 23] [(0, .pointer (some ⟨pp, 0, none⟩)), (1, .int .i64 t), (2, .int .i64 clp), (8, .slice (some ⟨g1, 0, none⟩) n n), (22, .int .i64 ((n : Nat) : Int)), (9, .int .i64 v), (23, .int .i64 ((i + 1 : Nat) : Int))] (by kernel_rfl) rfl ?_
       refine VL_end (by kernel_rfl) ?_
       refine VQ_again ⟨i + 1, v, qs.set i (askB clp y1.r)⟩ ⟨rfl, rfl, rfl, rfl, rfl, rfl, rfl, trivial⟩ ?_ ?_
       ·exact ⟨(by omega), TDa4aa, TDa4ac, (ask_set (by omega) hy1 hz rfl), hS, hp, hRow, hBow, hb, hrl, hbbl, hbase1, hglg1, (Rw.cast ho1 rfl rfl)⟩
       ·(try dsimp only); omega
      ·refine VL_pure 20 [0, 1, 2, 8, 22, 23, 9, 10, 88, 91] [(0, .pointer (some ⟨pp, 0, none⟩)), (1, .int .i64 t), (2, .int .i64 clp), (8, .slice (some ⟨g1, 0, none⟩) n n), (22, .int .i64 ((n : Nat) : Int)), (23, .int .i64 ((i : Nat) : Int)), (9, .int .i64 v), (10, .int .i64 ((i : Nat) : Int)), (88, .bool true), (91, .pointer (some ⟨pp, 6, none⟩))] (by kernel_rfl) rfl ?_
       refine VL_load (d := 92) (t := 91) (a := ⟨pp, 6, none⟩) (v := .slice (some ⟨rb, 0, none⟩) n c) (by kernel_rfl) (by kernel_rfl) (Loads.own1 hp (by kernel_rfl) (by rfl)) ?_
       refine VL_pure 22 [0, 1, 2, 8, 22, 23, 9, 88, 92, 93] [(0, .pointer (some ⟨pp, 0, none⟩)), (1, .int .i64 t), (2, .int .i64 clp), (8, .slice (some ⟨g1, 0, none⟩) n n), (22, .int .i64 ((n : Nat) : Int)), (23, .int .i64 ((i : Nat) : Int)), (9, .int .i64 v), (88, .bool true), (92, .slice (some ⟨rb, 0, none⟩) n c), (93, .int .i64 ((i : Nat) : Int))] (by kernel_rfl) rfl ?_
       refine VL_index (d := 94) (b := rb) (o := 0) (len := n) (sz := 4) (m := ((i : Nat) : Int)) (by kernel_rfl) (by kernel_rfl) i (by rfl) (by omega) (i * 4) (by omega) ?_
       refine VL_pure 24 [0, 1, 2, 8, 22, 23, 9, 88, 95] [(0, .pointer (some ⟨pp, 0, none⟩)), (1, .int .i64 t), (2, .int .i64 clp), (8, .slice (some ⟨g1, 0, none⟩) n n), (22, .int .i64 ((n : Nat) : Int)), (23, .int .i64 ((i : Nat) : Int)), (9, .int .i64 v), (88, .bool true), (95, .pointer (some ⟨rb, i * 4 + 3, none⟩))] (by kernel_rfl) rfl ?_
       refine VL_load (d := 96) (t := 4) (a := ⟨rb, i * 4 + 3, none⟩) (v := .bool y1.r.tag) (by kernel_rfl) (by kernel_rfl) (Sl.flatOne (sz := 4) (Sl2.sl hRow) drl_len hy1 3 (by rfl) (by decide) (by kernel_rfl) _ (by first | rfl | omega)) ?_
       refine VL_pure 27 [0, 1, 2, 8, 22, 23, 9, 98] [(0, .pointer (some ⟨pp, 0, none⟩)), (1, .int .i64 t), (2, .int .i64 clp), (8, .slice (some ⟨g1, 0, none⟩) n n), (22, .int .i64 ((n : Nat) : Int)), (23, .int .i64 ((i : Nat) : Int)), (9, .int .i64 v), (98, .bool (!y1.r.tag))] (by kernel_rfl) rfl ?_
       refine VL_end (by kernel_rfl) ?_
       refine VQ_next ?_
       refine VC_cond (!y1.r.tag) (by kernel_rfl) (fun h5 => ?_) (fun h5 => ?_)
       ·try simp only [Bool.and_eq_true, Bool.or_eq_true, decide_eq_true_eq, Bool.not_eq_true', decide_eq_false_iff_not, Bool.and_eq_false_iff, Bool.or_eq_false_iff, beq_iff_eq, bne_iff_ne, beq_eq_false_iff_ne, bne_eq_false_iff_eq, Bool.not_eq_eq_eq_not, Bool.not_true, Bool.not_false] at h5
        refine VC_region ?_
        refine VL_pure 1 [0, 1, 2, 8, 22, 23, 9] [(0, .pointer (some ⟨pp, 0, none⟩)), (1, .int .i64 t), (2, .int .i64 clp), (8, .slice (some ⟨g1, 0, none⟩) n n), (22, .int .i64 ((n : Nat) : Int)), (23, .int .i64 ((i : Nat) : Int)), (9, .int .i64 3)] (by kernel_rfl) rfl ?_
        refine VL_end (by kernel_rfl) ?_
        refine VQ_block_normal ?_
        refine VQ_next ?_
        refine VC_region ?_
        refine VL_pure 1 [0, 1, 2, 8, 22, 9, 99] [(0, .pointer (some ⟨pp, 0, none⟩)), (1, .int .i64 t), (2, .int .i64 clp), (8, .slice (some ⟨g1, 0, none⟩) n n), (22, .int .i64 ((n : Nat) : Int)), (9, .int .i64 3), (99, .int .i64 (IntKind.wrap .i64 (((i : Nat) : Int) + 1)))] (by kernel_rfl) rfl ?_
        have he10 : IntKind.wrap .i64 (((i : Nat) : Int) + 1) = ((i + 1 : Nat) : Int) := TDa4ab
        refine VL_eq [(0, .pointer (some ⟨pp, 0, none⟩)), (1, .int .i64 t), (2, .int .i64 clp), (8, .slice (some ⟨g1, 0, none⟩) n n), (22, .int .i64 ((n : Nat) : Int)), (9, .int .i64 3), (99, .int .i64 ((i + 1 : Nat) : Int))] (by rw [he10]) ?_
        refine VL_pure 2 [0, 1, 2, 8, 22, 9, 23] [(0, .pointer (some ⟨pp, 0, none⟩)), (1, .int .i64 t), (2, .int .i64 clp), (8, .slice (some ⟨g1, 0, none⟩) n n), (22, .int .i64 ((n : Nat) : Int)), (9, .int .i64 3), (23, .int .i64 ((i + 1 : Nat) : Int))] (by kernel_rfl) rfl ?_
        refine VL_end (by kernel_rfl) ?_
        refine VQ_again ⟨i + 1, 3, qs.set i (askB clp y1.r)⟩ ⟨rfl, rfl, rfl, rfl, rfl, rfl, rfl, trivial⟩ ?_ ?_
        ·exact ⟨(by omega), TDa4aa, TDa4ac, (ask_set (by omega) hy1 hz rfl), hS, hp, hRow, hBow, hb, hrl, hbbl, hbase1, hglg1, (Rw.cast ho1 rfl rfl)⟩
        ·(try dsimp only); omega
       ·try simp only [Bool.and_eq_true, Bool.or_eq_true, decide_eq_true_eq, Bool.not_eq_true', decide_eq_false_iff_not, Bool.and_eq_false_iff, Bool.or_eq_false_iff, beq_iff_eq, bne_iff_ne, beq_eq_false_iff_ne, bne_eq_false_iff_eq, Bool.not_eq_eq_eq_not, Bool.not_true, Bool.not_false] at h5
        refine VC_skip ?_
        refine VQ_block_normal ?_
        refine VQ_next ?_
        refine VC_region ?_
        refine VL_pure 1 [0, 1, 2, 8, 22, 9, 99] [(0, .pointer (some ⟨pp, 0, none⟩)), (1, .int .i64 t), (2, .int .i64 clp), (8, .slice (some ⟨g1, 0, none⟩) n n), (22, .int .i64 ((n : Nat) : Int)), (9, .int .i64 v), (99, .int .i64 (IntKind.wrap .i64 (((i : Nat) : Int) + 1)))] (by kernel_rfl) rfl ?_
        have he11 : IntKind.wrap .i64 (((i : Nat) : Int) + 1) = ((i + 1 : Nat) : Int) := TDa4ab
        refine VL_eq [(0, .pointer (some ⟨pp, 0, none⟩)), (1, .int .i64 t), (2, .int .i64 clp), (8, .slice (some ⟨g1, 0, none⟩) n n), (22, .int .i64 ((n : Nat) : Int)), (9, .int .i64 v), (99, .int .i64 ((i + 1 : Nat) : Int))] (by rw [he11]) ?_
        refine VL_pure 2 [0, 1, 2, 8, 22, 9, 23] [(0, .pointer (some ⟨pp, 0, none⟩)), (1, .int .i64 t), (2, .int .i64 clp), (8, .slice (some ⟨g1, 0, none⟩) n n), (22, .int .i64 ((n : Nat) : Int)), (9, .int .i64 v), (23, .int .i64 ((i + 1 : Nat) : Int))] (by kernel_rfl) rfl ?_
        refine VL_end (by kernel_rfl) ?_
        refine VQ_again ⟨i + 1, v, qs.set i (askB clp y1.r)⟩ ⟨rfl, rfl, rfl, rfl, rfl, rfl, rfl, trivial⟩ ?_ ?_
        ·exact ⟨(by omega), TDa4aa, TDa4ac, (ask_set (by omega) hy1 hz rfl), hS, hp, hRow, hBow, hb, hrl, hbbl, hbase1, hglg1, (Rw.cast ho1 rfl rfl)⟩
        ·(try dsimp only); omega
     ·refine VL_pure 27 [0, 1, 2, 8, 22, 23, 9, 98] [(0, .pointer (some ⟨pp, 0, none⟩)), (1, .int .i64 t), (2, .int .i64 clp), (8, .slice (some ⟨g1, 0, none⟩) n n), (22, .int .i64 ((n : Nat) : Int)), (23, .int .i64 ((i : Nat) : Int)), (9, .int .i64 v), (98, .bool false)] (by kernel_rfl) rfl ?_
      refine VL_end (by kernel_rfl) ?_
      refine VQ_next ?_
      refine VC_false (by kernel_rfl) ?_
      refine VC_skip ?_
      refine VQ_block_normal ?_
      refine VQ_next ?_
      refine VC_region ?_
      refine VL_pure 1 [0, 1, 2, 8, 22, 9, 99] [(0, .pointer (some ⟨pp, 0, none⟩)), (1, .int .i64 t), (2, .int .i64 clp), (8, .slice (some ⟨g1, 0, none⟩) n n), (22, .int .i64 ((n : Nat) : Int)), (9, .int .i64 v), (99, .int .i64 (IntKind.wrap .i64 (((i : Nat) : Int) + 1)))] (by kernel_rfl) rfl ?_
      have he12 : IntKind.wrap .i64 (((i : Nat) : Int) + 1) = ((i + 1 : Nat) : Int) := TDa4ab
      refine VL_eq [(0, .pointer (some ⟨pp, 0, none⟩)), (1, .int .i64 t), (2, .int .i64 clp), (8, .slice (some ⟨g1, 0, none⟩) n n), (22, .int .i64 ((n : Nat) : Int)), (9, .int .i64 v), (99, .int .i64 ((i + 1 : Nat) : Int))] (by rw [he12]) ?_
      refine VL_pure 2 [0, 1, 2, 8, 22, 9, 23] [(0, .pointer (some ⟨pp, 0, none⟩)), (1, .int .i64 t), (2, .int .i64 clp), (8, .slice (some ⟨g1, 0, none⟩) n n), (22, .int .i64 ((n : Nat) : Int)), (9, .int .i64 v), (23, .int .i64 ((i + 1 : Nat) : Int))] (by kernel_rfl) rfl ?_
      refine VL_end (by kernel_rfl) ?_
      refine VQ_again ⟨i + 1, v, qs.set i (askB clp y1.r)⟩ ⟨rfl, rfl, rfl, rfl, rfl, rfl, rfl, trivial⟩ ?_ ?_
      ·exact ⟨(by omega), TDa4aa, TDa4ac, (ask_set (by omega) hy1 hz rfl), hS, hp, hRow, hBow, hb, hrl, hbbl, hbase1, hglg1, (Rw.cast ho1 rfl rfl)⟩
      ·(try dsimp only); omega
  ·refine VL_pure 30 [0, 1, 2, 8, 22, 23, 9, 10, 71] [(0, .pointer (some ⟨pp, 0, none⟩)), (1, .int .i64 t), (2, .int .i64 clp), (8, .slice (some ⟨g1, 0, none⟩) n n), (22, .int .i64 ((n : Nat) : Int)), (23, .int .i64 ((i : Nat) : Int)), (9, .int .i64 v), (10, .int .i64 ((i : Nat) : Int)), (71, .bool false)] (by kernel_rfl) rfl ?_
   refine VL_end (by kernel_rfl) ?_
   refine VQ_next ?_
   refine VC_false (by kernel_rfl) ?_
   refine VC_skip ?_
   refine VQ_next ?_
   refine VC_seq ?_
   refine VC_region ?_
   refine VL_pure 2 [0, 1, 2, 8, 22, 23, 9, 10, 72, 73] [(0, .pointer (some ⟨pp, 0, none⟩)), (1, .int .i64 t), (2, .int .i64 clp), (8, .slice (some ⟨g1, 0, none⟩) n n), (22, .int .i64 ((n : Nat) : Int)), (23, .int .i64 ((i : Nat) : Int)), (9, .int .i64 v), (10, .int .i64 ((i : Nat) : Int)), (72, .slice (some ⟨g1, 0, none⟩) n n), (73, .int .i64 ((i : Nat) : Int))] (by kernel_rfl) rfl ?_
   refine VL_index (d := 74) (b := g1) (o := 0) (len := n) (sz := 1) (m := ((i : Nat) : Int)) (by kernel_rfl) (by kernel_rfl) i (by rfl) (by omega) i (by omega) ?_
   refine VL_load (d := 75) (t := 4) (a := ⟨g1, i, none⟩) (v := .bool ((qs.set i (askB clp y1.r)).getD i false)) (by kernel_rfl) (by kernel_rfl) (Rw.ldB ho1 (by kernel_rfl) (by omega)) ?_
   refine VL_pure 5 [0, 1, 2, 8, 22, 23, 9, 10, 76] [(0, .pointer (some ⟨pp, 0, none⟩)), (1, .int .i64 t), (2, .int .i64 clp), (8, .slice (some ⟨g1, 0, none⟩) n n), (22, .int .i64 ((n : Nat) : Int)), (23, .int .i64 ((i : Nat) : Int)), (9, .int .i64 v), (10, .int .i64 ((i : Nat) : Int)), (76, .bool ((qs.set i (askB clp y1.r)).getD i false))] (by kernel_rfl) rfl ?_
   refine VL_eq [(0, .pointer (some ⟨pp, 0, none⟩)), (1, .int .i64 t), (2, .int .i64 clp), (8, .slice (some ⟨g1, 0, none⟩) n n), (22, .int .i64 ((n : Nat) : Int)), (23, .int .i64 ((i : Nat) : Int)), (9, .int .i64 v), (10, .int .i64 ((i : Nat) : Int)), (76, .bool (askB clp y1.r))] TDa4al ?_
   refine VL_bool (askB clp y1.r) (fun bV => [(0, .pointer (some ⟨pp, 0, none⟩)), (1, .int .i64 t), (2, .int .i64 clp), (8, .slice (some ⟨g1, 0, none⟩) n n), (22, .int .i64 ((n : Nat) : Int)), (23, .int .i64 ((i : Nat) : Int)), (9, .int .i64 v), (10, .int .i64 ((i : Nat) : Int)), (76, .bool bV)]) rfl (fun hg11 => ?_) (fun hg11 => ?_)
   ·refine VL_pure 8 [0, 1, 2, 8, 22, 23, 9, 10, 76, 79] [(0, .pointer (some ⟨pp, 0, none⟩)), (1, .int .i64 t), (2, .int .i64 clp), (8, .slice (some ⟨g1, 0, none⟩) n n), (22, .int .i64 ((n : Nat) : Int)), (23, .int .i64 ((i : Nat) : Int)), (9, .int .i64 v), (10, .int .i64 ((i : Nat) : Int)), (76, .bool true), (79, .pointer (some ⟨pp, 7, none⟩))] (by kernel_rfl) rfl ?_
    refine VL_load (d := 80) (t := 93) (a := ⟨pp, 7, none⟩) (v := .slice (some ⟨bb, 0, none⟩) n c2) (by kernel_rfl) (by kernel_rfl) (Loads.own1 hp (by kernel_rfl) (by rfl)) ?_
    refine VL_pure 10 [0, 1, 2, 8, 22, 23, 9, 10, 76, 80, 81] [(0, .pointer (some ⟨pp, 0, none⟩)), (1, .int .i64 t), (2, .int .i64 clp), (8, .slice (some ⟨g1, 0, none⟩) n n), (22, .int .i64 ((n : Nat) : Int)), (23, .int .i64 ((i : Nat) : Int)), (9, .int .i64 v), (10, .int .i64 ((i : Nat) : Int)), (76, .bool true), (80, .slice (some ⟨bb, 0, none⟩) n c2), (81, .int .i64 ((i : Nat) : Int))] (by kernel_rfl) rfl ?_
    refine VL_index (d := 82) (b := bb) (o := 0) (len := n) (sz := 1) (m := ((i : Nat) : Int)) (by kernel_rfl) (by kernel_rfl) i (by rfl) (by omega) i (by omega) ?_
    refine VL_load (d := 83) (t := 97) (a := ⟨bb, i, none⟩) (v := .pointer (some ⟨y1.p, 0, none⟩)) (by kernel_rfl) (by kernel_rfl) (Sl.flatOne (sz := 1) (Sl2.sl hBow) dpt_len hy1 0 (by rfl) (by decide) (by kernel_rfl) _ (by first | rfl | omega)) ?_
    refine VL_pure 13 [0, 1, 2, 8, 22, 23, 9, 10, 76, 83, 84] [(0, .pointer (some ⟨pp, 0, none⟩)), (1, .int .i64 t), (2, .int .i64 clp), (8, .slice (some ⟨g1, 0, none⟩) n n), (22, .int .i64 ((n : Nat) : Int)), (23, .int .i64 ((i : Nat) : Int)), (9, .int .i64 v), (10, .int .i64 ((i : Nat) : Int)), (76, .bool true), (83, .pointer (some ⟨y1.p, 0, none⟩)), (84, .int .i64 t)] (by kernel_rfl) rfl ?_
    refine VL_call (d := 85) (f := 76) (args := #[.pointer (some ⟨y1.p, 0, none⟩), .int .i64 t]) (by kernel_rfl) (by kernel_rfl) (by kernel_rfl) Tryz.call76 (dfits_any y1.p y1.lv t _ (hb y1 hmy1).2 (hb y1 hmy1).1) ?_
    rintro _ w8 ⟨rfl, hc5⟩
    replace hS := Step.trans hS hc5
    replace hp := hp.no hc5
    replace hRow := hRow.step hc5 (fun k hk1 hk2 hF => hF)
    replace hBow := hBow.step hc5 (fun k hk1 hk2 hF => hF)
    replace hb := (fun h9 s9 => DbsW.step h9 s9 (fun _ _ => id)) hb hc5
    replace hrl := Nat.lt_of_lt_of_le hrl (hc5).size
    replace hbbl := Nat.lt_of_lt_of_le hbbl (hc5).size
    replace hbase1 := Nat.le_trans hbase1 (hc5).size
    replace hglg1 := Nat.lt_of_lt_of_le hglg1 (hc5).size
    replace ho1 := ho1.no hc5
    refine VL_pure 17 [0, 1, 2, 8, 22, 23, 9, 10, 88] [(0, .pointer (some ⟨pp, 0, none⟩)), (1, .int .i64 t), (2, .int .i64 clp), (8, .slice (some ⟨g1, 0, none⟩) n n), (22, .int .i64 ((n : Nat) : Int)), (23, .int .i64 ((i : Nat) : Int)), (9, .int .i64 v), (10, .int .i64 ((i : Nat) : Int)), (88, .bool (!(fitsB y1.r.b t)))] (by kernel_rfl) rfl ?_
    refine VL_bool (fitsB y1.r.b t) (fun bV => [(0, .pointer (some ⟨pp, 0, none⟩)), (1, .int .i64 t), (2, .int .i64 clp), (8, .slice (some ⟨g1, 0, none⟩) n n), (22, .int .i64 ((n : Nat) : Int)), (23, .int .i64 ((i : Nat) : Int)), (9, .int .i64 v), (10, .int .i64 ((i : Nat) : Int)), (88, .bool (!bV))]) rfl (fun hg12 => ?_) (fun hg12 => ?_)
    ·refine VL_pure 27 [0, 1, 2, 8, 22, 23, 9, 98] [(0, .pointer (some ⟨pp, 0, none⟩)), (1, .int .i64 t), (2, .int .i64 clp), (8, .slice (some ⟨g1, 0, none⟩) n n), (22, .int .i64 ((n : Nat) : Int)), (23, .int .i64 ((i : Nat) : Int)), (9, .int .i64 v), (98, .bool false)] (by kernel_rfl) rfl ?_
     refine VL_end (by kernel_rfl) ?_
     refine VQ_next ?_
     refine VC_false (by kernel_rfl) ?_
     refine VC_skip ?_
     refine VQ_block_normal ?_
     refine VQ_next ?_
     refine VC_region ?_
     refine VL_pure 1 [0, 1, 2, 8, 22, 9, 99] [(0, .pointer (some ⟨pp, 0, none⟩)), (1, .int .i64 t), (2, .int .i64 clp), (8, .slice (some ⟨g1, 0, none⟩) n n), (22, .int .i64 ((n : Nat) : Int)), (9, .int .i64 v), (99, .int .i64 (IntKind.wrap .i64 (((i : Nat) : Int) + 1)))] (by kernel_rfl) rfl ?_
     have he13 : IntKind.wrap .i64 (((i : Nat) : Int) + 1) = ((i + 1 : Nat) : Int) := TDa4ab
     refine VL_eq [(0, .pointer (some ⟨pp, 0, none⟩)), (1, .int .i64 t), (2, .int .i64 clp), (8, .slice (some ⟨g1, 0, none⟩) n n), (22, .int .i64 ((n : Nat) : Int)), (9, .int .i64 v), (99, .int .i64 ((i + 1 : Nat) : Int))] (by rw [he13]) ?_
     refine VL_pure 2 [0, 1, 2, 8, 22, 9, 23] [(0, .pointer (some ⟨pp, 0, none⟩)), (1, .int .i64 t), (2, .int .i64 clp), (8, .slice (some ⟨g1, 0, none⟩) n n), (22, .int .i64 ((n : Nat) : Int)), (9, .int .i64 v), (23, .int .i64 ((i + 1 : Nat) : Int))] (by kernel_rfl) rfl ?_
     refine VL_end (by kernel_rfl) ?_
     refine VQ_again ⟨i + 1, v, qs.set i (askB clp y1.r)⟩ ⟨rfl, rfl, rfl, rfl, rfl, rfl, rfl, trivial⟩ ?_ ?_
     ·exact ⟨(by omega), TDa4aa, TDa4ac, (ask_set (by omega) hy1 hz rfl), hS, hp, hRow, hBow, hb, hrl, hbbl, hbase1, hglg1, (Rw.cast ho1 rfl rfl)⟩
     ·(try dsimp only); omega
    ·refine VL_pure 20 [0, 1, 2, 8, 22, 23, 9, 10, 88, 91] [(0, .pointer (some ⟨pp, 0, none⟩)), (1, .int .i64 t), (2, .int .i64 clp), (8, .slice (some ⟨g1, 0, none⟩) n n), (22, .int .i64 ((n : Nat) : Int)), (23, .int .i64 ((i : Nat) : Int)), (9, .int .i64 v), (10, .int .i64 ((i : Nat) : Int)), (88, .bool true), (91, .pointer (some ⟨pp, 6, none⟩))] (by kernel_rfl) rfl ?_
     refine VL_load (d := 92) (t := 91) (a := ⟨pp, 6, none⟩) (v := .slice (some ⟨rb, 0, none⟩) n c) (by kernel_rfl) (by kernel_rfl) (Loads.own1 hp (by kernel_rfl) (by rfl)) ?_
     refine VL_pure 22 [0, 1, 2, 8, 22, 23, 9, 88, 92, 93] [(0, .pointer (some ⟨pp, 0, none⟩)), (1, .int .i64 t), (2, .int .i64 clp), (8, .slice (some ⟨g1, 0, none⟩) n n), (22, .int .i64 ((n : Nat) : Int)), (23, .int .i64 ((i : Nat) : Int)), (9, .int .i64 v), (88, .bool true), (92, .slice (some ⟨rb, 0, none⟩) n c), (93, .int .i64 ((i : Nat) : Int))] (by kernel_rfl) rfl ?_
     refine VL_index (d := 94) (b := rb) (o := 0) (len := n) (sz := 4) (m := ((i : Nat) : Int)) (by kernel_rfl) (by kernel_rfl) i (by rfl) (by omega) (i * 4) (by omega) ?_
     refine VL_pure 24 [0, 1, 2, 8, 22, 23, 9, 88, 95] [(0, .pointer (some ⟨pp, 0, none⟩)), (1, .int .i64 t), (2, .int .i64 clp), (8, .slice (some ⟨g1, 0, none⟩) n n), (22, .int .i64 ((n : Nat) : Int)), (23, .int .i64 ((i : Nat) : Int)), (9, .int .i64 v), (88, .bool true), (95, .pointer (some ⟨rb, i * 4 + 3, none⟩))] (by kernel_rfl) rfl ?_
     refine VL_load (d := 96) (t := 4) (a := ⟨rb, i * 4 + 3, none⟩) (v := .bool y1.r.tag) (by kernel_rfl) (by kernel_rfl) (Sl.flatOne (sz := 4) (Sl2.sl hRow) drl_len hy1 3 (by rfl) (by decide) (by kernel_rfl) _ (by first | rfl | omega)) ?_
     refine VL_pure 27 [0, 1, 2, 8, 22, 23, 9, 98] [(0, .pointer (some ⟨pp, 0, none⟩)), (1, .int .i64 t), (2, .int .i64 clp), (8, .slice (some ⟨g1, 0, none⟩) n n), (22, .int .i64 ((n : Nat) : Int)), (23, .int .i64 ((i : Nat) : Int)), (9, .int .i64 v), (98, .bool (!y1.r.tag))] (by kernel_rfl) rfl ?_
     refine VL_end (by kernel_rfl) ?_
     refine VQ_next ?_
     refine VC_cond (!y1.r.tag) (by kernel_rfl) (fun h6 => ?_) (fun h6 => ?_)
     ·try simp only [Bool.and_eq_true, Bool.or_eq_true, decide_eq_true_eq, Bool.not_eq_true', decide_eq_false_iff_not, Bool.and_eq_false_iff, Bool.or_eq_false_iff, beq_iff_eq, bne_iff_ne, beq_eq_false_iff_ne, bne_eq_false_iff_eq, Bool.not_eq_eq_eq_not, Bool.not_true, Bool.not_false] at h6
      refine VC_region ?_
      refine VL_pure 1 [0, 1, 2, 8, 22, 23, 9] [(0, .pointer (some ⟨pp, 0, none⟩)), (1, .int .i64 t), (2, .int .i64 clp), (8, .slice (some ⟨g1, 0, none⟩) n n), (22, .int .i64 ((n : Nat) : Int)), (23, .int .i64 ((i : Nat) : Int)), (9, .int .i64 3)] (by kernel_rfl) rfl ?_
      refine VL_end (by kernel_rfl) ?_
      refine VQ_block_normal ?_
      refine VQ_next ?_
      refine VC_region ?_
      refine VL_pure 1 [0, 1, 2, 8, 22, 9, 99] [(0, .pointer (some ⟨pp, 0, none⟩)), (1, .int .i64 t), (2, .int .i64 clp), (8, .slice (some ⟨g1, 0, none⟩) n n), (22, .int .i64 ((n : Nat) : Int)), (9, .int .i64 3), (99, .int .i64 (IntKind.wrap .i64 (((i : Nat) : Int) + 1)))] (by kernel_rfl) rfl ?_
      have he14 : IntKind.wrap .i64 (((i : Nat) : Int) + 1) = ((i + 1 : Nat) : Int) := TDa4ab
      refine VL_eq [(0, .pointer (some ⟨pp, 0, none⟩)), (1, .int .i64 t), (2, .int .i64 clp), (8, .slice (some ⟨g1, 0, none⟩) n n), (22, .int .i64 ((n : Nat) : Int)), (9, .int .i64 3), (99, .int .i64 ((i + 1 : Nat) : Int))] (by rw [he14]) ?_
      refine VL_pure 2 [0, 1, 2, 8, 22, 9, 23] [(0, .pointer (some ⟨pp, 0, none⟩)), (1, .int .i64 t), (2, .int .i64 clp), (8, .slice (some ⟨g1, 0, none⟩) n n), (22, .int .i64 ((n : Nat) : Int)), (9, .int .i64 3), (23, .int .i64 ((i + 1 : Nat) : Int))] (by kernel_rfl) rfl ?_
      refine VL_end (by kernel_rfl) ?_
      refine VQ_again ⟨i + 1, 3, qs.set i (askB clp y1.r)⟩ ⟨rfl, rfl, rfl, rfl, rfl, rfl, rfl, trivial⟩ ?_ ?_
      ·exact ⟨(by omega), TDa4aa, TDa4ac, (ask_set (by omega) hy1 hz rfl), hS, hp, hRow, hBow, hb, hrl, hbbl, hbase1, hglg1, (Rw.cast ho1 rfl rfl)⟩
      ·(try dsimp only); omega
     ·try simp only [Bool.and_eq_true, Bool.or_eq_true, decide_eq_true_eq, Bool.not_eq_true', decide_eq_false_iff_not, Bool.and_eq_false_iff, Bool.or_eq_false_iff, beq_iff_eq, bne_iff_ne, beq_eq_false_iff_ne, bne_eq_false_iff_eq, Bool.not_eq_eq_eq_not, Bool.not_true, Bool.not_false] at h6
      refine VC_skip ?_
      refine VQ_block_normal ?_
      refine VQ_next ?_
      refine VC_region ?_
      refine VL_pure 1 [0, 1, 2, 8, 22, 9, 99] [(0, .pointer (some ⟨pp, 0, none⟩)), (1, .int .i64 t), (2, .int .i64 clp), (8, .slice (some ⟨g1, 0, none⟩) n n), (22, .int .i64 ((n : Nat) : Int)), (9, .int .i64 v), (99, .int .i64 (IntKind.wrap .i64 (((i : Nat) : Int) + 1)))] (by kernel_rfl) rfl ?_
      have he15 : IntKind.wrap .i64 (((i : Nat) : Int) + 1) = ((i + 1 : Nat) : Int) := TDa4ab
      refine VL_eq [(0, .pointer (some ⟨pp, 0, none⟩)), (1, .int .i64 t), (2, .int .i64 clp), (8, .slice (some ⟨g1, 0, none⟩) n n), (22, .int .i64 ((n : Nat) : Int)), (9, .int .i64 v), (99, .int .i64 ((i + 1 : Nat) : Int))] (by rw [he15]) ?_
      refine VL_pure 2 [0, 1, 2, 8, 22, 9, 23] [(0, .pointer (some ⟨pp, 0, none⟩)), (1, .int .i64 t), (2, .int .i64 clp), (8, .slice (some ⟨g1, 0, none⟩) n n), (22, .int .i64 ((n : Nat) : Int)), (9, .int .i64 v), (23, .int .i64 ((i + 1 : Nat) : Int))] (by kernel_rfl) rfl ?_
      refine VL_end (by kernel_rfl) ?_
      refine VQ_again ⟨i + 1, v, qs.set i (askB clp y1.r)⟩ ⟨rfl, rfl, rfl, rfl, rfl, rfl, rfl, trivial⟩ ?_ ?_
      ·exact ⟨(by omega), TDa4aa, TDa4ac, (ask_set (by omega) hy1 hz rfl), hS, hp, hRow, hBow, hb, hrl, hbbl, hbase1, hglg1, (Rw.cast ho1 rfl rfl)⟩
      ·(try dsimp only); omega
   ·refine VL_pure 27 [0, 1, 2, 8, 22, 23, 9, 98] [(0, .pointer (some ⟨pp, 0, none⟩)), (1, .int .i64 t), (2, .int .i64 clp), (8, .slice (some ⟨g1, 0, none⟩) n n), (22, .int .i64 ((n : Nat) : Int)), (23, .int .i64 ((i : Nat) : Int)), (9, .int .i64 v), (98, .bool false)] (by kernel_rfl) rfl ?_
    refine VL_end (by kernel_rfl) ?_
    refine VQ_next ?_
    refine VC_false (by kernel_rfl) ?_
    refine VC_skip ?_
    refine VQ_block_normal ?_
    refine VQ_next ?_
    refine VC_region ?_
    refine VL_pure 1 [0, 1, 2, 8, 22, 9, 99] [(0, .pointer (some ⟨pp, 0, none⟩)), (1, .int .i64 t), (2, .int .i64 clp), (8, .slice (some ⟨g1, 0, none⟩) n n), (22, .int .i64 ((n : Nat) : Int)), (9, .int .i64 v), (99, .int .i64 (IntKind.wrap .i64 (((i : Nat) : Int) + 1)))] (by kernel_rfl) rfl ?_
    have he16 : IntKind.wrap .i64 (((i : Nat) : Int) + 1) = ((i + 1 : Nat) : Int) := TDa4ab
    refine VL_eq [(0, .pointer (some ⟨pp, 0, none⟩)), (1, .int .i64 t), (2, .int .i64 clp), (8, .slice (some ⟨g1, 0, none⟩) n n), (22, .int .i64 ((n : Nat) : Int)), (9, .int .i64 v), (99, .int .i64 ((i + 1 : Nat) : Int))] (by rw [he16]) ?_
    refine VL_pure 2 [0, 1, 2, 8, 22, 9, 23] [(0, .pointer (some ⟨pp, 0, none⟩)), (1, .int .i64 t), (2, .int .i64 clp), (8, .slice (some ⟨g1, 0, none⟩) n n), (22, .int .i64 ((n : Nat) : Int)), (9, .int .i64 v), (23, .int .i64 ((i + 1 : Nat) : Int))] (by kernel_rfl) rfl ?_
    refine VL_end (by kernel_rfl) ?_
    refine VQ_again ⟨i + 1, v, qs.set i (askB clp y1.r)⟩ ⟨rfl, rfl, rfl, rfl, rfl, rfl, rfl, trivial⟩ ?_ ?_
    ·exact ⟨(by omega), TDa4aa, TDa4ac, (ask_set (by omega) hy1 hz rfl), hS, hp, hRow, hBow, hb, hrl, hbbl, hbase1, hglg1, (Rw.cast ho1 rfl rfl)⟩
    ·(try dsimp only); omega
 ·refine VC_exit ?_
  refine VQ_then_exit ?_
  refine VQ_then_exit ?_
  refine VQ_block_hit ?_
  refine VQ_next ?_
  refine VC_seq ?_
  refine VC_seq ?_
  have hin : i = n := by omega
  rw [hin, ← hn, List.take_length, verdD_all] at hv
  have hz2 : ∀ j x, 0 ≤ j → l[j]? = some x → qs.getD j false = askB clp x.r := fun j x _ hx => hz j x (by have := (List.getElem?_eq_some_iff.1 hx).1; omega) hx
  refine VC_region ?_
  refine VL_pure 3 [0, 2, 8, 9, 102] [(0, .pointer (some ⟨pp, 0, none⟩)), (2, .int .i64 clp), (8, .slice (some ⟨g1, 0, none⟩) n n), (9, .int .i64 v), (102, .pointer (some ⟨pp, 6, none⟩))] (by kernel_rfl) rfl ?_
  refine VL_load (d := 103) (t := 91) (a := ⟨pp, 6, none⟩) (v := .slice (some ⟨rb, 0, none⟩) n c) (by kernel_rfl) (by kernel_rfl) (Loads.own1 hp (by kernel_rfl) (by rfl)) ?_
  refine VL_pure 6 [0, 2, 8, 9, 104, 105] [(0, .pointer (some ⟨pp, 0, none⟩)), (2, .int .i64 clp), (8, .slice (some ⟨g1, 0, none⟩) n n), (9, .int .i64 v), (104, .int .i64 ((n : Nat) : Int)), (105, .int .i64 0)] (by kernel_rfl) rfl ?_
  refine VL_end (by kernel_rfl) ?_
  refine VQ_next ?_
  refine VC_block ?_
  refine VC_loop (σ := Nat × (List Bool)) (fun σs => [(0, .pointer (some ⟨pp, 0, none⟩)), (2, .int .i64 clp), (8, .slice (some ⟨g1, 0, none⟩) n n), (9, .int .i64 v), (104, .int .i64 ((n : Nat) : Int)), (105, .int .i64 ((σs.1 : Nat) : Int))]) (fun σs w9 => (σs.1 ≤ n) ∧ (σs.2.length = n) ∧ (∀ j x, j < σs.1 → l[j]? = some x → σs.2.getD j false = tkB v clp x.r) ∧ (∀ j x, σs.1 ≤ j → l[j]? = some x → σs.2.getD j false = askB clp x.r) ∧ (Step No w w9) ∧ (Own w9 pp #[.int .i64 k.kind, .int .i64 k.peak, .int .i64 k.early, .int .i64 k.whole, .int .i64 k.burst, .int .i64 k.least, .slice (some ⟨rb, 0, none⟩) n c, .slice (some ⟨bb, 0, none⟩) n c2, .int .i64 c0, .int .i64 c1, .int .i64 c2i, .int .i64 c3] 96) ∧ (Sl2 w9 rb (rb + 1) (some ⟨rb, 0, none⟩) (flat drl l)) ∧ (Sl2 w9 bb (bb + 1) (some ⟨bb, 0, none⟩) (flat dpt l)) ∧ (DbsW w9 l) ∧ (rb < w9.heap.size) ∧ (bb < w9.heap.size) ∧ (g1 ≤ w9.heap.size) ∧ (g1 < w9.heap.size) ∧ (Rw w9 g1 4 (some ⟨g1, 0, none⟩) n n (bL σs.2))) (fun σs w9 => n - σs.1) ⟨0, qs⟩ ⟨rfl, rfl, rfl, rfl, rfl, rfl, trivial⟩ ?_ ?_
  ·exact ⟨Nat.zero_le _, hlen, fun j x hj => absurd hj (Nat.not_lt_zero _), hz2, hS, hp, hRow, hBow, hb, hrl, hbbl, hbase1, hglg1, (Rw.cast hr2 rfl rfl)⟩
  rintro ⟨i, bs⟩ w9 ⟨hi, hlen, hz, hz3, hS, hp, hRow, hBow, hb, hrl, hbbl, hbase1, hglg1, hr3⟩
  try dsimp only at hi hlen hz hz3 hS hp hRow hBow hb hrl hbbl hbase1 hglg1 hr3 ⊢
  refine VC_seq ?_
  refine VC_region ?_
  refine VL_pure 1 [0, 2, 8, 9, 104, 105, 106] [(0, .pointer (some ⟨pp, 0, none⟩)), (2, .int .i64 clp), (8, .slice (some ⟨g1, 0, none⟩) n n), (9, .int .i64 v), (104, .int .i64 ((n : Nat) : Int)), (105, .int .i64 ((i : Nat) : Int)), (106, .bool (decide (((i : Nat) : Int) < ((n : Nat) : Int))))] (by kernel_rfl) rfl ?_
  refine VL_end (by kernel_rfl) ?_
  refine VQ_next ?_
  refine VC_seq ?_
  refine VC_dec (((i : Nat) : Int) < ((n : Nat) : Int)) (by kernel_rfl) (fun h7 => ?_) (fun h7 => ?_)
  ·refine VC_skip ?_
   refine VQ_next ?_
   refine VC_seq ?_
   refine VC_block ?_
   refine VC_seq ?_
   obtain ⟨y2, hy2⟩ : ∃ x, l[i]? = some x := ⟨_, List.getElem?_eq_getElem (by omega)⟩
   refine VC_region ?_
   refine VL_pure 2 [0, 2, 8, 9, 104, 105, 11] [(0, .pointer (some ⟨pp, 0, none⟩)), (2, .int .i64 clp), (8, .slice (some ⟨g1, 0, none⟩) n n), (9, .int .i64 v), (104, .int .i64 ((n : Nat) : Int)), (105, .int .i64 ((i : Nat) : Int)), (11, .int .i64 ((i : Nat) : Int))] (by kernel_rfl) rfl ?_
   refine VL_end (by kernel_rfl) ?_
   refine VQ_next ?_
   refine VC_region ?_
   refine VL_pure 4 [0, 2, 8, 9, 104, 105, 11, 108, 109, 110, 111] [(0, .pointer (some ⟨pp, 0, none⟩)), (2, .int .i64 clp), (8, .slice (some ⟨g1, 0, none⟩) n n), (9, .int .i64 v), (104, .int .i64 ((n : Nat) : Int)), (105, .int .i64 ((i : Nat) : Int)), (11, .int .i64 ((i : Nat) : Int)), (108, .slice (some ⟨g1, 0, none⟩) n n), (109, .int .i64 ((i : Nat) : Int)), (110, .slice (some ⟨g1, 0, none⟩) n n), (111, .int .i64 ((i : Nat) : Int))] (by kernel_rfl) rfl ?_
   refine VL_index (d := 112) (b := g1) (o := 0) (len := n) (sz := 1) (m := ((i : Nat) : Int)) (by kernel_rfl) (by kernel_rfl) i (by rfl) (by omega) i (by omega) ?_
   refine VL_load (d := 113) (t := 4) (a := ⟨g1, i, none⟩) (v := .bool (bs.getD i false)) (by kernel_rfl) (by kernel_rfl) (Rw.ldB hr3 (by kernel_rfl) (by omega)) ?_
   refine VL_pure 7 [0, 2, 8, 9, 104, 105, 11, 108, 109, 114] [(0, .pointer (some ⟨pp, 0, none⟩)), (2, .int .i64 clp), (8, .slice (some ⟨g1, 0, none⟩) n n), (9, .int .i64 v), (104, .int .i64 ((n : Nat) : Int)), (105, .int .i64 ((i : Nat) : Int)), (11, .int .i64 ((i : Nat) : Int)), (108, .slice (some ⟨g1, 0, none⟩) n n), (109, .int .i64 ((i : Nat) : Int)), (114, .bool (bs.getD i false))] (by kernel_rfl) rfl ?_
   refine VL_join (bs.getD i false) (fun bV => [(0, .pointer (some ⟨pp, 0, none⟩)), (2, .int .i64 clp), (8, .slice (some ⟨g1, 0, none⟩) n n), (9, .int .i64 v), (104, .int .i64 ((n : Nat) : Int)), (105, .int .i64 ((i : Nat) : Int)), (11, .int .i64 ((i : Nat) : Int)), (108, .slice (some ⟨g1, 0, none⟩) n n), (109, .int .i64 ((i : Nat) : Int)), (114, .bool bV)]) 10 [(0, .pointer (some ⟨pp, 0, none⟩)), (2, .int .i64 clp), (8, .slice (some ⟨g1, 0, none⟩) n n), (9, .int .i64 v), (104, .int .i64 ((n : Nat) : Int)), (105, .int .i64 ((i : Nat) : Int)), (11, .int .i64 ((i : Nat) : Int)), (108, .slice (some ⟨g1, 0, none⟩) n n), (109, .int .i64 ((i : Nat) : Int)), (117, .bool ((bs.getD i false) && (v == 1)))] rfl (fun hg13 J3 => ?_) (fun hg13 J3 => ?_) ?_
   ·refine VL_pure 10 [0, 2, 8, 9, 104, 105, 11, 108, 109, 117] [(0, .pointer (some ⟨pp, 0, none⟩)), (2, .int .i64 clp), (8, .slice (some ⟨g1, 0, none⟩) n n), (9, .int .i64 v), (104, .int .i64 ((n : Nat) : Int)), (105, .int .i64 ((i : Nat) : Int)), (11, .int .i64 ((i : Nat) : Int)), (108, .slice (some ⟨g1, 0, none⟩) n n), (109, .int .i64 ((i : Nat) : Int)), (117, .bool (v == 1))] (by kernel_rfl) rfl ?_
    exact VL_eq _ TDa4ae J3
   ·refine VL_pure 10 [0, 2, 8, 9, 104, 105, 11, 108, 109, 117] [(0, .pointer (some ⟨pp, 0, none⟩)), (2, .int .i64 clp), (8, .slice (some ⟨g1, 0, none⟩) n n), (9, .int .i64 v), (104, .int .i64 ((n : Nat) : Int)), (105, .int .i64 ((i : Nat) : Int)), (11, .int .i64 ((i : Nat) : Int)), (108, .slice (some ⟨g1, 0, none⟩) n n), (109, .int .i64 ((i : Nat) : Int)), (117, .bool false)] (by kernel_rfl) rfl ?_
    exact VL_eq _ TDa4ae J3
   refine VL_pure 11 [0, 2, 8, 9, 104, 105, 11, 108, 109, 118] [(0, .pointer (some ⟨pp, 0, none⟩)), (2, .int .i64 clp), (8, .slice (some ⟨g1, 0, none⟩) n n), (9, .int .i64 v), (104, .int .i64 ((n : Nat) : Int)), (105, .int .i64 ((i : Nat) : Int)), (11, .int .i64 ((i : Nat) : Int)), (108, .slice (some ⟨g1, 0, none⟩) n n), (109, .int .i64 ((i : Nat) : Int)), (118, .bool ((bs.getD i false) && (v == 1)))] (by kernel_rfl) rfl ?_
   refine VL_bool ((bs.getD i false) && (v == 1)) (fun bV => [(0, .pointer (some ⟨pp, 0, none⟩)), (2, .int .i64 clp), (8, .slice (some ⟨g1, 0, none⟩) n n), (9, .int .i64 v), (104, .int .i64 ((n : Nat) : Int)), (105, .int .i64 ((i : Nat) : Int)), (11, .int .i64 ((i : Nat) : Int)), (108, .slice (some ⟨g1, 0, none⟩) n n), (109, .int .i64 ((i : Nat) : Int)), (118, .bool bV)]) rfl (fun hg14 => ?_) (fun hg14 => ?_)
   ·refine VL_pure 25 [0, 2, 8, 9, 104, 105, 108, 109, 132] [(0, .pointer (some ⟨pp, 0, none⟩)), (2, .int .i64 clp), (8, .slice (some ⟨g1, 0, none⟩) n n), (9, .int .i64 v), (104, .int .i64 ((n : Nat) : Int)), (105, .int .i64 ((i : Nat) : Int)), (108, .slice (some ⟨g1, 0, none⟩) n n), (109, .int .i64 ((i : Nat) : Int)), (132, .bool true)] (by kernel_rfl) rfl ?_
    refine VL_index (d := 133) (b := g1) (o := 0) (len := n) (sz := 1) (m := ((i : Nat) : Int)) (by kernel_rfl) (by kernel_rfl) i (by rfl) (by omega) i (by omega) ?_
    obtain ⟨cur2, hgbcur2, hglcur2, howcur2, hcscur2, hcncur2, hcmcur2, hctcur2⟩ := hr3.openG
    refine VL_store (b := g1) (o := i) (vs := [.bool true]) (by kernel_rfl) (by kernel_rfl) howcur2 TDa4am ?_
    intro w10 hw2
    replace hS := Step.transNew hS hw2.step (fun _ _ _ => by omega)
    replace hp := hp.step hw2.step (show ¬ pp = g1 by omega)
    replace hRow := hRow.step hw2.step (fun k hk1 hk2 (hF : k = g1) => by omega)
    replace hBow := hBow.step hw2.step (fun k hk1 hk2 (hF : k = g1) => by omega)
    replace hb := DbsW.step hb hw2.step (fun x9 hx9 hF9 => by have h8 := hbl x9 hx9; have h7 : x9.p = g1 := hF9; omega)
    replace hrl := Nat.lt_of_lt_of_le hrl (hw2.step).size
    replace hbbl := Nat.lt_of_lt_of_le hbbl (hw2.step).size
    replace hbase1 := Nat.le_trans hbase1 (hw2.step).size
    replace hglg1 := Nat.lt_of_lt_of_le hglg1 (hw2.step).size
    have ho2 := Rw.putB hctcur2 hw2 hgbcur2 hcscur2 hcncur2 hcmcur2 (j := i) (by omega)
    refine VL_end (by kernel_rfl) ?_
    refine VQ_block_normal ?_
    refine VQ_next ?_
    refine VC_region ?_
    refine VL_pure 1 [0, 2, 8, 9, 104, 134] [(0, .pointer (some ⟨pp, 0, none⟩)), (2, .int .i64 clp), (8, .slice (some ⟨g1, 0, none⟩) n n), (9, .int .i64 v), (104, .int .i64 ((n : Nat) : Int)), (134, .int .i64 (IntKind.wrap .i64 (((i : Nat) : Int) + 1)))] (by kernel_rfl) rfl ?_
    have he17 : IntKind.wrap .i64 (((i : Nat) : Int) + 1) = ((i + 1 : Nat) : Int) := TDa4ab
    refine VL_eq [(0, .pointer (some ⟨pp, 0, none⟩)), (2, .int .i64 clp), (8, .slice (some ⟨g1, 0, none⟩) n n), (9, .int .i64 v), (104, .int .i64 ((n : Nat) : Int)), (134, .int .i64 ((i + 1 : Nat) : Int))] (by rw [he17]) ?_
    refine VL_pure 2 [0, 2, 8, 9, 104, 105] [(0, .pointer (some ⟨pp, 0, none⟩)), (2, .int .i64 clp), (8, .slice (some ⟨g1, 0, none⟩) n n), (9, .int .i64 v), (104, .int .i64 ((n : Nat) : Int)), (105, .int .i64 ((i + 1 : Nat) : Int))] (by kernel_rfl) rfl ?_
    refine VL_end (by kernel_rfl) ?_
    refine VQ_again ⟨i + 1, bs.set i true⟩ ⟨rfl, rfl, rfl, rfl, rfl, rfl, trivial⟩ ?_ ?_
    ·exact ⟨(by omega), TDa4ac, (tk_set (by omega) hy2 hz (by unfold tkB; rw [← hz3 _ _ (Nat.le_refl _) hy2]; simp_all)), (ak_set (by omega) hz3), hS, hp, hRow, hBow, hb, hrl, hbbl, hbase1, hglg1, (Rw.cast ho2 rfl rfl)⟩
    ·(try dsimp only); omega
   ·refine VL_pure 14 [0, 2, 8, 9, 104, 105, 11, 108, 109, 118, 121] [(0, .pointer (some ⟨pp, 0, none⟩)), (2, .int .i64 clp), (8, .slice (some ⟨g1, 0, none⟩) n n), (9, .int .i64 v), (104, .int .i64 ((n : Nat) : Int)), (105, .int .i64 ((i : Nat) : Int)), (11, .int .i64 ((i : Nat) : Int)), (108, .slice (some ⟨g1, 0, none⟩) n n), (109, .int .i64 ((i : Nat) : Int)), (118, .bool false), (121, .pointer (some ⟨pp, 6, none⟩))] (by kernel_rfl) rfl ?_
    refine VL_load (d := 122) (t := 91) (a := ⟨pp, 6, none⟩) (v := .slice (some ⟨rb, 0, none⟩) n c) (by kernel_rfl) (by kernel_rfl) (Loads.own1 hp (by kernel_rfl) (by rfl)) ?_
    refine VL_pure 16 [0, 2, 8, 9, 104, 105, 108, 109, 118, 122, 123] [(0, .pointer (some ⟨pp, 0, none⟩)), (2, .int .i64 clp), (8, .slice (some ⟨g1, 0, none⟩) n n), (9, .int .i64 v), (104, .int .i64 ((n : Nat) : Int)), (105, .int .i64 ((i : Nat) : Int)), (108, .slice (some ⟨g1, 0, none⟩) n n), (109, .int .i64 ((i : Nat) : Int)), (118, .bool false), (122, .slice (some ⟨rb, 0, none⟩) n c), (123, .int .i64 ((i : Nat) : Int))] (by kernel_rfl) rfl ?_
    refine VL_index (d := 124) (b := rb) (o := 0) (len := n) (sz := 4) (m := ((i : Nat) : Int)) (by kernel_rfl) (by kernel_rfl) i (by rfl) (by omega) (i * 4) (by omega) ?_
    refine VL_pure 18 [0, 2, 8, 9, 104, 105, 108, 109, 118, 125] [(0, .pointer (some ⟨pp, 0, none⟩)), (2, .int .i64 clp), (8, .slice (some ⟨g1, 0, none⟩) n n), (9, .int .i64 v), (104, .int .i64 ((n : Nat) : Int)), (105, .int .i64 ((i : Nat) : Int)), (108, .slice (some ⟨g1, 0, none⟩) n n), (109, .int .i64 ((i : Nat) : Int)), (118, .bool false), (125, .pointer (some ⟨rb, i * 4 + 2, none⟩))] (by kernel_rfl) rfl ?_
    refine VL_load (d := 126) (t := 4) (a := ⟨rb, i * 4 + 2, none⟩) (v := .bool y2.r.zero) (by kernel_rfl) (by kernel_rfl) (Sl.flatOne (sz := 4) (Sl2.sl hRow) drl_len hy2 2 (by rfl) (by decide) (by kernel_rfl) _ (by first | rfl | omega)) ?_
    refine VL_pure 21 [0, 2, 8, 9, 104, 105, 108, 109, 118, 128] [(0, .pointer (some ⟨pp, 0, none⟩)), (2, .int .i64 clp), (8, .slice (some ⟨g1, 0, none⟩) n n), (9, .int .i64 v), (104, .int .i64 ((n : Nat) : Int)), (105, .int .i64 ((i : Nat) : Int)), (108, .slice (some ⟨g1, 0, none⟩) n n), (109, .int .i64 ((i : Nat) : Int)), (118, .bool false), (128, .bool (!y2.r.zero))] (by kernel_rfl) rfl ?_
    refine VL_join y2.r.zero (fun bV => [(0, .pointer (some ⟨pp, 0, none⟩)), (2, .int .i64 clp), (8, .slice (some ⟨g1, 0, none⟩) n n), (9, .int .i64 v), (104, .int .i64 ((n : Nat) : Int)), (105, .int .i64 ((i : Nat) : Int)), (108, .slice (some ⟨g1, 0, none⟩) n n), (109, .int .i64 ((i : Nat) : Int)), (118, .bool false), (128, .bool (!bV))]) 24 [(0, .pointer (some ⟨pp, 0, none⟩)), (2, .int .i64 clp), (8, .slice (some ⟨g1, 0, none⟩) n n), (9, .int .i64 v), (104, .int .i64 ((n : Nat) : Int)), (105, .int .i64 ((i : Nat) : Int)), (108, .slice (some ⟨g1, 0, none⟩) n n), (109, .int .i64 ((i : Nat) : Int)), (118, .bool false), (131, .bool ((!y2.r.zero) && (v == 2)))] rfl (fun hg15 J4 => ?_) (fun hg15 J4 => ?_) ?_
    ·refine VL_pure 24 [0, 2, 8, 9, 104, 105, 108, 109, 118, 131] [(0, .pointer (some ⟨pp, 0, none⟩)), (2, .int .i64 clp), (8, .slice (some ⟨g1, 0, none⟩) n n), (9, .int .i64 v), (104, .int .i64 ((n : Nat) : Int)), (105, .int .i64 ((i : Nat) : Int)), (108, .slice (some ⟨g1, 0, none⟩) n n), (109, .int .i64 ((i : Nat) : Int)), (118, .bool false), (131, .bool false)] (by kernel_rfl) rfl ?_
     exact VL_eq _ TDa4af J4
    ·refine VL_pure 24 [0, 2, 8, 9, 104, 105, 108, 109, 118, 131] [(0, .pointer (some ⟨pp, 0, none⟩)), (2, .int .i64 clp), (8, .slice (some ⟨g1, 0, none⟩) n n), (9, .int .i64 v), (104, .int .i64 ((n : Nat) : Int)), (105, .int .i64 ((i : Nat) : Int)), (108, .slice (some ⟨g1, 0, none⟩) n n), (109, .int .i64 ((i : Nat) : Int)), (118, .bool false), (131, .bool (v == 2))] (by kernel_rfl) rfl ?_
     exact VL_eq _ TDa4af J4
    refine VL_pure 25 [0, 2, 8, 9, 104, 105, 108, 109, 132] [(0, .pointer (some ⟨pp, 0, none⟩)), (2, .int .i64 clp), (8, .slice (some ⟨g1, 0, none⟩) n n), (9, .int .i64 v), (104, .int .i64 ((n : Nat) : Int)), (105, .int .i64 ((i : Nat) : Int)), (108, .slice (some ⟨g1, 0, none⟩) n n), (109, .int .i64 ((i : Nat) : Int)), (132, .bool ((!y2.r.zero) && (v == 2)))] (by kernel_rfl) rfl ?_
    refine VL_index (d := 133) (b := g1) (o := 0) (len := n) (sz := 1) (m := ((i : Nat) : Int)) (by kernel_rfl) (by kernel_rfl) i (by rfl) (by omega) i (by omega) ?_
    obtain ⟨cur3, hgbcur3, hglcur3, howcur3, hcscur3, hcncur3, hcmcur3, hctcur3⟩ := hr3.openG
    refine VL_store (b := g1) (o := i) (vs := [.bool ((!y2.r.zero) && (v == 2))]) (by kernel_rfl) (by kernel_rfl) howcur3 TDa4am ?_
    intro w11 hw3
    replace hS := Step.transNew hS hw3.step (fun _ _ _ => by omega)
    replace hp := hp.step hw3.step (show ¬ pp = g1 by omega)
    replace hRow := hRow.step hw3.step (fun k hk1 hk2 (hF : k = g1) => by omega)
    replace hBow := hBow.step hw3.step (fun k hk1 hk2 (hF : k = g1) => by omega)
    replace hb := DbsW.step hb hw3.step (fun x9 hx9 hF9 => by have h8 := hbl x9 hx9; have h7 : x9.p = g1 := hF9; omega)
    replace hrl := Nat.lt_of_lt_of_le hrl (hw3.step).size
    replace hbbl := Nat.lt_of_lt_of_le hbbl (hw3.step).size
    replace hbase1 := Nat.le_trans hbase1 (hw3.step).size
    replace hglg1 := Nat.lt_of_lt_of_le hglg1 (hw3.step).size
    have ho3 := Rw.putB hctcur3 hw3 hgbcur3 hcscur3 hcncur3 hcmcur3 (j := i) (by omega)
    refine VL_end (by kernel_rfl) ?_
    refine VQ_block_normal ?_
    refine VQ_next ?_
    refine VC_region ?_
    refine VL_pure 1 [0, 2, 8, 9, 104, 134] [(0, .pointer (some ⟨pp, 0, none⟩)), (2, .int .i64 clp), (8, .slice (some ⟨g1, 0, none⟩) n n), (9, .int .i64 v), (104, .int .i64 ((n : Nat) : Int)), (134, .int .i64 (IntKind.wrap .i64 (((i : Nat) : Int) + 1)))] (by kernel_rfl) rfl ?_
    have he18 : IntKind.wrap .i64 (((i : Nat) : Int) + 1) = ((i + 1 : Nat) : Int) := TDa4ab
    refine VL_eq [(0, .pointer (some ⟨pp, 0, none⟩)), (2, .int .i64 clp), (8, .slice (some ⟨g1, 0, none⟩) n n), (9, .int .i64 v), (104, .int .i64 ((n : Nat) : Int)), (134, .int .i64 ((i + 1 : Nat) : Int))] (by rw [he18]) ?_
    refine VL_pure 2 [0, 2, 8, 9, 104, 105] [(0, .pointer (some ⟨pp, 0, none⟩)), (2, .int .i64 clp), (8, .slice (some ⟨g1, 0, none⟩) n n), (9, .int .i64 v), (104, .int .i64 ((n : Nat) : Int)), (105, .int .i64 ((i + 1 : Nat) : Int))] (by kernel_rfl) rfl ?_
    refine VL_end (by kernel_rfl) ?_
    refine VQ_again ⟨i + 1, bs.set i ((!y2.r.zero) && (v == 2))⟩ ⟨rfl, rfl, rfl, rfl, rfl, rfl, trivial⟩ ?_ ?_
    ·exact ⟨(by omega), TDa4ac, (tk_set (by omega) hy2 hz (by unfold tkB; rw [← hz3 _ _ (Nat.le_refl _) hy2]; simp_all)), (ak_set (by omega) hz3), hS, hp, hRow, hBow, hb, hrl, hbbl, hbase1, hglg1, (Rw.cast ho3 rfl rfl)⟩
    ·(try dsimp only); omega
  ·refine VC_exit ?_
   refine VQ_then_exit ?_
   refine VQ_then_exit ?_
   refine VQ_block_hit ?_
   refine VQ_next ?_
   refine VC_seq ?_
   refine VC_seq ?_
   refine VC_region ?_
   refine VL_pure 3 [0, 2, 8, 9, 137] [(0, .pointer (some ⟨pp, 0, none⟩)), (2, .int .i64 clp), (8, .slice (some ⟨g1, 0, none⟩) n n), (9, .int .i64 v), (137, .bool (v == 1))] (by kernel_rfl) rfl ?_
   refine VL_join (v == 1) (fun bV => [(0, .pointer (some ⟨pp, 0, none⟩)), (2, .int .i64 clp), (8, .slice (some ⟨g1, 0, none⟩) n n), (9, .int .i64 v), (137, .bool bV)]) 10 [(2, .int .i64 clp), (8, .slice (some ⟨g1, 0, none⟩) n n), (9, .int .i64 v), (144, .bool ((v == 1) && (k.kind == 7)))] rfl (fun hg16 J5 => ?_) (fun hg16 J5 => ?_) ?_
   ·refine VL_pure 7 [2, 8, 9, 137, 141] [(2, .int .i64 clp), (8, .slice (some ⟨g1, 0, none⟩) n n), (9, .int .i64 v), (137, .bool true), (141, .pointer (some ⟨pp, 0, none⟩))] (by kernel_rfl) rfl ?_
    refine VL_load (d := 142) (t := 3) (a := ⟨pp, 0, none⟩) (v := .int .i64 k.kind) (by kernel_rfl) (by kernel_rfl) (Loads.own1 hp (by kernel_rfl) (by rfl)) ?_
    refine VL_pure 10 [2, 8, 9, 144] [(2, .int .i64 clp), (8, .slice (some ⟨g1, 0, none⟩) n n), (9, .int .i64 v), (144, .bool (k.kind == 7))] (by kernel_rfl) rfl ?_
    exact VL_eq _ TDa4ag J5
   ·refine VL_pure 10 [2, 8, 9, 144] [(2, .int .i64 clp), (8, .slice (some ⟨g1, 0, none⟩) n n), (9, .int .i64 v), (144, .bool false)] (by kernel_rfl) rfl ?_
    exact VL_eq _ TDa4ag J5
   refine VL_pure 11 [2, 8, 9, 145] [(2, .int .i64 clp), (8, .slice (some ⟨g1, 0, none⟩) n n), (9, .int .i64 v), (145, .bool ((v == 1) && (k.kind == 7)))] (by kernel_rfl) rfl ?_
   refine VL_join ((v == 1) && (k.kind == 7)) (fun bV => [(2, .int .i64 clp), (8, .slice (some ⟨g1, 0, none⟩) n n), (9, .int .i64 v), (145, .bool bV)]) 14 [(8, .slice (some ⟨g1, 0, none⟩) n n), (9, .int .i64 v), (148, .bool (((v == 1) && (k.kind == 7)) && (clp == 0)))] rfl (fun hg17 J6 => ?_) (fun hg17 J6 => ?_) ?_
   ·refine VL_pure 14 [8, 9, 148] [(8, .slice (some ⟨g1, 0, none⟩) n n), (9, .int .i64 v), (148, .bool (clp == 0))] (by kernel_rfl) rfl ?_
    exact VL_eq _ TDa4ah J6
   ·refine VL_pure 14 [8, 9, 148] [(8, .slice (some ⟨g1, 0, none⟩) n n), (9, .int .i64 v), (148, .bool false)] (by kernel_rfl) rfl ?_
    exact VL_eq _ TDa4ah J6
   refine VL_end (by kernel_rfl) ?_
   refine VQ_next ?_
   refine VC_cond (((v == 1) && (k.kind == 7)) && (clp == 0)) (by kernel_rfl) (fun h8 => ?_) (fun h8 => ?_)
   ·try simp only [Bool.and_eq_true, Bool.or_eq_true, decide_eq_true_eq, Bool.not_eq_true', decide_eq_false_iff_not, Bool.and_eq_false_iff, Bool.or_eq_false_iff, beq_iff_eq, bne_iff_ne, beq_eq_false_iff_ne, bne_eq_false_iff_eq, Bool.not_eq_eq_eq_not, Bool.not_true, Bool.not_false] at h8
    refine VC_region ?_
    refine VL_pure 1 [8, 9] [(8, .slice (some ⟨g1, 0, none⟩) n n), (9, .int .i64 2)] (by kernel_rfl) rfl ?_
    refine VL_end (by kernel_rfl) ?_
    refine VQ_next ?_
    refine VC_seq ?_
    refine VC_region ?_
    refine VL_pure 4 [6, 7] [(6, .int .i64 2), (7, .slice (some ⟨g1, 0, none⟩) n n)] (by kernel_rfl) rfl ?_
    refine VL_end (by kernel_rfl) ?_
    refine VQ_next ?_
    refine VC_ret ?_
    refine VQ_ret2 (.int .i64 2) (.slice (some ⟨g1, 0, none⟩) n n) (.inr rfl) rfl rfl rfl ?_
    exact ⟨bs, g1, congrArg (fun v9 => Value.tuple #[.int .i64 v9, _]) TDa4ak, by omega, hr3, fun j x hx => by rw [← hv]; exact hz j x (by have := (List.getElem?_eq_some_iff.1 hx).1; omega) hx, hS⟩
   ·try simp only [Bool.and_eq_true, Bool.or_eq_true, decide_eq_true_eq, Bool.not_eq_true', decide_eq_false_iff_not, Bool.and_eq_false_iff, Bool.or_eq_false_iff, beq_iff_eq, bne_iff_ne, beq_eq_false_iff_ne, bne_eq_false_iff_eq, Bool.not_eq_eq_eq_not, Bool.not_true, Bool.not_false] at h8
    refine VC_skip ?_
    refine VQ_next ?_
    refine VC_seq ?_
    refine VC_region ?_
    refine VL_pure 4 [6, 7] [(6, .int .i64 v), (7, .slice (some ⟨g1, 0, none⟩) n n)] (by kernel_rfl) rfl ?_
    refine VL_end (by kernel_rfl) ?_
    refine VQ_next ?_
    refine VC_ret ?_
    refine VQ_ret2 (.int .i64 v) (.slice (some ⟨g1, 0, none⟩) n n) (.inr rfl) rfl rfl rfl ?_
    exact ⟨bs, g1, congrArg (fun v9 => Value.tuple #[.int .i64 v9, _]) TDa4ak, by omega, hr3, fun j x hx => by rw [← hv]; exact hz j x (by have := (List.getElem?_eq_some_iff.1 hx).1; omega) hx, hS⟩

end Go.Proofs.YthchmlidobgkoaaGreat
end

section
/- Layer 20: a cell is policed, by the document. -/
set_option linter.unusedVariables false
set_option linter.unusedSimpArgs false
set_option maxRecDepth 100000
set_option maxHeartbeats 4000000
namespace Go.Proofs.YthchmlidobgkoaaGreat
open Go.Vc Go.RowKit
theorem TDa5aa {P : Prop} (h : P := by rw [wrap_i64 _ (by omega) (by omega)]; omega) : P := h
theorem TDa5ab {P : Prop} (h : P := by have h9 := hI.1; rw [List.length_map] at h9; exact h9) : P := h

theorem tyb_ne {w : World} {a b : Nat} {T U : TypeId} (ha : TyB w T a) (hb : TyB w U b) (hne : T ≠ U) : a ≠ b := by
  rintro rfl
  obtain ⟨c, f, h⟩ := ha
  obtain ⟨c', f', h'⟩ := hb
  rw [h] at h'
  simp only [Option.some.injEq, Obj.cells.injEq] at h'
  exact hne h'.2.1
/-- The first n are done: those that are to take have taken. -/
def fD (t : Int) (bs : List Bool) (n j : Nat) (x : Db) : Db := if j < n ∧ bs.getD j false = true then x.take t else x
def PW (w : World) (l : List Db) (f : Nat → Db → Db) : Prop := ∀ j x, l[j]? = some x → Own w x.p (lvA (f j x).lv) 126 ∧ LvI (f j x).lv
theorem Db.take_lv (x : Db) (t : Int) : (x.take t).lv = x.lv.take t := by
  have := Lv.take_b x.lv t
  unfold Db.take Db.lv at *
  simp only at this ⊢
  show (⟨takeB x.r.b t, _⟩ : Lv) = _
  rw [← this]
theorem fD_p (t : Int) (bs : List Bool) (n j : Nat) (x : Db) : (fD t bs n j x).p = x.p := by unfold fD; split <;> rfl
theorem PW.zero {w : World} {l : List Db} {t : Int} {bs : List Bool} (h : DbsW w l) : PW w l (fD t bs 0) := fun j x hx => by
  have := h x (List.mem_of_getElem? hx)
  unfold fD; rw [if_neg (by omega)]; exact this
theorem PW.step {w w' : World} {l : List Db} {f : Nat → Db → Db} {F : Nat → Prop} (h : PW w l f) (hs : Step F w w') (hF : ∀ x ∈ l, ¬ F x.p) : PW w' l f := fun j x hx => ⟨(h j x hx).1.step hs (hF x (List.mem_of_getElem? hx)), (h j x hx).2⟩
theorem PW.at {w : World} {l : List Db} {t : Int} {bs : List Bool} {i : Nat} {y : Db} (h : PW w l (fD t bs i)) (hy : l[i]? = some y) : Own w y.p (lvA y.lv) 126 ∧ LvI y.lv := by
  have := h i y hy
  unfold fD at this; rw [if_neg (by omega)] at this; exact this
theorem PW.take {w w1 : World} {l : List Db} {t : Int} {bs : List Bool} {i : Nat} {y : Db} (h : PW w l (fD t bs i)) (hnd : (l.map Db.p).Nodup) (hy : l[i]? = some y) (hb : bs.getD i false = true) (ho : Own w1 y.p (lvA (y.lv.take t)) 126) (hs : Step (Just y.p) w w1) : PW w1 l (fD t bs (i + 1)) := by
  intro j x hx
  by_cases e : j = i
  · subst e; rw [hy] at hx; cases hx
    unfold fD; rw [if_pos ⟨by omega, hb⟩, Db.take_lv]
    exact ⟨ho, (h.at hy).2.take t⟩
  · have h1 := h j x hx
    have he : fD t bs (i + 1) j x = fD t bs i j x := by
      unfold fD
      by_cases h2 : j < i
      · simp only [h2, show j < i + 1 by omega]
      · rw [if_neg (by omega), if_neg (by omega)]
    rw [he]
    refine ⟨h1.1.step hs ?_, h1.2⟩
    intro hF
    have hF : x.p = y.p := hF
    have hj : j < l.length := (List.getElem?_eq_some_iff.1 hx).1
    have hi : i < l.length := (List.getElem?_eq_some_iff.1 hy).1
    have hpw := List.pairwise_iff_getElem.1 hnd
    rcases Nat.lt_or_gt_of_ne e with h9 | h9
    · have := hpw j i (by simpa using hj) (by simpa using hi) h9
      rw [List.getElem_map, List.getElem_map, (List.getElem?_eq_some_iff.1 hx).2, (List.getElem?_eq_some_iff.1 hy).2] at this
      exact this hF
    · have := hpw i j (by simpa using hi) (by simpa using hj) h9
      rw [List.getElem_map, List.getElem_map, (List.getElem?_eq_some_iff.1 hx).2, (List.getElem?_eq_some_iff.1 hy).2] at this
      exact this hF.symm
theorem PW.skip {w : World} {l : List Db} {t : Int} {bs : List Bool} {i : Nat} (h : PW w l (fD t bs i)) (hb : bs.getD i false = false) : PW w l (fD t bs (i + 1)) := by
  intro j x hx
  have h1 := h j x hx
  have he : fD t bs (i + 1) j x = fD t bs i j x := by
    unfold fD
    by_cases e : j = i
    · subst e; rw [if_neg (by rintro ⟨_, h9⟩; rw [hb] at h9; cases h9), if_neg (by omega)]
    · by_cases h2 : j < i
      · simp only [h2, show j < i + 1 by omega]
      · rw [if_neg (by omega), if_neg (by omega)]
  rw [he]; exact h1
theorem tk_eq {v clp : Int} (r : Rl) (hv : v = 1 ∨ v = 2 ∨ v = 3) : tkB v clp r = (!(v == 3) && askB (asV v clp) r) := by
  rcases hv with rfl | rfl | rfl <;> unfold tkB asV askB <;> cases r.zero <;> simp
def fL (t : Int) (bs : List Bool) (l : List Db) : List Db := l.mapIdx fun j x => fD t bs l.length j x
theorem fL_map {α : Type} (g : Db → α) (hg : ∀ t x, g (Db.take t x) = g x) (t : Int) (bs : List Bool) (l : List Db) : (fL t bs l).map g = l.map g := by
  unfold fL
  apply List.ext_getElem?
  intro j
  simp only [List.getElem?_map, List.getElem?_mapIdx]
  cases l[j]? with
  | none => rfl
  | some x => simp only [Option.map_some]; unfold fD; split <;> simp [hg]
theorem fL_len (t : Int) (bs : List Bool) (l : List Db) : (fL t bs l).length = l.length := by unfold fL; simp
theorem flat_map {α : Type} (enc : α → List Value) (l l' : List α) (h : l.map enc = l'.map enc) : flat enc l = flat enc l' := by
  have : ∀ l : List α, flat enc l = (l.map enc).flatten := by
    intro l
    induction l with
    | nil => rfl
    | cons x l ih => rw [flat_cons, ih]; rfl
  rw [this, this, h]
theorem fL_rules {t clp : Int} {bs : List Bool} {l : List Db} (htk : ∀ j x, l[j]? = some x → bs.getD j false = tkB (verdR t clp (l.map Db.r)) clp x.r) : (fL t bs l).map Db.r = rulesT t clp (l.map Db.r) := by
  have hv := verdR_cases t clp (l.map Db.r)
  unfold rulesT
  generalize verdR t clp (l.map Db.r) = v at htk hv
  apply List.ext_getElem?
  intro j
  have hl : ((fL t bs l).map Db.r)[j]? = l[j]?.map fun x => (fD t bs l.length j x).r := by
    unfold fL; simp [List.getElem?_mapIdx, Function.comp_def]
  rw [hl]
  cases hx : l[j]? with
  | none => rcases hv with rfl | rfl | rfl <;> simp [hx]
  | some x =>
    have h1 := htk j x hx
    rw [tk_eq _ hv] at h1
    have hj : j < l.length := (List.getElem?_eq_some_iff.1 hx).1
    have h2 : (fD t bs l.length j x).r = if (!(v == 3) && askB (asV v clp) x.r) = true then takeR t x.r else x.r := by
      unfold fD; rw [h1]
      by_cases h3 : (!(v == 3) && askB (asV v clp) x.r) = true
      · rw [if_pos ⟨hj, h3⟩, if_pos h3]; rfl
      · rw [if_neg (fun h9 => h3 h9.2), if_neg h3]
    rw [Option.map_some, h2]
    rcases hv with rfl | rfl | rfl <;> simp [hx]
def dpF (pp : Nat) (l : List Db) (k : Nat) : Prop := k = pp ∨ ∃ x ∈ l, k = x.p
theorem stepD_no {pp : Nat} {l : List Db} {w w1 w2 : World} (h : Step (dpF pp l) w w1) (k : Step No w1 w2) : Step (dpF pp l) w w2 := Step.trans h k.weak
theorem dtake_done {w w1 : World} {pp rb bb c c' : Nat} {Y : Nat → Prop} {k : Con} {c0 c1 c2 c3 d0 d1 d2 d3 t clp : Int} {l : List Db} {bs : List Bool} (hX : DPX w pp Y k l rb bb c c' c0 c1 c2 c3) (hI : RlsI (l.map Db.r)) (hk : rightC k = 0) (ho : Own w1 pp (dpolA k rb bb l.length c c' d0 d1 d2 d3) 96) (hb : PW w1 l (fD t bs l.length))
    (htk : ∀ j x, l[j]? = some x → bs.getD j false = tkB (verdR t clp (l.map Db.r)) clp x.r) (hS : Step (dpF pp l) w w1) : DPl w1 pp Y k (rulesT t clp (l.map Db.r)) ∧ Step Y w w1 := by
  have nF : ∀ {q}, DT w q → q ≠ pp → (∀ x ∈ l, q ≠ x.p) → ¬ dpF pp l q := by
    rintro q _ h1 h2 (h | ⟨x, hx, h⟩)
    · exact h1 h
    · exact h2 x hx h
  have tyne : ∀ {a b : Nat} {T U : TypeId}, TyB w T a → TyB w U b → T ≠ U → a ≠ b := tyb_ne
  have hFr : ¬ dpF pp l rb := by
    rintro (h | ⟨x, hx, h⟩)
    · exact tyne hX.row.ty hX.own.tyB (by decide) h
    · exact tyne hX.row.ty (hX.bks x hx).1.tyB (by decide) h
  have hFb : ¬ dpF pp l bb := by
    rintro (h | ⟨x, hx, h⟩)
    · exact tyne hX.brow.ty hX.own.tyB (by decide) h
    · exact tyne hX.brow.ty (hX.bks x hx).1.tyB (by decide) h
  have hsub : ∀ k, dpF pp l k → Y k := by
    rintro k (rfl | ⟨x, hx, rfl⟩)
    · exact hX.inP
    · exact hX.inB x hx
  have hW : DbsW w1 (fL t bs l) := by
    intro z hz
    obtain ⟨j, hj, he⟩ := List.getElem_of_mem hz
    have hj' : j < l.length := by rw [fL_len] at hj; exact hj
    have h1 := hb j l[j] (List.getElem?_eq_getElem hj')
    have h2 : z = fD t bs l.length j l[j] := by rw [← he]; simp [fL]
    rw [h2, fD_p]; exact h1
  have hp : (fL t bs l).map Db.p = l.map Db.p := fL_map Db.p (fun _ _ => rfl) t bs l
  have hty : ∀ q, Y q → DT w1 q := by
    intro q hq
    by_cases h1 : q = pp
    · subst h1; exact .inl ho.tyB
    · by_cases h2 : ∃ x ∈ l, q = x.p
      · obtain ⟨x, hx, rfl⟩ := h2
        obtain ⟨j, hj, he⟩ := List.getElem_of_mem hx
        have h3 := hb j x (by rw [List.getElem?_eq_getElem hj, he])
        exact .inr (.inr (.inr h3.1.tyB))
      · exact (hX.ty q hq).step hS (by rintro (h | h); exact h1 h; exact h2 h)
  refine ⟨⟨hI.take t clp, hk, fL t bs l, rb, bb, c, c', d0, d1, d2, d3, (fL_rules htk).symm, ⟨by rw [fL_len]; exact ho, ?_, ?_, hW, by rw [hp]; exact hX.nodup, hX.inP, hX.inR, hX.inBB, ?_, hty, by rw [fL_len]; exact hX.pos⟩⟩, hS.mono hsub⟩
  · rw [flat_map drl (fL t bs l) l (fL_map drl (fun _ _ => rfl) t bs l)]; exact hX.row.step hS hFr
  · rw [flat_map dpt (fL t bs l) l (fL_map dpt (fun _ _ => rfl) t bs l)]; exact hX.brow.step hS hFb
  · intro z hz
    have h9 : z.p ∈ (fL t bs l).map Db.p := List.mem_map_of_mem hz
    rw [hp] at h9
    obtain ⟨x, hx, he⟩ := List.mem_map.1 h9
    rw [← he]; exact hX.inB x hx
theorem dtake_1 (pp rb bb c c2 : Nat) (Y : Nat → Prop) (k : Con) (c0 c1 c2i c3 t clp : Int) (l : List Db) (w : World) (hX : DPX w pp Y k l rb bb c c2 c0 c1 c2i c3) (hI : RlsI (l.map Db.r)) (hk : rightC k = 0) (hv : polV (decide (k.kind = 7)) t clp (l.map Db.r) = 1) :
  CV Tryz.prog 46 #[Pt pp 0, I6 t, I6 clp] w (fun x w1 => x = I6 (polV (decide (k.kind = 7)) t clp (l.map Db.r)) ∧ DPl w1 pp Y k (rulesT t clp (l.map Db.r)) ∧ Step Y w w1) := by
 have hp : Own w pp #[I6 k.kind, I6 k.peak, I6 k.early, I6 k.whole, I6 k.burst, I6 k.least, .slice (some ⟨rb, 0, none⟩) l.length c, .slice (some ⟨bb, 0, none⟩) l.length c2, I6 c0, I6 c1, I6 c2i, I6 c3] 96 := hX.own
 have hRow := hX.row.sl
 have hBow := hX.brow.sl
 have hrl := hX.row.lt
 have hbbl := hX.brow.lt
 have hbl : ∀ x ∈ l, x.p < w.heap.size := fun x hx => (hX.bks x hx).1.lt
 have tyne : ∀ {a b : Nat} {T U : TypeId}, TyB w T a → TyB w U b → T ≠ U → a ≠ b := tyb_ne
 have hbp : ∀ x ∈ l, x.p ≠ pp := fun x hx => tyne (hX.bks x hx).1.tyB hX.own.tyB (by decide)
 have hbr : ∀ x ∈ l, x.p ≠ rb ∧ x.p ≠ bb := fun x hx => ⟨tyne (hX.bks x hx).1.tyB hX.row.ty (by decide), tyne (hX.bks x hx).1.tyB hX.brow.ty (by decide)⟩
 have hlen : l.length ≤ 2 := by have h9 := hI.1; rw [List.length_map] at h9; exact h9
 have hS : Step (dpF pp l) w w := Step.refl _ _
 have hSn : Step No w w := Step.refl _ _
 refine VCe Tryz.func46 (Vrp (Vs (Vr (Vp 3 ?_))))
 refine Vc 3 Tryz.call66 ((dverd_any pp rb bb c c2 l.length k c0 c1 c2i c3 t clp l _ rfl TDa5ab hp (hX.row.step hSn (fun h9 => h9)) (hX.brow.step hSn (fun h9 => h9)) (DbsW.step hX.bks hSn (fun _ _ => id))).mono (fun x w1 h9 => by rw [hv] at h9; exact h9)) ?_
 rintro _ w1 ⟨bs, g, rfl, hgb, hgrow, htk, hc1⟩
 replace hS := stepD_no hS hc1
 replace hp := hp.no hc1
 replace hRow := hRow.step hc1 (fun k hk1 hk2 hF => hF)
 replace hBow := hBow.step hc1 (fun k hk1 hk2 hF => hF)
 replace hrl := Nat.lt_of_lt_of_le hrl (hc1).size
 replace hbbl := Nat.lt_of_lt_of_le hbbl (hc1).size
 have hgl : g < w1.heap.size := by obtain ⟨_, _, h9, _⟩ := hgrow.openG; exact h9
 have hgb2 : g ≤ w1.heap.size := by omega
 have hpw : PW w1 l (fD t bs 0) := PW.zero (DbsW.step (DbsW.step hX.bks hSn (fun _ _ => id)) hc1 (fun _ _ => id))
 refine Ve (Vn (Vs (Vrp (VC_block (VC_loop (σ := Nat) (fun σs => [(0, Pt pp 0), (1, I6 t), (7, I6 1), (8, .slice (some ⟨g, 0, none⟩) l.length l.length), (18, I6 ((l.length : Nat) : Int)), (19, I6 ((σs : Nat) : Int))]) (fun σs w2 => (σs ≤ l.length) ∧ (Step (dpF pp l) w w2) ∧ (Own w2 pp #[I6 k.kind, I6 k.peak, I6 k.early, I6 k.whole, I6 k.burst, I6 k.least, .slice (some ⟨rb, 0, none⟩) l.length c, .slice (some ⟨bb, 0, none⟩) l.length c2, I6 c0, I6 c1, I6 c2i, I6 c3] 96) ∧ (Sl2 w2 rb (rb + 1) (some ⟨rb, 0, none⟩) (flat drl l)) ∧ (Sl2 w2 bb (bb + 1) (some ⟨bb, 0, none⟩) (flat dpt l)) ∧ (rb < w2.heap.size) ∧ (bb < w2.heap.size) ∧ (Rw w2 g 4 (some ⟨g, 0, none⟩) l.length l.length (bL bs)) ∧ (g < w2.heap.size) ∧ (g ≤ w2.heap.size) ∧ (PW w2 l (fD t bs σs))) (fun σs w2 => l.length - σs) 0 Su ?_ ?_)))))
 ·exact ⟨Nat.zero_le _, hS, hp, hRow, hBow, hrl, hbbl, hgrow, hgl, hgb2, hpw⟩
 rintro i w2 ⟨hi, hS, hp, hRow, hBow, hrl, hbbl, hgrow, hgl, hgb2, hpwi⟩
 try dsimp only at hi hS hp hRow hBow hrl hbbl hgrow hgl hgb2 hpwi ⊢
 refine Vrp (Vs (Vid (((i : Nat) : Int) < ((l.length : Nat) : Int)) (fun h1 => ?_) (fun h1 => ?_)))
 ·refine VC_skip (Vn (Vs (VC_block (Vs ?_))))
  obtain ⟨y9, hy9⟩ : ∃ x, l[i]? = some x := ⟨_, List.getElem?_eq_getElem (by omega)⟩
  have hm9 := List.mem_of_getElem? hy9
  have hyl := hbl y9 hm9
  have hyp := hbp y9 hm9
  have hyr := hbr y9 hm9
  refine Vr (Ve (Vn (Vs (Vr (Vp 2 (VL_index (d := 24) (b := g) (o := 0) (len := l.length) (sz := 1) (m := ((i : Nat) : Int)) (by kernel_rfl) (by kernel_rfl) i (by rfl) (by omega) i (by omega) (Vla 3 (t := 4) (a := ⟨g, i, none⟩) (v := Bo (bs.getD i false)) (Rw.ldB hgrow (by kernel_rfl) (by omega)) (Ve (Vn (Vif (bs.getD i false) (fun h2 => ?_) (fun h2 => ?_)))))))))))
  ·try simp only [BB] at h2
   refine Vr (Vl 3 hp (Vp 5 (VL_index (d := 31) (b := bb) (o := 0) (len := l.length) (sz := 1) (m := ((i : Nat) : Int)) (by kernel_rfl) (by kernel_rfl) i (by rfl) (by omega) i (by omega) (Vla 6 (t := 97) (a := ⟨bb, i, none⟩) (v := Pt y9.p 0) (Sl.flatOne (sz := 1) (Sl2.sl hBow) dpt_len hy9 0 (by rfl) (by decide) (by kernel_rfl) _ (by first | rfl | omega)) (Vp 8 ?_)))))
   refine Vc 8 Tryz.call67 (dbtake_any y9.p y9.lv t _ (hpwi.at hy9).2 (hpwi.at hy9).1) ?_
   rintro _ w3 ⟨rfl, hbo, hc2⟩
   replace hS := Step.trans hS (Step.mono hc2 (fun i hi => .inr ⟨y9, hm9, hi⟩))
   replace hp := hp.step hc2 (show ¬ pp = y9.p by omega)
   replace hRow := hRow.step hc2 (fun k hk1 hk2 (hF : k = y9.p) => by omega)
   replace hBow := hBow.step hc2 (fun k hk1 hk2 (hF : k = y9.p) => by omega)
   replace hrl := Nat.lt_of_lt_of_le hrl (hc2).size
   replace hbbl := Nat.lt_of_lt_of_le hbbl (hc2).size
   replace hgrow := hgrow.keepG hc2 (show ¬ g = y9.p by omega)
   replace hgl := Nat.lt_of_lt_of_le hgl (hc2).size
   replace hgb2 := Nat.le_trans hgb2 (hc2).size
   have hpw2 := PW.take hpwi hX.nodup hy9 (by assumption) hbo hc2
   refine Ve (VQ_block_normal (Vn (Vr (Vp 1 ?_))))
   have he1 : IntKind.wrap .i64 (((i : Nat) : Int) + 1) = ((i + 1 : Nat) : Int) := TDa5aa
   refine Vq 35 (I6 (IntKind.wrap .i64 (((i : Nat) : Int) + 1))) (I6 ((i + 1 : Nat) : Int)) (by rw [he1]) (Ve (VQ_again (i + 1) Su ?_ ?_))
   ·exact ⟨(by omega), hS, hp, hRow, hBow, hrl, hbbl, hgrow, hgl, hgb2, hpw2⟩
   ·(try dsimp only); omega
  ·try simp only [BB] at h2
   refine VC_skip (VQ_block_normal (Vn (Vr (Vp 1 ?_))))
   have he2 : IntKind.wrap .i64 (((i : Nat) : Int) + 1) = ((i + 1 : Nat) : Int) := TDa5aa
   refine Vq 35 (I6 (IntKind.wrap .i64 (((i : Nat) : Int) + 1))) (I6 ((i + 1 : Nat) : Int)) (by rw [he2]) (Ve (VQ_again (i + 1) Su ?_ ?_))
   ·exact ⟨(by omega), hS, hp, hRow, hBow, hrl, hbbl, hgrow, hgl, hgb2, (hpwi.skip (by simp_all))⟩
   ·(try dsimp only); omega
 ·refine VC_exit (VQ_then_exit (VQ_then_exit (VQ_block_hit (Vn (Vs ?_)))))
  have hin : i = l.length := by omega
  rw [hin] at hpwi
  refine Vd 9 [(4, Pt pp 8), (5, I6 c0)] [4, 5] ?_ ?_
  ·intro w4 hs1
   replace hp := hp.no hs1
   exact ⟨Dv (Pt pp 8) (Det1_index (d := 40) (b := pp) (o := 8) (len := 4) (sz := 1) (m := 0) (by kernel_rfl) (by kernel_rfl) 0 (by rfl) (by omega) 8 (by omega)), Dl hp, trivial⟩
  intro w4 hs1
  replace hS := stepD_no hS hs1
  replace hp := hp.no hs1
  replace hpwi := (fun h9 s9 => PW.step h9 s9 (fun _ _ => id)) hpwi hs1
  refine VL_index (d := 45) (b := pp) (o := 8) (len := 4) (sz := 1) (m := 0) (by kernel_rfl) (by kernel_rfl) 0 (by rfl) (by omega) 8 (by omega) (Vst 10 (o := 8) [I6 (IntKind.wrap .i64 (c0 + 1))] hp #[I6 k.kind, I6 k.peak, I6 k.early, I6 k.whole, I6 k.burst, I6 k.least, .slice (some ⟨rb, 0, none⟩) l.length c, .slice (some ⟨bb, 0, none⟩) l.length c2, I6 (IntKind.wrap .i64 (c0 + 1)), I6 c1, I6 c2i, I6 c3] ?_)
  intro w5 hw1
  replace hS := Step.trans hS (Step.mono hw1.step (fun i hi => .inl hi))
  replace hpwi := PW.step hpwi hw1.step (fun x9 hx9 hF9 => by have h8 := hbl x9 hx9; have h6 := hbp x9 hx9; have h7 : x9.p = pp := hF9; omega)
  have ho1 := hw1.own
  refine Ve (Vn (Vs (Vd 11 [(6, Pt pp 9), (7, I6 c1)] [6, 7] ?_ ?_)))
  ·intro w6 hs2
   replace ho1 := ho1.no hs2
   exact ⟨Dv (Pt pp 9) (Det1_index (d := 52) (b := pp) (o := 8) (len := 4) (sz := 1) (m := 1) (by kernel_rfl) (by kernel_rfl) 1 (by rfl) (by omega) 9 (by omega)), Dl ho1, trivial⟩
  intro w6 hs2
  replace hS := stepD_no hS hs2
  replace hpwi := (fun h9 s9 => PW.step h9 s9 (fun _ _ => id)) hpwi hs2
  replace ho1 := ho1.no hs2
  refine VL_index (d := 57) (b := pp) (o := 8) (len := 4) (sz := 1) (m := 1) (by kernel_rfl) (by kernel_rfl) 1 (by rfl) (by omega) 9 (by omega) (Vst 12 (o := 9) [I6 (IntKind.wrap .i64 (c1 + 1))] ho1 #[I6 k.kind, I6 k.peak, I6 k.early, I6 k.whole, I6 k.burst, I6 k.least, .slice (some ⟨rb, 0, none⟩) l.length c, .slice (some ⟨bb, 0, none⟩) l.length c2, I6 (IntKind.wrap .i64 (c0 + 1)), I6 (IntKind.wrap .i64 (c1 + 1)), I6 c2i, I6 c3] ?_)
  intro w7 hw2
  replace hS := Step.trans hS (Step.mono hw2.step (fun i hi => .inl hi))
  replace hpwi := PW.step hpwi hw2.step (fun x9 hx9 hF9 => by have h8 := hbl x9 hx9; have h6 := hbp x9 hx9; have h7 : x9.p = pp := hF9; omega)
  have ho2 := hw2.own
  refine Ve (Vn (Vrp (VC_ret (Vr1 (I6 1) ?_))))
  exact ⟨congrArg (Value.int .i64) hv.symm, dtake_done hX hI hk ho2 hpwi htk hS⟩

theorem dtake_2 (pp rb bb c c2 : Nat) (Y : Nat → Prop) (k : Con) (c0 c1 c2i c3 t clp : Int) (l : List Db) (w : World) (hX : DPX w pp Y k l rb bb c c2 c0 c1 c2i c3) (hI : RlsI (l.map Db.r)) (hk : rightC k = 0) (hv : polV (decide (k.kind = 7)) t clp (l.map Db.r) = 2) :
  CV Tryz.prog 46 #[Pt pp 0, I6 t, I6 clp] w (fun x w1 => x = I6 (polV (decide (k.kind = 7)) t clp (l.map Db.r)) ∧ DPl w1 pp Y k (rulesT t clp (l.map Db.r)) ∧ Step Y w w1) := by
 have hp : Own w pp #[I6 k.kind, I6 k.peak, I6 k.early, I6 k.whole, I6 k.burst, I6 k.least, .slice (some ⟨rb, 0, none⟩) l.length c, .slice (some ⟨bb, 0, none⟩) l.length c2, I6 c0, I6 c1, I6 c2i, I6 c3] 96 := hX.own
 have hRow := hX.row.sl
 have hBow := hX.brow.sl
 have hrl := hX.row.lt
 have hbbl := hX.brow.lt
 have hbl : ∀ x ∈ l, x.p < w.heap.size := fun x hx => (hX.bks x hx).1.lt
 have tyne : ∀ {a b : Nat} {T U : TypeId}, TyB w T a → TyB w U b → T ≠ U → a ≠ b := tyb_ne
 have hbp : ∀ x ∈ l, x.p ≠ pp := fun x hx => tyne (hX.bks x hx).1.tyB hX.own.tyB (by decide)
 have hbr : ∀ x ∈ l, x.p ≠ rb ∧ x.p ≠ bb := fun x hx => ⟨tyne (hX.bks x hx).1.tyB hX.row.ty (by decide), tyne (hX.bks x hx).1.tyB hX.brow.ty (by decide)⟩
 have hlen : l.length ≤ 2 := by have h9 := hI.1; rw [List.length_map] at h9; exact h9
 have hS : Step (dpF pp l) w w := Step.refl _ _
 have hSn : Step No w w := Step.refl _ _
 refine VCe Tryz.func46 (Vrp (Vs (Vr (Vp 3 ?_))))
 refine Vc 3 Tryz.call66 ((dverd_any pp rb bb c c2 l.length k c0 c1 c2i c3 t clp l _ rfl TDa5ab hp (hX.row.step hSn (fun h9 => h9)) (hX.brow.step hSn (fun h9 => h9)) (DbsW.step hX.bks hSn (fun _ _ => id))).mono (fun x w1 h9 => by rw [hv] at h9; exact h9)) ?_
 rintro _ w1 ⟨bs, g, rfl, hgb, hgrow, htk, hc1⟩
 replace hS := stepD_no hS hc1
 replace hp := hp.no hc1
 replace hRow := hRow.step hc1 (fun k hk1 hk2 hF => hF)
 replace hBow := hBow.step hc1 (fun k hk1 hk2 hF => hF)
 replace hrl := Nat.lt_of_lt_of_le hrl (hc1).size
 replace hbbl := Nat.lt_of_lt_of_le hbbl (hc1).size
 have hgl : g < w1.heap.size := by obtain ⟨_, _, h9, _⟩ := hgrow.openG; exact h9
 have hgb2 : g ≤ w1.heap.size := by omega
 have hpw : PW w1 l (fD t bs 0) := PW.zero (DbsW.step (DbsW.step hX.bks hSn (fun _ _ => id)) hc1 (fun _ _ => id))
 refine Ve (Vn (Vs (Vrp (VC_block (VC_loop (σ := Nat) (fun σs => [(0, Pt pp 0), (1, I6 t), (7, I6 2), (8, .slice (some ⟨g, 0, none⟩) l.length l.length), (18, I6 ((l.length : Nat) : Int)), (19, I6 ((σs : Nat) : Int))]) (fun σs w2 => (σs ≤ l.length) ∧ (Step (dpF pp l) w w2) ∧ (Own w2 pp #[I6 k.kind, I6 k.peak, I6 k.early, I6 k.whole, I6 k.burst, I6 k.least, .slice (some ⟨rb, 0, none⟩) l.length c, .slice (some ⟨bb, 0, none⟩) l.length c2, I6 c0, I6 c1, I6 c2i, I6 c3] 96) ∧ (Sl2 w2 rb (rb + 1) (some ⟨rb, 0, none⟩) (flat drl l)) ∧ (Sl2 w2 bb (bb + 1) (some ⟨bb, 0, none⟩) (flat dpt l)) ∧ (rb < w2.heap.size) ∧ (bb < w2.heap.size) ∧ (Rw w2 g 4 (some ⟨g, 0, none⟩) l.length l.length (bL bs)) ∧ (g < w2.heap.size) ∧ (g ≤ w2.heap.size) ∧ (PW w2 l (fD t bs σs))) (fun σs w2 => l.length - σs) 0 Su ?_ ?_)))))
 ·exact ⟨Nat.zero_le _, hS, hp, hRow, hBow, hrl, hbbl, hgrow, hgl, hgb2, hpw⟩
 rintro i w2 ⟨hi, hS, hp, hRow, hBow, hrl, hbbl, hgrow, hgl, hgb2, hpwi⟩
 try dsimp only at hi hS hp hRow hBow hrl hbbl hgrow hgl hgb2 hpwi ⊢
 refine Vrp (Vs (Vid (((i : Nat) : Int) < ((l.length : Nat) : Int)) (fun h1 => ?_) (fun h1 => ?_)))
 ·refine VC_skip (Vn (Vs (VC_block (Vs ?_))))
  obtain ⟨y9, hy9⟩ : ∃ x, l[i]? = some x := ⟨_, List.getElem?_eq_getElem (by omega)⟩
  have hm9 := List.mem_of_getElem? hy9
  have hyl := hbl y9 hm9
  have hyp := hbp y9 hm9
  have hyr := hbr y9 hm9
  refine Vr (Ve (Vn (Vs (Vr (Vp 2 (VL_index (d := 24) (b := g) (o := 0) (len := l.length) (sz := 1) (m := ((i : Nat) : Int)) (by kernel_rfl) (by kernel_rfl) i (by rfl) (by omega) i (by omega) (Vla 3 (t := 4) (a := ⟨g, i, none⟩) (v := Bo (bs.getD i false)) (Rw.ldB hgrow (by kernel_rfl) (by omega)) (Ve (Vn (Vif (bs.getD i false) (fun h2 => ?_) (fun h2 => ?_)))))))))))
  ·try simp only [BB] at h2
   refine Vr (Vl 3 hp (Vp 5 (VL_index (d := 31) (b := bb) (o := 0) (len := l.length) (sz := 1) (m := ((i : Nat) : Int)) (by kernel_rfl) (by kernel_rfl) i (by rfl) (by omega) i (by omega) (Vla 6 (t := 97) (a := ⟨bb, i, none⟩) (v := Pt y9.p 0) (Sl.flatOne (sz := 1) (Sl2.sl hBow) dpt_len hy9 0 (by rfl) (by decide) (by kernel_rfl) _ (by first | rfl | omega)) (Vp 8 ?_)))))
   refine Vc 8 Tryz.call67 (dbtake_any y9.p y9.lv t _ (hpwi.at hy9).2 (hpwi.at hy9).1) ?_
   rintro _ w3 ⟨rfl, hbo, hc2⟩
   replace hS := Step.trans hS (Step.mono hc2 (fun i hi => .inr ⟨y9, hm9, hi⟩))
   replace hp := hp.step hc2 (show ¬ pp = y9.p by omega)
   replace hRow := hRow.step hc2 (fun k hk1 hk2 (hF : k = y9.p) => by omega)
   replace hBow := hBow.step hc2 (fun k hk1 hk2 (hF : k = y9.p) => by omega)
   replace hrl := Nat.lt_of_lt_of_le hrl (hc2).size
   replace hbbl := Nat.lt_of_lt_of_le hbbl (hc2).size
   replace hgrow := hgrow.keepG hc2 (show ¬ g = y9.p by omega)
   replace hgl := Nat.lt_of_lt_of_le hgl (hc2).size
   replace hgb2 := Nat.le_trans hgb2 (hc2).size
   have hpw2 := PW.take hpwi hX.nodup hy9 (by assumption) hbo hc2
   refine Ve (VQ_block_normal (Vn (Vr (Vp 1 ?_))))
   have he1 : IntKind.wrap .i64 (((i : Nat) : Int) + 1) = ((i + 1 : Nat) : Int) := TDa5aa
   refine Vq 35 (I6 (IntKind.wrap .i64 (((i : Nat) : Int) + 1))) (I6 ((i + 1 : Nat) : Int)) (by rw [he1]) (Ve (VQ_again (i + 1) Su ?_ ?_))
   ·exact ⟨(by omega), hS, hp, hRow, hBow, hrl, hbbl, hgrow, hgl, hgb2, hpw2⟩
   ·(try dsimp only); omega
  ·try simp only [BB] at h2
   refine VC_skip (VQ_block_normal (Vn (Vr (Vp 1 ?_))))
   have he2 : IntKind.wrap .i64 (((i : Nat) : Int) + 1) = ((i + 1 : Nat) : Int) := TDa5aa
   refine Vq 35 (I6 (IntKind.wrap .i64 (((i : Nat) : Int) + 1))) (I6 ((i + 1 : Nat) : Int)) (by rw [he2]) (Ve (VQ_again (i + 1) Su ?_ ?_))
   ·exact ⟨(by omega), hS, hp, hRow, hBow, hrl, hbbl, hgrow, hgl, hgb2, (hpwi.skip (by simp_all))⟩
   ·(try dsimp only); omega
 ·refine VC_exit (VQ_then_exit (VQ_then_exit (VQ_block_hit (Vn (Vs ?_)))))
  have hin : i = l.length := by omega
  rw [hin] at hpwi
  refine Vd 9 [(4, Pt pp 8), (5, I6 c0)] [4, 5] ?_ ?_
  ·intro w4 hs1
   replace hp := hp.no hs1
   exact ⟨Dv (Pt pp 8) (Det1_index (d := 40) (b := pp) (o := 8) (len := 4) (sz := 1) (m := 0) (by kernel_rfl) (by kernel_rfl) 0 (by rfl) (by omega) 8 (by omega)), Dl hp, trivial⟩
  intro w4 hs1
  replace hS := stepD_no hS hs1
  replace hp := hp.no hs1
  replace hpwi := (fun h9 s9 => PW.step h9 s9 (fun _ _ => id)) hpwi hs1
  refine VL_index (d := 45) (b := pp) (o := 8) (len := 4) (sz := 1) (m := 0) (by kernel_rfl) (by kernel_rfl) 0 (by rfl) (by omega) 8 (by omega) (Vst 10 (o := 8) [I6 (IntKind.wrap .i64 (c0 + 1))] hp #[I6 k.kind, I6 k.peak, I6 k.early, I6 k.whole, I6 k.burst, I6 k.least, .slice (some ⟨rb, 0, none⟩) l.length c, .slice (some ⟨bb, 0, none⟩) l.length c2, I6 (IntKind.wrap .i64 (c0 + 1)), I6 c1, I6 c2i, I6 c3] ?_)
  intro w5 hw1
  replace hS := Step.trans hS (Step.mono hw1.step (fun i hi => .inl hi))
  replace hpwi := PW.step hpwi hw1.step (fun x9 hx9 hF9 => by have h8 := hbl x9 hx9; have h6 := hbp x9 hx9; have h7 : x9.p = pp := hF9; omega)
  have ho1 := hw1.own
  refine Ve (Vn (Vs (Vd 11 [(6, Pt pp 10), (7, I6 c2i)] [6, 7] ?_ ?_)))
  ·intro w6 hs2
   replace ho1 := ho1.no hs2
   exact ⟨Dv (Pt pp 10) (Det1_index (d := 52) (b := pp) (o := 8) (len := 4) (sz := 1) (m := 2) (by kernel_rfl) (by kernel_rfl) 2 (by rfl) (by omega) 10 (by omega)), Dl ho1, trivial⟩
  intro w6 hs2
  replace hS := stepD_no hS hs2
  replace hpwi := (fun h9 s9 => PW.step h9 s9 (fun _ _ => id)) hpwi hs2
  replace ho1 := ho1.no hs2
  refine VL_index (d := 57) (b := pp) (o := 8) (len := 4) (sz := 1) (m := 2) (by kernel_rfl) (by kernel_rfl) 2 (by rfl) (by omega) 10 (by omega) (Vst 12 (o := 10) [I6 (IntKind.wrap .i64 (c2i + 1))] ho1 #[I6 k.kind, I6 k.peak, I6 k.early, I6 k.whole, I6 k.burst, I6 k.least, .slice (some ⟨rb, 0, none⟩) l.length c, .slice (some ⟨bb, 0, none⟩) l.length c2, I6 (IntKind.wrap .i64 (c0 + 1)), I6 c1, I6 (IntKind.wrap .i64 (c2i + 1)), I6 c3] ?_)
  intro w7 hw2
  replace hS := Step.trans hS (Step.mono hw2.step (fun i hi => .inl hi))
  replace hpwi := PW.step hpwi hw2.step (fun x9 hx9 hF9 => by have h8 := hbl x9 hx9; have h6 := hbp x9 hx9; have h7 : x9.p = pp := hF9; omega)
  have ho2 := hw2.own
  refine Ve (Vn (Vrp (VC_ret (Vr1 (I6 2) ?_))))
  exact ⟨congrArg (Value.int .i64) hv.symm, dtake_done hX hI hk ho2 hpwi htk hS⟩

theorem dtake_3 (pp rb bb c c2 : Nat) (Y : Nat → Prop) (k : Con) (c0 c1 c2i c3 t clp : Int) (l : List Db) (w : World) (hX : DPX w pp Y k l rb bb c c2 c0 c1 c2i c3) (hI : RlsI (l.map Db.r)) (hk : rightC k = 0) (hv : polV (decide (k.kind = 7)) t clp (l.map Db.r) = 3) :
  CV Tryz.prog 46 #[Pt pp 0, I6 t, I6 clp] w (fun x w1 => x = I6 (polV (decide (k.kind = 7)) t clp (l.map Db.r)) ∧ DPl w1 pp Y k (rulesT t clp (l.map Db.r)) ∧ Step Y w w1) := by
 have hp : Own w pp #[I6 k.kind, I6 k.peak, I6 k.early, I6 k.whole, I6 k.burst, I6 k.least, .slice (some ⟨rb, 0, none⟩) l.length c, .slice (some ⟨bb, 0, none⟩) l.length c2, I6 c0, I6 c1, I6 c2i, I6 c3] 96 := hX.own
 have hRow := hX.row.sl
 have hBow := hX.brow.sl
 have hrl := hX.row.lt
 have hbbl := hX.brow.lt
 have hbl : ∀ x ∈ l, x.p < w.heap.size := fun x hx => (hX.bks x hx).1.lt
 have tyne : ∀ {a b : Nat} {T U : TypeId}, TyB w T a → TyB w U b → T ≠ U → a ≠ b := tyb_ne
 have hbp : ∀ x ∈ l, x.p ≠ pp := fun x hx => tyne (hX.bks x hx).1.tyB hX.own.tyB (by decide)
 have hbr : ∀ x ∈ l, x.p ≠ rb ∧ x.p ≠ bb := fun x hx => ⟨tyne (hX.bks x hx).1.tyB hX.row.ty (by decide), tyne (hX.bks x hx).1.tyB hX.brow.ty (by decide)⟩
 have hlen : l.length ≤ 2 := by have h9 := hI.1; rw [List.length_map] at h9; exact h9
 have hS : Step (dpF pp l) w w := Step.refl _ _
 have hSn : Step No w w := Step.refl _ _
 refine VCe Tryz.func46 (Vrp (Vs (Vr (Vp 3 ?_))))
 refine Vc 3 Tryz.call66 ((dverd_any pp rb bb c c2 l.length k c0 c1 c2i c3 t clp l _ rfl TDa5ab hp (hX.row.step hSn (fun h9 => h9)) (hX.brow.step hSn (fun h9 => h9)) (DbsW.step hX.bks hSn (fun _ _ => id))).mono (fun x w1 h9 => by rw [hv] at h9; exact h9)) ?_
 rintro _ w1 ⟨bs, g, rfl, hgb, hgrow, htk, hc1⟩
 replace hS := stepD_no hS hc1
 replace hp := hp.no hc1
 replace hRow := hRow.step hc1 (fun k hk1 hk2 hF => hF)
 replace hBow := hBow.step hc1 (fun k hk1 hk2 hF => hF)
 replace hrl := Nat.lt_of_lt_of_le hrl (hc1).size
 replace hbbl := Nat.lt_of_lt_of_le hbbl (hc1).size
 have hgl : g < w1.heap.size := by obtain ⟨_, _, h9, _⟩ := hgrow.openG; exact h9
 have hgb2 : g ≤ w1.heap.size := by omega
 have hpw : PW w1 l (fD t bs 0) := PW.zero (DbsW.step (DbsW.step hX.bks hSn (fun _ _ => id)) hc1 (fun _ _ => id))
 refine Ve (Vn (Vs (Vrp (VC_block (VC_loop (σ := Nat) (fun σs => [(0, Pt pp 0), (1, I6 t), (7, I6 3), (8, .slice (some ⟨g, 0, none⟩) l.length l.length), (18, I6 ((l.length : Nat) : Int)), (19, I6 ((σs : Nat) : Int))]) (fun σs w2 => (σs ≤ l.length) ∧ (Step (dpF pp l) w w2) ∧ (Own w2 pp #[I6 k.kind, I6 k.peak, I6 k.early, I6 k.whole, I6 k.burst, I6 k.least, .slice (some ⟨rb, 0, none⟩) l.length c, .slice (some ⟨bb, 0, none⟩) l.length c2, I6 c0, I6 c1, I6 c2i, I6 c3] 96) ∧ (Sl2 w2 rb (rb + 1) (some ⟨rb, 0, none⟩) (flat drl l)) ∧ (Sl2 w2 bb (bb + 1) (some ⟨bb, 0, none⟩) (flat dpt l)) ∧ (rb < w2.heap.size) ∧ (bb < w2.heap.size) ∧ (Rw w2 g 4 (some ⟨g, 0, none⟩) l.length l.length (bL bs)) ∧ (g < w2.heap.size) ∧ (g ≤ w2.heap.size) ∧ (PW w2 l (fD t bs σs))) (fun σs w2 => l.length - σs) 0 Su ?_ ?_)))))
 ·exact ⟨Nat.zero_le _, hS, hp, hRow, hBow, hrl, hbbl, hgrow, hgl, hgb2, hpw⟩
 rintro i w2 ⟨hi, hS, hp, hRow, hBow, hrl, hbbl, hgrow, hgl, hgb2, hpwi⟩
 try dsimp only at hi hS hp hRow hBow hrl hbbl hgrow hgl hgb2 hpwi ⊢
 refine Vrp (Vs (Vid (((i : Nat) : Int) < ((l.length : Nat) : Int)) (fun h1 => ?_) (fun h1 => ?_)))
 ·refine VC_skip (Vn (Vs (VC_block (Vs ?_))))
  obtain ⟨y9, hy9⟩ : ∃ x, l[i]? = some x := ⟨_, List.getElem?_eq_getElem (by omega)⟩
  have hm9 := List.mem_of_getElem? hy9
  have hyl := hbl y9 hm9
  have hyp := hbp y9 hm9
  have hyr := hbr y9 hm9
  refine Vr (Ve (Vn (Vs (Vr (Vp 2 (VL_index (d := 24) (b := g) (o := 0) (len := l.length) (sz := 1) (m := ((i : Nat) : Int)) (by kernel_rfl) (by kernel_rfl) i (by rfl) (by omega) i (by omega) (Vla 3 (t := 4) (a := ⟨g, i, none⟩) (v := Bo (bs.getD i false)) (Rw.ldB hgrow (by kernel_rfl) (by omega)) (Ve (Vn (Vif (bs.getD i false) (fun h2 => ?_) (fun h2 => ?_)))))))))))
  ·try simp only [BB] at h2
   refine Vr (Vl 3 hp (Vp 5 (VL_index (d := 31) (b := bb) (o := 0) (len := l.length) (sz := 1) (m := ((i : Nat) : Int)) (by kernel_rfl) (by kernel_rfl) i (by rfl) (by omega) i (by omega) (Vla 6 (t := 97) (a := ⟨bb, i, none⟩) (v := Pt y9.p 0) (Sl.flatOne (sz := 1) (Sl2.sl hBow) dpt_len hy9 0 (by rfl) (by decide) (by kernel_rfl) _ (by first | rfl | omega)) (Vp 8 ?_)))))
   refine Vc 8 Tryz.call67 (dbtake_any y9.p y9.lv t _ (hpwi.at hy9).2 (hpwi.at hy9).1) ?_
   rintro _ w3 ⟨rfl, hbo, hc2⟩
   replace hS := Step.trans hS (Step.mono hc2 (fun i hi => .inr ⟨y9, hm9, hi⟩))
   replace hp := hp.step hc2 (show ¬ pp = y9.p by omega)
   replace hRow := hRow.step hc2 (fun k hk1 hk2 (hF : k = y9.p) => by omega)
   replace hBow := hBow.step hc2 (fun k hk1 hk2 (hF : k = y9.p) => by omega)
   replace hrl := Nat.lt_of_lt_of_le hrl (hc2).size
   replace hbbl := Nat.lt_of_lt_of_le hbbl (hc2).size
   replace hgrow := hgrow.keepG hc2 (show ¬ g = y9.p by omega)
   replace hgl := Nat.lt_of_lt_of_le hgl (hc2).size
   replace hgb2 := Nat.le_trans hgb2 (hc2).size
   have hpw2 := PW.take hpwi hX.nodup hy9 (by assumption) hbo hc2
   refine Ve (VQ_block_normal (Vn (Vr (Vp 1 ?_))))
   have he1 : IntKind.wrap .i64 (((i : Nat) : Int) + 1) = ((i + 1 : Nat) : Int) := TDa5aa
   refine Vq 35 (I6 (IntKind.wrap .i64 (((i : Nat) : Int) + 1))) (I6 ((i + 1 : Nat) : Int)) (by rw [he1]) (Ve (VQ_again (i + 1) Su ?_ ?_))
   ·exact ⟨(by omega), hS, hp, hRow, hBow, hrl, hbbl, hgrow, hgl, hgb2, hpw2⟩
   ·(try dsimp only); omega
  ·try simp only [BB] at h2
   refine VC_skip (VQ_block_normal (Vn (Vr (Vp 1 ?_))))
   have he2 : IntKind.wrap .i64 (((i : Nat) : Int) + 1) = ((i + 1 : Nat) : Int) := TDa5aa
   refine Vq 35 (I6 (IntKind.wrap .i64 (((i : Nat) : Int) + 1))) (I6 ((i + 1 : Nat) : Int)) (by rw [he2]) (Ve (VQ_again (i + 1) Su ?_ ?_))
   ·exact ⟨(by omega), hS, hp, hRow, hBow, hrl, hbbl, hgrow, hgl, hgb2, (hpwi.skip (by simp_all))⟩
   ·(try dsimp only); omega
 ·refine VC_exit (VQ_then_exit (VQ_then_exit (VQ_block_hit (Vn (Vs ?_)))))
  have hin : i = l.length := by omega
  rw [hin] at hpwi
  refine Vd 9 [(4, Pt pp 8), (5, I6 c0)] [4, 5] ?_ ?_
  ·intro w4 hs1
   replace hp := hp.no hs1
   exact ⟨Dv (Pt pp 8) (Det1_index (d := 40) (b := pp) (o := 8) (len := 4) (sz := 1) (m := 0) (by kernel_rfl) (by kernel_rfl) 0 (by rfl) (by omega) 8 (by omega)), Dl hp, trivial⟩
  intro w4 hs1
  replace hS := stepD_no hS hs1
  replace hp := hp.no hs1
  replace hpwi := (fun h9 s9 => PW.step h9 s9 (fun _ _ => id)) hpwi hs1
  refine VL_index (d := 45) (b := pp) (o := 8) (len := 4) (sz := 1) (m := 0) (by kernel_rfl) (by kernel_rfl) 0 (by rfl) (by omega) 8 (by omega) (Vst 10 (o := 8) [I6 (IntKind.wrap .i64 (c0 + 1))] hp #[I6 k.kind, I6 k.peak, I6 k.early, I6 k.whole, I6 k.burst, I6 k.least, .slice (some ⟨rb, 0, none⟩) l.length c, .slice (some ⟨bb, 0, none⟩) l.length c2, I6 (IntKind.wrap .i64 (c0 + 1)), I6 c1, I6 c2i, I6 c3] ?_)
  intro w5 hw1
  replace hS := Step.trans hS (Step.mono hw1.step (fun i hi => .inl hi))
  replace hpwi := PW.step hpwi hw1.step (fun x9 hx9 hF9 => by have h8 := hbl x9 hx9; have h6 := hbp x9 hx9; have h7 : x9.p = pp := hF9; omega)
  have ho1 := hw1.own
  refine Ve (Vn (Vs (Vd 11 [(6, Pt pp 11), (7, I6 c3)] [6, 7] ?_ ?_)))
  ·intro w6 hs2
   replace ho1 := ho1.no hs2
   exact ⟨Dv (Pt pp 11) (Det1_index (d := 52) (b := pp) (o := 8) (len := 4) (sz := 1) (m := 3) (by kernel_rfl) (by kernel_rfl) 3 (by rfl) (by omega) 11 (by omega)), Dl ho1, trivial⟩
  intro w6 hs2
  replace hS := stepD_no hS hs2
  replace hpwi := (fun h9 s9 => PW.step h9 s9 (fun _ _ => id)) hpwi hs2
  replace ho1 := ho1.no hs2
  refine VL_index (d := 57) (b := pp) (o := 8) (len := 4) (sz := 1) (m := 3) (by kernel_rfl) (by kernel_rfl) 3 (by rfl) (by omega) 11 (by omega) (Vst 12 (o := 11) [I6 (IntKind.wrap .i64 (c3 + 1))] ho1 #[I6 k.kind, I6 k.peak, I6 k.early, I6 k.whole, I6 k.burst, I6 k.least, .slice (some ⟨rb, 0, none⟩) l.length c, .slice (some ⟨bb, 0, none⟩) l.length c2, I6 (IntKind.wrap .i64 (c0 + 1)), I6 c1, I6 c2i, I6 (IntKind.wrap .i64 (c3 + 1))] ?_)
  intro w7 hw2
  replace hS := Step.trans hS (Step.mono hw2.step (fun i hi => .inl hi))
  replace hpwi := PW.step hpwi hw2.step (fun x9 hx9 hF9 => by have h8 := hbl x9 hx9; have h6 := hbp x9 hx9; have h7 : x9.p = pp := hF9; omega)
  have ho2 := hw2.own
  refine Ve (Vn (Vrp (VC_ret (Vr1 (I6 3) ?_))))
  exact ⟨congrArg (Value.int .i64) hv.symm, dtake_done hX hI hk ho2 hpwi htk hS⟩

theorem dtake_any {w : World} {pp : Nat} {Y : Nat → Prop} {k : Con} {rs : List Rl} (t clp : Int) (h : DPl w pp Y k rs) : CV Tryz.prog 46 #[.pointer (some ⟨pp, 0, none⟩), .int .i64 t, .int .i64 clp] w fun x w1 => x = .int .i64 (polV (decide (k.kind = 7)) t clp rs) ∧ DPl w1 pp Y k (rulesT t clp rs) ∧ Step Y w w1 := by
  obtain ⟨hI, hk, l, rb, bb, c, c', c0, c1, c2, c3, rfl, hX⟩ := h
  rcases polV_cases (decide (k.kind = 7)) t clp (l.map Db.r) with hv | hv | hv
  · exact dtake_1 pp rb bb c c' Y k c0 c1 c2 c3 t clp l w hX hI hk hv
  · exact dtake_2 pp rb bb c c' Y k c0 c1 c2 c3 t clp l w hX hI hk hv
  · exact dtake_3 pp rb bb c c' Y k c0 c1 c2 c3 t clp l w hX hI hk hv
end Go.Proofs.YthchmlidobgkoaaGreat
end

section
/- Layer 20: new policers, by the document. -/
set_option linter.unusedVariables false
set_option linter.unusedSimpArgs false
set_option maxRecDepth 100000
set_option maxHeartbeats 4000000
namespace Go.Proofs.YthchmlidobgkoaaGreat
open Go.Vc Go.RowKit
theorem TDa6aa {P : Prop} (h : P := by intro i hi; first | exact hi.elim | exact .inl hi | ((try simp only at hi ⊢); omega)) : P := h
theorem TDa6ab {P : Prop} (h : P := by simp only [flat_append, flat_one, List.append_assoc, List.nil_append, List.append_nil, show flat dpp [] = [] from rfl]) : P := h
theorem TDa6ac {P : Prop} (h : P := by simp only [flat_append, flat_one, List.append_assoc, List.nil_append, List.append_nil, show flat r4 [] = [] from rfl]) : P := h
theorem TDa6ad {P : Prop} (h : P := by first | exact Nat.le_refl _ | omega) : P := h
theorem TDa6ae {P : Prop} (h : P := by first | rfl | simp [flat]) : P := h
theorem TDa6af {P : Prop} (h : P := by simp only [maxLen]; omega) : P := h

def dpp (p : Nat) : List Value := [.pointer (some ⟨p, 0, none⟩)]
theorem dpp_len (p : Nat) : (dpp p).length = 1 := rfl
theorem dpp_one (p : Nat) : ∀ u ∈ dpp p, oneC u = true := by
  intro u hu
  simp only [dpp, List.mem_cons, List.not_mem_nil, or_false] at hu
  subst hu; rfl
theorem dpl_mk {w w1 : World} {p base base2 c c' : Nat} {A B : Option Addr} {k : Con} {l : List Db} {rs : List Rl} (hk : rightC k = 0) (hl : rs = l.map Db.r) (hI : RlsI rs) (h0 : 0 < l.length) (ho : Own w1 p #[.int .i64 k.kind, .int .i64 k.peak, .int .i64 k.early, .int .i64 k.whole, .int .i64 k.burst, .int .i64 k.least, .slice A l.length c, .slice B l.length c', .int .i64 0, .int .i64 0, .int .i64 0, .int .i64 0] 96)
    (hr : RwS w1 4 base 100 A l.length c (flat drl l)) (hb : RwS w1 1 base2 97 B l.length c' (flat dpt l)) (hw : DbsW w1 l) (hnd : (l.map Db.p).Nodup) (hp : w.heap.size ≤ p) (hbase : w.heap.size ≤ base) (hbase2 : w.heap.size ≤ base2) (hq : ∀ x ∈ l, w.heap.size ≤ x.p) : ∃ Y : Nat → Prop, (∀ k, Y k → w.heap.size ≤ k) ∧ DPl w1 p Y k rs := by
  obtain ⟨rb, rfl, h1, hrow⟩ := RowE.of_rw hr h0
  obtain ⟨bb, rfl, h2, hrow2⟩ := RowE.of_rw hb h0
  refine ⟨fun k => k = p ∨ k = rb ∨ k = bb ∨ ∃ x ∈ l, k = x.p, ?_, hI, hk, l, rb, bb, c, c', 0, 0, 0, 0, hl, ⟨ho, hrow, hrow2, hw, hnd, .inl rfl, .inr (.inl rfl), .inr (.inr (.inl rfl)), fun x hx => .inr (.inr (.inr ⟨x, hx, rfl⟩)), ?_, h0⟩⟩
  · rintro k (rfl | rfl | rfl | ⟨x, hx, rfl⟩)
    · exact hp
    · omega
    · omega
    · exact hq x hx
  · rintro k (rfl | rfl | rfl | ⟨x, hx, rfl⟩)
    · exact .inl ho.tyB
    · exact .inr (.inl hrow.ty)
    · exact .inr (.inr (.inl hrow2.ty))
    · exact .inr (.inr (.inr (hw x hx).1.tyB))
theorem drules_v1_any (c : Con) (hr : rightC c = 0) (hk : c.kind = 2) (w : World) :
  CV Tryz.prog 61 #[.agg #[I6 c.kind, I6 c.peak, I6 c.early, I6 c.whole, I6 c.burst, I6 c.least]] w (fun x w1 => ∃ A n cc, x = .slice A n cc ∧ (rulesC c).length = n ∧ RwS w1 4 w.heap.size 100 A n cc (flat r4 (rulesC c)) ∧ Step No w w1) := by
 have hS : Step No w w := Step.refl _ _
 refine VCe Tryz.func61 (Vs (Vr ?_))
 refine Vx 0 32 #[I6 c.kind, I6 c.peak, I6 c.early, I6 c.whole, I6 c.burst, I6 c.least] ?_
 intro b1 w1 hn1
 replace hS := Step.trans hS (hn1.step No)
 have ho1 := hn1.own
 have hzhn1 := hn1.size
 have hqhn1 := hn1.eqb
 refine Ve (Vn (Vs (Vs (Vr (Vl 0 ho1 ?_)))))
 refine Vc 1 Tryz.call31 ((dright_any c _).mono (fun x w1 h9 => ⟨h9.1.trans (by rw [hr]), h9.2⟩ : ∀ x w1, _ → x = I6 0 ∧ Step No _ w1)) ?_
 rintro _ w2 ⟨rfl, hc1⟩
 replace hS := Step.trans hS hc1
 replace ho1 := ho1.no hc1
 refine Ve (Vn (Vf (VC_skip (Vn (Vs (Vr (Vl 1 ho1 (Vl 3 ho1 (Vp 5 ?_)))))))))
 have hzl2 := ho1.lt
 refine VL_bs (d := 12) (e := 100) (c := #[I6 c.peak, I6 c.early, Bo false, Bo false]) (len := 1) (by kernel_rfl) (by kernel_rfl) ?_
 intro b2 w3 hn2
 replace hS := Step.trans hS (hn2.step No)
 replace ho1 := ho1.no (hn2.step No)
 have ho2 := hn2.own
 have hzhn2 := hn2.size
 have hqhn2 := hn2.eqb
 refine Ve (Vn (Vs (Vs (Vr (Vl 1 ho1 (Ve (Vn (VC_block (Vrp (Vit (b := c.kind == 2) (by rw [hk]; rfl) (Vr (Vl 2 ho1 (Vl 4 ho1 (Vl 6 ho1 (Vp 8 (Vq 24 (I6 (IntKind.wrap .i64 (c.burst + c.early))) (I6 (c.burst + c.early)) (by rw [bur_early hr (by omega)]) (Vp 9 ?_)))))))))))))))))
 refine VL_bs (d := 26) (e := 100) (c := #[I6 c.whole, I6 (c.burst + c.early), Bo false, Bo false]) (len := 1) (by kernel_rfl) (by kernel_rfl) ?_
 intro b3 w4 hn3
 replace hS := Step.trans hS (hn3.step No)
 replace ho2 := ho2.no (hn3.step No)
 have ho3 := hn3.own
 have hzhn3 := hn3.size
 have hqhn3 := hn3.eqb
 have hbase1 := Nat.le_of_lt ho2.lt
 have hrowhbase1 := RwS.cast (ys := flat r4 [(rlNew c.peak c.early false false)]) (RwS.of_new (n := 1) (sz := 4) (base := b2) ho2 (Nat.le_refl _) (by simp [maxLen]) (by rfl)) rfl (by rfl)
 refine VL_appendZ (d := 27) (e := 100) (A := (some ⟨b2, 0, none⟩)) (m := 1) (c := 1) (A2 := (some ⟨b3, 0, none⟩)) (m2 := 1) (c2 := 1) (sz := 4) (bytes := 24) (by kernel_rfl) (by kernel_rfl) (by kernel_rfl) b2 w4.heap.size (flat r4 ([(rlNew c.peak c.early false false)])) (flat r4 [(rlNew c.whole (c.burst + c.early) false false)]) hrowhbase1 (by rw [flat_one, r4_len]) (Sl.mono (Sl.cast (Own.sl ho3 ho3.lt) TDa6ae) TDa6ad) (flat_one' r4_one _) 2 (by omega) TDa6af (by omega) (by omega) ?_
 intro A1 c1 w5 hr1 hg1
 replace hr1 : RwS w5 4 b2 100 A1 2 c1 (flat r4 (([(rlNew c.peak c.early false false)]) ++ ([(rlNew c.whole (c.burst + c.early) false false)]))) := RwS.cast hr1 rfl TDa6ac
 replace hg1 := Step.mono (G := fun k => k = b2) hg1 (fun i hi => by obtain ⟨a9, ha9, hi9⟩ := hi; cases ha9; exact hi9.symm)
 replace hS := Step.transNew hS hg1 (fun i hi hG => by (try simp only at hG); omega)
 refine Ve (VQ_block_normal (Vn (Vrp (VC_ret (Vr1 (.slice A1 2 c1) ?_)))))
 have hR := rules_v1 hr (by assumption)
 rw [← hR]
 exact ⟨A1, _, _, rfl, rfl, RwS.low (RwS.cast hr1 rfl (by rfl)) (by omega), hS⟩

theorem drules_v2_any (c : Con) (hr : rightC c = 0) (hk : c.kind = 3) (w : World) :
  CV Tryz.prog 61 #[.agg #[I6 c.kind, I6 c.peak, I6 c.early, I6 c.whole, I6 c.burst, I6 c.least]] w (fun x w1 => ∃ A n cc, x = .slice A n cc ∧ (rulesC c).length = n ∧ RwS w1 4 w.heap.size 100 A n cc (flat r4 (rulesC c)) ∧ Step No w w1) := by
 have hS : Step No w w := Step.refl _ _
 refine VCe Tryz.func61 (Vs (Vr ?_))
 refine Vx 0 32 #[I6 c.kind, I6 c.peak, I6 c.early, I6 c.whole, I6 c.burst, I6 c.least] ?_
 intro b1 w1 hn1
 replace hS := Step.trans hS (hn1.step No)
 have ho1 := hn1.own
 have hzhn1 := hn1.size
 have hqhn1 := hn1.eqb
 refine Ve (Vn (Vs (Vs (Vr (Vl 0 ho1 ?_)))))
 refine Vc 1 Tryz.call31 ((dright_any c _).mono (fun x w1 h9 => ⟨h9.1.trans (by rw [hr]), h9.2⟩ : ∀ x w1, _ → x = I6 0 ∧ Step No _ w1)) ?_
 rintro _ w2 ⟨rfl, hc1⟩
 replace hS := Step.trans hS hc1
 replace ho1 := ho1.no hc1
 refine Ve (Vn (Vf (VC_skip (Vn (Vs (Vr (Vl 1 ho1 (Vl 3 ho1 (Vp 5 ?_)))))))))
 have hzl2 := ho1.lt
 refine VL_bs (d := 12) (e := 100) (c := #[I6 c.peak, I6 c.early, Bo false, Bo false]) (len := 1) (by kernel_rfl) (by kernel_rfl) ?_
 intro b2 w3 hn2
 replace hS := Step.trans hS (hn2.step No)
 replace ho1 := ho1.no (hn2.step No)
 have ho2 := hn2.own
 have hzhn2 := hn2.size
 have hqhn2 := hn2.eqb
 refine Ve (Vn (Vs (Vs (Vr (Vl 1 ho1 (Ve (Vn (VC_block (Vrp (Viz (b := c.kind == 2) (by rw [hk]; rfl) (Vrp (Vit (b := c.kind == 3) (by rw [hk]; rfl) (Vr (Vl 2 ho1 (Vl 4 ho1 (Vl 6 ho1 (Vp 8 (Vq 37 (I6 (IntKind.wrap .i64 (c.burst + c.early))) (I6 (c.burst + c.early)) (by rw [bur_early hr (by omega)]) ?_))))))))))))))))))
 refine Vp 9 ?_
 refine VL_bs (d := 39) (e := 100) (c := #[I6 c.whole, I6 (c.burst + c.early), Bo true, Bo false]) (len := 1) (by kernel_rfl) (by kernel_rfl) ?_
 intro b3 w4 hn3
 replace hS := Step.trans hS (hn3.step No)
 replace ho2 := ho2.no (hn3.step No)
 have ho3 := hn3.own
 have hzhn3 := hn3.size
 have hqhn3 := hn3.eqb
 have hbase1 := Nat.le_of_lt ho2.lt
 have hrowhbase1 := RwS.cast (ys := flat r4 [(rlNew c.peak c.early false false)]) (RwS.of_new (n := 1) (sz := 4) (base := b2) ho2 (Nat.le_refl _) (by simp [maxLen]) (by rfl)) rfl (by rfl)
 refine VL_appendZ (d := 40) (e := 100) (A := (some ⟨b2, 0, none⟩)) (m := 1) (c := 1) (A2 := (some ⟨b3, 0, none⟩)) (m2 := 1) (c2 := 1) (sz := 4) (bytes := 24) (by kernel_rfl) (by kernel_rfl) (by kernel_rfl) b2 w4.heap.size (flat r4 ([(rlNew c.peak c.early false false)])) (flat r4 [(rlNew c.whole (c.burst + c.early) true false)]) hrowhbase1 (by rw [flat_one, r4_len]) (Sl.mono (Sl.cast (Own.sl ho3 ho3.lt) TDa6ae) TDa6ad) (flat_one' r4_one _) 2 (by omega) TDa6af (by omega) (by omega) ?_
 intro A1 c1 w5 hr1 hg1
 replace hr1 : RwS w5 4 b2 100 A1 2 c1 (flat r4 (([(rlNew c.peak c.early false false)]) ++ ([(rlNew c.whole (c.burst + c.early) true false)]))) := RwS.cast hr1 rfl TDa6ac
 replace hg1 := Step.mono (G := fun k => k = b2) hg1 (fun i hi => by obtain ⟨a9, ha9, hi9⟩ := hi; cases ha9; exact hi9.symm)
 replace hS := Step.transNew hS hg1 (fun i hi hG => by (try simp only at hG); omega)
 refine Ve (VQ_block_normal (Vn (Vrp (VC_ret (Vr1 (.slice A1 2 c1) ?_)))))
 have hR := rules_v2 hr (by assumption)
 rw [← hR]
 exact ⟨A1, _, _, rfl, rfl, RwS.low (RwS.cast hr1 rfl (by rfl)) (by omega), hS⟩

theorem drules_v3_any (c : Con) (hr : rightC c = 0) (hk : c.kind = 4) (w : World) :
  CV Tryz.prog 61 #[.agg #[I6 c.kind, I6 c.peak, I6 c.early, I6 c.whole, I6 c.burst, I6 c.least]] w (fun x w1 => ∃ A n cc, x = .slice A n cc ∧ (rulesC c).length = n ∧ RwS w1 4 w.heap.size 100 A n cc (flat r4 (rulesC c)) ∧ Step No w w1) := by
 have hS : Step No w w := Step.refl _ _
 refine VCe Tryz.func61 (Vs (Vr ?_))
 refine Vx 0 32 #[I6 c.kind, I6 c.peak, I6 c.early, I6 c.whole, I6 c.burst, I6 c.least] ?_
 intro b1 w1 hn1
 replace hS := Step.trans hS (hn1.step No)
 have ho1 := hn1.own
 have hzhn1 := hn1.size
 have hqhn1 := hn1.eqb
 refine Ve (Vn (Vs (Vs (Vr (Vl 0 ho1 ?_)))))
 refine Vc 1 Tryz.call31 ((dright_any c _).mono (fun x w1 h9 => ⟨h9.1.trans (by rw [hr]), h9.2⟩ : ∀ x w1, _ → x = I6 0 ∧ Step No _ w1)) ?_
 rintro _ w2 ⟨rfl, hc1⟩
 replace hS := Step.trans hS hc1
 replace ho1 := ho1.no hc1
 refine Ve (Vn (Vf (VC_skip (Vn (Vs (Vr (Vl 1 ho1 (Vl 3 ho1 (Vp 5 ?_)))))))))
 have hzl2 := ho1.lt
 refine VL_bs (d := 12) (e := 100) (c := #[I6 c.peak, I6 c.early, Bo false, Bo false]) (len := 1) (by kernel_rfl) (by kernel_rfl) ?_
 intro b2 w3 hn2
 replace hS := Step.trans hS (hn2.step No)
 replace ho1 := ho1.no (hn2.step No)
 have ho2 := hn2.own
 have hzhn2 := hn2.size
 have hqhn2 := hn2.eqb
 refine Ve (Vn (Vs (Vs (Vr (Vl 1 ho1 (Ve (Vn (VC_block (Vrp (Viz (b := c.kind == 2) (by rw [hk]; rfl) (Vrp (Viz (b := c.kind == 3) (by rw [hk]; rfl) (Vrp (Vit (b := c.kind == 4) (by rw [hk]; rfl) (Vr ?_)))))))))))))))
 refine Vl 2 ho1 (Vl 4 ho1 (Vl 6 ho1 (Vp 8 (Vq 50 (I6 (IntKind.wrap .i64 (c.burst + c.early))) (I6 (c.burst + c.early)) (by rw [bur_early hr (by omega)]) (Vp 9 ?_)))))
 refine VL_bs (d := 52) (e := 100) (c := #[I6 c.whole, I6 (c.burst + c.early), Bo true, Bo true]) (len := 1) (by kernel_rfl) (by kernel_rfl) ?_
 intro b3 w4 hn3
 replace hS := Step.trans hS (hn3.step No)
 replace ho2 := ho2.no (hn3.step No)
 have ho3 := hn3.own
 have hzhn3 := hn3.size
 have hqhn3 := hn3.eqb
 have hbase1 := Nat.le_of_lt ho2.lt
 have hrowhbase1 := RwS.cast (ys := flat r4 [(rlNew c.peak c.early false false)]) (RwS.of_new (n := 1) (sz := 4) (base := b2) ho2 (Nat.le_refl _) (by simp [maxLen]) (by rfl)) rfl (by rfl)
 refine VL_appendZ (d := 53) (e := 100) (A := (some ⟨b2, 0, none⟩)) (m := 1) (c := 1) (A2 := (some ⟨b3, 0, none⟩)) (m2 := 1) (c2 := 1) (sz := 4) (bytes := 24) (by kernel_rfl) (by kernel_rfl) (by kernel_rfl) b2 w4.heap.size (flat r4 ([(rlNew c.peak c.early false false)])) (flat r4 [(rlNew c.whole (c.burst + c.early) true true)]) hrowhbase1 (by rw [flat_one, r4_len]) (Sl.mono (Sl.cast (Own.sl ho3 ho3.lt) TDa6ae) TDa6ad) (flat_one' r4_one _) 2 (by omega) TDa6af (by omega) (by omega) ?_
 intro A1 c1 w5 hr1 hg1
 replace hr1 : RwS w5 4 b2 100 A1 2 c1 (flat r4 (([(rlNew c.peak c.early false false)]) ++ ([(rlNew c.whole (c.burst + c.early) true true)]))) := RwS.cast hr1 rfl TDa6ac
 replace hg1 := Step.mono (G := fun k => k = b2) hg1 (fun i hi => by obtain ⟨a9, ha9, hi9⟩ := hi; cases ha9; exact hi9.symm)
 replace hS := Step.transNew hS hg1 (fun i hi hG => by (try simp only at hG); omega)
 refine Ve (VQ_block_normal (Vn (Vrp (VC_ret (Vr1 (.slice A1 2 c1) ?_)))))
 have hR := rules_v3 hr (by assumption)
 rw [← hR]
 exact ⟨A1, _, _, rfl, rfl, RwS.low (RwS.cast hr1 rfl (by rfl)) (by omega), hS⟩

theorem drules_v0_any (c : Con) (hr : rightC c = 0) (h2 : ¬ c.kind = 2) (h3 : ¬ c.kind = 3) (h4 : ¬ c.kind = 4) (w : World) :
  CV Tryz.prog 61 #[.agg #[I6 c.kind, I6 c.peak, I6 c.early, I6 c.whole, I6 c.burst, I6 c.least]] w (fun x w1 => ∃ A n cc, x = .slice A n cc ∧ (rulesC c).length = n ∧ RwS w1 4 w.heap.size 100 A n cc (flat r4 (rulesC c)) ∧ Step No w w1) := by
 have hS : Step No w w := Step.refl _ _
 refine VCe Tryz.func61 (Vs (Vr ?_))
 refine Vx 0 32 #[I6 c.kind, I6 c.peak, I6 c.early, I6 c.whole, I6 c.burst, I6 c.least] ?_
 intro b1 w1 hn1
 replace hS := Step.trans hS (hn1.step No)
 have ho1 := hn1.own
 have hzhn1 := hn1.size
 have hqhn1 := hn1.eqb
 refine Ve (Vn (Vs (Vs (Vr (Vl 0 ho1 ?_)))))
 refine Vc 1 Tryz.call31 ((dright_any c _).mono (fun x w1 h9 => ⟨h9.1.trans (by rw [hr]), h9.2⟩ : ∀ x w1, _ → x = I6 0 ∧ Step No _ w1)) ?_
 rintro _ w2 ⟨rfl, hc1⟩
 replace hS := Step.trans hS hc1
 replace ho1 := ho1.no hc1
 refine Ve (Vn (Vf (VC_skip (Vn (Vs (Vr (Vl 1 ho1 (Vl 3 ho1 (Vp 5 ?_)))))))))
 have hzl2 := ho1.lt
 refine VL_bs (d := 12) (e := 100) (c := #[I6 c.peak, I6 c.early, Bo false, Bo false]) (len := 1) (by kernel_rfl) (by kernel_rfl) ?_
 intro b2 w3 hn2
 replace hS := Step.trans hS (hn2.step No)
 replace ho1 := ho1.no (hn2.step No)
 have ho2 := hn2.own
 have hzhn2 := hn2.size
 have hqhn2 := hn2.eqb
 refine Ve (Vn (Vs (Vs (Vr (Vl 1 ho1 (Ve (Vn (VC_block (Vrp (Viz (b := c.kind == 2) (beq_eq_false_iff_ne.2 (by assumption)) (Vrp (Viz (b := c.kind == 3) (beq_eq_false_iff_ne.2 (by assumption)) (Vrp (Viz (b := c.kind == 4) (beq_eq_false_iff_ne.2 (by assumption)) (VC_skip ?_)))))))))))))))
 refine VQ_block_normal (Vn (Vrp (VC_ret (Vr1 (.slice (some ⟨b2, 0, none⟩) 1 1) ?_))))
 have hR := rules_one hr (by assumption) (by assumption) (by assumption)
 rw [← hR]
 exact ⟨_, _, _, rfl, rfl, RwS.cast (RwS.of_new (n := 1) (sz := 4) (base := w.heap.size) ho2 (by omega) (by simp [maxLen]) (by rfl)) rfl (by rfl), hS⟩

theorem drules_any (c : Con) (hr : rightC c = 0) (w : World) : CV Tryz.prog 61 #[.agg #[.int .i64 c.kind, .int .i64 c.peak, .int .i64 c.early, .int .i64 c.whole, .int .i64 c.burst, .int .i64 c.least]] w (fun x w1 => ∃ A n cc, x = .slice A n cc ∧ (rulesC c).length = n ∧ RwS w1 4 w.heap.size 100 A n cc (flat r4 (rulesC c)) ∧ Step No w w1) := by
  by_cases h2 : c.kind = 2
  · exact drules_v1_any c hr h2 w
  · by_cases h3 : c.kind = 3
    · exact drules_v2_any c hr h3 w
    · by_cases h4 : c.kind = 4
      · exact drules_v3_any c hr h4 w
      · exact drules_v0_any c hr h2 h3 h4 w
theorem drules_l1 {c : Con} (hr : rightC c = 0) (s1 e1 : Int) (z1 t1 : Bool) (hR : rulesC c = [(rlNew s1 e1 z1 t1)]) (w : World) : CV Tryz.prog 61 #[.agg #[.int .i64 c.kind, .int .i64 c.peak, .int .i64 c.early, .int .i64 c.whole, .int .i64 c.burst, .int .i64 c.least]] w fun x w1 => ∃ A cc, x = .slice A 1 cc ∧ RwS w1 4 w.heap.size 100 A 1 cc (flat r4 [(rlNew s1 e1 z1 t1)]) ∧ Step No w w1 := by
  refine (drules_any c hr w).mono ?_
  rintro x w1 ⟨A, n, cc, rfl, hn, hrw, hs⟩
  rw [hR] at hn hrw
  subst hn
  exact ⟨A, cc, rfl, hrw, hs⟩
theorem dpnew_1 (c : Con) (hr : rightC c = 0) (s1 e1 : Int) (z1 t1 : Bool) (hR : rulesC c = [(rlNew s1 e1 z1 t1)]) (w : World) :
  CV Tryz.prog 39 #[.agg #[I6 c.kind, I6 c.peak, I6 c.early, I6 c.whole, I6 c.burst, I6 c.least]] w (fun x w1 => ∃ pp Y, x = Pt pp 0 ∧ (∀ k, Y k → w.heap.size ≤ k) ∧ DPl w1 pp Y c (rulesC c) ∧ Step No w w1) := by
 have hS : Step No w w := Step.refl _ _
 refine VCe Tryz.func39 (Vs (Vr ?_))
 refine Vx 0 32 #[I6 c.kind, I6 c.peak, I6 c.early, I6 c.whole, I6 c.burst, I6 c.least] ?_
 intro b1 w1 hn1
 replace hS := Step.trans hS (hn1.step No)
 have ho1 := hn1.own
 have hzhn1 := hn1.size
 have hqhn1 := hn1.eqb
 refine Ve (Vn (Vs (Vs (Vr (Vl 0 ho1 ?_)))))
 refine Vc 1 Tryz.call31 ((dright_any c _).mono (fun x w1 h9 => ⟨h9.1.trans (by rw [hr]), h9.2⟩ : ∀ x w1, _ → x = I6 0 ∧ Step No _ w1)) ?_
 rintro _ w2 ⟨rfl, hc1⟩
 replace hS := Step.trans hS hc1
 replace ho1 := ho1.no hc1
 refine Ve (Vn (Vf (VC_skip (Vn (Vs ?_)))))
 have hs1 := drew_step w2
 have hs1z : w2.heap.size = w2.drew.heap.size := rfl
 refine Tx 3 (fun k => w2.heap.size ≤ k) [2] [0, 1, 2] ?_
 have hzl2 := ho1.lt
 generalize w2.drew = w3 at hs1 hs1z ⊢
 replace hS := Step.trans hS hs1
 replace ho1 := ho1.no hs1
 refine Tl (fun w4 hr1 => ho1.step hr1 (by (try simp only); omega)) (Tl (fun w5 hr2 => ho1.step hr2 (by (try simp only); omega)) (Th ?_))
 intro w6 hs2
 replace hS := Step.trans hS hs2
 replace ho1 := ho1.no hs2
 have hzl3 := ho1.lt
 refine Tc Tryz.call61 (drules_l1 hr s1 e1 z1 t1 hR _) ?_ ?_
 ·rintro _ w7 ⟨AR, ccR, rfl, hrR, hc2⟩
  exact Step.mono hc2 TDa6aa
 rintro _ w7 ⟨AR, ccR, rfl, hrR, hc2⟩
 replace hS := Step.trans hS hc2
 replace ho1 := ho1.no hc2
 obtain ⟨lo9, hlo9E⟩ : ∃ x, x = w6.heap.size := ⟨_, rfl⟩
 rw [← hlo9E] at hrR
 obtain ⟨hi9, hhi9E⟩ : ∃ x, x = w7.heap.size := ⟨_, rfl⟩
 have hubR := RwS.ub hrR
 rw [← hhi9E] at hubR
 have hhi9 : hi9 ≤ w7.heap.size := by omega
 refine VT_end ?_
 intro w8 hs3
 replace hS := Step.trans hS hs3
 replace ho1 := ho1.no hs3
 replace hrR := hrR.no hs3
 replace hhi9 := Nat.le_trans hhi9 (hs3).size
 refine Vp 4 ?_
 have hzl4 := ho1.lt
 have hzk2 := hhi9
 refine Vx 4 96 #[I6 c.kind, I6 c.peak, I6 c.early, I6 c.whole, I6 c.burst, I6 c.least, .slice AR 1 ccR, .slice none 0 0, I6 0, I6 0, I6 0, I6 0] ?_
 intro b2 w9 hn2
 replace hS := Step.trans hS (hn2.step No)
 replace ho1 := ho1.no (hn2.step No)
 replace hrR := hrR.no (hn2.step No)
 have ho2 := hn2.own
 have hzhn2 := hn2.size
 have hqhn2 := hn2.eqb
 refine Ve (Vn (Vs (Vs (Vr (Vl 3 ho2 (Ve (Vn (VC_block (VC_rounds (VCL_round (Vs ?_)))))))))))
 obtain ⟨g1, cur1, rfl, hgbg1, hglg1, -⟩ := RwS.open hrR (by omega)
 have hug9 : g1 < hi9 := hubR _ ⟨_, rfl, rfl⟩
 refine Vr (Ve (Vn (Vs (Vt (VC_skip (Vn (Vs (VC_block (Vs (Vr (Ve (Vn ?_))))))))))))
 have hs4 := drew_step w9
 have hs4z : w9.heap.size = w9.drew.heap.size := rfl
 refine Tx 24 (fun k => w9.heap.size ≤ k) [21, 22, 23] [0, 1, 2, 3, 4, 5, 6, 7, 8, 9, 10, 11, 12, 13, 14, 15, 16, 17, 18, 19, 20, 21, 22, 23] ?_
 have hzo3 := hglg1
 generalize w9.drew = w10 at hs4 hs4z ⊢
 replace hS := Step.trans hS hs4
 replace ho1 := ho1.no hs4
 replace hrR := hrR.no hs4
 replace ho2 := ho2.no hs4
 replace hglg1 := Nat.lt_of_lt_of_le hglg1 (hs4).size
 refine Tp 4 (Tl (fun w11 hr3 => ho2.step hr3 (by (try simp only); omega)) (Tp 3 (Tl (fun w12 hr4 => ho2.step hr4 (by (try simp only); omega)) (Tp 1 (VT_index (d := 31) (b := g1) (o := 0) (len := 1) (sz := 4) (mm := 0) (by kernel_rfl) (by kernel_rfl) 0 (by rfl) (by omega) 0 (by omega) (Tp 1 (VT_load (d := 33) (t := 3) (a := ⟨g1, 0, none⟩) (v := I6 s1) (by kernel_rfl) (by kernel_rfl) ?_ ?_)))))))
 ·intro w13 hr5
  replace hrR := hrR.keepG hr5 (by (try simp only); omega)
  exact (Sl.flatOne (sz := 4) (RwS.sl2 hrR).sl r4_len (show ([(rlNew s1 e1 z1 t1)] : List Rl)[0]? = some (rlNew s1 e1 z1 t1) from rfl) 0 (by rfl) (by decide) (by kernel_rfl) _ (by rfl))
 refine Tp 3 (Tl (fun w14 hr6 => ho2.step hr6 (by (try simp only); omega)) (Tp 1 (VT_index (d := 39) (b := g1) (o := 0) (len := 1) (sz := 4) (mm := 0) (by kernel_rfl) (by kernel_rfl) 0 (by rfl) (by omega) 0 (by omega) (Tp 1 (VT_load (d := 41) (t := 3) (a := ⟨g1, 1, none⟩) (v := I6 e1) (by kernel_rfl) (by kernel_rfl) ?_ ?_)))))
 ·intro w15 hr7
  replace hrR := hrR.keepG hr7 (by (try simp only); omega)
  exact (Sl.flatOne (sz := 4) (RwS.sl2 hrR).sl r4_len (show ([(rlNew s1 e1 z1 t1)] : List Rl)[0]? = some (rlNew s1 e1 z1 t1) from rfl) 1 (by rfl) (by decide) (by kernel_rfl) _ (by rfl))
 refine Th ?_
 intro w16 hs5
 have hzhs5 := hs5.size
 replace hS := Step.trans hS hs5
 replace ho1 := ho1.no hs5
 replace hrR := hrR.no hs5
 replace ho2 := ho2.no hs5
 replace hglg1 := Nat.lt_of_lt_of_le hglg1 (hs5).size
 refine Tc Tryz.call62 (dbnew_any s1 e1 _) ?_ ?_
 ·rintro _ w17 ⟨bk1, rfl, hgebk1, hbk1, hc3⟩
  exact Step.mono hc3 TDa6aa
 rintro _ w17 ⟨bk1, rfl, hgebk1, hbk1, hc3⟩
 replace hS := Step.trans hS hc3
 replace ho1 := ho1.no hc3
 replace hrR := hrR.no hc3
 replace ho2 := ho2.no hc3
 replace hglg1 := Nat.lt_of_lt_of_le hglg1 (hc3).size
 refine Th ?_
 intro w18 hs6
 replace hS := Step.trans hS hs6
 replace ho1 := ho1.no hs6
 replace hrR := hrR.no hs6
 replace ho2 := ho2.no hs6
 replace hglg1 := Nat.lt_of_lt_of_le hglg1 (hs6).size
 replace hbk1 := hbk1.no hs6
 have hzl11 := hbk1.lt
 refine VTc_bs (d := 43) (e := 97) (c := #[Pt bk1 0]) (len := 1) (by kernel_rfl) (by kernel_rfl) (fun b w1 hn => hn.step _) ?_
 intro b3 w19 hn3
 replace hS := Step.trans hS (hn3.step No)
 replace ho1 := ho1.no (hn3.step No)
 replace hrR := hrR.no (hn3.step No)
 replace ho2 := ho2.no (hn3.step No)
 replace hglg1 := Nat.lt_of_lt_of_le hglg1 (hn3.step No).size
 replace hbk1 := hbk1.no (hn3.step No)
 have ho3 := hn3.own
 have hzhn3 := hn3.size
 have hqhn3 := hn3.eqb
 refine Th ?_
 intro w20 hs7
 have hzhs7 := hs7.size
 replace hS := Step.trans hS hs7
 replace ho1 := ho1.no hs7
 replace hrR := hrR.no hs7
 replace ho2 := ho2.no hs7
 replace hglg1 := Nat.lt_of_lt_of_le hglg1 (hs7).size
 replace hbk1 := hbk1.no hs7
 replace ho3 := ho3.no hs7
 have hzl15 := ho1.lt
 have hzl16 := ho2.lt
 have hzl17 := hbk1.lt
 obtain ⟨base1, hbase1E⟩ : ∃ x, x = w20.heap.size := ⟨_, rfl⟩
 have hbase1 : base1 ≤ w20.heap.size := Nat.le_of_eq hbase1E
 have hzk15 := hbase1
 refine VTc_appendZ (d := 44) (e := 97) (A := none) (mm := 0) (c := 0) (A2 := (some ⟨b3, 0, none⟩)) (m2 := 1) (c2 := 1) (sz := 1) (bytes := 8) (by kernel_rfl) (by kernel_rfl) (by kernel_rfl) base1 w20.heap.size (flat dpp ([])) (flat dpp [bk1]) (RwS.nil w20 1 base1 97) (by rw [flat_one, dpp_len]) (Sl.mono (Sl.cast (Own.sl ho3 ho3.lt) TDa6ae) TDa6ad) (flat_one' dpp_one _) 1 (by omega) TDa6af (by omega) (by omega) ?_ ?_
 ·intro w1 hs1; exact Step.mono hs1 (fun i hi => by have hi1 := (RwS.lt (RwS.nil w20 1 base1 97) i hi).1; (try simp only); omega)
 intro A1 c1 w21 hr8 hg1
 replace hr8 : RwS w21 1 base1 97 A1 1 c1 (flat dpp ([bk1])) := RwS.cast hr8 rfl TDa6ab
 replace hg1 := Step.mono (G := fun k => base1 ≤ k) hg1 (fun i hi => (RwS.lt (RwS.nil w20 1 base1 97) i hi).1)
 replace hS := Step.transNew hS hg1 (fun i hi hG => by (try simp only at hG); omega)
 replace hrR := hrR.keepG hg1 (by (try simp only); omega)
 replace ho2 := ho2.step hg1 (by (try simp only); omega)
 replace hbk1 := hbk1.step hg1 (by (try simp only); omega)
 refine VT_end ?_
 intro w22 hs8
 replace hS := Step.trans hS hs8
 replace hrR := hrR.no hs8
 replace ho2 := ho2.no hs8
 replace hbk1 := hbk1.no hs8
 replace hr8 := hr8.no hs8
 refine Vst 26 (o := 7) [.slice A1 1 c1] ho2 #[I6 c.kind, I6 c.peak, I6 c.early, I6 c.whole, I6 c.burst, I6 c.least, .slice (some ⟨g1, 0, none⟩) 1 ccR, .slice A1 1 c1, I6 0, I6 0, I6 0, I6 0] ?_
 intro w23 hw1
 replace hS := Step.transNew hS hw1.step (fun _ _ _ => by omega)
 replace hrR := hrR.keepG hw1.step (show ¬ g1 = b2 by omega)
 replace hbk1 := hbk1.step hw1.step (show ¬ bk1 = b2 by omega)
 replace hr8 := hr8.step hw1.step (fun k hk (hF : k = b2) => by omega)
 have ho4 := hw1.own
 refine Ve (VQ_block_normal (Vn (Vr (Ve (VQ_round (VCL_round (Vs ?_)))))))
 obtain ⟨g2, cur2, rfl, hgbg2, hglg2, -⟩ := RwS.open hr8 (by omega)
 refine Vr (Ve (Vn (Vs (Vf (VC_exit (VQ_then_exit (VQ_then_exit (VQ_block_hit (Vn (Vrp (VC_ret (Vr1 (Pt b2 0) ?_))))))))))))
 obtain ⟨Y, hY, hPl⟩ := dpl_mk (w := w) (p := b2) (base := lo9) (base2 := base1) (l := [(⟨(rlNew s1 e1 z1 t1), 0, bk1⟩ : Db)]) hr hR (RlsI.rules c) (Nat.le_of_ble_eq_true (by kernel_rfl)) ho4 (RwS.cast hrR rfl (by rfl)) (RwS.cast hr8 rfl (by rfl)) (by intro q9 hq9; simp only [List.mem_cons, List.not_mem_nil, or_false] at hq9; subst hq9; exact ⟨hbk1, LvI.new _ _⟩) (by simp only [List.map_cons, List.map_nil, List.nodup_cons, List.mem_cons, List.not_mem_nil, or_false, not_false_eq_true, List.nodup_nil, and_true]) (by omega) (by omega) (by omega) (by intro q9 hq9; simp only [List.mem_cons, List.not_mem_nil, or_false] at hq9; subst hq9; simp only; omega)
 exact ⟨b2, Y, rfl, hY, hPl, hS⟩

theorem drules_l2 {c : Con} (hr : rightC c = 0) (s1 e1 : Int) (z1 t1 : Bool) (s2 e2 : Int) (z2 t2 : Bool) (hR : rulesC c = [(rlNew s1 e1 z1 t1), (rlNew s2 e2 z2 t2)]) (w : World) : CV Tryz.prog 61 #[.agg #[.int .i64 c.kind, .int .i64 c.peak, .int .i64 c.early, .int .i64 c.whole, .int .i64 c.burst, .int .i64 c.least]] w fun x w1 => ∃ A cc, x = .slice A 2 cc ∧ RwS w1 4 w.heap.size 100 A 2 cc (flat r4 [(rlNew s1 e1 z1 t1), (rlNew s2 e2 z2 t2)]) ∧ Step No w w1 := by
  refine (drules_any c hr w).mono ?_
  rintro x w1 ⟨A, n, cc, rfl, hn, hrw, hs⟩
  rw [hR] at hn hrw
  subst hn
  exact ⟨A, cc, rfl, hrw, hs⟩
theorem dpnew_2 (c : Con) (hr : rightC c = 0) (s1 e1 : Int) (z1 t1 : Bool) (s2 e2 : Int) (z2 t2 : Bool) (hR : rulesC c = [(rlNew s1 e1 z1 t1), (rlNew s2 e2 z2 t2)]) (w : World) :
  CV Tryz.prog 39 #[.agg #[I6 c.kind, I6 c.peak, I6 c.early, I6 c.whole, I6 c.burst, I6 c.least]] w (fun x w1 => ∃ pp Y, x = Pt pp 0 ∧ (∀ k, Y k → w.heap.size ≤ k) ∧ DPl w1 pp Y c (rulesC c) ∧ Step No w w1) := by
 have hS : Step No w w := Step.refl _ _
 refine VCe Tryz.func39 (Vs (Vr ?_))
 refine Vx 0 32 #[I6 c.kind, I6 c.peak, I6 c.early, I6 c.whole, I6 c.burst, I6 c.least] ?_
 intro b1 w1 hn1
 replace hS := Step.trans hS (hn1.step No)
 have ho1 := hn1.own
 have hzhn1 := hn1.size
 have hqhn1 := hn1.eqb
 refine Ve (Vn (Vs (Vs (Vr (Vl 0 ho1 ?_)))))
 refine Vc 1 Tryz.call31 ((dright_any c _).mono (fun x w1 h9 => ⟨h9.1.trans (by rw [hr]), h9.2⟩ : ∀ x w1, _ → x = I6 0 ∧ Step No _ w1)) ?_
 rintro _ w2 ⟨rfl, hc1⟩
 replace hS := Step.trans hS hc1
 replace ho1 := ho1.no hc1
 refine Ve (Vn (Vf (VC_skip (Vn (Vs ?_)))))
 have hs1 := drew_step w2
 have hs1z : w2.heap.size = w2.drew.heap.size := rfl
 refine Tx 3 (fun k => w2.heap.size ≤ k) [2] [0, 1, 2] ?_
 have hzl2 := ho1.lt
 generalize w2.drew = w3 at hs1 hs1z ⊢
 replace hS := Step.trans hS hs1
 replace ho1 := ho1.no hs1
 refine Tl (fun w4 hr1 => ho1.step hr1 (by (try simp only); omega)) (Tl (fun w5 hr2 => ho1.step hr2 (by (try simp only); omega)) (Th ?_))
 intro w6 hs2
 replace hS := Step.trans hS hs2
 replace ho1 := ho1.no hs2
 have hzl3 := ho1.lt
 refine Tc Tryz.call61 (drules_l2 hr s1 e1 z1 t1 s2 e2 z2 t2 hR _) ?_ ?_
 ·rintro _ w7 ⟨AR, ccR, rfl, hrR, hc2⟩
  exact Step.mono hc2 TDa6aa
 rintro _ w7 ⟨AR, ccR, rfl, hrR, hc2⟩
 replace hS := Step.trans hS hc2
 replace ho1 := ho1.no hc2
 obtain ⟨lo9, hlo9E⟩ : ∃ x, x = w6.heap.size := ⟨_, rfl⟩
 rw [← hlo9E] at hrR
 obtain ⟨hi9, hhi9E⟩ : ∃ x, x = w7.heap.size := ⟨_, rfl⟩
 have hubR := RwS.ub hrR
 rw [← hhi9E] at hubR
 have hhi9 : hi9 ≤ w7.heap.size := by omega
 refine VT_end ?_
 intro w8 hs3
 replace hS := Step.trans hS hs3
 replace ho1 := ho1.no hs3
 replace hrR := hrR.no hs3
 replace hhi9 := Nat.le_trans hhi9 (hs3).size
 refine Vp 4 ?_
 have hzl4 := ho1.lt
 have hzk2 := hhi9
 refine Vx 4 96 #[I6 c.kind, I6 c.peak, I6 c.early, I6 c.whole, I6 c.burst, I6 c.least, .slice AR 2 ccR, .slice none 0 0, I6 0, I6 0, I6 0, I6 0] ?_
 intro b2 w9 hn2
 replace hS := Step.trans hS (hn2.step No)
 replace ho1 := ho1.no (hn2.step No)
 replace hrR := hrR.no (hn2.step No)
 have ho2 := hn2.own
 have hzhn2 := hn2.size
 have hqhn2 := hn2.eqb
 refine Ve (Vn (Vs (Vs (Vr (Vl 3 ho2 (Ve (Vn (VC_block (VC_rounds (VCL_round (Vs ?_)))))))))))
 obtain ⟨g1, cur1, rfl, hgbg1, hglg1, -⟩ := RwS.open hrR (by omega)
 have hug9 : g1 < hi9 := hubR _ ⟨_, rfl, rfl⟩
 refine Vr (Ve (Vn (Vs (Vt (VC_skip (Vn (Vs (VC_block (Vs (Vr (Ve (Vn ?_))))))))))))
 have hs4 := drew_step w9
 have hs4z : w9.heap.size = w9.drew.heap.size := rfl
 refine Tx 24 (fun k => w9.heap.size ≤ k) [21, 22, 23] [0, 1, 2, 3, 4, 5, 6, 7, 8, 9, 10, 11, 12, 13, 14, 15, 16, 17, 18, 19, 20, 21, 22, 23] ?_
 have hzo3 := hglg1
 generalize w9.drew = w10 at hs4 hs4z ⊢
 replace hS := Step.trans hS hs4
 replace ho1 := ho1.no hs4
 replace hrR := hrR.no hs4
 replace ho2 := ho2.no hs4
 replace hglg1 := Nat.lt_of_lt_of_le hglg1 (hs4).size
 refine Tp 4 (Tl (fun w11 hr3 => ho2.step hr3 (by (try simp only); omega)) (Tp 3 (Tl (fun w12 hr4 => ho2.step hr4 (by (try simp only); omega)) (Tp 1 (VT_index (d := 31) (b := g1) (o := 0) (len := 2) (sz := 4) (mm := 0) (by kernel_rfl) (by kernel_rfl) 0 (by rfl) (by omega) 0 (by omega) (Tp 1 (VT_load (d := 33) (t := 3) (a := ⟨g1, 0, none⟩) (v := I6 s1) (by kernel_rfl) (by kernel_rfl) ?_ ?_)))))))
 ·intro w13 hr5
  replace hrR := hrR.keepG hr5 (by (try simp only); omega)
  exact (Sl.flatOne (sz := 4) (RwS.sl2 hrR).sl r4_len (show ([(rlNew s1 e1 z1 t1), (rlNew s2 e2 z2 t2)] : List Rl)[0]? = some (rlNew s1 e1 z1 t1) from rfl) 0 (by rfl) (by decide) (by kernel_rfl) _ (by rfl))
 refine Tp 3 (Tl (fun w14 hr6 => ho2.step hr6 (by (try simp only); omega)) (Tp 1 (VT_index (d := 39) (b := g1) (o := 0) (len := 2) (sz := 4) (mm := 0) (by kernel_rfl) (by kernel_rfl) 0 (by rfl) (by omega) 0 (by omega) (Tp 1 (VT_load (d := 41) (t := 3) (a := ⟨g1, 1, none⟩) (v := I6 e1) (by kernel_rfl) (by kernel_rfl) ?_ ?_)))))
 ·intro w15 hr7
  replace hrR := hrR.keepG hr7 (by (try simp only); omega)
  exact (Sl.flatOne (sz := 4) (RwS.sl2 hrR).sl r4_len (show ([(rlNew s1 e1 z1 t1), (rlNew s2 e2 z2 t2)] : List Rl)[0]? = some (rlNew s1 e1 z1 t1) from rfl) 1 (by rfl) (by decide) (by kernel_rfl) _ (by rfl))
 refine Th ?_
 intro w16 hs5
 have hzhs5 := hs5.size
 replace hS := Step.trans hS hs5
 replace ho1 := ho1.no hs5
 replace hrR := hrR.no hs5
 replace ho2 := ho2.no hs5
 replace hglg1 := Nat.lt_of_lt_of_le hglg1 (hs5).size
 refine Tc Tryz.call62 (dbnew_any s1 e1 _) ?_ ?_
 ·rintro _ w17 ⟨bk1, rfl, hgebk1, hbk1, hc3⟩
  exact Step.mono hc3 TDa6aa
 rintro _ w17 ⟨bk1, rfl, hgebk1, hbk1, hc3⟩
 replace hS := Step.trans hS hc3
 replace ho1 := ho1.no hc3
 replace hrR := hrR.no hc3
 replace ho2 := ho2.no hc3
 replace hglg1 := Nat.lt_of_lt_of_le hglg1 (hc3).size
 refine Th ?_
 intro w18 hs6
 replace hS := Step.trans hS hs6
 replace ho1 := ho1.no hs6
 replace hrR := hrR.no hs6
 replace ho2 := ho2.no hs6
 replace hglg1 := Nat.lt_of_lt_of_le hglg1 (hs6).size
 replace hbk1 := hbk1.no hs6
 have hzl11 := hbk1.lt
 refine VTc_bs (d := 43) (e := 97) (c := #[Pt bk1 0]) (len := 1) (by kernel_rfl) (by kernel_rfl) (fun b w1 hn => hn.step _) ?_
 intro b3 w19 hn3
 replace hS := Step.trans hS (hn3.step No)
 replace ho1 := ho1.no (hn3.step No)
 replace hrR := hrR.no (hn3.step No)
 replace ho2 := ho2.no (hn3.step No)
 replace hglg1 := Nat.lt_of_lt_of_le hglg1 (hn3.step No).size
 replace hbk1 := hbk1.no (hn3.step No)
 have ho3 := hn3.own
 have hzhn3 := hn3.size
 have hqhn3 := hn3.eqb
 refine Th ?_
 intro w20 hs7
 have hzhs7 := hs7.size
 replace hS := Step.trans hS hs7
 replace ho1 := ho1.no hs7
 replace hrR := hrR.no hs7
 replace ho2 := ho2.no hs7
 replace hglg1 := Nat.lt_of_lt_of_le hglg1 (hs7).size
 replace hbk1 := hbk1.no hs7
 replace ho3 := ho3.no hs7
 have hzl15 := ho1.lt
 have hzl16 := ho2.lt
 have hzk11 := hglg1
 have hzl17 := hbk1.lt
 obtain ⟨base1, hbase1E⟩ : ∃ x, x = w20.heap.size := ⟨_, rfl⟩
 have hbase1 : base1 ≤ w20.heap.size := Nat.le_of_eq hbase1E
 have hzk15 := hbase1
 refine VTc_appendZ (d := 44) (e := 97) (A := none) (mm := 0) (c := 0) (A2 := (some ⟨b3, 0, none⟩)) (m2 := 1) (c2 := 1) (sz := 1) (bytes := 8) (by kernel_rfl) (by kernel_rfl) (by kernel_rfl) base1 w20.heap.size (flat dpp ([])) (flat dpp [bk1]) (RwS.nil w20 1 base1 97) (by rw [flat_one, dpp_len]) (Sl.mono (Sl.cast (Own.sl ho3 ho3.lt) TDa6ae) TDa6ad) (flat_one' dpp_one _) 1 (by omega) TDa6af (by omega) (by omega) ?_ ?_
 ·intro w1 hs1; exact Step.mono hs1 (fun i hi => by have hi1 := (RwS.lt (RwS.nil w20 1 base1 97) i hi).1; (try simp only); omega)
 intro A1 c1 w21 hr8 hg1
 replace hr8 : RwS w21 1 base1 97 A1 1 c1 (flat dpp ([bk1])) := RwS.cast hr8 rfl TDa6ab
 replace hg1 := Step.mono (G := fun k => base1 ≤ k) hg1 (fun i hi => (RwS.lt (RwS.nil w20 1 base1 97) i hi).1)
 replace hS := Step.transNew hS hg1 (fun i hi hG => by (try simp only at hG); omega)
 replace ho1 := ho1.step hg1 (by (try simp only); omega)
 replace hrR := hrR.keepG hg1 (by (try simp only); omega)
 replace ho2 := ho2.step hg1 (by (try simp only); omega)
 replace hglg1 := Nat.lt_of_lt_of_le hglg1 (hg1).size
 replace hbk1 := hbk1.step hg1 (by (try simp only); omega)
 replace hbase1 := Nat.le_trans hbase1 (hg1).size
 refine VT_end ?_
 intro w22 hs8
 replace hS := Step.trans hS hs8
 replace ho1 := ho1.no hs8
 replace hrR := hrR.no hs8
 replace ho2 := ho2.no hs8
 replace hglg1 := Nat.lt_of_lt_of_le hglg1 (hs8).size
 replace hbk1 := hbk1.no hs8
 replace hbase1 := Nat.le_trans hbase1 (hs8).size
 replace hr8 := hr8.no hs8
 refine Vst 26 (o := 7) [.slice A1 1 c1] ho2 #[I6 c.kind, I6 c.peak, I6 c.early, I6 c.whole, I6 c.burst, I6 c.least, .slice (some ⟨g1, 0, none⟩) 2 ccR, .slice A1 1 c1, I6 0, I6 0, I6 0, I6 0] ?_
 intro w23 hw1
 replace hS := Step.transNew hS hw1.step (fun _ _ _ => by omega)
 replace ho1 := ho1.step hw1.step (show ¬ b1 = b2 by omega)
 replace hrR := hrR.keepG hw1.step (show ¬ g1 = b2 by omega)
 replace hglg1 := Nat.lt_of_lt_of_le hglg1 (hw1.step).size
 replace hbk1 := hbk1.step hw1.step (show ¬ bk1 = b2 by omega)
 replace hbase1 := Nat.le_trans hbase1 (hw1.step).size
 replace hr8 := hr8.step hw1.step (fun k hk (hF : k = b2) => by omega)
 have ho4 := hw1.own
 have hzhw1 := hw1.same
 refine Ve (VQ_block_normal (Vn (Vr (Ve (VQ_round (VCL_round (Vs ?_)))))))
 obtain ⟨g2, cur2, rfl, hgbg2, hglg2, -⟩ := RwS.open hr8 (by omega)
 refine Vr (Ve (Vn (Vs (Vt (VC_skip (Vn (Vs (VC_block (Vs (Vr (Ve (Vn ?_))))))))))))
 have hs9 := drew_step w23
 have hs9z : w23.heap.size = w23.drew.heap.size := rfl
 refine Tx 24 (fun k => k = g2 ∨ w23.heap.size ≤ k) [21, 22, 23] [0, 1, 2, 3, 4, 5, 6, 7, 8, 9, 10, 11, 12, 13, 14, 15, 16, 17, 18, 19, 20, 21, 22, 23] ?_
 have hzl25 := ho4.lt
 have hzo6 := hglg1
 have hzo8 := hglg2
 generalize w23.drew = w24 at hs9 hs9z ⊢
 replace hS := Step.trans hS hs9
 replace ho1 := ho1.no hs9
 replace hrR := hrR.no hs9
 replace hbk1 := hbk1.no hs9
 replace hbase1 := Nat.le_trans hbase1 (hs9).size
 replace hr8 := hr8.no hs9
 replace ho4 := ho4.no hs9
 refine Tp 4 (Tl (fun w25 hr9 => ho4.step hr9 (by (try simp only); omega)) (Tp 3 (Tl (fun w26 hr10 => ho4.step hr10 (by (try simp only); omega)) (Tp 1 (VT_index (d := 31) (b := g1) (o := 0) (len := 2) (sz := 4) (mm := 1) (by kernel_rfl) (by kernel_rfl) 1 (by rfl) (by omega) 4 (by omega) (Tp 1 (VT_load (d := 33) (t := 3) (a := ⟨g1, 4, none⟩) (v := I6 s2) (by kernel_rfl) (by kernel_rfl) ?_ ?_)))))))
 ·intro w27 hr11
  replace hrR := hrR.keepG hr11 (by (try simp only); omega)
  exact (Sl.flatOne (sz := 4) (RwS.sl2 hrR).sl r4_len (show ([(rlNew s1 e1 z1 t1), (rlNew s2 e2 z2 t2)] : List Rl)[1]? = some (rlNew s2 e2 z2 t2) from rfl) 0 (by rfl) (by decide) (by kernel_rfl) _ (by rfl))
 refine Tp 3 (Tl (fun w28 hr12 => ho4.step hr12 (by (try simp only); omega)) (Tp 1 (VT_index (d := 39) (b := g1) (o := 0) (len := 2) (sz := 4) (mm := 1) (by kernel_rfl) (by kernel_rfl) 1 (by rfl) (by omega) 4 (by omega) (Tp 1 (VT_load (d := 41) (t := 3) (a := ⟨g1, 5, none⟩) (v := I6 e2) (by kernel_rfl) (by kernel_rfl) ?_ ?_)))))
 ·intro w29 hr13
  replace hrR := hrR.keepG hr13 (by (try simp only); omega)
  exact (Sl.flatOne (sz := 4) (RwS.sl2 hrR).sl r4_len (show ([(rlNew s1 e1 z1 t1), (rlNew s2 e2 z2 t2)] : List Rl)[1]? = some (rlNew s2 e2 z2 t2) from rfl) 1 (by rfl) (by decide) (by kernel_rfl) _ (by rfl))
 refine Th ?_
 intro w30 hs10
 have hzhs10 := hs10.size
 replace hS := Step.trans hS hs10
 replace ho1 := ho1.no hs10
 replace hrR := hrR.no hs10
 replace hbk1 := hbk1.no hs10
 replace hbase1 := Nat.le_trans hbase1 (hs10).size
 replace hr8 := hr8.no hs10
 replace ho4 := ho4.no hs10
 have hzl26 := ho1.lt
 have hzl27 := hbk1.lt
 have hzl28 := ho4.lt
 refine Tc Tryz.call62 (dbnew_any s2 e2 _) ?_ ?_
 ·rintro _ w31 ⟨bk2, rfl, hgebk2, hbk2, hc4⟩
  exact Step.mono hc4 TDa6aa
 rintro _ w31 ⟨bk2, rfl, hgebk2, hbk2, hc4⟩
 replace hS := Step.trans hS hc4
 replace hrR := hrR.no hc4
 replace hbk1 := hbk1.no hc4
 replace hbase1 := Nat.le_trans hbase1 (hc4).size
 replace hr8 := hr8.no hc4
 replace ho4 := ho4.no hc4
 refine Th ?_
 intro w32 hs11
 replace hS := Step.trans hS hs11
 replace hrR := hrR.no hs11
 replace hbk1 := hbk1.no hs11
 replace hbase1 := Nat.le_trans hbase1 (hs11).size
 replace hr8 := hr8.no hs11
 replace ho4 := ho4.no hs11
 replace hbk2 := hbk2.no hs11
 refine VTc_bs (d := 43) (e := 97) (c := #[Pt bk2 0]) (len := 1) (by kernel_rfl) (by kernel_rfl) (fun b w1 hn => hn.step _) ?_
 intro b4 w33 hn4
 replace hS := Step.trans hS (hn4.step No)
 replace hrR := hrR.no (hn4.step No)
 replace hbk1 := hbk1.no (hn4.step No)
 replace hbase1 := Nat.le_trans hbase1 (hn4.step No).size
 replace hr8 := hr8.no (hn4.step No)
 replace ho4 := ho4.no (hn4.step No)
 replace hbk2 := hbk2.no (hn4.step No)
 have ho5 := hn4.own
 refine Th ?_
 intro w34 hs12
 replace hS := Step.trans hS hs12
 replace hrR := hrR.no hs12
 replace hbk1 := hbk1.no hs12
 replace hbase1 := Nat.le_trans hbase1 (hs12).size
 replace hr8 := hr8.no hs12
 replace ho4 := ho4.no hs12
 replace hbk2 := hbk2.no hs12
 replace ho5 := ho5.no hs12
 have hzk29 := hbase1
 refine VTc_appendZ (d := 44) (e := 97) (A := (some ⟨g2, 0, none⟩)) (mm := 1) (c := c1) (A2 := (some ⟨b4, 0, none⟩)) (m2 := 1) (c2 := 1) (sz := 1) (bytes := 8) (by kernel_rfl) (by kernel_rfl) (by kernel_rfl) base1 w34.heap.size (flat dpp ([bk1])) (flat dpp [bk2]) hr8 (by rw [flat_one, dpp_len]) (Sl.mono (Sl.cast (Own.sl ho5 ho5.lt) TDa6ae) TDa6ad) (flat_one' dpp_one _) 2 (by omega) TDa6af (by omega) (by omega) ?_ ?_
 ·intro w1 hs1; exact Step.mono hs1 (fun i hi => by obtain ⟨a9, ha9, hi9⟩ := hi; cases ha9; have hi8 : g2 = i := hi9; (try simp only); omega)
 intro A2 c2 w35 hr14 hg2
 replace hr14 : RwS w35 1 base1 97 A2 2 c2 (flat dpp (([bk1]) ++ ([bk2]))) := RwS.cast hr14 rfl TDa6ab
 replace hg2 := Step.mono (G := fun k => k = g2) hg2 (fun i hi => by obtain ⟨a9, ha9, hi9⟩ := hi; cases ha9; exact hi9.symm)
 replace hS := Step.transNew hS hg2 (fun i hi hG => by (try simp only at hG); omega)
 replace hrR := hrR.keepG hg2 (by (try simp only); omega)
 replace hbk1 := hbk1.step hg2 (by (try simp only); omega)
 replace ho4 := ho4.step hg2 (by (try simp only); omega)
 replace hbk2 := hbk2.step hg2 (by (try simp only); omega)
 refine VT_end ?_
 intro w36 hs13
 replace hS := Step.trans hS hs13
 replace hrR := hrR.no hs13
 replace hbk1 := hbk1.no hs13
 replace ho4 := ho4.no hs13
 replace hbk2 := hbk2.no hs13
 replace hr14 := hr14.no hs13
 refine Vst 26 (o := 7) [.slice A2 2 c2] ho4 #[I6 c.kind, I6 c.peak, I6 c.early, I6 c.whole, I6 c.burst, I6 c.least, .slice (some ⟨g1, 0, none⟩) 2 ccR, .slice A2 2 c2, I6 0, I6 0, I6 0, I6 0] ?_
 intro w37 hw2
 replace hS := Step.transNew hS hw2.step (fun _ _ _ => by omega)
 replace hrR := hrR.keepG hw2.step (show ¬ g1 = b2 by omega)
 replace hbk1 := hbk1.step hw2.step (show ¬ bk1 = b2 by omega)
 replace hbk2 := hbk2.step hw2.step (show ¬ bk2 = b2 by omega)
 replace hr14 := hr14.step hw2.step (fun k hk (hF : k = b2) => by omega)
 have ho6 := hw2.own
 refine Ve (VQ_block_normal (Vn (Vr (Ve (VQ_round (VCL_round (Vs ?_)))))))
 obtain ⟨g3, cur3, rfl, hgbg3, hglg3, -⟩ := RwS.open hr14 (by omega)
 refine Vr (Ve (Vn (Vs (Vf (VC_exit (VQ_then_exit (VQ_then_exit (VQ_block_hit (Vn (Vrp (VC_ret (Vr1 (Pt b2 0) ?_))))))))))))
 obtain ⟨Y, hY, hPl⟩ := dpl_mk (w := w) (p := b2) (base := lo9) (base2 := base1) (l := [(⟨(rlNew s1 e1 z1 t1), 0, bk1⟩ : Db), (⟨(rlNew s2 e2 z2 t2), 0, bk2⟩ : Db)]) hr hR (RlsI.rules c) (Nat.le_of_ble_eq_true (by kernel_rfl)) ho6 (RwS.cast hrR rfl (by rfl)) (RwS.cast hr14 rfl (by rfl)) (by intro q9 hq9; simp only [List.mem_cons, List.not_mem_nil, or_false] at hq9; rcases hq9 with rfl | rfl; exact ⟨hbk1, LvI.new _ _⟩; exact ⟨hbk2, LvI.new _ _⟩) (by simp only [List.map_cons, List.map_nil, List.nodup_cons, List.mem_cons, List.not_mem_nil, or_false, not_false_eq_true, List.nodup_nil, and_true]; omega) (by omega) (by omega) (by omega) (by intro q9 hq9; simp only [List.mem_cons, List.not_mem_nil, or_false] at hq9; rcases hq9 with rfl | rfl <;> (simp only; omega))
 exact ⟨b2, Y, rfl, hY, hPl, hS⟩

theorem dpnew_any (c : Con) (hr : rightC c = 0) (w : World) : CV Tryz.prog 39 #[.agg #[.int .i64 c.kind, .int .i64 c.peak, .int .i64 c.early, .int .i64 c.whole, .int .i64 c.burst, .int .i64 c.least]] w (fun x w1 => ∃ pp Y, x = .pointer (some ⟨pp, 0, none⟩) ∧ (∀ k, Y k → w.heap.size ≤ k) ∧ DPl w1 pp Y c (rulesC c) ∧ Step No w w1) := by
  by_cases h2 : c.kind = 2
  · exact dpnew_2 c hr _ _ _ _ _ _ _ _ (rules_v1 hr h2).symm w
  · by_cases h3 : c.kind = 3
    · exact dpnew_2 c hr _ _ _ _ _ _ _ _ (rules_v2 hr h3).symm w
    · by_cases h4 : c.kind = 4
      · exact dpnew_2 c hr _ _ _ _ _ _ _ _ (rules_v3 hr h4).symm w
      · exact dpnew_1 c hr _ _ _ _ (rules_one hr h2 h3 h4).symm w
end Go.Proofs.YthchmlidobgkoaaGreat
end

section
/- Layer 20, the document's side: a node is its list, in memory. -/
set_option linter.unusedVariables false
set_option linter.unusedSimpArgs false
namespace Go.Proofs.YthchmlidobgkoaaGreat
open Go.Vc Go.RowKit
/-- A connection, its policer's address, the blocks of that. -/
structure Dx where
  x : Cx
  pp : Nat
  Y : Nat → Prop
def dxc (d : Dx) : List Value := [.int .i64 d.x.p, .int .i64 d.x.v, .int .i64 d.x.c, .int .i64 d.x.k.kind, .int .i64 d.x.k.peak, .int .i64 d.x.k.early, .int .i64 d.x.k.whole, .int .i64 d.x.k.burst, .int .i64 d.x.k.least, .pointer (some ⟨d.pp, 0, none⟩)]
theorem dxc_len (d : Dx) : (dxc d).length = 10 := rfl
theorem dxc_one (d : Dx) : ∀ u ∈ dxc d, oneC u = true := by
  intro u hu
  simp only [dxc, List.mem_cons, List.not_mem_nil, or_false] at hu
  rcases hu with rfl | rfl | rfl | rfl | rfl | rfl | rfl | rfl | rfl | rfl <;> rfl
def atD (l : List Dx) (p v c : Int) : Int := match l.findIdx? (fun d => keyX p v c d.x) with | some i => (i : Int) | none => -1
theorem atD_hit {l : List Dx} {p v c : Int} {i : Nat} {d : Dx} (hb : ∀ j, j < i → ∀ x, l[j]? = some x → keyX p v c x.x = false) (hd : l[i]? = some d) (hk : keyX p v c d.x = true) : atD l p v c = i := by
  have : l.findIdx? (fun d => keyX p v c d.x) = some i := by
    obtain ⟨hi, rfl⟩ := List.getElem?_eq_some_iff.1 hd
    rw [List.findIdx?_eq_some_iff_getElem]
    refine ⟨hi, hk, fun j hj => ?_⟩
    have := hb j hj _ (List.getElem?_eq_getElem (by omega))
    simpa using this
  unfold atD; rw [this]
theorem atD_none {l : List Dx} {p v c : Int} (hb : ∀ j, j < l.length → ∀ x, l[j]? = some x → keyX p v c x.x = false) : atD l p v c = -1 := by
  have : l.findIdx? (fun d => keyX p v c d.x) = none := by
    rw [List.findIdx?_eq_none_iff]
    intro x hx
    obtain ⟨j, hj, he⟩ := List.getElem_of_mem hx
    exact hb j hj x (by rw [List.getElem?_eq_getElem hj, he])
  unfold atD; rw [this]
theorem atD_cases (l : List Dx) (p v c : Int) : (atD l p v c = -1 ∧ findC (l.map Dx.x) p v c = none) ∨ ∃ (i : Nat) (d : Dx), atD l p v c = i ∧ l[i]? = some d ∧ findC (l.map Dx.x) p v c = some d.x ∧ keyX p v c d.x = true := by
  unfold atD findC
  cases h : l.findIdx? (fun d => keyX p v c d.x) with
  | none =>
    refine .inl ⟨rfl, ?_⟩
    rw [List.findIdx?_eq_none_iff] at h
    rw [List.find?_eq_none]
    intro x hx
    obtain ⟨d, hd, rfl⟩ := List.mem_map.1 hx
    simp [h d hd]
  | some i =>
    rw [List.findIdx?_eq_some_iff_getElem] at h
    obtain ⟨hi, h1, h2⟩ := h
    refine .inr ⟨i, l[i], rfl, List.getElem?_eq_getElem hi, ?_, h1⟩
    rw [List.find?_eq_some_iff_getElem]
    refine ⟨h1, i, by simpa using hi, by simp, fun j hj => ?_⟩
    have := h2 j hj
    simpa using this
theorem keyX_other {L : List Cx} (h : OneK L) {p v c : Int} {x y : Cx} {i j : Nat} (hx : L[i]? = some x) (hy : L[j]? = some y) (hk : keyX p v c x = true) (hne : j ≠ i) : keyX p v c y = false := by
  cases hky : keyX p v c y with
  | false => rfl
  | true =>
    exfalso
    have e1 := keyX_iff.1 hk
    have e2 := keyX_iff.1 hky
    obtain ⟨hi, rfl⟩ := List.getElem?_eq_some_iff.1 hx
    obtain ⟨hj, rfl⟩ := List.getElem?_eq_some_iff.1 hy
    have hp := List.pairwise_iff_getElem.1 h
    rcases Nat.lt_or_gt_of_ne hne with h9 | h9
    · exact hp j i hj hi h9 ⟨e2.1.trans e1.1.symm, e2.2.1.trans e1.2.1.symm, e2.2.2.trans e1.2.2.symm⟩
    · exact hp i j hi hj h9 ⟨e1.1.trans e2.1.symm, e1.2.1.trans e2.2.1.symm, e1.2.2.trans e2.2.2.symm⟩
theorem del_take {L : List Cx} (h : OneK L) {p v c : Int} {i : Nat} {x : Cx} (hx : L[i]? = some x) (hk : keyX p v c x = true) : L.take i ++ L.drop (i + 1) = delC L p v c := by
  induction L generalizing i with
  | nil => simp at hx
  | cons y L ih =>
    have hh : OneK (y :: L) := h
    cases i with
    | zero =>
      simp only [List.getElem?_cons_zero, Option.some.injEq] at hx
      subst hx
      unfold delC
      simp only [List.take_zero, List.nil_append, Nat.zero_add, List.drop_succ_cons, List.drop_zero, List.filter_cons, hk, Bool.not_true, Bool.false_eq_true, if_false]
      symm
      rw [List.filter_eq_self]
      intro z hz
      obtain ⟨j, hj, he⟩ := List.getElem_of_mem hz
      have := keyX_other hh (i := 0) (j := j + 1) (x := y) (y := z) rfl (by simp [hj, he]) hk (by omega)
      rw [this]; rfl
    | succ i =>
      have hy : keyX p v c y = false := keyX_other hh (i := i + 1) (j := 0) hx rfl hk (by omega)
      have := ih (List.Pairwise.of_cons h) (i := i) (by simpa using hx)
      unfold delC at this ⊢
      simp only [List.take_succ_cons, List.drop_succ_cons, List.cons_append, List.filter_cons, hy, Bool.not_false, if_true, this]
theorem set_setC {L : List Cx} (h : OneK L) {p v c : Int} {i : Nat} {x : Cx} (hx : L[i]? = some x) (hk : keyX p v c x = true) (f : Cx → Cx) : L.set i (f x) = setC L p v c f := by
  apply List.ext_getElem?
  intro j
  unfold setC
  rw [List.getElem?_set, List.getElem?_map]
  by_cases e : i = j
  · subst e
    have hi : i < L.length := (List.getElem?_eq_some_iff.1 hx).1
    rw [if_pos rfl, if_pos hi, hx]; simp [hk]
  · rw [if_neg e]
    cases hy : L[j]? with
    | none => rfl
    | some y =>
      have := keyX_other h hx hy hk (fun q => e q.symm)
      simp [this]
/-! ### Sums -/
theorem usdL_sub {L M : List Cx} (h : List.Sublist L M) (q : Int) : usdL L q ≤ usdL M q := by
  induction h with
  | slnil => exact Int.le_refl _
  | cons x h ih => simp only [usdL]; have := needC_le x.k; split <;> omega
  | cons_cons x h ih => simp only [usdL]; omega
theorem usdL_port {rooms : List Int} {L : List Cx} (h : LI rooms L) (q : Int) : usdL L q ≤ 1152921504606846976 := by
  by_cases hq : 0 ≤ q ∧ q < rooms.length
  · obtain ⟨i, r, rfl, hi, hr⟩ := port_nat hq
    have := h.fit i r hr
    have := (h.rooms r (List.mem_of_getElem? hr)).2
    omega
  · have : ∀ M : List Cx, (∀ x ∈ M, ¬ x.p = q) → usdL M q = 0 := by
      intro M
      induction M with
      | nil => intro _; rfl
      | cons x M ih => intro hM; simp only [usdL]; rw [if_neg (hM x (List.mem_cons_self ..)), ih fun y hy => hM y (List.mem_cons_of_mem _ hy)]; rfl
    rw [this L fun x hx e => hq (by have := (h.key x hx).1; rw [e] at this; exact this)]
    omega
def butL (L : List Cx) (p v c : Int) (i : Nat) : List Cx := delC (L.take i) p v c
theorem butL_le {rooms : List Int} {L : List Cx} (h : LI rooms L) (p v c : Int) (i : Nat) (q : Int) : usdL (butL L p v c i) q ≤ 1152921504606846976 :=
  Int.le_trans (usdL_sub (List.Sublist.trans List.filter_sublist (List.take_sublist i L)) q) (usdL_port h q)
theorem butL_succ {L : List Cx} {p v c : Int} {i : Nat} {x : Cx} (hx : L[i]? = some x) (q : Int) : usdL (butL L p v c (i + 1)) q = usdL (butL L p v c i) q + if (x.p == q) && !keyX p v c x then needC x.k else 0 := by
  unfold butL delC
  rw [List.take_add_one, hx, List.filter_append, usdL_append]
  simp only [Option.toList_some, List.filter_cons, List.filter_nil]
  cases keyX p v c x with
  | true => simp [usdL]
  | false =>
    simp only [Bool.not_false, if_true, usdL, Bool.and_true, beq_iff_eq]
    split <;> omega
theorem butL_all {L : List Cx} {p v c : Int} {i : Nat} (h : L.length ≤ i) : butL L p v c i = delC L p v c := by unfold butL; rw [List.take_of_length_le h]
theorem find_neg {rooms : List Int} {L : List Cx} (h : LI rooms L) {v c : Int} : findC L (-1) v c = none := findC_none.2 fun x hx e => by have := (h.key x hx).1; omega
/-! ### In memory -/
/-- What is looked at: the links' rooms, the connections. -/
def Dv (w : World) (nd lo : Nat) (rooms : List Int) (l : List Dx) : Prop := ∃ rA rc A c rl rh hi, Own w nd #[.slice rA rooms.length rc, .slice A l.length c] 55 ∧ rooms.length ≤ rc ∧ l.length ≤ c ∧ rh ≤ w.heap.size ∧ hi ≤ w.heap.size ∧ Sl2 w rl rh rA (iL .i64 rooms) ∧ Sl2 w lo hi A (flat dxc l)
def rowOf (w : World) (T : TypeId) (Z : Nat → Prop) (A : Option Addr) (xs : List Value) : Prop := xs = [] ∨ ∃ b, A = some ⟨b, 0, none⟩ ∧ RowE w b T xs ∧ Z b
def DNT (w : World) (k : Nat) : Prop := TyB w 55 k ∨ TyB w 67 k ∨ TyB w 3 k ∨ DT w k
structure DnX (w : World) (nd : Nat) (X : Nat → Prop) (lo Bd : Nat) (rooms : List Int) (l : List Dx) (rA : Option Addr) (rc : Nat) (A : Option Addr) (c : Nat) : Prop where
  own : Own w nd #[.slice rA rooms.length rc, .slice A l.length c] 55
  rrow : rowOf w 3 X rA (iL .i64 rooms)
  lrow : rowOf w 67 X A (flat dxc l)
  pol : ∀ d ∈ l, DPl w d.pp d.Y d.x.k d.x.rs ∧ ∀ q, d.Y q → X q
  apart : l.Pairwise fun d e => ∀ q, d.Y q → ¬ e.Y q
  inN : X nd
  ty : ∀ q, X q → DNT w q
  low : ∀ q, X q → lo ≤ q
  up : ∀ q, X q → TyB w 3 q → q < Bd
  rcap : rooms.length ≤ rc
  lcap : l.length ≤ c
/-- A node of the document at an address. -/
def DnP (w : World) (nd : Nat) (X : Nat → Prop) (lo Bd : Nat) (rooms : List Int) (L : List Cx) : Prop := LI rooms L ∧ ∃ l rA rc A c, L = l.map Dx.x ∧ DnX w nd X lo Bd rooms l rA rc A c
section
variable {w w1 w' : World} {F X : Nat → Prop} {nd lo Bd : Nat} {rooms : List Int} {l : List Dx} {L : List Cx}
theorem Dv.no (h : Dv w nd lo rooms l) (hs : Step No w w') : Dv w' nd lo rooms l := by
  obtain ⟨rA, rc, A, c, rl, rh, hi, h1, h2, h3, h4, h5, h6, h7⟩ := h
  exact ⟨rA, rc, A, c, rl, rh, hi, h1.no hs, h2, h3, Nat.le_trans h4 hs.size, Nat.le_trans h5 hs.size, Sl2.step h6 hs (fun _ _ _ => id), Sl2.step h7 hs (fun _ _ _ => id)⟩
theorem sl_sl2 {B : Nat} {A : Option Addr} {xs : List Value} (h : Sl w B A xs) : Sl2 w 0 B A xs := fun h0 => by
  obtain ⟨b, o, e, h1, h2⟩ := h h0
  exact ⟨b, o, e, Nat.zero_le _, h1, h2⟩
theorem rowOf.sl2 {T : TypeId} {Z : Nat → Prop} {A : Option Addr} {xs : List Value} (h : rowOf w T Z A xs) (hZ : ∀ q, Z q → lo ≤ q) : ∃ hi, hi ≤ w.heap.size ∧ Sl2 w lo hi A xs := by
  rcases h with rfl | ⟨b, rfl, h, hb⟩
  · exact ⟨0, Nat.zero_le _, fun h0 => absurd h0 (by simp)⟩
  · refine ⟨b + 1, h.lt, fun h0 => ?_⟩
    obtain ⟨b', o, e, h1, h2, h3⟩ := h.sl h0
    exact ⟨b', o, e, by have := hZ b hb; omega, h2, h3⟩
theorem rowOf.step {T : TypeId} {Z : Nat → Prop} {A : Option Addr} {xs : List Value} (h : rowOf w T Z A xs) (hs : Step F w w') (hF : ∀ q, Z q → ¬ F q) : rowOf w' T Z A xs := by
  rcases h with rfl | ⟨b, rfl, h, hb⟩
  · exact .inl rfl
  · exact .inr ⟨b, rfl, h.step hs (hF b hb), hb⟩
theorem rowOf.of_rw {sz base n c : Nat} {T : TypeId} {A : Option Addr} {xs : List Value} {Z : Nat → Prop} (h : RwS w sz base T A n c xs) (hn : n = 0 → xs = []) (hZ : ∀ b, ownB A b → 0 < n → Z b) : rowOf w T Z A xs := by
  rcases Nat.eq_zero_or_pos n with h0 | h0
  · exact .inl (hn h0)
  · obtain ⟨rb, rfl, h1, hrow⟩ := RowE.of_rw h h0
    exact .inr ⟨rb, rfl, hrow, hZ rb ⟨_, rfl, rfl⟩ h0⟩
theorem DNT.lt {k : Nat} (h : DNT w k) : k < w.heap.size := by rcases h with h | h | h | h <;> exact h.lt
theorem DNT.step {k : Nat} (h : DNT w k) (hs : Step F w w') (hF : ¬ F k) : DNT w' k := by
  rcases h with h | h | h | h
  · exact .inl (h.step hs hF)
  · exact .inr (.inl (h.step hs hF))
  · exact .inr (.inr (.inl (h.step hs hF)))
  · exact .inr (.inr (.inr (h.step hs hF)))
theorem tyb_back {T : TypeId} {k : Nat} (h : TyB w' T k) (hs : Step F w w') (hk : k < w.heap.size) (hF : ¬ F k) : TyB w T k := by
  obtain ⟨c, f, h⟩ := h
  exact ⟨c, f, by rw [← hs.block k hk hF]; exact h⟩
theorem DnX.step {rA A : Option Addr} {rc c : Nat} (h : DnX w nd X lo Bd rooms l rA rc A c) (hs : Step F w w') (hF : ∀ q, X q → ¬ F q) : DnX w' nd X lo Bd rooms l rA rc A c :=
  ⟨h.own.step hs (hF _ h.inN), h.rrow.step hs hF, h.lrow.step hs hF, fun d hd => ⟨(h.pol d hd).1.step hs fun q hq => hF q ((h.pol d hd).2 q hq), (h.pol d hd).2⟩, h.apart, h.inN, fun q hq => (h.ty q hq).step hs (hF q hq), h.low, fun q hq ht => h.up q hq (tyb_back ht hs (h.ty q hq).lt (hF q hq)), h.rcap, h.lcap⟩
theorem DnX.dv {rA A : Option Addr} {rc c : Nat} (h : DnX w nd X lo Bd rooms l rA rc A c) : Dv w nd lo rooms l := by
  obtain ⟨hi, h1, h2⟩ := h.rrow.sl2 h.low
  obtain ⟨hi2, h3, h4⟩ := h.lrow.sl2 h.low
  exact ⟨rA, rc, A, c, lo, hi, hi2, h.own, h.rcap, h.lcap, h1, h3, h2, h4⟩
theorem DnP.step (h : DnP w nd X lo Bd rooms L) (hs : Step F w w') (hF : ∀ q, X q → ¬ F q) : DnP w' nd X lo Bd rooms L := by
  obtain ⟨h0, l, rA, rc, A, c, h1, h2⟩ := h
  exact ⟨h0, l, rA, rc, A, c, h1, h2.step hs hF⟩
theorem DnP.no (h : DnP w nd X lo Bd rooms L) (hs : Step No w w') : DnP w' nd X lo Bd rooms L := h.step hs fun _ _ => id
theorem DnP.dnt (h : DnP w nd X lo Bd rooms L) {q : Nat} (hq : X q) : DNT w q := by obtain ⟨_, l, rA, rc, A, c, _, h2⟩ := h; exact h2.ty q hq
theorem DnP.low (h : DnP w nd X lo Bd rooms L) {q : Nat} (hq : X q) : lo ≤ q := by obtain ⟨_, l, rA, rc, A, c, _, h2⟩ := h; exact h2.low q hq
theorem DnP.inN (h : DnP w nd X lo Bd rooms L) : X nd := by obtain ⟨_, l, rA, rc, A, c, _, h2⟩ := h; exact h2.inN
theorem DnP.lt (h : DnP w nd X lo Bd rooms L) : nd < w.heap.size := (h.dnt h.inN).lt
end
end Go.Proofs.YthchmlidobgkoaaGreat
end
