import Derived.Test.YthchmlidobgkoaaGreatProg
import Derived.Test.YthchmlidobgkoaaGreatMb4
section
/- Layer 20: the document's contracts, costs, buckets. -/
set_option linter.unusedVariables false
set_option linter.unusedSimpArgs false
set_option maxRecDepth 100000
set_option maxHeartbeats 4000000
namespace Go.Proofs.YthchmlidobgkoaaGreat
open Go.Vc Go.RowKit
theorem TDa1aa {P : Prop} (h : P := by first | exact need_no (by assumption) | exact need_cbr (by assumption) (by assumption) | exact need_abr (by assumption) (by assumption) | exact need_vbr (by assumption) (by omega) | (exfalso; omega) | exact need_ubr (by assumption) (by omega) (by omega) (by omega) (by omega) (by omega)) : P := h
theorem TDa1ab {P : Prop} (h : P := by first | exact Eq.symm (by assumption) | exact right11 (by omega) (by omega) (by assumption) | exact right12 (from_none (by assumption))) : P := h
theorem from_w (n a b : Int) (w : World) :
  CV Tryz.prog 56 #[I6 n, I6 a, I6 b] w (fun x w1 => x = Bo (fromB n a b) ∧ w1 = w) := by
 refine VCe Tryz.func56 (Vrp (Vs (Vr (Vp 4 (Vand 10 14 8 [] (decide (n ≥ a)) (decide (n ≤ b)) (fun hg1 J1 => ?_) ?_)))))
 ·exact Vp 8 (Vk [14] J1)
 refine Ve (Vn (VC_ret (Vr1 (Bo ((decide (n ≥ a)) && (decide (n ≤ b)))) ?_)))
 exact ⟨congrArg Value.bool (by unfold fromB; first | rfl | simp [*]), rfl⟩

theorem from_ce (n a b : Int) : CE Tryz.prog 56 #[.int .i64 n, .int .i64 a, .int .i64 b] (.bool (fromB n a b)) := fun w => from_w n a b w
theorem dheld_w (t : Int) (w : World) :
  CV Tryz.prog 74 #[I6 t] w (fun x w1 => x = I6 (clT t) ∧ w1 = w) := by
 refine VCe Tryz.func74 (Vrp (Vrp (VC_ret (Vr1 (I6 (imax 0 (imin t 1152921504606846976))) ?_))))
 exact ⟨rfl, rfl⟩

theorem dheld_ce (t : Int) : CE Tryz.prog 74 #[.int .i64 t] (.int .i64 (clT t)) := fun w => dheld_w t w
theorem dright_any (c : Con) (w : World) :
  CV Tryz.prog 31 #[.agg #[I6 c.kind, I6 c.peak, I6 c.early, I6 c.whole, I6 c.burst, I6 c.least]] w (fun x w1 => x = I6 (rightC c) ∧ Step No w w1) := by
 have hS : Step No w w := Step.refl _ _
 refine VCe Tryz.func31 (Vs (Vr ?_))
 refine Vx 0 32 #[I6 c.kind, I6 c.peak, I6 c.early, I6 c.whole, I6 c.burst, I6 c.least] ?_
 intro b1 w1 hn1
 replace hS := Step.trans hS (hn1.step No)
 have ho1 := hn1.own
 refine Ve (Vn (Vs (Vs (Vr (Vl 1 ho1 ?_)))))
 refine Vc 2 Tryz.call56 ((from_ce c.kind 1 7) w1) ?_
 rintro _ w2 ⟨rfl, hc1⟩
 subst w2
 refine Ve (Vn (Vif (!(fromB c.kind 1 7)) (fun h1 => ?_) (fun h1 => ?_)))
 ·try simp only [BB] at h1
  refine Vrp (VC_ret (VQ_then_ret (Vr1 (I6 12) ?_)))
  exact ⟨congrArg (Value.int .i64) TDa1ab, hS⟩
 ·try simp only [BB] at h1
  refine VC_skip (Vn (Vs (Vr (Vl 1 ho1 (Vp 4 (Vor 12 16 8 [1] (c.kind == 2) (c.kind == 3) (fun hg1 J1 => ?_) ?_))))))
  ·refine Vl 5 ho1 ?_
   exact Vp 8 (Vk [16, 1] J1)
  refine Vp 9 (Vor 17 21 13 [1] ((c.kind == 2) || (c.kind == 3)) (c.kind == 4) (fun hg2 J2 => ?_) ?_)
  ·refine Vl 10 ho1 ?_
   exact Vp 13 (Vk [21, 1] J2)
  refine Ve (Vn (Vs (Vr (Vl 1 ho1 ?_))))
  refine Vc 2 Tryz.call56 ((from_ce c.peak 1 1099511627776) w1) ?_
  rintro _ w3 ⟨rfl, hc2⟩
  subst w3
  refine Vp 4 (Vand 25 29 8 [1, 3] (spanB c.peak 1) (spanB c.early 0) (fun hg3 J3 => ?_) ?_)
  ·refine Vl 5 ho1 ?_
   refine Vc 6 Tryz.call56 ((from_ce c.early 0 1099511627776) w1) ?_
   rintro _ w4 ⟨rfl, hc3⟩
   subst w4
   exact Vp 8 (Vk [29, 1, 3] J3)
  refine Ve (Vn (Vs (Vrp (Vif (((c.kind == 2) || (c.kind == 3)) || (c.kind == 4)) (fun h2 => ?_) (fun h2 => ?_)))))
  ·try simp only [BB] at h2
   refine Vr (Vp 2 (Vand 32 38 8 [1] ((spanB c.peak 1) && (spanB c.early 0)) (spanB c.whole c.peak) (fun hg4 J4 => ?_) ?_))
   ·refine Vl 3 ho1 (Vl 5 ho1 ?_)
    refine Vc 6 Tryz.call56 ((from_ce c.whole c.peak 1099511627776) w1) ?_
    rintro _ w5 ⟨rfl, hc4⟩
    subst w5
    exact Vp 8 (Vk [38, 1] J4)
   refine Vp 9 (Vand 39 43 13 [1] (((spanB c.peak 1) && (spanB c.early 0)) && (spanB c.whole c.peak)) (spanB c.burst 0) (fun hg5 J5 => ?_) ?_)
   ·refine Vl 10 ho1 ?_
    refine Vc 11 Tryz.call56 ((from_ce c.burst 0 1099511627776) w1) ?_
    rintro _ w6 ⟨rfl, hc5⟩
    subst w6
    exact Vp 13 (Vk [43, 1] J5)
   refine Ve (Vn (Vs (Vs (Vr (Vl 1 ho1 (Ve (Vn (Viz (b := c.kind == 5) (by rw [beq_eq_false_iff_ne]; omega) (Vr (Vp 2 (Vand 72 76 6 [] ((((spanB c.peak 1) && (spanB c.early 0)) && (spanB c.whole c.peak)) && (spanB c.burst 0)) (c.least == 0) (fun hg6 J6 => ?_) ?_)))))))))))
   ·refine Vl 3 ho1 ?_
    exact Vp 6 (Vk [76] J6)
   refine Ve (Vn (Vs (Vs ?_)))
   have hkk := from_kind (c := c) (by assumption)
   have hE : (((((spanB c.peak 1) && (spanB c.early 0)) && (spanB c.whole c.peak)) && (spanB c.burst 0)) && (c.least == 0)) = (rightC c == 0) := right_vbr (by omega)
   refine VqC 4 (Bo (((((spanB c.peak 1) && (spanB c.early 0)) && (spanB c.whole c.peak)) && (spanB c.burst 0)) && (c.least == 0))) (Bo ((rightC c) == 0)) (by rw [hE]) (Vr (Ve (Vn (Vif (!((rightC c) == 0)) (fun h3 => ?_) (fun h3 => ?_)))))
   ·try simp only [BB] at h3
    refine Vrp (VC_ret (VQ_then_ret (Vr1 (I6 11) ?_)))
    exact ⟨congrArg (Value.int .i64) TDa1ab, hS⟩
   ·try simp only [BB] at h3
    refine VC_skip (Vn (Vrp (VC_ret (Vr1 (I6 0) ?_))))
    exact ⟨congrArg (Value.int .i64) TDa1ab, hS⟩
  ·try simp only [BB] at h2
   refine Vr (Vp 2 (Vand 45 49 6 [1] ((spanB c.peak 1) && (spanB c.early 0)) (c.whole == 0) (fun hg7 J7 => ?_) ?_))
   ·refine Vl 3 ho1 ?_
    exact Vp 6 (Vk [49, 1] J7)
   refine Vp 7 (Vand 50 54 11 [1] (((spanB c.peak 1) && (spanB c.early 0)) && (c.whole == 0)) (c.burst == 0) (fun hg8 J8 => ?_) ?_)
   ·refine Vl 8 ho1 ?_
    exact Vp 11 (Vk [54, 1] J8)
   refine Ve (Vn (Vs (Vs (Vr (Vl 1 ho1 (Ve (Vn (Vie c.kind 5 (fun h4 => ?_) (fun h4 => ?_)))))))))
   ·refine Vr (Vp 2 (Vand 59 70 13 [] ((((spanB c.peak 1) && (spanB c.early 0)) && (c.whole == 0)) && (c.burst == 0)) ((c.least == 0) || (spanB c.least c.peak)) (fun hg9 J9 => ?_) ?_))
    ·refine Vl 3 ho1 (Vp 6 (Vor 63 69 12 [59] (c.least == 0) (spanB c.least c.peak) (fun hg10 J10 => ?_) ?_))
     ·refine Vl 7 ho1 (Vl 9 ho1 ?_)
      refine Vc 10 Tryz.call56 ((from_ce c.least c.peak 1099511627776) w1) ?_
      rintro _ w7 ⟨rfl, hc6⟩
      subst w7
      exact Vp 12 (Vk [69, 59] J10)
     exact Vp 13 (Vk [70] J9)
    refine Ve (Vn (Vs (Vs ?_)))
    have hE : (((((spanB c.peak 1) && (spanB c.early 0)) && (c.whole == 0)) && (c.burst == 0)) && ((c.least == 0) || (spanB c.least c.peak))) = (rightC c == 0) := right_abr (by omega)
    refine VqC 4 (Bo (((((spanB c.peak 1) && (spanB c.early 0)) && (c.whole == 0)) && (c.burst == 0)) && ((c.least == 0) || (spanB c.least c.peak)))) (Bo ((rightC c) == 0)) (by rw [hE]) (Vr (Ve (Vn (Vif (!((rightC c) == 0)) (fun h5 => ?_) (fun h5 => ?_)))))
    ·try simp only [BB] at h5
     refine Vrp (VC_ret (VQ_then_ret (Vr1 (I6 11) ?_)))
     exact ⟨congrArg (Value.int .i64) TDa1ab, hS⟩
    ·try simp only [BB] at h5
     refine VC_skip (Vn (Vrp (VC_ret (Vr1 (I6 0) ?_))))
     exact ⟨congrArg (Value.int .i64) TDa1ab, hS⟩
   ·refine Vr (Vp 2 (Vand 72 76 6 [] ((((spanB c.peak 1) && (spanB c.early 0)) && (c.whole == 0)) && (c.burst == 0)) (c.least == 0) (fun hg11 J11 => ?_) ?_))
    ·refine Vl 3 ho1 ?_
     exact Vp 6 (Vk [76] J11)
    refine Ve (Vn (Vs (Vs ?_)))
    have hkk := from_kind (c := c) (by assumption)
    have hE : (((((spanB c.peak 1) && (spanB c.early 0)) && (c.whole == 0)) && (c.burst == 0)) && (c.least == 0)) = (rightC c == 0) := right_cbr (by omega)
    refine VqC 4 (Bo (((((spanB c.peak 1) && (spanB c.early 0)) && (c.whole == 0)) && (c.burst == 0)) && (c.least == 0))) (Bo ((rightC c) == 0)) (by rw [hE]) (Vr (Ve (Vn (Vif (!((rightC c) == 0)) (fun h6 => ?_) (fun h6 => ?_)))))
    ·try simp only [BB] at h6
     refine Vrp (VC_ret (VQ_then_ret (Vr1 (I6 11) ?_)))
     exact ⟨congrArg (Value.int .i64) TDa1ab, hS⟩
    ·try simp only [BB] at h6
     refine VC_skip (Vn (Vrp (VC_ret (Vr1 (I6 0) ?_))))
     exact ⟨congrArg (Value.int .i64) TDa1ab, hS⟩

theorem dup_w (n b : Int) (g0 : 0 ≤ n) (g1 : n ≤ 2305843009213693952) (g2 : 1 ≤ b) (w : World) :
  CV Tryz.prog 58 #[I6 n, I6 b] w (fun x w1 => x = I6 (upC n b) ∧ w1 = w) := by
 have hq0 : n.tdiv b = n / b := Int.tdiv_eq_ediv_of_nonneg g0
 have hq1 : n.tmod b = n % b := Int.tmod_eq_emod_of_nonneg g0
 have hq2 : 0 ≤ n / b := Int.ediv_nonneg g0 (by omega)
 have hq3 : n / b ≤ n := Int.ediv_le_self b g0
 refine VCe Tryz.func58 (Vrp (Vs (Vs (Vr (VL_pure 2 [0, 1, 5, 6] [(0, I6 n), (1, I6 b), (5, I6 n), (6, I6 b)] (by kernel_rfl) rfl (VL_rem (d := 7) (k := .i64) (x := n) (y := b) (by kernel_rfl) (by kernel_rfl) (by omega) (Ve (Vn (Vid ((n.tmod b) > 0) (fun h1 => ?_) (fun h1 => ?_))))))))))
 ·refine Vs (Vr (VL_pure 2 [9, 10] [(9, I6 n), (10, I6 b)] (by kernel_rfl) rfl (VL_quo (d := 11) (k := .i64) (x := n) (y := b) (by kernel_rfl) (by kernel_rfl) (by omega) (Ve (Vn (VC_ret (VQ_then_ret (Vr1 (I6 (IntKind.wrap .i64 ((IntKind.wrap .i64 (n.tdiv b)) + 1))) ?_))))))))
  exact ⟨congrArg (Value.int .i64) (by rw [hq1] at h1; rw [upC_at g2, if_pos h1, hq0, wrap_i64 (n / b) (by omega) (by omega), wrap_i64 _ (by omega) (by omega)]), rfl⟩
 ·refine VC_skip (Vn (Vs (Vr (VL_pure 2 [13, 14] [(13, I6 n), (14, I6 b)] (by kernel_rfl) rfl (VL_quo (d := 15) (k := .i64) (x := n) (y := b) (by kernel_rfl) (by kernel_rfl) (by omega) (Ve (Vn (VC_ret (Vr1 (I6 (IntKind.wrap .i64 (n.tdiv b))) ?_)))))))))
  exact ⟨congrArg (Value.int .i64) (by rw [hq1] at h1; rw [upC_at g2, if_neg h1, hq0, wrap_i64 (n / b) (by omega) (by omega)]), rfl⟩

theorem dper_w (s : Int) (w : World) :
  CV Tryz.prog 57 #[I6 s] w (fun x w1 => x = I6 (perC s) ∧ w1 = w) := by
 refine VCe Tryz.func57 (Vrp (Vs (Vrp (Vid (s < 1) (fun h1 => ?_) (fun h1 => ?_)))))
 ·refine Vrp (VC_ret (VQ_then_ret (Vr1 (I6 0) ?_)))
  exact ⟨congrArg (Value.int .i64) (by unfold perC; rw [if_pos h1]), rfl⟩
 ·refine VC_skip (Vn (Vs (Vr (Vc 1 Tryz.call58 ((fun w9 => dup_w 1048576 s (by omega) (by omega) (by omega) w9) w) ?_))))
  rintro _ w1 ⟨rfl, hc1⟩
  subst w1
  refine Ve (Vn (VC_ret (Vr1 (I6 (upC 1048576 s)) ?_)))
  exact ⟨congrArg (Value.int .i64) (per_up h1), rfl⟩

theorem dper_ce (s : Int) : CE Tryz.prog 57 #[.int .i64 s] (.int .i64 (perC s)) := fun w => dper_w s w
theorem dup_ce {c : Con} (h1 : 0 ≤ perC c.whole * 4096 ∧ perC c.whole * 4096 ≤ 4294967296) (h2 : 0 ≤ perC c.peak * c.burst ∧ perC c.peak * c.burst ≤ 1152921504606846976) (h3 : 0 ≤ c.burst ∧ c.burst ≤ 1099511627776) : CE Tryz.prog 58 #[.int .i64 (IntKind.wrap .i64 (IntKind.wrap .i64 (perC c.whole * 4096) + IntKind.wrap .i64 (perC c.peak * c.burst))), .int .i64 (IntKind.wrap .i64 (c.burst + 4096))] (.int .i64 (upC (perC c.whole * 4096 + perC c.peak * c.burst) (c.burst + 4096))) := by
  intro w
  rw [num_eq h1 h2, bur_eq h3]
  exact dup_w _ _ (by omega) (by omega) (by omega) w
theorem dneed_any (c : Con) (w : World) :
  CV Tryz.prog 33 #[.agg #[I6 c.kind, I6 c.peak, I6 c.early, I6 c.whole, I6 c.burst, I6 c.least]] w (fun x w1 => x = I6 (needC c) ∧ Step No w w1) := by
 have hS : Step No w w := Step.refl _ _
 refine VCe Tryz.func33 (Vs (Vr ?_))
 refine Vx 0 32 #[I6 c.kind, I6 c.peak, I6 c.early, I6 c.whole, I6 c.burst, I6 c.least] ?_
 intro b1 w1 hn1
 replace hS := Step.trans hS (hn1.step No)
 have ho1 := hn1.own
 refine Ve (Vn (Vs (Vs (Vr (Vl 0 ho1 ?_)))))
 refine Vc 1 Tryz.call31 (dright_any c _) ?_
 rintro _ w2 ⟨rfl, hc1⟩
 replace hS := Step.trans hS hc1
 replace ho1 := ho1.no hc1
 refine Ve (Vn (Viu (rightC c) 0 (fun h1 => ?_) (fun h1 => ?_)))
 ·refine Vrp (VC_ret (VQ_then_ret (Vr1 (I6 0) ?_)))
  exact ⟨congrArg (Value.int .i64) TDa1aa, hS⟩
 ·refine VC_skip (Vn (Vs (Vs (Vr (Vl 1 ho1 (Ve (Vn (VC_block (Vrp (Vie c.kind 1 (fun h2 => ?_) (fun h2 => ?_)))))))))))
  ·refine Vs (Vr (Vl 1 ho1 ?_))
   refine Vc 2 Tryz.call57 ((dper_ce c.peak) w2) ?_
   rintro _ w3 ⟨rfl, hc2⟩
   subst w3
   refine Ve (Vn (VC_ret (VQ_block_ret (VQ_then_ret (Vr1 (I6 (perC c.peak)) ?_)))))
   exact ⟨congrArg (Value.int .i64) TDa1aa, hS⟩
  ·refine Vrp (Vie c.kind 5 (fun h3 => ?_) (fun h3 => ?_))
   ·refine Vs (Vr (Vl 1 ho1 ?_))
    refine Vc 2 Tryz.call57 ((dper_ce c.least) w2) ?_
    rintro _ w4 ⟨rfl, hc3⟩
    subst w4
    refine Ve (Vn (VC_ret (VQ_block_ret (VQ_then_ret (Vr1 (I6 (perC c.least)) ?_)))))
    exact ⟨congrArg (Value.int .i64) TDa1aa, hS⟩
   ·refine Vs (Vrp (Vie c.kind 6 (fun h4 => ?_) (fun h4 => ?_)))
    ·refine VC_skip (Vn (Vie c.kind 6 (fun h5 => ?_) (fun h5 => ?_)))
     ·refine Vrp (VC_ret (VQ_block_ret (VQ_then_ret (Vr1 (I6 0) ?_))))
      exact ⟨congrArg (Value.int .i64) TDa1aa, hS⟩
     ·refine VC_skip (VQ_block_normal (Vn (Vs ?_)))
      have hr0 : rightC c = 0 := by assumption
      have hk : c.kind = 2 ∨ c.kind = 3 ∨ c.kind = 4 := by omega
      obtain ⟨hn1, hn2, hn3⟩ := vbr_num hr0 hk
      refine Vd 14 [(1, I6 c.whole), (2, I6 (perC c.whole)), (5, I6 c.peak), (6, I6 (perC c.peak)), (8, I6 c.burst), (12, I6 c.burst)] [1, 2, 5, 6, 8, 12] ?_ ?_
      ·intro w5 hs1
       replace ho1 := ho1.no hs1
       exact ⟨Dl ho1, Dc Tryz.call57 ((dper_ce c.whole).no _), Dl ho1, Dc Tryz.call57 ((dper_ce c.peak).no _), Dl ho1, Dl ho1, trivial⟩
      intro w5 hs1
      replace hS := Step.trans hS hs1
      refine VL_keep [31, 34] [(31, I6 (IntKind.wrap .i64 ((IntKind.wrap .i64 ((perC c.whole) * 4096)) + (IntKind.wrap .i64 ((perC c.peak) * c.burst))))), (34, I6 (IntKind.wrap .i64 (c.burst + 4096)))] (by kernel_rfl) ?_
      refine Vc 14 Tryz.call58 ((dup_ce hn1 hn2 hn3) w5) ?_
      rintro _ w6 ⟨rfl, hc4⟩
      subst w6
      refine Ve (Vn (VC_ret (Vr1 (I6 (upC (perC c.whole * 4096 + perC c.peak * c.burst) (c.burst + 4096))) ?_)))
      exact ⟨congrArg (Value.int .i64) TDa1aa, hS⟩
    ·refine Vr (Ve (Vn (Vie c.kind 7 (fun h6 => ?_) (fun h6 => ?_))))
     ·refine Vrp (VC_ret (VQ_block_ret (VQ_then_ret (Vr1 (I6 0) ?_))))
      exact ⟨congrArg (Value.int .i64) TDa1aa, hS⟩
     ·refine VC_skip (VQ_block_normal (Vn (Vs ?_)))
      have hr0 : rightC c = 0 := by assumption
      have hkk := right_pe hr0
      have hk : c.kind = 2 ∨ c.kind = 3 ∨ c.kind = 4 := by omega
      obtain ⟨hn1, hn2, hn3⟩ := vbr_num hr0 hk
      refine Vd 14 [(1, I6 c.whole), (2, I6 (perC c.whole)), (5, I6 c.peak), (6, I6 (perC c.peak)), (8, I6 c.burst), (12, I6 c.burst)] [1, 2, 5, 6, 8, 12] ?_ ?_
      ·intro w7 hs2
       replace ho1 := ho1.no hs2
       exact ⟨Dl ho1, Dc Tryz.call57 ((dper_ce c.whole).no _), Dl ho1, Dc Tryz.call57 ((dper_ce c.peak).no _), Dl ho1, Dl ho1, trivial⟩
      intro w7 hs2
      replace hS := Step.trans hS hs2
      refine VL_keep [31, 34] [(31, I6 (IntKind.wrap .i64 ((IntKind.wrap .i64 ((perC c.whole) * 4096)) + (IntKind.wrap .i64 ((perC c.peak) * c.burst))))), (34, I6 (IntKind.wrap .i64 (c.burst + 4096)))] (by kernel_rfl) ?_
      refine Vc 14 Tryz.call58 ((dup_ce hn1 hn2 hn3) w7) ?_
      rintro _ w8 ⟨rfl, hc5⟩
      subst w8
      refine Ve (Vn (VC_ret (Vr1 (I6 (upC (perC c.whole * 4096 + perC c.peak * c.burst) (c.burst + 4096))) ?_)))
      exact ⟨congrArg (Value.int .i64) TDa1aa, hS⟩

theorem dbnew_any (s e : Int) (w : World) :
  CV Tryz.prog 62 #[I6 s, I6 e] w (fun x w1 => ∃ bk, x = Pt bk 0 ∧ w.heap.size ≤ bk ∧ Own w1 bk #[I6 (bkNew s e).step, I6 (bkNew s e).early, I6 ((bkNew s e).next - 0), I6 0, Bo (bkNew s e).any] 126 ∧ Step No w w1) := by
 have hS : Step No w w := Step.refl _ _
 refine VCe Tryz.func62 (Vrp (Vs (Vr (Vp 1 ?_))))
 refine Vc 1 Tryz.call74 ((dheld_ce s) w) ?_
 rintro _ w1 ⟨rfl, hc1⟩
 subst w1
 refine Vp 4 ?_
 refine Vc 4 Tryz.call74 ((dheld_ce e) w) ?_
 rintro _ w2 ⟨rfl, hc2⟩
 subst w2
 refine Vp 6 ?_
 refine Vx 6 126 #[I6 (imax 1 (clT s)), I6 (clT e), I6 0, I6 0, Bo false] ?_
 intro b1 w3 hn1
 replace hS := Step.trans hS (hn1.step No)
 have ho1 := hn1.own
 have hzhn1 := hn1.size
 have hqhn1 := hn1.eqb
 refine Ve (Vn (VC_ret (Vr1 (Pt b1 0) ?_)))
 exact ⟨b1, rfl, by omega, Own.cast ho1 (by rw [clT_one]; rfl), hS⟩

end Go.Proofs.YthchmlidobgkoaaGreat
end

section
/- The calculus: make of truth values (few, and known how many). -/
set_option linter.unusedVariables false
set_option linter.unusedSimpArgs false
namespace Go.Vc
open Go.RowKit
section
variable {r : Option Nat} {n : Nat} {ds : List Deferred} {P : Program} {ops : Array Oper} {Q : Exit → Act → World → Prop} {l : List (Nat × Value)} {w : World} {i : Nat}
end
end Go.Vc
end

section
/- Layer 20, the document's side: a policer in memory. -/
set_option linter.unusedVariables false
set_option linter.unusedSimpArgs false
namespace Go.Proofs.YthchmlidobgkoaaGreat
open Go.Vc Go.RowKit
/-- A rule, when its bucket last took one, the bucket's block. -/
structure Db where
  r : Rl
  at_ : Int
  p : Nat
abbrev Db.lv (x : Db) : Lv := ⟨x.r.b, x.at_⟩
def Db.take (t : Int) (x : Db) : Db := ⟨takeR t x.r, (x.lv.take t).at_, x.p⟩
def drl (x : Db) : List Value := [.int .i64 x.r.step, .int .i64 x.r.early, .bool x.r.zero, .bool x.r.tag]
def dpt (x : Db) : List Value := [.pointer (some ⟨x.p, 0, none⟩)]
def lvA (x : Lv) : Array Value := #[.int .i64 x.b.step, .int .i64 x.b.early, .int .i64 (x.b.next - x.at_), .int .i64 x.at_, .bool x.b.any]
def DbsW (w : World) (l : List Db) : Prop := ∀ x ∈ l, Own w x.p (lvA x.lv) 126 ∧ LvI x.lv
def DT (w : World) (k : Nat) : Prop := TyB w 96 k ∨ TyB w 100 k ∨ TyB w 97 k ∨ TyB w 126 k
section
variable {w w' : World} {F : Nat → Prop} {l : List Db}
theorem DbsW.step (h : DbsW w l) (hs : Step F w w') (hF : ∀ x ∈ l, ¬ F x.p) : DbsW w' l := fun x hx => ⟨(h x hx).1.step hs (hF x hx), (h x hx).2⟩
theorem DT.lt {k : Nat} (h : DT w k) : k < w.heap.size := by rcases h with h | h | h | h <;> exact h.lt
theorem DT.step {k : Nat} (h : DT w k) (hs : Step F w w') (hF : ¬ F k) : DT w' k := by
  rcases h with h | h | h | h
  · exact .inl (h.step hs hF)
  · exact .inr (.inl (h.step hs hF))
  · exact .inr (.inr (.inl (h.step hs hF)))
  · exact .inr (.inr (.inr (h.step hs hF)))
def dpolA (k : Con) (rb bb n c c' : Nat) (c0 c1 c2 c3 : Int) : Array Value := #[.int .i64 k.kind, .int .i64 k.peak, .int .i64 k.early, .int .i64 k.whole, .int .i64 k.burst, .int .i64 k.least, .slice (some ⟨rb, 0, none⟩) n c, .slice (some ⟨bb, 0, none⟩) n c', .int .i64 c0, .int .i64 c1, .int .i64 c2, .int .i64 c3]
structure DPX (w : World) (pp : Nat) (Y : Nat → Prop) (k : Con) (l : List Db) (rb bb c c' : Nat) (c0 c1 c2 c3 : Int) : Prop where
  own : Own w pp (dpolA k rb bb l.length c c' c0 c1 c2 c3) 96
  row : RowE w rb 100 (flat drl l)
  brow : RowE w bb 97 (flat dpt l)
  bks : DbsW w l
  nodup : (l.map Db.p).Nodup
  inP : Y pp
  inR : Y rb
  inBB : Y bb
  inB : ∀ x ∈ l, Y x.p
  ty : ∀ q, Y q → DT w q
  pos : 0 < l.length
/-- A policer of the document at an address, by its rules. -/
def DPl (w : World) (pp : Nat) (Y : Nat → Prop) (k : Con) (rs : List Rl) : Prop := RlsI rs ∧ rightC k = 0 ∧ ∃ l rb bb c c' c0 c1 c2 c3, rs = l.map Db.r ∧ DPX w pp Y k l rb bb c c' c0 c1 c2 c3
theorem DPX.step {pp : Nat} {Y : Nat → Prop} {k : Con} {rb bb c c' : Nat} {c0 c1 c2 c3 : Int} (h : DPX w pp Y k l rb bb c c' c0 c1 c2 c3) (hs : Step F w w') (hF : ∀ q, Y q → ¬ F q) : DPX w' pp Y k l rb bb c c' c0 c1 c2 c3 :=
  ⟨h.own.step hs (hF _ h.inP), h.row.step hs (hF _ h.inR), h.brow.step hs (hF _ h.inBB), h.bks.step hs fun x hx => hF _ (h.inB x hx), h.nodup, h.inP, h.inR, h.inBB, h.inB, fun q hq => (h.ty q hq).step hs (hF q hq), h.pos⟩
theorem DPl.step {pp : Nat} {Y : Nat → Prop} {k : Con} {rs : List Rl} (h : DPl w pp Y k rs) (hs : Step F w w') (hF : ∀ q, Y q → ¬ F q) : DPl w' pp Y k rs := by
  obtain ⟨h0, hk, l, rb, bb, c, c', c0, c1, c2, c3, h1, h2⟩ := h
  exact ⟨h0, hk, l, rb, bb, c, c', c0, c1, c2, c3, h1, h2.step hs hF⟩
theorem DPl.no {pp : Nat} {Y : Nat → Prop} {k : Con} {rs : List Rl} (h : DPl w pp Y k rs) (hs : Step No w w') : DPl w' pp Y k rs := h.step hs fun _ _ => id
theorem DPl.inP {pp : Nat} {Y : Nat → Prop} {k : Con} {rs : List Rl} (h : DPl w pp Y k rs) : Y pp := by obtain ⟨h0, hk, l, rb, bb, c, c', c0, c1, c2, c3, h1, h2⟩ := h; exact h2.inP
theorem DPl.ty {pp : Nat} {Y : Nat → Prop} {k : Con} {rs : List Rl} (h : DPl w pp Y k rs) {q : Nat} (hq : Y q) : DT w q := by obtain ⟨h0, hk, l, rb, bb, c, c', c0, c1, c2, c3, h1, h2⟩ := h; exact h2.ty q hq
theorem DPl.lt {pp : Nat} {Y : Nat → Prop} {k : Con} {rs : List Rl} (h : DPl w pp Y k rs) : pp < w.heap.size := (h.ty h.inP).lt
end
end Go.Proofs.YthchmlidobgkoaaGreat
end

section
/- The calculus: rows of truth values. -/
set_option linter.unusedVariables false
set_option linter.unusedSimpArgs false
namespace Go.Vc
open Go.RowKit
section
variable {P : Program} {w w' : World} {base n c : Nat} {e : TypeId} {A : Option Addr} {bs : List Bool}
end
end Go.Vc
end

section
/- Layer 20: the document's verdict. -/
set_option linter.unusedVariables false
set_option linter.unusedSimpArgs false
set_option maxRecDepth 100000
set_option maxHeartbeats 4000000
namespace Go.Proofs.YthchmlidobgkoaaGreat
open Go.Vc Go.RowKit
end Go.Proofs.YthchmlidobgkoaaGreat
end

section
/- Layer 20: a cell is policed, by the document. -/
set_option linter.unusedVariables false
set_option linter.unusedSimpArgs false
set_option maxRecDepth 100000
set_option maxHeartbeats 4000000
namespace Go.Proofs.YthchmlidobgkoaaGreat
open Go.Vc Go.RowKit
theorem tyb_ne {w : World} {a b : Nat} {T U : TypeId} (ha : TyB w T a) (hb : TyB w U b) (hne : T ≠ U) : a ≠ b := by
  rintro rfl
  obtain ⟨c, f, h⟩ := ha
  obtain ⟨c', f', h'⟩ := hb
  rw [h] at h'
  simp only [Option.some.injEq, Obj.cells.injEq] at h'
  exact hne h'.2.1
/-- The first n are done: those that are to take have taken. -/
def fD (t : Int) (bs : List Bool) (n j : Nat) (x : Db) : Db := if j < n ∧ bs.getD j false = true then x.take t else x
def PW (w : World) (l : List Db) (f : Nat → Db → Db) : Prop := ∀ j x, l[j]? = some x → Own w x.p (lvA (f j x).lv) 126 ∧ LvI (f j x).lv
theorem Db.take_lv (x : Db) (t : Int) : (x.take t).lv = x.lv.take t := by
  have := Lv.take_b x.lv t
  unfold Db.take Db.lv at *
  simp only at this ⊢
  show (⟨takeB x.r.b t, _⟩ : Lv) = _
  rw [← this]
theorem PW.zero {w : World} {l : List Db} {t : Int} {bs : List Bool} (h : DbsW w l) : PW w l (fD t bs 0) := fun j x hx => by
  have := h x (List.mem_of_getElem? hx)
  unfold fD; rw [if_neg (by omega)]; exact this
theorem PW.step {w w' : World} {l : List Db} {f : Nat → Db → Db} {F : Nat → Prop} (h : PW w l f) (hs : Step F w w') (hF : ∀ x ∈ l, ¬ F x.p) : PW w' l f := fun j x hx => ⟨(h j x hx).1.step hs (hF x (List.mem_of_getElem? hx)), (h j x hx).2⟩
theorem PW.at {w : World} {l : List Db} {t : Int} {bs : List Bool} {i : Nat} {y : Db} (h : PW w l (fD t bs i)) (hy : l[i]? = some y) : Own w y.p (lvA y.lv) 126 ∧ LvI y.lv := by
  have := h i y hy
  unfold fD at this; rw [if_neg (by omega)] at this; exact this
theorem PW.take {w w1 : World} {l : List Db} {t : Int} {bs : List Bool} {i : Nat} {y : Db} (h : PW w l (fD t bs i)) (hnd : (l.map Db.p).Nodup) (hy : l[i]? = some y) (hb : bs.getD i false = true) (ho : Own w1 y.p (lvA (y.lv.take t)) 126) (hs : Step (Just y.p) w w1) : PW w1 l (fD t bs (i + 1)) := by
  intro j x hx
  by_cases e : j = i
  · subst e; rw [hy] at hx; cases hx
    unfold fD; rw [if_pos ⟨by omega, hb⟩, Db.take_lv]
    exact ⟨ho, (h.at hy).2.take t⟩
  · have h1 := h j x hx
    have he : fD t bs (i + 1) j x = fD t bs i j x := by
      unfold fD
      by_cases h2 : j < i
      · simp only [h2, show j < i + 1 by omega]
      · rw [if_neg (by omega), if_neg (by omega)]
    rw [he]
    refine ⟨h1.1.step hs ?_, h1.2⟩
    intro hF
    have hF : x.p = y.p := hF
    have hj : j < l.length := (List.getElem?_eq_some_iff.1 hx).1
    have hi : i < l.length := (List.getElem?_eq_some_iff.1 hy).1
    have hpw := List.pairwise_iff_getElem.1 hnd
    rcases Nat.lt_or_gt_of_ne e with h9 | h9
    · have := hpw j i (by simpa using hj) (by simpa using hi) h9
      rw [List.getElem_map, List.getElem_map, (List.getElem?_eq_some_iff.1 hx).2, (List.getElem?_eq_some_iff.1 hy).2] at this
      exact this hF
    · have := hpw i j (by simpa using hi) (by simpa using hj) h9
      rw [List.getElem_map, List.getElem_map, (List.getElem?_eq_some_iff.1 hx).2, (List.getElem?_eq_some_iff.1 hy).2] at this
      exact this hF.symm
theorem PW.skip {w : World} {l : List Db} {t : Int} {bs : List Bool} {i : Nat} (h : PW w l (fD t bs i)) (hb : bs.getD i false = false) : PW w l (fD t bs (i + 1)) := by
  intro j x hx
  have h1 := h j x hx
  have he : fD t bs (i + 1) j x = fD t bs i j x := by
    unfold fD
    by_cases e : j = i
    · subst e; rw [if_neg (by rintro ⟨_, h9⟩; rw [hb] at h9; cases h9), if_neg (by omega)]
    · by_cases h2 : j < i
      · simp only [h2, show j < i + 1 by omega]
      · rw [if_neg (by omega), if_neg (by omega)]
  rw [he]; exact h1
end Go.Proofs.YthchmlidobgkoaaGreat
end

section
/- Layer 20: new policers, by the document. -/
set_option linter.unusedVariables false
set_option linter.unusedSimpArgs false
set_option maxRecDepth 100000
set_option maxHeartbeats 4000000
namespace Go.Proofs.YthchmlidobgkoaaGreat
open Go.Vc Go.RowKit
theorem TDa6aa {P : Prop} (h : P := by intro i hi; first | exact hi.elim | exact .inl hi | ((try simp only at hi ⊢); omega)) : P := h
theorem TDa6ab {P : Prop} (h : P := by simp only [flat_append, flat_one, List.append_assoc, List.nil_append, List.append_nil, show flat dpp [] = [] from rfl]) : P := h
theorem TDa6ac {P : Prop} (h : P := by simp only [flat_append, flat_one, List.append_assoc, List.nil_append, List.append_nil, show flat r4 [] = [] from rfl]) : P := h
theorem TDa6ad {P : Prop} (h : P := by first | exact Nat.le_refl _ | omega) : P := h
theorem TDa6ae {P : Prop} (h : P := by first | rfl | simp [flat]) : P := h
theorem TDa6af {P : Prop} (h : P := by simp only [maxLen]; omega) : P := h

def dpp (p : Nat) : List Value := [.pointer (some ⟨p, 0, none⟩)]
theorem dpp_len (p : Nat) : (dpp p).length = 1 := rfl
theorem dpp_one (p : Nat) : ∀ u ∈ dpp p, oneC u = true := by
  intro u hu
  simp only [dpp, List.mem_cons, List.not_mem_nil, or_false] at hu
  subst hu; rfl
theorem dpl_mk {w w1 : World} {p base base2 c c' : Nat} {A B : Option Addr} {k : Con} {l : List Db} {rs : List Rl} (hk : rightC k = 0) (hl : rs = l.map Db.r) (hI : RlsI rs) (h0 : 0 < l.length) (ho : Own w1 p #[.int .i64 k.kind, .int .i64 k.peak, .int .i64 k.early, .int .i64 k.whole, .int .i64 k.burst, .int .i64 k.least, .slice A l.length c, .slice B l.length c', .int .i64 0, .int .i64 0, .int .i64 0, .int .i64 0] 96)
    (hr : RwS w1 4 base 100 A l.length c (flat drl l)) (hb : RwS w1 1 base2 97 B l.length c' (flat dpt l)) (hw : DbsW w1 l) (hnd : (l.map Db.p).Nodup) (hp : w.heap.size ≤ p) (hbase : w.heap.size ≤ base) (hbase2 : w.heap.size ≤ base2) (hq : ∀ x ∈ l, w.heap.size ≤ x.p) : ∃ Y : Nat → Prop, (∀ k, Y k → w.heap.size ≤ k) ∧ DPl w1 p Y k rs := by
  obtain ⟨rb, rfl, h1, hrow⟩ := RowE.of_rw hr h0
  obtain ⟨bb, rfl, h2, hrow2⟩ := RowE.of_rw hb h0
  refine ⟨fun k => k = p ∨ k = rb ∨ k = bb ∨ ∃ x ∈ l, k = x.p, ?_, hI, hk, l, rb, bb, c, c', 0, 0, 0, 0, hl, ⟨ho, hrow, hrow2, hw, hnd, .inl rfl, .inr (.inl rfl), .inr (.inr (.inl rfl)), fun x hx => .inr (.inr (.inr ⟨x, hx, rfl⟩)), ?_, h0⟩⟩
  · rintro k (rfl | rfl | rfl | ⟨x, hx, rfl⟩)
    · exact hp
    · omega
    · omega
    · exact hq x hx
  · rintro k (rfl | rfl | rfl | ⟨x, hx, rfl⟩)
    · exact .inl ho.tyB
    · exact .inr (.inl hrow.ty)
    · exact .inr (.inr (.inl hrow2.ty))
    · exact .inr (.inr (.inr (hw x hx).1.tyB))
theorem drules_v1_any (c : Con) (hr : rightC c = 0) (hk : c.kind = 2) (w : World) :
  CV Tryz.prog 61 #[.agg #[I6 c.kind, I6 c.peak, I6 c.early, I6 c.whole, I6 c.burst, I6 c.least]] w (fun x w1 => ∃ A n cc, x = .slice A n cc ∧ (rulesC c).length = n ∧ RwS w1 4 w.heap.size 100 A n cc (flat r4 (rulesC c)) ∧ Step No w w1) := by
 have hS : Step No w w := Step.refl _ _
 refine VCe Tryz.func61 (Vs (Vr ?_))
 refine Vx 0 32 #[I6 c.kind, I6 c.peak, I6 c.early, I6 c.whole, I6 c.burst, I6 c.least] ?_
 intro b1 w1 hn1
 replace hS := Step.trans hS (hn1.step No)
 have ho1 := hn1.own
 have hzhn1 := hn1.size
 have hqhn1 := hn1.eqb
 refine Ve (Vn (Vs (Vs (Vr (Vl 0 ho1 ?_)))))
 refine Vc 1 Tryz.call31 ((dright_any c _).mono (fun x w1 h9 => ⟨h9.1.trans (by rw [hr]), h9.2⟩ : ∀ x w1, _ → x = I6 0 ∧ Step No _ w1)) ?_
 rintro _ w2 ⟨rfl, hc1⟩
 replace hS := Step.trans hS hc1
 replace ho1 := ho1.no hc1
 refine Ve (Vn (Vf (VC_skip (Vn (Vs (Vr (Vl 1 ho1 (Vl 3 ho1 (Vp 5 ?_)))))))))
 have hzl2 := ho1.lt
 refine VL_bs (d := 12) (e := 100) (c := #[I6 c.peak, I6 c.early, Bo false, Bo false]) (len := 1) (by kernel_rfl) (by kernel_rfl) ?_
 intro b2 w3 hn2
 replace hS := Step.trans hS (hn2.step No)
 replace ho1 := ho1.no (hn2.step No)
 have ho2 := hn2.own
 have hzhn2 := hn2.size
 have hqhn2 := hn2.eqb
 refine Ve (Vn (Vs (Vs (Vr (Vl 1 ho1 (Ve (Vn (VC_block (Vrp (Vit (b := c.kind == 2) (by rw [hk]; rfl) (Vr (Vl 2 ho1 (Vl 4 ho1 (Vl 6 ho1 (Vp 8 (Vq 24 (I6 (IntKind.wrap .i64 (c.burst + c.early))) (I6 (c.burst + c.early)) (by rw [bur_early hr (by omega)]) (Vp 9 ?_)))))))))))))))))
 refine VL_bs (d := 26) (e := 100) (c := #[I6 c.whole, I6 (c.burst + c.early), Bo false, Bo false]) (len := 1) (by kernel_rfl) (by kernel_rfl) ?_
 intro b3 w4 hn3
 replace hS := Step.trans hS (hn3.step No)
 replace ho2 := ho2.no (hn3.step No)
 have ho3 := hn3.own
 have hzhn3 := hn3.size
 have hqhn3 := hn3.eqb
 have hbase1 := Nat.le_of_lt ho2.lt
 have hrowhbase1 := RwS.cast (ys := flat r4 [(rlNew c.peak c.early false false)]) (RwS.of_new (n := 1) (sz := 4) (base := b2) ho2 (Nat.le_refl _) (by simp [maxLen]) (by rfl)) rfl (by rfl)
 refine VL_appendZ (d := 27) (e := 100) (A := (some ⟨b2, 0, none⟩)) (m := 1) (c := 1) (A2 := (some ⟨b3, 0, none⟩)) (m2 := 1) (c2 := 1) (sz := 4) (bytes := 24) (by kernel_rfl) (by kernel_rfl) (by kernel_rfl) b2 w4.heap.size (flat r4 ([(rlNew c.peak c.early false false)])) (flat r4 [(rlNew c.whole (c.burst + c.early) false false)]) hrowhbase1 (by rw [flat_one, r4_len]) (Sl.mono (Sl.cast (Own.sl ho3 ho3.lt) TDa6ae) TDa6ad) (flat_one' r4_one _) 2 (by omega) TDa6af (by omega) (by omega) ?_
 intro A1 c1 w5 hr1 hg1
 replace hr1 : RwS w5 4 b2 100 A1 2 c1 (flat r4 (([(rlNew c.peak c.early false false)]) ++ ([(rlNew c.whole (c.burst + c.early) false false)]))) := RwS.cast hr1 rfl TDa6ac
 replace hg1 := Step.mono (G := fun k => k = b2) hg1 (fun i hi => by obtain ⟨a9, ha9, hi9⟩ := hi; cases ha9; exact hi9.symm)
 replace hS := Step.transNew hS hg1 (fun i hi hG => by (try simp only at hG); omega)
 refine Ve (VQ_block_normal (Vn (Vrp (VC_ret (Vr1 (.slice A1 2 c1) ?_)))))
 have hR := rules_v1 hr (by assumption)
 rw [← hR]
 exact ⟨A1, _, _, rfl, rfl, RwS.low (RwS.cast hr1 rfl (by rfl)) (by omega), hS⟩

theorem drules_v2_any (c : Con) (hr : rightC c = 0) (hk : c.kind = 3) (w : World) :
  CV Tryz.prog 61 #[.agg #[I6 c.kind, I6 c.peak, I6 c.early, I6 c.whole, I6 c.burst, I6 c.least]] w (fun x w1 => ∃ A n cc, x = .slice A n cc ∧ (rulesC c).length = n ∧ RwS w1 4 w.heap.size 100 A n cc (flat r4 (rulesC c)) ∧ Step No w w1) := by
 have hS : Step No w w := Step.refl _ _
 refine VCe Tryz.func61 (Vs (Vr ?_))
 refine Vx 0 32 #[I6 c.kind, I6 c.peak, I6 c.early, I6 c.whole, I6 c.burst, I6 c.least] ?_
 intro b1 w1 hn1
 replace hS := Step.trans hS (hn1.step No)
 have ho1 := hn1.own
 have hzhn1 := hn1.size
 have hqhn1 := hn1.eqb
 refine Ve (Vn (Vs (Vs (Vr (Vl 0 ho1 ?_)))))
 refine Vc 1 Tryz.call31 ((dright_any c _).mono (fun x w1 h9 => ⟨h9.1.trans (by rw [hr]), h9.2⟩ : ∀ x w1, _ → x = I6 0 ∧ Step No _ w1)) ?_
 rintro _ w2 ⟨rfl, hc1⟩
 replace hS := Step.trans hS hc1
 replace ho1 := ho1.no hc1
 refine Ve (Vn (Vf (VC_skip (Vn (Vs (Vr (Vl 1 ho1 (Vl 3 ho1 (Vp 5 ?_)))))))))
 have hzl2 := ho1.lt
 refine VL_bs (d := 12) (e := 100) (c := #[I6 c.peak, I6 c.early, Bo false, Bo false]) (len := 1) (by kernel_rfl) (by kernel_rfl) ?_
 intro b2 w3 hn2
 replace hS := Step.trans hS (hn2.step No)
 replace ho1 := ho1.no (hn2.step No)
 have ho2 := hn2.own
 have hzhn2 := hn2.size
 have hqhn2 := hn2.eqb
 refine Ve (Vn (Vs (Vs (Vr (Vl 1 ho1 (Ve (Vn (VC_block (Vrp (Viz (b := c.kind == 2) (by rw [hk]; rfl) (Vrp (Vit (b := c.kind == 3) (by rw [hk]; rfl) (Vr (Vl 2 ho1 (Vl 4 ho1 (Vl 6 ho1 (Vp 8 (Vq 37 (I6 (IntKind.wrap .i64 (c.burst + c.early))) (I6 (c.burst + c.early)) (by rw [bur_early hr (by omega)]) ?_))))))))))))))))))
 refine Vp 9 ?_
 refine VL_bs (d := 39) (e := 100) (c := #[I6 c.whole, I6 (c.burst + c.early), Bo true, Bo false]) (len := 1) (by kernel_rfl) (by kernel_rfl) ?_
 intro b3 w4 hn3
 replace hS := Step.trans hS (hn3.step No)
 replace ho2 := ho2.no (hn3.step No)
 have ho3 := hn3.own
 have hzhn3 := hn3.size
 have hqhn3 := hn3.eqb
 have hbase1 := Nat.le_of_lt ho2.lt
 have hrowhbase1 := RwS.cast (ys := flat r4 [(rlNew c.peak c.early false false)]) (RwS.of_new (n := 1) (sz := 4) (base := b2) ho2 (Nat.le_refl _) (by simp [maxLen]) (by rfl)) rfl (by rfl)
 refine VL_appendZ (d := 40) (e := 100) (A := (some ⟨b2, 0, none⟩)) (m := 1) (c := 1) (A2 := (some ⟨b3, 0, none⟩)) (m2 := 1) (c2 := 1) (sz := 4) (bytes := 24) (by kernel_rfl) (by kernel_rfl) (by kernel_rfl) b2 w4.heap.size (flat r4 ([(rlNew c.peak c.early false false)])) (flat r4 [(rlNew c.whole (c.burst + c.early) true false)]) hrowhbase1 (by rw [flat_one, r4_len]) (Sl.mono (Sl.cast (Own.sl ho3 ho3.lt) TDa6ae) TDa6ad) (flat_one' r4_one _) 2 (by omega) TDa6af (by omega) (by omega) ?_
 intro A1 c1 w5 hr1 hg1
 replace hr1 : RwS w5 4 b2 100 A1 2 c1 (flat r4 (([(rlNew c.peak c.early false false)]) ++ ([(rlNew c.whole (c.burst + c.early) true false)]))) := RwS.cast hr1 rfl TDa6ac
 replace hg1 := Step.mono (G := fun k => k = b2) hg1 (fun i hi => by obtain ⟨a9, ha9, hi9⟩ := hi; cases ha9; exact hi9.symm)
 replace hS := Step.transNew hS hg1 (fun i hi hG => by (try simp only at hG); omega)
 refine Ve (VQ_block_normal (Vn (Vrp (VC_ret (Vr1 (.slice A1 2 c1) ?_)))))
 have hR := rules_v2 hr (by assumption)
 rw [← hR]
 exact ⟨A1, _, _, rfl, rfl, RwS.low (RwS.cast hr1 rfl (by rfl)) (by omega), hS⟩

theorem drules_v3_any (c : Con) (hr : rightC c = 0) (hk : c.kind = 4) (w : World) :
  CV Tryz.prog 61 #[.agg #[I6 c.kind, I6 c.peak, I6 c.early, I6 c.whole, I6 c.burst, I6 c.least]] w (fun x w1 => ∃ A n cc, x = .slice A n cc ∧ (rulesC c).length = n ∧ RwS w1 4 w.heap.size 100 A n cc (flat r4 (rulesC c)) ∧ Step No w w1) := by
 have hS : Step No w w := Step.refl _ _
 refine VCe Tryz.func61 (Vs (Vr ?_))
 refine Vx 0 32 #[I6 c.kind, I6 c.peak, I6 c.early, I6 c.whole, I6 c.burst, I6 c.least] ?_
 intro b1 w1 hn1
 replace hS := Step.trans hS (hn1.step No)
 have ho1 := hn1.own
 have hzhn1 := hn1.size
 have hqhn1 := hn1.eqb
 refine Ve (Vn (Vs (Vs (Vr (Vl 0 ho1 ?_)))))
 refine Vc 1 Tryz.call31 ((dright_any c _).mono (fun x w1 h9 => ⟨h9.1.trans (by rw [hr]), h9.2⟩ : ∀ x w1, _ → x = I6 0 ∧ Step No _ w1)) ?_
 rintro _ w2 ⟨rfl, hc1⟩
 replace hS := Step.trans hS hc1
 replace ho1 := ho1.no hc1
 refine Ve (Vn (Vf (VC_skip (Vn (Vs (Vr (Vl 1 ho1 (Vl 3 ho1 (Vp 5 ?_)))))))))
 have hzl2 := ho1.lt
 refine VL_bs (d := 12) (e := 100) (c := #[I6 c.peak, I6 c.early, Bo false, Bo false]) (len := 1) (by kernel_rfl) (by kernel_rfl) ?_
 intro b2 w3 hn2
 replace hS := Step.trans hS (hn2.step No)
 replace ho1 := ho1.no (hn2.step No)
 have ho2 := hn2.own
 have hzhn2 := hn2.size
 have hqhn2 := hn2.eqb
 refine Ve (Vn (Vs (Vs (Vr (Vl 1 ho1 (Ve (Vn (VC_block (Vrp (Viz (b := c.kind == 2) (by rw [hk]; rfl) (Vrp (Viz (b := c.kind == 3) (by rw [hk]; rfl) (Vrp (Vit (b := c.kind == 4) (by rw [hk]; rfl) (Vr ?_)))))))))))))))
 refine Vl 2 ho1 (Vl 4 ho1 (Vl 6 ho1 (Vp 8 (Vq 50 (I6 (IntKind.wrap .i64 (c.burst + c.early))) (I6 (c.burst + c.early)) (by rw [bur_early hr (by omega)]) (Vp 9 ?_)))))
 refine VL_bs (d := 52) (e := 100) (c := #[I6 c.whole, I6 (c.burst + c.early), Bo true, Bo true]) (len := 1) (by kernel_rfl) (by kernel_rfl) ?_
 intro b3 w4 hn3
 replace hS := Step.trans hS (hn3.step No)
 replace ho2 := ho2.no (hn3.step No)
 have ho3 := hn3.own
 have hzhn3 := hn3.size
 have hqhn3 := hn3.eqb
 have hbase1 := Nat.le_of_lt ho2.lt
 have hrowhbase1 := RwS.cast (ys := flat r4 [(rlNew c.peak c.early false false)]) (RwS.of_new (n := 1) (sz := 4) (base := b2) ho2 (Nat.le_refl _) (by simp [maxLen]) (by rfl)) rfl (by rfl)
 refine VL_appendZ (d := 53) (e := 100) (A := (some ⟨b2, 0, none⟩)) (m := 1) (c := 1) (A2 := (some ⟨b3, 0, none⟩)) (m2 := 1) (c2 := 1) (sz := 4) (bytes := 24) (by kernel_rfl) (by kernel_rfl) (by kernel_rfl) b2 w4.heap.size (flat r4 ([(rlNew c.peak c.early false false)])) (flat r4 [(rlNew c.whole (c.burst + c.early) true true)]) hrowhbase1 (by rw [flat_one, r4_len]) (Sl.mono (Sl.cast (Own.sl ho3 ho3.lt) TDa6ae) TDa6ad) (flat_one' r4_one _) 2 (by omega) TDa6af (by omega) (by omega) ?_
 intro A1 c1 w5 hr1 hg1
 replace hr1 : RwS w5 4 b2 100 A1 2 c1 (flat r4 (([(rlNew c.peak c.early false false)]) ++ ([(rlNew c.whole (c.burst + c.early) true true)]))) := RwS.cast hr1 rfl TDa6ac
 replace hg1 := Step.mono (G := fun k => k = b2) hg1 (fun i hi => by obtain ⟨a9, ha9, hi9⟩ := hi; cases ha9; exact hi9.symm)
 replace hS := Step.transNew hS hg1 (fun i hi hG => by (try simp only at hG); omega)
 refine Ve (VQ_block_normal (Vn (Vrp (VC_ret (Vr1 (.slice A1 2 c1) ?_)))))
 have hR := rules_v3 hr (by assumption)
 rw [← hR]
 exact ⟨A1, _, _, rfl, rfl, RwS.low (RwS.cast hr1 rfl (by rfl)) (by omega), hS⟩

theorem drules_v0_any (c : Con) (hr : rightC c = 0) (h2 : ¬ c.kind = 2) (h3 : ¬ c.kind = 3) (h4 : ¬ c.kind = 4) (w : World) :
  CV Tryz.prog 61 #[.agg #[I6 c.kind, I6 c.peak, I6 c.early, I6 c.whole, I6 c.burst, I6 c.least]] w (fun x w1 => ∃ A n cc, x = .slice A n cc ∧ (rulesC c).length = n ∧ RwS w1 4 w.heap.size 100 A n cc (flat r4 (rulesC c)) ∧ Step No w w1) := by
 have hS : Step No w w := Step.refl _ _
 refine VCe Tryz.func61 (Vs (Vr ?_))
 refine Vx 0 32 #[I6 c.kind, I6 c.peak, I6 c.early, I6 c.whole, I6 c.burst, I6 c.least] ?_
 intro b1 w1 hn1
 replace hS := Step.trans hS (hn1.step No)
 have ho1 := hn1.own
 have hzhn1 := hn1.size
 have hqhn1 := hn1.eqb
 refine Ve (Vn (Vs (Vs (Vr (Vl 0 ho1 ?_)))))
 refine Vc 1 Tryz.call31 ((dright_any c _).mono (fun x w1 h9 => ⟨h9.1.trans (by rw [hr]), h9.2⟩ : ∀ x w1, _ → x = I6 0 ∧ Step No _ w1)) ?_
 rintro _ w2 ⟨rfl, hc1⟩
 replace hS := Step.trans hS hc1
 replace ho1 := ho1.no hc1
 refine Ve (Vn (Vf (VC_skip (Vn (Vs (Vr (Vl 1 ho1 (Vl 3 ho1 (Vp 5 ?_)))))))))
 have hzl2 := ho1.lt
 refine VL_bs (d := 12) (e := 100) (c := #[I6 c.peak, I6 c.early, Bo false, Bo false]) (len := 1) (by kernel_rfl) (by kernel_rfl) ?_
 intro b2 w3 hn2
 replace hS := Step.trans hS (hn2.step No)
 replace ho1 := ho1.no (hn2.step No)
 have ho2 := hn2.own
 have hzhn2 := hn2.size
 have hqhn2 := hn2.eqb
 refine Ve (Vn (Vs (Vs (Vr (Vl 1 ho1 (Ve (Vn (VC_block (Vrp (Viz (b := c.kind == 2) (beq_eq_false_iff_ne.2 (by assumption)) (Vrp (Viz (b := c.kind == 3) (beq_eq_false_iff_ne.2 (by assumption)) (Vrp (Viz (b := c.kind == 4) (beq_eq_false_iff_ne.2 (by assumption)) (VC_skip ?_)))))))))))))))
 refine VQ_block_normal (Vn (Vrp (VC_ret (Vr1 (.slice (some ⟨b2, 0, none⟩) 1 1) ?_))))
 have hR := rules_one hr (by assumption) (by assumption) (by assumption)
 rw [← hR]
 exact ⟨_, _, _, rfl, rfl, RwS.cast (RwS.of_new (n := 1) (sz := 4) (base := w.heap.size) ho2 (by omega) (by simp [maxLen]) (by rfl)) rfl (by rfl), hS⟩

theorem drules_any (c : Con) (hr : rightC c = 0) (w : World) : CV Tryz.prog 61 #[.agg #[.int .i64 c.kind, .int .i64 c.peak, .int .i64 c.early, .int .i64 c.whole, .int .i64 c.burst, .int .i64 c.least]] w (fun x w1 => ∃ A n cc, x = .slice A n cc ∧ (rulesC c).length = n ∧ RwS w1 4 w.heap.size 100 A n cc (flat r4 (rulesC c)) ∧ Step No w w1) := by
  by_cases h2 : c.kind = 2
  · exact drules_v1_any c hr h2 w
  · by_cases h3 : c.kind = 3
    · exact drules_v2_any c hr h3 w
    · by_cases h4 : c.kind = 4
      · exact drules_v3_any c hr h4 w
      · exact drules_v0_any c hr h2 h3 h4 w
theorem drules_l1 {c : Con} (hr : rightC c = 0) (s1 e1 : Int) (z1 t1 : Bool) (hR : rulesC c = [(rlNew s1 e1 z1 t1)]) (w : World) : CV Tryz.prog 61 #[.agg #[.int .i64 c.kind, .int .i64 c.peak, .int .i64 c.early, .int .i64 c.whole, .int .i64 c.burst, .int .i64 c.least]] w fun x w1 => ∃ A cc, x = .slice A 1 cc ∧ RwS w1 4 w.heap.size 100 A 1 cc (flat r4 [(rlNew s1 e1 z1 t1)]) ∧ Step No w w1 := by
  refine (drules_any c hr w).mono ?_
  rintro x w1 ⟨A, n, cc, rfl, hn, hrw, hs⟩
  rw [hR] at hn hrw
  subst hn
  exact ⟨A, cc, rfl, hrw, hs⟩
theorem dpnew_1 (c : Con) (hr : rightC c = 0) (s1 e1 : Int) (z1 t1 : Bool) (hR : rulesC c = [(rlNew s1 e1 z1 t1)]) (w : World) :
  CV Tryz.prog 39 #[.agg #[I6 c.kind, I6 c.peak, I6 c.early, I6 c.whole, I6 c.burst, I6 c.least]] w (fun x w1 => ∃ pp Y, x = Pt pp 0 ∧ (∀ k, Y k → w.heap.size ≤ k) ∧ DPl w1 pp Y c (rulesC c) ∧ Step No w w1) := by
 have hS : Step No w w := Step.refl _ _
 refine VCe Tryz.func39 (Vs (Vr ?_))
 refine Vx 0 32 #[I6 c.kind, I6 c.peak, I6 c.early, I6 c.whole, I6 c.burst, I6 c.least] ?_
 intro b1 w1 hn1
 replace hS := Step.trans hS (hn1.step No)
 have ho1 := hn1.own
 have hzhn1 := hn1.size
 have hqhn1 := hn1.eqb
 refine Ve (Vn (Vs (Vs (Vr (Vl 0 ho1 ?_)))))
 refine Vc 1 Tryz.call31 ((dright_any c _).mono (fun x w1 h9 => ⟨h9.1.trans (by rw [hr]), h9.2⟩ : ∀ x w1, _ → x = I6 0 ∧ Step No _ w1)) ?_
 rintro _ w2 ⟨rfl, hc1⟩
 replace hS := Step.trans hS hc1
 replace ho1 := ho1.no hc1
 refine Ve (Vn (Vf (VC_skip (Vn (Vs ?_)))))
 have hs1 := drew_step w2
 have hs1z : w2.heap.size = w2.drew.heap.size := rfl
 refine Tx 3 (fun k => w2.heap.size ≤ k) [2] [0, 1, 2] ?_
 have hzl2 := ho1.lt
 generalize w2.drew = w3 at hs1 hs1z ⊢
 replace hS := Step.trans hS hs1
 replace ho1 := ho1.no hs1
 refine Tl (fun w4 hr1 => ho1.step hr1 (by (try simp only); omega)) (Tl (fun w5 hr2 => ho1.step hr2 (by (try simp only); omega)) (Th ?_))
 intro w6 hs2
 replace hS := Step.trans hS hs2
 replace ho1 := ho1.no hs2
 have hzl3 := ho1.lt
 refine Tc Tryz.call61 (drules_l1 hr s1 e1 z1 t1 hR _) ?_ ?_
 ·rintro _ w7 ⟨AR, ccR, rfl, hrR, hc2⟩
  exact Step.mono hc2 TDa6aa
 rintro _ w7 ⟨AR, ccR, rfl, hrR, hc2⟩
 replace hS := Step.trans hS hc2
 replace ho1 := ho1.no hc2
 obtain ⟨lo9, hlo9E⟩ : ∃ x, x = w6.heap.size := ⟨_, rfl⟩
 rw [← hlo9E] at hrR
 obtain ⟨hi9, hhi9E⟩ : ∃ x, x = w7.heap.size := ⟨_, rfl⟩
 have hubR := RwS.ub hrR
 rw [← hhi9E] at hubR
 have hhi9 : hi9 ≤ w7.heap.size := by omega
 refine VT_end ?_
 intro w8 hs3
 replace hS := Step.trans hS hs3
 replace ho1 := ho1.no hs3
 replace hrR := hrR.no hs3
 replace hhi9 := Nat.le_trans hhi9 (hs3).size
 refine Vp 4 ?_
 have hzl4 := ho1.lt
 have hzk2 := hhi9
 refine Vx 4 96 #[I6 c.kind, I6 c.peak, I6 c.early, I6 c.whole, I6 c.burst, I6 c.least, .slice AR 1 ccR, .slice none 0 0, I6 0, I6 0, I6 0, I6 0] ?_
 intro b2 w9 hn2
 replace hS := Step.trans hS (hn2.step No)
 replace ho1 := ho1.no (hn2.step No)
 replace hrR := hrR.no (hn2.step No)
 have ho2 := hn2.own
 have hzhn2 := hn2.size
 have hqhn2 := hn2.eqb
 refine Ve (Vn (Vs (Vs (Vr (Vl 3 ho2 (Ve (Vn (VC_block (VC_rounds (VCL_round (Vs ?_)))))))))))
 obtain ⟨g1, cur1, rfl, hgbg1, hglg1, -⟩ := RwS.open hrR (by omega)
 have hug9 : g1 < hi9 := hubR _ ⟨_, rfl, rfl⟩
 refine Vr (Ve (Vn (Vs (Vt (VC_skip (Vn (Vs (VC_block (Vs (Vr (Ve (Vn ?_))))))))))))
 have hs4 := drew_step w9
 have hs4z : w9.heap.size = w9.drew.heap.size := rfl
 refine Tx 24 (fun k => w9.heap.size ≤ k) [21, 22, 23] [0, 1, 2, 3, 4, 5, 6, 7, 8, 9, 10, 11, 12, 13, 14, 15, 16, 17, 18, 19, 20, 21, 22, 23] ?_
 have hzo3 := hglg1
 generalize w9.drew = w10 at hs4 hs4z ⊢
 replace hS := Step.trans hS hs4
 replace ho1 := ho1.no hs4
 replace hrR := hrR.no hs4
 replace ho2 := ho2.no hs4
 replace hglg1 := Nat.lt_of_lt_of_le hglg1 (hs4).size
 refine Tp 4 (Tl (fun w11 hr3 => ho2.step hr3 (by (try simp only); omega)) (Tp 3 (Tl (fun w12 hr4 => ho2.step hr4 (by (try simp only); omega)) (Tp 1 (VT_index (d := 31) (b := g1) (o := 0) (len := 1) (sz := 4) (mm := 0) (by kernel_rfl) (by kernel_rfl) 0 (by rfl) (by omega) 0 (by omega) (Tp 1 (VT_load (d := 33) (t := 3) (a := ⟨g1, 0, none⟩) (v := I6 s1) (by kernel_rfl) (by kernel_rfl) ?_ ?_)))))))
 ·intro w13 hr5
  replace hrR := hrR.keepG hr5 (by (try simp only); omega)
  exact (Sl.flatOne (sz := 4) (RwS.sl2 hrR).sl r4_len (show ([(rlNew s1 e1 z1 t1)] : List Rl)[0]? = some (rlNew s1 e1 z1 t1) from rfl) 0 (by rfl) (by decide) (by kernel_rfl) _ (by rfl))
 refine Tp 3 (Tl (fun w14 hr6 => ho2.step hr6 (by (try simp only); omega)) (Tp 1 (VT_index (d := 39) (b := g1) (o := 0) (len := 1) (sz := 4) (mm := 0) (by kernel_rfl) (by kernel_rfl) 0 (by rfl) (by omega) 0 (by omega) (Tp 1 (VT_load (d := 41) (t := 3) (a := ⟨g1, 1, none⟩) (v := I6 e1) (by kernel_rfl) (by kernel_rfl) ?_ ?_)))))
 ·intro w15 hr7
  replace hrR := hrR.keepG hr7 (by (try simp only); omega)
  exact (Sl.flatOne (sz := 4) (RwS.sl2 hrR).sl r4_len (show ([(rlNew s1 e1 z1 t1)] : List Rl)[0]? = some (rlNew s1 e1 z1 t1) from rfl) 1 (by rfl) (by decide) (by kernel_rfl) _ (by rfl))
 refine Th ?_
 intro w16 hs5
 have hzhs5 := hs5.size
 replace hS := Step.trans hS hs5
 replace ho1 := ho1.no hs5
 replace hrR := hrR.no hs5
 replace ho2 := ho2.no hs5
 replace hglg1 := Nat.lt_of_lt_of_le hglg1 (hs5).size
 refine Tc Tryz.call62 (dbnew_any s1 e1 _) ?_ ?_
 ·rintro _ w17 ⟨bk1, rfl, hgebk1, hbk1, hc3⟩
  exact Step.mono hc3 TDa6aa
 rintro _ w17 ⟨bk1, rfl, hgebk1, hbk1, hc3⟩
 replace hS := Step.trans hS hc3
 replace ho1 := ho1.no hc3
 replace hrR := hrR.no hc3
 replace ho2 := ho2.no hc3
 replace hglg1 := Nat.lt_of_lt_of_le hglg1 (hc3).size
 refine Th ?_
 intro w18 hs6
 replace hS := Step.trans hS hs6
 replace ho1 := ho1.no hs6
 replace hrR := hrR.no hs6
 replace ho2 := ho2.no hs6
 replace hglg1 := Nat.lt_of_lt_of_le hglg1 (hs6).size
 replace hbk1 := hbk1.no hs6
 have hzl11 := hbk1.lt
 refine VTc_bs (d := 43) (e := 97) (c := #[Pt bk1 0]) (len := 1) (by kernel_rfl) (by kernel_rfl) (fun b w1 hn => hn.step _) ?_
 intro b3 w19 hn3
 replace hS := Step.trans hS (hn3.step No)
 replace ho1 := ho1.no (hn3.step No)
 replace hrR := hrR.no (hn3.step No)
 replace ho2 := ho2.no (hn3.step No)
 replace hglg1 := Nat.lt_of_lt_of_le hglg1 (hn3.step No).size
 replace hbk1 := hbk1.no (hn3.step No)
 have ho3 := hn3.own
 have hzhn3 := hn3.size
 have hqhn3 := hn3.eqb
 refine Th ?_
 intro w20 hs7
 have hzhs7 := hs7.size
 replace hS := Step.trans hS hs7
 replace ho1 := ho1.no hs7
 replace hrR := hrR.no hs7
 replace ho2 := ho2.no hs7
 replace hglg1 := Nat.lt_of_lt_of_le hglg1 (hs7).size
 replace hbk1 := hbk1.no hs7
 replace ho3 := ho3.no hs7
 have hzl15 := ho1.lt
 have hzl16 := ho2.lt
 have hzl17 := hbk1.lt
 obtain ⟨base1, hbase1E⟩ : ∃ x, x = w20.heap.size := ⟨_, rfl⟩
 have hbase1 : base1 ≤ w20.heap.size := Nat.le_of_eq hbase1E
 have hzk15 := hbase1
 refine VTc_appendZ (d := 44) (e := 97) (A := none) (mm := 0) (c := 0) (A2 := (some ⟨b3, 0, none⟩)) (m2 := 1) (c2 := 1) (sz := 1) (bytes := 8) (by kernel_rfl) (by kernel_rfl) (by kernel_rfl) base1 w20.heap.size (flat dpp ([])) (flat dpp [bk1]) (RwS.nil w20 1 base1 97) (by rw [flat_one, dpp_len]) (Sl.mono (Sl.cast (Own.sl ho3 ho3.lt) TDa6ae) TDa6ad) (flat_one' dpp_one _) 1 (by omega) TDa6af (by omega) (by omega) ?_ ?_
 ·intro w1 hs1; exact Step.mono hs1 (fun i hi => by have hi1 := (RwS.lt (RwS.nil w20 1 base1 97) i hi).1; (try simp only); omega)
 intro A1 c1 w21 hr8 hg1
 replace hr8 : RwS w21 1 base1 97 A1 1 c1 (flat dpp ([bk1])) := RwS.cast hr8 rfl TDa6ab
 replace hg1 := Step.mono (G := fun k => base1 ≤ k) hg1 (fun i hi => (RwS.lt (RwS.nil w20 1 base1 97) i hi).1)
 replace hS := Step.transNew hS hg1 (fun i hi hG => by (try simp only at hG); omega)
 replace hrR := hrR.keepG hg1 (by (try simp only); omega)
 replace ho2 := ho2.step hg1 (by (try simp only); omega)
 replace hbk1 := hbk1.step hg1 (by (try simp only); omega)
 refine VT_end ?_
 intro w22 hs8
 replace hS := Step.trans hS hs8
 replace hrR := hrR.no hs8
 replace ho2 := ho2.no hs8
 replace hbk1 := hbk1.no hs8
 replace hr8 := hr8.no hs8
 refine Vst 26 (o := 7) [.slice A1 1 c1] ho2 #[I6 c.kind, I6 c.peak, I6 c.early, I6 c.whole, I6 c.burst, I6 c.least, .slice (some ⟨g1, 0, none⟩) 1 ccR, .slice A1 1 c1, I6 0, I6 0, I6 0, I6 0] ?_
 intro w23 hw1
 replace hS := Step.transNew hS hw1.step (fun _ _ _ => by omega)
 replace hrR := hrR.keepG hw1.step (show ¬ g1 = b2 by omega)
 replace hbk1 := hbk1.step hw1.step (show ¬ bk1 = b2 by omega)
 replace hr8 := hr8.step hw1.step (fun k hk (hF : k = b2) => by omega)
 have ho4 := hw1.own
 refine Ve (VQ_block_normal (Vn (Vr (Ve (VQ_round (VCL_round (Vs ?_)))))))
 obtain ⟨g2, cur2, rfl, hgbg2, hglg2, -⟩ := RwS.open hr8 (by omega)
 refine Vr (Ve (Vn (Vs (Vf (VC_exit (VQ_then_exit (VQ_then_exit (VQ_block_hit (Vn (Vrp (VC_ret (Vr1 (Pt b2 0) ?_))))))))))))
 obtain ⟨Y, hY, hPl⟩ := dpl_mk (w := w) (p := b2) (base := lo9) (base2 := base1) (l := [(⟨(rlNew s1 e1 z1 t1), 0, bk1⟩ : Db)]) hr hR (RlsI.rules c) (Nat.le_of_ble_eq_true (by kernel_rfl)) ho4 (RwS.cast hrR rfl (by rfl)) (RwS.cast hr8 rfl (by rfl)) (by intro q9 hq9; simp only [List.mem_cons, List.not_mem_nil, or_false] at hq9; subst hq9; exact ⟨hbk1, LvI.new _ _⟩) (by simp only [List.map_cons, List.map_nil, List.nodup_cons, List.mem_cons, List.not_mem_nil, or_false, not_false_eq_true, List.nodup_nil, and_true]) (by omega) (by omega) (by omega) (by intro q9 hq9; simp only [List.mem_cons, List.not_mem_nil, or_false] at hq9; subst hq9; simp only; omega)
 exact ⟨b2, Y, rfl, hY, hPl, hS⟩

theorem drules_l2 {c : Con} (hr : rightC c = 0) (s1 e1 : Int) (z1 t1 : Bool) (s2 e2 : Int) (z2 t2 : Bool) (hR : rulesC c = [(rlNew s1 e1 z1 t1), (rlNew s2 e2 z2 t2)]) (w : World) : CV Tryz.prog 61 #[.agg #[.int .i64 c.kind, .int .i64 c.peak, .int .i64 c.early, .int .i64 c.whole, .int .i64 c.burst, .int .i64 c.least]] w fun x w1 => ∃ A cc, x = .slice A 2 cc ∧ RwS w1 4 w.heap.size 100 A 2 cc (flat r4 [(rlNew s1 e1 z1 t1), (rlNew s2 e2 z2 t2)]) ∧ Step No w w1 := by
  refine (drules_any c hr w).mono ?_
  rintro x w1 ⟨A, n, cc, rfl, hn, hrw, hs⟩
  rw [hR] at hn hrw
  subst hn
  exact ⟨A, cc, rfl, hrw, hs⟩
theorem dpnew_2 (c : Con) (hr : rightC c = 0) (s1 e1 : Int) (z1 t1 : Bool) (s2 e2 : Int) (z2 t2 : Bool) (hR : rulesC c = [(rlNew s1 e1 z1 t1), (rlNew s2 e2 z2 t2)]) (w : World) :
  CV Tryz.prog 39 #[.agg #[I6 c.kind, I6 c.peak, I6 c.early, I6 c.whole, I6 c.burst, I6 c.least]] w (fun x w1 => ∃ pp Y, x = Pt pp 0 ∧ (∀ k, Y k → w.heap.size ≤ k) ∧ DPl w1 pp Y c (rulesC c) ∧ Step No w w1) := by
 have hS : Step No w w := Step.refl _ _
 refine VCe Tryz.func39 (Vs (Vr ?_))
 refine Vx 0 32 #[I6 c.kind, I6 c.peak, I6 c.early, I6 c.whole, I6 c.burst, I6 c.least] ?_
 intro b1 w1 hn1
 replace hS := Step.trans hS (hn1.step No)
 have ho1 := hn1.own
 have hzhn1 := hn1.size
 have hqhn1 := hn1.eqb
 refine Ve (Vn (Vs (Vs (Vr (Vl 0 ho1 ?_)))))
 refine Vc 1 Tryz.call31 ((dright_any c _).mono (fun x w1 h9 => ⟨h9.1.trans (by rw [hr]), h9.2⟩ : ∀ x w1, _ → x = I6 0 ∧ Step No _ w1)) ?_
 rintro _ w2 ⟨rfl, hc1⟩
 replace hS := Step.trans hS hc1
 replace ho1 := ho1.no hc1
 refine Ve (Vn (Vf (VC_skip (Vn (Vs ?_)))))
 have hs1 := drew_step w2
 have hs1z : w2.heap.size = w2.drew.heap.size := rfl
 refine Tx 3 (fun k => w2.heap.size ≤ k) [2] [0, 1, 2] ?_
 have hzl2 := ho1.lt
 generalize w2.drew = w3 at hs1 hs1z ⊢
 replace hS := Step.trans hS hs1
 replace ho1 := ho1.no hs1
 refine Tl (fun w4 hr1 => ho1.step hr1 (by (try simp only); omega)) (Tl (fun w5 hr2 => ho1.step hr2 (by (try simp only); omega)) (Th ?_))
 intro w6 hs2
 replace hS := Step.trans hS hs2
 replace ho1 := ho1.no hs2
 have hzl3 := ho1.lt
 refine Tc Tryz.call61 (drules_l2 hr s1 e1 z1 t1 s2 e2 z2 t2 hR _) ?_ ?_
 ·rintro _ w7 ⟨AR, ccR, rfl, hrR, hc2⟩
  exact Step.mono hc2 TDa6aa
 rintro _ w7 ⟨AR, ccR, rfl, hrR, hc2⟩
 replace hS := Step.trans hS hc2
 replace ho1 := ho1.no hc2
 obtain ⟨lo9, hlo9E⟩ : ∃ x, x = w6.heap.size := ⟨_, rfl⟩
 rw [← hlo9E] at hrR
 obtain ⟨hi9, hhi9E⟩ : ∃ x, x = w7.heap.size := ⟨_, rfl⟩
 have hubR := RwS.ub hrR
 rw [← hhi9E] at hubR
 have hhi9 : hi9 ≤ w7.heap.size := by omega
 refine VT_end ?_
 intro w8 hs3
 replace hS := Step.trans hS hs3
 replace ho1 := ho1.no hs3
 replace hrR := hrR.no hs3
 replace hhi9 := Nat.le_trans hhi9 (hs3).size
 refine Vp 4 ?_
 have hzl4 := ho1.lt
 have hzk2 := hhi9
 refine Vx 4 96 #[I6 c.kind, I6 c.peak, I6 c.early, I6 c.whole, I6 c.burst, I6 c.least, .slice AR 2 ccR, .slice none 0 0, I6 0, I6 0, I6 0, I6 0] ?_
 intro b2 w9 hn2
 replace hS := Step.trans hS (hn2.step No)
 replace ho1 := ho1.no (hn2.step No)
 replace hrR := hrR.no (hn2.step No)
 have ho2 := hn2.own
 have hzhn2 := hn2.size
 have hqhn2 := hn2.eqb
 refine Ve (Vn (Vs (Vs (Vr (Vl 3 ho2 (Ve (Vn (VC_block (VC_rounds (VCL_round (Vs ?_)))))))))))
 obtain ⟨g1, cur1, rfl, hgbg1, hglg1, -⟩ := RwS.open hrR (by omega)
 have hug9 : g1 < hi9 := hubR _ ⟨_, rfl, rfl⟩
 refine Vr (Ve (Vn (Vs (Vt (VC_skip (Vn (Vs (VC_block (Vs (Vr (Ve (Vn ?_))))))))))))
 have hs4 := drew_step w9
 have hs4z : w9.heap.size = w9.drew.heap.size := rfl
 refine Tx 24 (fun k => w9.heap.size ≤ k) [21, 22, 23] [0, 1, 2, 3, 4, 5, 6, 7, 8, 9, 10, 11, 12, 13, 14, 15, 16, 17, 18, 19, 20, 21, 22, 23] ?_
 have hzo3 := hglg1
 generalize w9.drew = w10 at hs4 hs4z ⊢
 replace hS := Step.trans hS hs4
 replace ho1 := ho1.no hs4
 replace hrR := hrR.no hs4
 replace ho2 := ho2.no hs4
 replace hglg1 := Nat.lt_of_lt_of_le hglg1 (hs4).size
 refine Tp 4 (Tl (fun w11 hr3 => ho2.step hr3 (by (try simp only); omega)) (Tp 3 (Tl (fun w12 hr4 => ho2.step hr4 (by (try simp only); omega)) (Tp 1 (VT_index (d := 31) (b := g1) (o := 0) (len := 2) (sz := 4) (mm := 0) (by kernel_rfl) (by kernel_rfl) 0 (by rfl) (by omega) 0 (by omega) (Tp 1 (VT_load (d := 33) (t := 3) (a := ⟨g1, 0, none⟩) (v := I6 s1) (by kernel_rfl) (by kernel_rfl) ?_ ?_)))))))
 ·intro w13 hr5
  replace hrR := hrR.keepG hr5 (by (try simp only); omega)
  exact (Sl.flatOne (sz := 4) (RwS.sl2 hrR).sl r4_len (show ([(rlNew s1 e1 z1 t1), (rlNew s2 e2 z2 t2)] : List Rl)[0]? = some (rlNew s1 e1 z1 t1) from rfl) 0 (by rfl) (by decide) (by kernel_rfl) _ (by rfl))
 refine Tp 3 (Tl (fun w14 hr6 => ho2.step hr6 (by (try simp only); omega)) (Tp 1 (VT_index (d := 39) (b := g1) (o := 0) (len := 2) (sz := 4) (mm := 0) (by kernel_rfl) (by kernel_rfl) 0 (by rfl) (by omega) 0 (by omega) (Tp 1 (VT_load (d := 41) (t := 3) (a := ⟨g1, 1, none⟩) (v := I6 e1) (by kernel_rfl) (by kernel_rfl) ?_ ?_)))))
 ·intro w15 hr7
  replace hrR := hrR.keepG hr7 (by (try simp only); omega)
  exact (Sl.flatOne (sz := 4) (RwS.sl2 hrR).sl r4_len (show ([(rlNew s1 e1 z1 t1), (rlNew s2 e2 z2 t2)] : List Rl)[0]? = some (rlNew s1 e1 z1 t1) from rfl) 1 (by rfl) (by decide) (by kernel_rfl) _ (by rfl))
 refine Th ?_
 intro w16 hs5
 have hzhs5 := hs5.size
 replace hS := Step.trans hS hs5
 replace ho1 := ho1.no hs5
 replace hrR := hrR.no hs5
 replace ho2 := ho2.no hs5
 replace hglg1 := Nat.lt_of_lt_of_le hglg1 (hs5).size
 refine Tc Tryz.call62 (dbnew_any s1 e1 _) ?_ ?_
 ·rintro _ w17 ⟨bk1, rfl, hgebk1, hbk1, hc3⟩
  exact Step.mono hc3 TDa6aa
 rintro _ w17 ⟨bk1, rfl, hgebk1, hbk1, hc3⟩
 replace hS := Step.trans hS hc3
 replace ho1 := ho1.no hc3
 replace hrR := hrR.no hc3
 replace ho2 := ho2.no hc3
 replace hglg1 := Nat.lt_of_lt_of_le hglg1 (hc3).size
 refine Th ?_
 intro w18 hs6
 replace hS := Step.trans hS hs6
 replace ho1 := ho1.no hs6
 replace hrR := hrR.no hs6
 replace ho2 := ho2.no hs6
 replace hglg1 := Nat.lt_of_lt_of_le hglg1 (hs6).size
 replace hbk1 := hbk1.no hs6
 have hzl11 := hbk1.lt
 refine VTc_bs (d := 43) (e := 97) (c := #[Pt bk1 0]) (len := 1) (by kernel_rfl) (by kernel_rfl) (fun b w1 hn => hn.step _) ?_
 intro b3 w19 hn3
 replace hS := Step.trans hS (hn3.step No)
 replace ho1 := ho1.no (hn3.step No)
 replace hrR := hrR.no (hn3.step No)
 replace ho2 := ho2.no (hn3.step No)
 replace hglg1 := Nat.lt_of_lt_of_le hglg1 (hn3.step No).size
 replace hbk1 := hbk1.no (hn3.step No)
 have ho3 := hn3.own
 have hzhn3 := hn3.size
 have hqhn3 := hn3.eqb
 refine Th ?_
 intro w20 hs7
 have hzhs7 := hs7.size
 replace hS := Step.trans hS hs7
 replace ho1 := ho1.no hs7
 replace hrR := hrR.no hs7
 replace ho2 := ho2.no hs7
 replace hglg1 := Nat.lt_of_lt_of_le hglg1 (hs7).size
 replace hbk1 := hbk1.no hs7
 replace ho3 := ho3.no hs7
 have hzl15 := ho1.lt
 have hzl16 := ho2.lt
 have hzk11 := hglg1
 have hzl17 := hbk1.lt
 obtain ⟨base1, hbase1E⟩ : ∃ x, x = w20.heap.size := ⟨_, rfl⟩
 have hbase1 : base1 ≤ w20.heap.size := Nat.le_of_eq hbase1E
 have hzk15 := hbase1
 refine VTc_appendZ (d := 44) (e := 97) (A := none) (mm := 0) (c := 0) (A2 := (some ⟨b3, 0, none⟩)) (m2 := 1) (c2 := 1) (sz := 1) (bytes := 8) (by kernel_rfl) (by kernel_rfl) (by kernel_rfl) base1 w20.heap.size (flat dpp ([])) (flat dpp [bk1]) (RwS.nil w20 1 base1 97) (by rw [flat_one, dpp_len]) (Sl.mono (Sl.cast (Own.sl ho3 ho3.lt) TDa6ae) TDa6ad) (flat_one' dpp_one _) 1 (by omega) TDa6af (by omega) (by omega) ?_ ?_
 ·intro w1 hs1; exact Step.mono hs1 (fun i hi => by have hi1 := (RwS.lt (RwS.nil w20 1 base1 97) i hi).1; (try simp only); omega)
 intro A1 c1 w21 hr8 hg1
 replace hr8 : RwS w21 1 base1 97 A1 1 c1 (flat dpp ([bk1])) := RwS.cast hr8 rfl TDa6ab
 replace hg1 := Step.mono (G := fun k => base1 ≤ k) hg1 (fun i hi => (RwS.lt (RwS.nil w20 1 base1 97) i hi).1)
 replace hS := Step.transNew hS hg1 (fun i hi hG => by (try simp only at hG); omega)
 replace ho1 := ho1.step hg1 (by (try simp only); omega)
 replace hrR := hrR.keepG hg1 (by (try simp only); omega)
 replace ho2 := ho2.step hg1 (by (try simp only); omega)
 replace hglg1 := Nat.lt_of_lt_of_le hglg1 (hg1).size
 replace hbk1 := hbk1.step hg1 (by (try simp only); omega)
 replace hbase1 := Nat.le_trans hbase1 (hg1).size
 refine VT_end ?_
 intro w22 hs8
 replace hS := Step.trans hS hs8
 replace ho1 := ho1.no hs8
 replace hrR := hrR.no hs8
 replace ho2 := ho2.no hs8
 replace hglg1 := Nat.lt_of_lt_of_le hglg1 (hs8).size
 replace hbk1 := hbk1.no hs8
 replace hbase1 := Nat.le_trans hbase1 (hs8).size
 replace hr8 := hr8.no hs8
 refine Vst 26 (o := 7) [.slice A1 1 c1] ho2 #[I6 c.kind, I6 c.peak, I6 c.early, I6 c.whole, I6 c.burst, I6 c.least, .slice (some ⟨g1, 0, none⟩) 2 ccR, .slice A1 1 c1, I6 0, I6 0, I6 0, I6 0] ?_
 intro w23 hw1
 replace hS := Step.transNew hS hw1.step (fun _ _ _ => by omega)
 replace ho1 := ho1.step hw1.step (show ¬ b1 = b2 by omega)
 replace hrR := hrR.keepG hw1.step (show ¬ g1 = b2 by omega)
 replace hglg1 := Nat.lt_of_lt_of_le hglg1 (hw1.step).size
 replace hbk1 := hbk1.step hw1.step (show ¬ bk1 = b2 by omega)
 replace hbase1 := Nat.le_trans hbase1 (hw1.step).size
 replace hr8 := hr8.step hw1.step (fun k hk (hF : k = b2) => by omega)
 have ho4 := hw1.own
 have hzhw1 := hw1.same
 refine Ve (VQ_block_normal (Vn (Vr (Ve (VQ_round (VCL_round (Vs ?_)))))))
 obtain ⟨g2, cur2, rfl, hgbg2, hglg2, -⟩ := RwS.open hr8 (by omega)
 refine Vr (Ve (Vn (Vs (Vt (VC_skip (Vn (Vs (VC_block (Vs (Vr (Ve (Vn ?_))))))))))))
 have hs9 := drew_step w23
 have hs9z : w23.heap.size = w23.drew.heap.size := rfl
 refine Tx 24 (fun k => k = g2 ∨ w23.heap.size ≤ k) [21, 22, 23] [0, 1, 2, 3, 4, 5, 6, 7, 8, 9, 10, 11, 12, 13, 14, 15, 16, 17, 18, 19, 20, 21, 22, 23] ?_
 have hzl25 := ho4.lt
 have hzo6 := hglg1
 have hzo8 := hglg2
 generalize w23.drew = w24 at hs9 hs9z ⊢
 replace hS := Step.trans hS hs9
 replace ho1 := ho1.no hs9
 replace hrR := hrR.no hs9
 replace hbk1 := hbk1.no hs9
 replace hbase1 := Nat.le_trans hbase1 (hs9).size
 replace hr8 := hr8.no hs9
 replace ho4 := ho4.no hs9
 refine Tp 4 (Tl (fun w25 hr9 => ho4.step hr9 (by (try simp only); omega)) (Tp 3 (Tl (fun w26 hr10 => ho4.step hr10 (by (try simp only); omega)) (Tp 1 (VT_index (d := 31) (b := g1) (o := 0) (len := 2) (sz := 4) (mm := 1) (by kernel_rfl) (by kernel_rfl) 1 (by rfl) (by omega) 4 (by omega) (Tp 1 (VT_load (d := 33) (t := 3) (a := ⟨g1, 4, none⟩) (v := I6 s2) (by kernel_rfl) (by kernel_rfl) ?_ ?_)))))))
 ·intro w27 hr11
  replace hrR := hrR.keepG hr11 (by (try simp only); omega)
  exact (Sl.flatOne (sz := 4) (RwS.sl2 hrR).sl r4_len (show ([(rlNew s1 e1 z1 t1), (rlNew s2 e2 z2 t2)] : List Rl)[1]? = some (rlNew s2 e2 z2 t2) from rfl) 0 (by rfl) (by decide) (by kernel_rfl) _ (by rfl))
 refine Tp 3 (Tl (fun w28 hr12 => ho4.step hr12 (by (try simp only); omega)) (Tp 1 (VT_index (d := 39) (b := g1) (o := 0) (len := 2) (sz := 4) (mm := 1) (by kernel_rfl) (by kernel_rfl) 1 (by rfl) (by omega) 4 (by omega) (Tp 1 (VT_load (d := 41) (t := 3) (a := ⟨g1, 5, none⟩) (v := I6 e2) (by kernel_rfl) (by kernel_rfl) ?_ ?_)))))
 ·intro w29 hr13
  replace hrR := hrR.keepG hr13 (by (try simp only); omega)
  exact (Sl.flatOne (sz := 4) (RwS.sl2 hrR).sl r4_len (show ([(rlNew s1 e1 z1 t1), (rlNew s2 e2 z2 t2)] : List Rl)[1]? = some (rlNew s2 e2 z2 t2) from rfl) 1 (by rfl) (by decide) (by kernel_rfl) _ (by rfl))
 refine Th ?_
 intro w30 hs10
 have hzhs10 := hs10.size
 replace hS := Step.trans hS hs10
 replace ho1 := ho1.no hs10
 replace hrR := hrR.no hs10
 replace hbk1 := hbk1.no hs10
 replace hbase1 := Nat.le_trans hbase1 (hs10).size
 replace hr8 := hr8.no hs10
 replace ho4 := ho4.no hs10
 have hzl26 := ho1.lt
 have hzl27 := hbk1.lt
 have hzl28 := ho4.lt
 refine Tc Tryz.call62 (dbnew_any s2 e2 _) ?_ ?_
 ·rintro _ w31 ⟨bk2, rfl, hgebk2, hbk2, hc4⟩
  exact Step.mono hc4 TDa6aa
 rintro _ w31 ⟨bk2, rfl, hgebk2, hbk2, hc4⟩
 replace hS := Step.trans hS hc4
 replace hrR := hrR.no hc4
 replace hbk1 := hbk1.no hc4
 replace hbase1 := Nat.le_trans hbase1 (hc4).size
 replace hr8 := hr8.no hc4
 replace ho4 := ho4.no hc4
 refine Th ?_
 intro w32 hs11
 replace hS := Step.trans hS hs11
 replace hrR := hrR.no hs11
 replace hbk1 := hbk1.no hs11
 replace hbase1 := Nat.le_trans hbase1 (hs11).size
 replace hr8 := hr8.no hs11
 replace ho4 := ho4.no hs11
 replace hbk2 := hbk2.no hs11
 refine VTc_bs (d := 43) (e := 97) (c := #[Pt bk2 0]) (len := 1) (by kernel_rfl) (by kernel_rfl) (fun b w1 hn => hn.step _) ?_
 intro b4 w33 hn4
 replace hS := Step.trans hS (hn4.step No)
 replace hrR := hrR.no (hn4.step No)
 replace hbk1 := hbk1.no (hn4.step No)
 replace hbase1 := Nat.le_trans hbase1 (hn4.step No).size
 replace hr8 := hr8.no (hn4.step No)
 replace ho4 := ho4.no (hn4.step No)
 replace hbk2 := hbk2.no (hn4.step No)
 have ho5 := hn4.own
 refine Th ?_
 intro w34 hs12
 replace hS := Step.trans hS hs12
 replace hrR := hrR.no hs12
 replace hbk1 := hbk1.no hs12
 replace hbase1 := Nat.le_trans hbase1 (hs12).size
 replace hr8 := hr8.no hs12
 replace ho4 := ho4.no hs12
 replace hbk2 := hbk2.no hs12
 replace ho5 := ho5.no hs12
 have hzk29 := hbase1
 refine VTc_appendZ (d := 44) (e := 97) (A := (some ⟨g2, 0, none⟩)) (mm := 1) (c := c1) (A2 := (some ⟨b4, 0, none⟩)) (m2 := 1) (c2 := 1) (sz := 1) (bytes := 8) (by kernel_rfl) (by kernel_rfl) (by kernel_rfl) base1 w34.heap.size (flat dpp ([bk1])) (flat dpp [bk2]) hr8 (by rw [flat_one, dpp_len]) (Sl.mono (Sl.cast (Own.sl ho5 ho5.lt) TDa6ae) TDa6ad) (flat_one' dpp_one _) 2 (by omega) TDa6af (by omega) (by omega) ?_ ?_
 ·intro w1 hs1; exact Step.mono hs1 (fun i hi => by obtain ⟨a9, ha9, hi9⟩ := hi; cases ha9; have hi8 : g2 = i := hi9; (try simp only); omega)
 intro A2 c2 w35 hr14 hg2
 replace hr14 : RwS w35 1 base1 97 A2 2 c2 (flat dpp (([bk1]) ++ ([bk2]))) := RwS.cast hr14 rfl TDa6ab
 replace hg2 := Step.mono (G := fun k => k = g2) hg2 (fun i hi => by obtain ⟨a9, ha9, hi9⟩ := hi; cases ha9; exact hi9.symm)
 replace hS := Step.transNew hS hg2 (fun i hi hG => by (try simp only at hG); omega)
 replace hrR := hrR.keepG hg2 (by (try simp only); omega)
 replace hbk1 := hbk1.step hg2 (by (try simp only); omega)
 replace ho4 := ho4.step hg2 (by (try simp only); omega)
 replace hbk2 := hbk2.step hg2 (by (try simp only); omega)
 refine VT_end ?_
 intro w36 hs13
 replace hS := Step.trans hS hs13
 replace hrR := hrR.no hs13
 replace hbk1 := hbk1.no hs13
 replace ho4 := ho4.no hs13
 replace hbk2 := hbk2.no hs13
 replace hr14 := hr14.no hs13
 refine Vst 26 (o := 7) [.slice A2 2 c2] ho4 #[I6 c.kind, I6 c.peak, I6 c.early, I6 c.whole, I6 c.burst, I6 c.least, .slice (some ⟨g1, 0, none⟩) 2 ccR, .slice A2 2 c2, I6 0, I6 0, I6 0, I6 0] ?_
 intro w37 hw2
 replace hS := Step.transNew hS hw2.step (fun _ _ _ => by omega)
 replace hrR := hrR.keepG hw2.step (show ¬ g1 = b2 by omega)
 replace hbk1 := hbk1.step hw2.step (show ¬ bk1 = b2 by omega)
 replace hbk2 := hbk2.step hw2.step (show ¬ bk2 = b2 by omega)
 replace hr14 := hr14.step hw2.step (fun k hk (hF : k = b2) => by omega)
 have ho6 := hw2.own
 refine Ve (VQ_block_normal (Vn (Vr (Ve (VQ_round (VCL_round (Vs ?_)))))))
 obtain ⟨g3, cur3, rfl, hgbg3, hglg3, -⟩ := RwS.open hr14 (by omega)
 refine Vr (Ve (Vn (Vs (Vf (VC_exit (VQ_then_exit (VQ_then_exit (VQ_block_hit (Vn (Vrp (VC_ret (Vr1 (Pt b2 0) ?_))))))))))))
 obtain ⟨Y, hY, hPl⟩ := dpl_mk (w := w) (p := b2) (base := lo9) (base2 := base1) (l := [(⟨(rlNew s1 e1 z1 t1), 0, bk1⟩ : Db), (⟨(rlNew s2 e2 z2 t2), 0, bk2⟩ : Db)]) hr hR (RlsI.rules c) (Nat.le_of_ble_eq_true (by kernel_rfl)) ho6 (RwS.cast hrR rfl (by rfl)) (RwS.cast hr14 rfl (by rfl)) (by intro q9 hq9; simp only [List.mem_cons, List.not_mem_nil, or_false] at hq9; rcases hq9 with rfl | rfl; exact ⟨hbk1, LvI.new _ _⟩; exact ⟨hbk2, LvI.new _ _⟩) (by simp only [List.map_cons, List.map_nil, List.nodup_cons, List.mem_cons, List.not_mem_nil, or_false, not_false_eq_true, List.nodup_nil, and_true]; omega) (by omega) (by omega) (by omega) (by intro q9 hq9; simp only [List.mem_cons, List.not_mem_nil, or_false] at hq9; rcases hq9 with rfl | rfl <;> (simp only; omega))
 exact ⟨b2, Y, rfl, hY, hPl, hS⟩

theorem dpnew_any (c : Con) (hr : rightC c = 0) (w : World) : CV Tryz.prog 39 #[.agg #[.int .i64 c.kind, .int .i64 c.peak, .int .i64 c.early, .int .i64 c.whole, .int .i64 c.burst, .int .i64 c.least]] w (fun x w1 => ∃ pp Y, x = .pointer (some ⟨pp, 0, none⟩) ∧ (∀ k, Y k → w.heap.size ≤ k) ∧ DPl w1 pp Y c (rulesC c) ∧ Step No w w1) := by
  by_cases h2 : c.kind = 2
  · exact dpnew_2 c hr _ _ _ _ _ _ _ _ (rules_v1 hr h2).symm w
  · by_cases h3 : c.kind = 3
    · exact dpnew_2 c hr _ _ _ _ _ _ _ _ (rules_v2 hr h3).symm w
    · by_cases h4 : c.kind = 4
      · exact dpnew_2 c hr _ _ _ _ _ _ _ _ (rules_v3 hr h4).symm w
      · exact dpnew_1 c hr _ _ _ _ (rules_one hr h2 h3 h4).symm w
end Go.Proofs.YthchmlidobgkoaaGreat
end

section
/- Layer 20, the document's side: a node is its list, in memory. -/
set_option linter.unusedVariables false
set_option linter.unusedSimpArgs false
namespace Go.Proofs.YthchmlidobgkoaaGreat
open Go.Vc Go.RowKit
/-- A connection, its policer's address, the blocks of that. -/
structure Dx where
  x : Cx
  pp : Nat
  Y : Nat → Prop
def dxc (d : Dx) : List Value := [.int .i64 d.x.p, .int .i64 d.x.v, .int .i64 d.x.c, .int .i64 d.x.k.kind, .int .i64 d.x.k.peak, .int .i64 d.x.k.early, .int .i64 d.x.k.whole, .int .i64 d.x.k.burst, .int .i64 d.x.k.least, .pointer (some ⟨d.pp, 0, none⟩)]
theorem dxc_len (d : Dx) : (dxc d).length = 10 := rfl
theorem dxc_one (d : Dx) : ∀ u ∈ dxc d, oneC u = true := by
  intro u hu
  simp only [dxc, List.mem_cons, List.not_mem_nil, or_false] at hu
  rcases hu with rfl | rfl | rfl | rfl | rfl | rfl | rfl | rfl | rfl | rfl <;> rfl
def atD (l : List Dx) (p v c : Int) : Int := match l.findIdx? (fun d => keyX p v c d.x) with | some i => (i : Int) | none => -1
theorem atD_hit {l : List Dx} {p v c : Int} {i : Nat} {d : Dx} (hb : ∀ j, j < i → ∀ x, l[j]? = some x → keyX p v c x.x = false) (hd : l[i]? = some d) (hk : keyX p v c d.x = true) : atD l p v c = i := by
  have : l.findIdx? (fun d => keyX p v c d.x) = some i := by
    obtain ⟨hi, rfl⟩ := List.getElem?_eq_some_iff.1 hd
    rw [List.findIdx?_eq_some_iff_getElem]
    refine ⟨hi, hk, fun j hj => ?_⟩
    have := hb j hj _ (List.getElem?_eq_getElem (by omega))
    simpa using this
  unfold atD; rw [this]
theorem atD_none {l : List Dx} {p v c : Int} (hb : ∀ j, j < l.length → ∀ x, l[j]? = some x → keyX p v c x.x = false) : atD l p v c = -1 := by
  have : l.findIdx? (fun d => keyX p v c d.x) = none := by
    rw [List.findIdx?_eq_none_iff]
    intro x hx
    obtain ⟨j, hj, he⟩ := List.getElem_of_mem hx
    exact hb j hj x (by rw [List.getElem?_eq_getElem hj, he])
  unfold atD; rw [this]
theorem atD_cases (l : List Dx) (p v c : Int) : (atD l p v c = -1 ∧ findC (l.map Dx.x) p v c = none) ∨ ∃ (i : Nat) (d : Dx), atD l p v c = i ∧ l[i]? = some d ∧ findC (l.map Dx.x) p v c = some d.x ∧ keyX p v c d.x = true := by
  unfold atD findC
  cases h : l.findIdx? (fun d => keyX p v c d.x) with
  | none =>
    refine .inl ⟨rfl, ?_⟩
    rw [List.findIdx?_eq_none_iff] at h
    rw [List.find?_eq_none]
    intro x hx
    obtain ⟨d, hd, rfl⟩ := List.mem_map.1 hx
    simp [h d hd]
  | some i =>
    rw [List.findIdx?_eq_some_iff_getElem] at h
    obtain ⟨hi, h1, h2⟩ := h
    refine .inr ⟨i, l[i], rfl, List.getElem?_eq_getElem hi, ?_, h1⟩
    rw [List.find?_eq_some_iff_getElem]
    refine ⟨h1, i, by simpa using hi, by simp, fun j hj => ?_⟩
    have := h2 j hj
    simpa using this
theorem keyX_other {L : List Cx} (h : OneK L) {p v c : Int} {x y : Cx} {i j : Nat} (hx : L[i]? = some x) (hy : L[j]? = some y) (hk : keyX p v c x = true) (hne : j ≠ i) : keyX p v c y = false := by
  cases hky : keyX p v c y with
  | false => rfl
  | true =>
    exfalso
    have e1 := keyX_iff.1 hk
    have e2 := keyX_iff.1 hky
    obtain ⟨hi, rfl⟩ := List.getElem?_eq_some_iff.1 hx
    obtain ⟨hj, rfl⟩ := List.getElem?_eq_some_iff.1 hy
    have hp := List.pairwise_iff_getElem.1 h
    rcases Nat.lt_or_gt_of_ne hne with h9 | h9
    · exact hp j i hj hi h9 ⟨e2.1.trans e1.1.symm, e2.2.1.trans e1.2.1.symm, e2.2.2.trans e1.2.2.symm⟩
    · exact hp i j hi hj h9 ⟨e1.1.trans e2.1.symm, e1.2.1.trans e2.2.1.symm, e1.2.2.trans e2.2.2.symm⟩
theorem del_take {L : List Cx} (h : OneK L) {p v c : Int} {i : Nat} {x : Cx} (hx : L[i]? = some x) (hk : keyX p v c x = true) : L.take i ++ L.drop (i + 1) = delC L p v c := by
  induction L generalizing i with
  | nil => simp at hx
  | cons y L ih =>
    have hh : OneK (y :: L) := h
    cases i with
    | zero =>
      simp only [List.getElem?_cons_zero, Option.some.injEq] at hx
      subst hx
      unfold delC
      simp only [List.take_zero, List.nil_append, Nat.zero_add, List.drop_succ_cons, List.drop_zero, List.filter_cons, hk, Bool.not_true, Bool.false_eq_true, if_false]
      symm
      rw [List.filter_eq_self]
      intro z hz
      obtain ⟨j, hj, he⟩ := List.getElem_of_mem hz
      have := keyX_other hh (i := 0) (j := j + 1) (x := y) (y := z) rfl (by simp [hj, he]) hk (by omega)
      rw [this]; rfl
    | succ i =>
      have hy : keyX p v c y = false := keyX_other hh (i := i + 1) (j := 0) hx rfl hk (by omega)
      have := ih (List.Pairwise.of_cons h) (i := i) (by simpa using hx)
      unfold delC at this ⊢
      simp only [List.take_succ_cons, List.drop_succ_cons, List.cons_append, List.filter_cons, hy, Bool.not_false, if_true, this]
theorem set_setC {L : List Cx} (h : OneK L) {p v c : Int} {i : Nat} {x : Cx} (hx : L[i]? = some x) (hk : keyX p v c x = true) (f : Cx → Cx) : L.set i (f x) = setC L p v c f := by
  apply List.ext_getElem?
  intro j
  unfold setC
  rw [List.getElem?_set, List.getElem?_map]
  by_cases e : i = j
  · subst e
    have hi : i < L.length := (List.getElem?_eq_some_iff.1 hx).1
    rw [if_pos rfl, if_pos hi, hx]; simp [hk]
  · rw [if_neg e]
    cases hy : L[j]? with
    | none => rfl
    | some y =>
      have := keyX_other h hx hy hk (fun q => e q.symm)
      simp [this]
/-! ### Sums -/
theorem usdL_sub {L M : List Cx} (h : List.Sublist L M) (q : Int) : usdL L q ≤ usdL M q := by
  induction h with
  | slnil => exact Int.le_refl _
  | cons x h ih => simp only [usdL]; have := needC_le x.k; split <;> omega
  | cons_cons x h ih => simp only [usdL]; omega
theorem usdL_port {rooms : List Int} {L : List Cx} (h : LI rooms L) (q : Int) : usdL L q ≤ 1152921504606846976 := by
  by_cases hq : 0 ≤ q ∧ q < rooms.length
  · obtain ⟨i, r, rfl, hi, hr⟩ := port_nat hq
    have := h.fit i r hr
    have := (h.rooms r (List.mem_of_getElem? hr)).2
    omega
  · have : ∀ M : List Cx, (∀ x ∈ M, ¬ x.p = q) → usdL M q = 0 := by
      intro M
      induction M with
      | nil => intro _; rfl
      | cons x M ih => intro hM; simp only [usdL]; rw [if_neg (hM x (List.mem_cons_self ..)), ih fun y hy => hM y (List.mem_cons_of_mem _ hy)]; rfl
    rw [this L fun x hx e => hq (by have := (h.key x hx).1; rw [e] at this; exact this)]
    omega
def butL (L : List Cx) (p v c : Int) (i : Nat) : List Cx := delC (L.take i) p v c
theorem butL_le {rooms : List Int} {L : List Cx} (h : LI rooms L) (p v c : Int) (i : Nat) (q : Int) : usdL (butL L p v c i) q ≤ 1152921504606846976 :=
  Int.le_trans (usdL_sub (List.Sublist.trans List.filter_sublist (List.take_sublist i L)) q) (usdL_port h q)
theorem butL_succ {L : List Cx} {p v c : Int} {i : Nat} {x : Cx} (hx : L[i]? = some x) (q : Int) : usdL (butL L p v c (i + 1)) q = usdL (butL L p v c i) q + if (x.p == q) && !keyX p v c x then needC x.k else 0 := by
  unfold butL delC
  rw [List.take_add_one, hx, List.filter_append, usdL_append]
  simp only [Option.toList_some, List.filter_cons, List.filter_nil]
  cases keyX p v c x with
  | true => simp [usdL]
  | false =>
    simp only [Bool.not_false, if_true, usdL, Bool.and_true, beq_iff_eq]
    split <;> omega
theorem butL_all {L : List Cx} {p v c : Int} {i : Nat} (h : L.length ≤ i) : butL L p v c i = delC L p v c := by unfold butL; rw [List.take_of_length_le h]
theorem find_neg {rooms : List Int} {L : List Cx} (h : LI rooms L) {v c : Int} : findC L (-1) v c = none := findC_none.2 fun x hx e => by have := (h.key x hx).1; omega
/-! ### In memory -/
/-- What is looked at: the links' rooms, the connections. -/
def Dv (w : World) (nd lo : Nat) (rooms : List Int) (l : List Dx) : Prop := ∃ rA rc A c rl rh hi, Own w nd #[.slice rA rooms.length rc, .slice A l.length c] 55 ∧ rooms.length ≤ rc ∧ l.length ≤ c ∧ rh ≤ w.heap.size ∧ hi ≤ w.heap.size ∧ Sl2 w rl rh rA (iL .i64 rooms) ∧ Sl2 w lo hi A (flat dxc l)
def rowOf (w : World) (T : TypeId) (Z : Nat → Prop) (A : Option Addr) (xs : List Value) : Prop := xs = [] ∨ ∃ b, A = some ⟨b, 0, none⟩ ∧ RowE w b T xs ∧ Z b
def DNT (w : World) (k : Nat) : Prop := TyB w 55 k ∨ TyB w 67 k ∨ TyB w 3 k ∨ DT w k
structure DnX (w : World) (nd : Nat) (X : Nat → Prop) (lo Bd : Nat) (rooms : List Int) (l : List Dx) (rA : Option Addr) (rc : Nat) (A : Option Addr) (c : Nat) : Prop where
  own : Own w nd #[.slice rA rooms.length rc, .slice A l.length c] 55
  rrow : rowOf w 3 X rA (iL .i64 rooms)
  lrow : rowOf w 67 X A (flat dxc l)
  pol : ∀ d ∈ l, DPl w d.pp d.Y d.x.k d.x.rs ∧ ∀ q, d.Y q → X q
  apart : l.Pairwise fun d e => ∀ q, d.Y q → ¬ e.Y q
  inN : X nd
  ty : ∀ q, X q → DNT w q
  low : ∀ q, X q → lo ≤ q
  up : ∀ q, X q → TyB w 3 q → q < Bd
  rcap : rooms.length ≤ rc
  lcap : l.length ≤ c
/-- A node of the document at an address. -/
def DnP (w : World) (nd : Nat) (X : Nat → Prop) (lo Bd : Nat) (rooms : List Int) (L : List Cx) : Prop := LI rooms L ∧ ∃ l rA rc A c, L = l.map Dx.x ∧ DnX w nd X lo Bd rooms l rA rc A c
section
variable {w w1 w' : World} {F X : Nat → Prop} {nd lo Bd : Nat} {rooms : List Int} {l : List Dx} {L : List Cx}
theorem Dv.no (h : Dv w nd lo rooms l) (hs : Step No w w') : Dv w' nd lo rooms l := by
  obtain ⟨rA, rc, A, c, rl, rh, hi, h1, h2, h3, h4, h5, h6, h7⟩ := h
  exact ⟨rA, rc, A, c, rl, rh, hi, h1.no hs, h2, h3, Nat.le_trans h4 hs.size, Nat.le_trans h5 hs.size, Sl2.step h6 hs (fun _ _ _ => id), Sl2.step h7 hs (fun _ _ _ => id)⟩
theorem sl_sl2 {B : Nat} {A : Option Addr} {xs : List Value} (h : Sl w B A xs) : Sl2 w 0 B A xs := fun h0 => by
  obtain ⟨b, o, e, h1, h2⟩ := h h0
  exact ⟨b, o, e, Nat.zero_le _, h1, h2⟩
theorem rowOf.sl2 {T : TypeId} {Z : Nat → Prop} {A : Option Addr} {xs : List Value} (h : rowOf w T Z A xs) (hZ : ∀ q, Z q → lo ≤ q) : ∃ hi, hi ≤ w.heap.size ∧ Sl2 w lo hi A xs := by
  rcases h with rfl | ⟨b, rfl, h, hb⟩
  · exact ⟨0, Nat.zero_le _, fun h0 => absurd h0 (by simp)⟩
  · refine ⟨b + 1, h.lt, fun h0 => ?_⟩
    obtain ⟨b', o, e, h1, h2, h3⟩ := h.sl h0
    exact ⟨b', o, e, by have := hZ b hb; omega, h2, h3⟩
theorem rowOf.step {T : TypeId} {Z : Nat → Prop} {A : Option Addr} {xs : List Value} (h : rowOf w T Z A xs) (hs : Step F w w') (hF : ∀ q, Z q → ¬ F q) : rowOf w' T Z A xs := by
  rcases h with rfl | ⟨b, rfl, h, hb⟩
  · exact .inl rfl
  · exact .inr ⟨b, rfl, h.step hs (hF b hb), hb⟩
theorem rowOf.of_rw {sz base n c : Nat} {T : TypeId} {A : Option Addr} {xs : List Value} {Z : Nat → Prop} (h : RwS w sz base T A n c xs) (hn : n = 0 → xs = []) (hZ : ∀ b, ownB A b → 0 < n → Z b) : rowOf w T Z A xs := by
  rcases Nat.eq_zero_or_pos n with h0 | h0
  · exact .inl (hn h0)
  · obtain ⟨rb, rfl, h1, hrow⟩ := RowE.of_rw h h0
    exact .inr ⟨rb, rfl, hrow, hZ rb ⟨_, rfl, rfl⟩ h0⟩
theorem DNT.lt {k : Nat} (h : DNT w k) : k < w.heap.size := by rcases h with h | h | h | h <;> exact h.lt
theorem DNT.step {k : Nat} (h : DNT w k) (hs : Step F w w') (hF : ¬ F k) : DNT w' k := by
  rcases h with h | h | h | h
  · exact .inl (h.step hs hF)
  · exact .inr (.inl (h.step hs hF))
  · exact .inr (.inr (.inl (h.step hs hF)))
  · exact .inr (.inr (.inr (h.step hs hF)))
theorem tyb_back {T : TypeId} {k : Nat} (h : TyB w' T k) (hs : Step F w w') (hk : k < w.heap.size) (hF : ¬ F k) : TyB w T k := by
  obtain ⟨c, f, h⟩ := h
  exact ⟨c, f, by rw [← hs.block k hk hF]; exact h⟩
theorem DnX.step {rA A : Option Addr} {rc c : Nat} (h : DnX w nd X lo Bd rooms l rA rc A c) (hs : Step F w w') (hF : ∀ q, X q → ¬ F q) : DnX w' nd X lo Bd rooms l rA rc A c :=
  ⟨h.own.step hs (hF _ h.inN), h.rrow.step hs hF, h.lrow.step hs hF, fun d hd => ⟨(h.pol d hd).1.step hs fun q hq => hF q ((h.pol d hd).2 q hq), (h.pol d hd).2⟩, h.apart, h.inN, fun q hq => (h.ty q hq).step hs (hF q hq), h.low, fun q hq ht => h.up q hq (tyb_back ht hs (h.ty q hq).lt (hF q hq)), h.rcap, h.lcap⟩
theorem DnX.dv {rA A : Option Addr} {rc c : Nat} (h : DnX w nd X lo Bd rooms l rA rc A c) : Dv w nd lo rooms l := by
  obtain ⟨hi, h1, h2⟩ := h.rrow.sl2 h.low
  obtain ⟨hi2, h3, h4⟩ := h.lrow.sl2 h.low
  exact ⟨rA, rc, A, c, lo, hi, hi2, h.own, h.rcap, h.lcap, h1, h3, h2, h4⟩
theorem DnP.step (h : DnP w nd X lo Bd rooms L) (hs : Step F w w') (hF : ∀ q, X q → ¬ F q) : DnP w' nd X lo Bd rooms L := by
  obtain ⟨h0, l, rA, rc, A, c, h1, h2⟩ := h
  exact ⟨h0, l, rA, rc, A, c, h1, h2.step hs hF⟩
theorem DnP.no (h : DnP w nd X lo Bd rooms L) (hs : Step No w w') : DnP w' nd X lo Bd rooms L := h.step hs fun _ _ => id
theorem DnP.dnt (h : DnP w nd X lo Bd rooms L) {q : Nat} (hq : X q) : DNT w q := by obtain ⟨_, l, rA, rc, A, c, _, h2⟩ := h; exact h2.ty q hq
theorem DnP.low (h : DnP w nd X lo Bd rooms L) {q : Nat} (hq : X q) : lo ≤ q := by obtain ⟨_, l, rA, rc, A, c, _, h2⟩ := h; exact h2.low q hq
theorem DnP.inN (h : DnP w nd X lo Bd rooms L) : X nd := by obtain ⟨_, l, rA, rc, A, c, _, h2⟩ := h; exact h2.inN
theorem DnP.lt (h : DnP w nd X lo Bd rooms L) : nd < w.heap.size := (h.dnt h.inN).lt
end
end Go.Proofs.YthchmlidobgkoaaGreat
end

section
/- Layer 20, the document's node: what is asked. -/
set_option linter.unusedVariables false
set_option linter.unusedSimpArgs false
set_option maxRecDepth 100000
set_option maxHeartbeats 4000000
namespace Go.Proofs.YthchmlidobgkoaaGreat
open Go.Vc Go.RowKit
theorem TDa8aa {P : Prop} (h : P := by first | exact ⟨⟨_, rfl⟩, ⟨_, rfl⟩, ⟨_, rfl⟩, trivial⟩ | trivial) : P := h
theorem TDa8ab {P : Prop} (h : P := by rw [wrap_i64 _ (by omega) (by omega)]; omega) : P := h
theorem TDa8ac {P : Prop} (h : P := by unfold befK; rw [Bool.eq_iff_iff]; simp; omega) : P := h

theorem dkright_any (p v c : Int) (w : World) :
  CV Tryz.prog 30 #[.agg #[I6 p, I6 v, I6 c]] w (fun x w1 => x = Bo (rightB p v c) ∧ Step No w w1) := by
 have hS : Step No w w := Step.refl _ _
 refine VCe Tryz.func30 (Vs (Vr ?_))
 refine Vx 0 30 #[I6 p, I6 v, I6 c] ?_
 intro b1 w1 hn1
 replace hS := Step.trans hS (hn1.step No)
 have ho1 := hn1.own
 refine Ve (Vn (Vs (Vr (Vl 1 ho1 (Vp 4 (Vand 6 10 8 [1] (decide (p ≥ 0)) (decide (p < 8)) (fun hg1 J1 => ?_) ?_))))))
 ·refine Vl 5 ho1 ?_
  exact Vp 8 (Vk [10, 1] J1)
 refine Vp 9 (Vand 11 15 13 [1] ((decide (p ≥ 0)) && (decide (p < 8))) (decide (v ≥ 0)) (fun hg2 J2 => ?_) ?_)
 ·refine Vl 10 ho1 ?_
  exact Vp 13 (Vk [15, 1] J2)
 refine Vp 14 (Vand 16 20 18 [1] (((decide (p ≥ 0)) && (decide (p < 8))) && (decide (v ≥ 0))) (decide (v < 4096)) (fun hg3 J3 => ?_) ?_)
 ·refine Vl 15 ho1 ?_
  exact Vp 18 (Vk [20, 1] J3)
 refine Vp 19 (Vand 21 25 23 [1] ((((decide (p ≥ 0)) && (decide (p < 8))) && (decide (v ≥ 0))) && (decide (v < 4096))) (decide (c ≥ 0)) (fun hg4 J4 => ?_) ?_)
 ·refine Vl 20 ho1 ?_
  exact Vp 23 (Vk [25, 1] J4)
 refine Vp 24 (Vand 26 30 28 [] (((((decide (p ≥ 0)) && (decide (p < 8))) && (decide (v ≥ 0))) && (decide (v < 4096))) && (decide (c ≥ 0))) (decide (c < 65536)) (fun hg5 J5 => ?_) ?_)
 ·refine Vl 25 ho1 ?_
  exact Vp 28 (Vk [30] J5)
 refine Ve (Vn (VC_ret (Vr1 (Bo ((((((decide (p ≥ 0)) && (decide (p < 8))) && (decide (v ≥ 0))) && (decide (v < 4096))) && (decide (c ≥ 0))) && (decide (c < 65536)))) ?_)))
 exact ⟨congrArg Value.bool (by unfold rightB; rw [Bool.eq_iff_iff]; simp [and_assoc]), hS⟩

theorem dkbefore_any (p v c p' v' c' : Int) (w : World) :
  CV Tryz.prog 38 #[.agg #[I6 p, I6 v, I6 c], .agg #[I6 p', I6 v', I6 c']] w (fun x w1 => x = Bo (befK p v c p' v' c') ∧ Step No w w1) := by
 have hS : Step No w w := Step.refl _ _
 refine VCe Tryz.func38 (Vs (Vr ?_))
 refine Vx 0 30 #[I6 p, I6 v, I6 c] ?_
 intro b1 w1 hn1
 replace hS := Step.trans hS (hn1.step No)
 have ho1 := hn1.own
 refine Vx 1 30 #[I6 p', I6 v', I6 c'] ?_
 intro b2 w2 hn2
 replace hS := Step.trans hS (hn2.step No)
 replace ho1 := ho1.no (hn2.step No)
 have ho2 := hn2.own
 refine Ve (Vn (Vs (Vs (Vr (Vl 1 ho1 (Vl 3 ho2 (Ve (Vn (Viu p p' (fun h1 => ?_) (fun h1 => ?_))))))))))
 ·refine Vs (Vr (Vl 1 ho1 (Vl 3 ho2 (Ve (Vn (VC_ret (VQ_then_ret (Vr1 (Bo (decide (p < p'))) ?_))))))))
  exact ⟨congrArg Value.bool TDa8ac, hS⟩
 ·refine VC_skip (Vn (Vs (Vs (Vr (Vl 1 ho1 (Vl 3 ho2 (Ve (Vn (Viu v v' (fun h2 => ?_) (fun h2 => ?_))))))))))
  ·refine Vs (Vr (Vl 1 ho1 (Vl 3 ho2 (Ve (Vn (VC_ret (VQ_then_ret (Vr1 (Bo (decide (v < v'))) ?_))))))))
   exact ⟨congrArg Value.bool TDa8ac, hS⟩
  ·refine VC_skip (Vn (Vs (Vr (Vl 1 ho1 (Vl 3 ho2 (Ve (Vn (VC_ret (Vr1 (Bo (decide (c < c'))) ?_)))))))))
   exact ⟨congrArg Value.bool TDa8ac, hS⟩

theorem dat_any (nd lo hi : Nat) (rooms : List Int) (l : List Dx) (rA : Option Addr) (rc : Nat) (A : Option Addr) (ca : Nat) (kp kv kc : Int) (w : World) (ho : Own w nd #[.slice rA rooms.length rc, .slice A l.length ca] 55) (hcn : l.length ≤ ca) (hhi : hi ≤ w.heap.size) (hv : Sl2 w lo hi A (flat dxc l)) (hm : l.length ≤ 64)  :
  CV Tryz.prog 32 #[.pointer (some ⟨nd, 0, none⟩), .agg #[.int .i64 kp, .int .i64 kv, .int .i64 kc]] w (fun x w1 => x = .int .i64 (atD l kp kv kc) ∧ Step No w w1) := by
 have hS : Step No w w := Step.refl _ _
 refine CV_enter Tryz.f32 _ 26 [(0, .pointer (some ⟨nd, 0, none⟩)), (1, .agg #[.int .i64 kp, .int .i64 kv, .int .i64 kc])] Tryz.func32 rfl rfl (by kernel_rfl) rfl ?_
 refine VC_seq ?_
 refine VC_region ?_
 refine VL_box (d := 3) (t := 30) (c := #[.int .i64 kp, .int .i64 kv, .int .i64 kc]) (by kernel_rfl) (by kernel_rfl) ?_
 intro b1 w1 hn1
 replace hS := Step.trans hS (hn1.step No)
 replace ho := ho.no (hn1.step No)
 replace hv := hv.step (hn1.step No) (fun k hk1 hk2 hF => hF)
 replace hhi := Nat.le_trans hhi (hn1.step No).size
 have ho1 := hn1.own
 refine VL_pure 2 [0, 3] [(0, .pointer (some ⟨nd, 0, none⟩)), (3, .pointer (some ⟨b1, 0, none⟩))] (by kernel_rfl) rfl ?_
 refine VL_end (by kernel_rfl) ?_
 refine VQ_next ?_
 refine VC_seq ?_
 refine VC_seq ?_
 refine VC_region ?_
 refine VL_pure 3 [0, 3, 8] [(0, .pointer (some ⟨nd, 0, none⟩)), (3, .pointer (some ⟨b1, 0, none⟩)), (8, .pointer (some ⟨nd, 1, none⟩))] (by kernel_rfl) rfl ?_
 refine VL_load (d := 9) (t := 53) (a := ⟨nd, 1, none⟩) (v := .slice A l.length ca) (by kernel_rfl) (by kernel_rfl) (Loads.own1 ho (by kernel_rfl) (by rfl)) ?_
 refine VL_pure 6 [0, 3, 10, 11] [(0, .pointer (some ⟨nd, 0, none⟩)), (3, .pointer (some ⟨b1, 0, none⟩)), (10, .int .i64 ((l.length : Nat) : Int)), (11, .int .i64 0)] (by kernel_rfl) rfl ?_
 refine VL_end (by kernel_rfl) ?_
 refine VQ_next ?_
 refine VC_block ?_
 refine VC_loop (σ := Nat) (fun σs => [(0, .pointer (some ⟨nd, 0, none⟩)), (3, .pointer (some ⟨b1, 0, none⟩)), (10, .int .i64 ((l.length : Nat) : Int)), (11, .int .i64 ((σs : Nat) : Int))]) (fun σs wr => σs ≤ l.length ∧ (∀ j, j < σs → ∀ x, l[j]? = some x → keyX kp kv kc x.x = false) ∧ (Step No w wr) ∧ (Own wr nd #[.slice rA rooms.length rc, .slice A l.length ca] 55) ∧ (Sl2 wr lo hi A (flat dxc l)) ∧ (hi ≤ wr.heap.size) ∧ (Own wr b1 #[.int .i64 kp, .int .i64 kv, .int .i64 kc] 30)) (fun σs wr => l.length - σs) 0 ⟨rfl, rfl, rfl, rfl, trivial⟩ ?_ ?_
 ·exact ⟨Nat.zero_le _, fun j h => absurd h (by omega), hS, ho, hv, hhi, ho1⟩
 rintro i wr ⟨hi0, hb, hS, ho, hv, hhi, ho1⟩
 try dsimp only at hi0 hb hS ho hv hhi ho1 ⊢
 refine VC_seq ?_
 refine VC_region ?_
 refine VL_pure 1 [0, 3, 10, 11, 12] [(0, .pointer (some ⟨nd, 0, none⟩)), (3, .pointer (some ⟨b1, 0, none⟩)), (10, .int .i64 ((l.length : Nat) : Int)), (11, .int .i64 ((i : Nat) : Int)), (12, .bool (decide (((i : Nat) : Int) < ((l.length : Nat) : Int))))] (by kernel_rfl) rfl ?_
 refine VL_end (by kernel_rfl) ?_
 refine VQ_next ?_
 refine VC_seq ?_
 refine VC_dec (((i : Nat) : Int) < ((l.length : Nat) : Int)) (by kernel_rfl) (fun h1 => ?_) (fun h1 => ?_)
 ·refine VC_skip ?_
  refine VQ_next ?_
  refine VC_seq ?_
  refine VC_block ?_
  refine VC_seq ?_
  refine VC_region ?_
  refine VL_pure 2 [0, 3, 10, 11, 5] [(0, .pointer (some ⟨nd, 0, none⟩)), (3, .pointer (some ⟨b1, 0, none⟩)), (10, .int .i64 ((l.length : Nat) : Int)), (11, .int .i64 ((i : Nat) : Int)), (5, .int .i64 ((i : Nat) : Int))] (by kernel_rfl) rfl ?_
  refine VL_end (by kernel_rfl) ?_
  refine VQ_next ?_
  refine VC_seq ?_
  obtain ⟨sb1, so1, rfl, hlbsb1⟩ := (Sl2.sl hv).open (by rw [flat_len dxc_len]; omega)
  obtain ⟨y1, hy1⟩ : ∃ x, l[i]? = some x := ⟨_, List.getElem?_eq_getElem (by omega)⟩
  refine VC_det [[], [0], [0, 1], [0, 1, 2], [], [0, 1, 2, 3, 4], [0, 1, 2, 3, 4, 5], [0, 1, 2, 3, 4, 5, 6], [], [0, 1, 2, 3, 4, 5, 6, 7, 8]] 9 [.pointer (some ⟨nd, 0, none⟩), .pointer (some ⟨nd, 0, none⟩), .pointer (some ⟨nd, 1, none⟩), .slice (some ⟨sb1, so1, none⟩) l.length ca, .int .i64 ((i : Nat) : Int), .pointer (some ⟨sb1, so1 + i * 10, none⟩), .pointer (some ⟨sb1, so1 + i * 10, none⟩), .agg #[.int .i64 y1.x.p, .int .i64 y1.x.v, .int .i64 y1.x.c], .agg #[.int .i64 kp, .int .i64 kv, .int .i64 kc]] [0, 1, 2, 4, 6] [3, 5, 7, 8] (by kernel_rfl) (by kernel_rfl) (by kernel_rfl) (by kernel_rfl) ?_ ?_
  ·intro w2 hs1
   replace ho := ho.no hs1
   replace hv := hv.step hs1 (fun k hk1 hk2 hF => hF)
   replace ho1 := ho1.no hs1
   exact ⟨Det1_load (d := 17) (t := 53) (a := ⟨nd, 1, none⟩) (by kernel_rfl) (by kernel_rfl) (Loads.own1 ho (by kernel_rfl) (by rfl)), Det1_index (d := 19) (b := sb1) (o := so1) (len := l.length) (sz := 10) (m := ((i : Nat) : Int)) (by kernel_rfl) (by kernel_rfl) i (by rfl) (by omega) (so1 + i * 10) (by omega), Det1_load (d := 21) (t := 30) (a := ⟨sb1, so1 + i * 10, none⟩) (by kernel_rfl) (by kernel_rfl) (Sl.flatAgg (sz := 10) (Sl2.sl hv) dxc_len hy1 0 3 (by kernel_rfl) (by decide) _ (by first | rfl | omega)), Det1_load (d := 22) (t := 30) (a := ⟨b1, 0, none⟩) (by kernel_rfl) (by kernel_rfl) (Loads.ownL ho1 (n := 3) (by kernel_rfl) (by kernel_rfl) (by kernel_rfl)), trivial⟩
  intro w2 hs1
  replace hS := Step.trans hS hs1
  replace ho := ho.no hs1
  replace hv := hv.step hs1 (fun k hk1 hk2 hF => hF)
  replace hhi := Nat.le_trans hhi (hs1).size
  replace ho1 := ho1.no hs1
  refine VL_keep [0, 3, 10, 11, 5, 21, 22] [(0, .pointer (some ⟨nd, 0, none⟩)), (3, .pointer (some ⟨b1, 0, none⟩)), (10, .int .i64 ((l.length : Nat) : Int)), (11, .int .i64 ((i : Nat) : Int)), (5, .int .i64 ((i : Nat) : Int)), (21, .agg #[.int .i64 y1.x.p, .int .i64 y1.x.v, .int .i64 y1.x.c]), (22, .agg #[.int .i64 kp, .int .i64 kv, .int .i64 kc])] (by kernel_rfl) ?_
  refine VL_agEq (d := 23) (dd := 9) (ls := ([.int .i64] ++ [.int .i64] ++ [.int .i64] ++ [])) (pos := true) (t := 30) (xs := #[.int .i64 y1.x.p, .int .i64 y1.x.v, .int .i64 y1.x.c]) (ys := #[.int .i64 kp, .int .i64 kv, .int .i64 kc]) (by kernel_rfl) (by kernel_rfl) (by kernel_rfl) (by kernel_rfl) TDa8aa TDa8aa (keyX kp kv kc y1.x) (by rw [Bool.eq_iff_iff]; simp [cellsEq, leafEq, keyX]) ?_
  refine VL_end (by kernel_rfl) ?_
  refine VQ_next ?_
  refine VC_cond (keyX kp kv kc y1.x) (by kernel_rfl) (fun h2 => ?_) (fun h2 => ?_)
  ·try simp only [Bool.and_eq_true, Bool.or_eq_true, decide_eq_true_eq, Bool.not_eq_true', decide_eq_false_iff_not, Bool.and_eq_false_iff, Bool.or_eq_false_iff, beq_iff_eq, bne_iff_ne, beq_eq_false_iff_ne, bne_eq_false_iff_eq, Bool.not_eq_eq_eq_not, Bool.not_true, Bool.not_false] at h2
   refine VC_seq ?_
   refine VC_region ?_
   refine VL_pure 2 [4] [(4, .int .i64 ((i : Nat) : Int))] (by kernel_rfl) rfl ?_
   refine VL_end (by kernel_rfl) ?_
   refine VQ_next ?_
   refine VC_ret ?_
   refine VQ_block_ret ?_
   refine VQ_then_ret ?_
   refine VQ_then_ret ?_
   refine VQ_block_ret ?_
   refine VQ_then_ret ?_
   refine VQ_ret1 (.int .i64 ((i : Nat) : Int)) (.inr rfl) rfl rfl ?_
   exact ⟨congrArg (Value.int .i64) (atD_hit hb hy1 (by first | assumption | simp_all)).symm, hS⟩
  ·try simp only [Bool.and_eq_true, Bool.or_eq_true, decide_eq_true_eq, Bool.not_eq_true', decide_eq_false_iff_not, Bool.and_eq_false_iff, Bool.or_eq_false_iff, beq_iff_eq, bne_iff_ne, beq_eq_false_iff_ne, bne_eq_false_iff_eq, Bool.not_eq_eq_eq_not, Bool.not_true, Bool.not_false] at h2
   refine VC_skip ?_
   refine VQ_block_normal ?_
   refine VQ_next ?_
   refine VC_region ?_
   refine VL_pure 1 [0, 3, 10, 25] [(0, .pointer (some ⟨nd, 0, none⟩)), (3, .pointer (some ⟨b1, 0, none⟩)), (10, .int .i64 ((l.length : Nat) : Int)), (25, .int .i64 (IntKind.wrap .i64 (((i : Nat) : Int) + 1)))] (by kernel_rfl) rfl ?_
   have he1 : IntKind.wrap .i64 (((i : Nat) : Int) + 1) = ((i + 1 : Nat) : Int) := TDa8ab
   refine VL_eq [(0, .pointer (some ⟨nd, 0, none⟩)), (3, .pointer (some ⟨b1, 0, none⟩)), (10, .int .i64 ((l.length : Nat) : Int)), (25, .int .i64 ((i + 1 : Nat) : Int))] (by rw [he1]) ?_
   refine VL_pure 2 [0, 3, 10, 11] [(0, .pointer (some ⟨nd, 0, none⟩)), (3, .pointer (some ⟨b1, 0, none⟩)), (10, .int .i64 ((l.length : Nat) : Int)), (11, .int .i64 ((i + 1 : Nat) : Int))] (by kernel_rfl) rfl ?_
   refine VL_end (by kernel_rfl) ?_
   refine VQ_again (i + 1) ⟨rfl, rfl, rfl, rfl, trivial⟩ ?_ ?_
   ·exact ⟨by omega, fun j h x hx => by
     by_cases e : j = i
     ·subst e
      rw [Option.some.inj (hx.symm.trans hy1)]
      first | assumption | simp_all
     ·exact hb j (by omega) x hx, hS, ho, hv, hhi, ho1⟩
   ·(try dsimp only); omega
 ·refine VC_exit ?_
  refine VQ_then_exit ?_
  refine VQ_then_exit ?_
  refine VQ_block_hit ?_
  refine VQ_next ?_
  refine VC_seq ?_
  refine VC_region ?_
  refine VL_pure 1 [4] [(4, .int .i64 (-1))] (by kernel_rfl) rfl ?_
  refine VL_end (by kernel_rfl) ?_
  refine VQ_next ?_
  refine VC_ret ?_
  refine VQ_ret1 (.int .i64 (-1)) (.inr rfl) rfl rfl ?_
  exact ⟨congrArg (Value.int .i64) (atD_none (fun j h => hb j (by omega))).symm, hS⟩

theorem dused_any (nd lo : Nat) (rooms : List Int) (l : List Dx) (port : Int) (kp kv kc : Int) (w : World) (hR : Dv w nd lo rooms l) (hm : l.length ≤ 64) (hU : ∀ i q, usdL (butL (l.map Dx.x) kp kv kc i) q ≤ 1152921504606846976) :
  CV Tryz.prog 41 #[Pt nd 0, I6 port, .agg #[I6 kp, I6 kv, I6 kc]] w (fun x w1 => x = I6 (usdL (delC (l.map Dx.x) kp kv kc) port) ∧ Step No w w1) := by
 have hS : Step No w w := Step.refl _ _
 obtain ⟨rA, rc, A, ca, rl, rh, hi, ho, hrc, hcn, hrh, hhi, hrw, hv⟩ := hR
 have hrv : Sl w rh rA (iL .i64 rooms) := Sl2.sl hrw
 refine VCe Tryz.func41 (Vs (Vr ?_))
 have hzk1 := hhi
 refine Vx 0 30 #[I6 kp, I6 kv, I6 kc] ?_
 intro b1 w1 hn1
 replace hS := Step.trans hS (hn1.step No)
 replace ho := ho.no (hn1.step No)
 replace hv := hv.step (hn1.step No) (fun k hk1 hk2 hF => hF)
 replace hrv := hrv.no (hn1.step No)
 replace hhi := Nat.le_trans hhi (hn1.step No).size
 replace hrh := Nat.le_trans hrh (hn1.step No).size
 have ho1 := hn1.own
 have hzhn1 := hn1.size
 have hqhn1 := hn1.eqb
 refine Ve (Vn (Vrp (Vs (Vs (Vr (Vl 3 ho (Ve (Vn (VC_block (VC_loop (σ := Nat × Int) (fun σs => [(0, Pt nd 0), (1, I6 port), (5, Pt b1 0), (13, I6 ((l.length : Nat) : Int)), (14, I6 ((σs.1 : Nat) : Int)), (7, I6 σs.2)]) (fun σs wr => σs.1 ≤ l.length ∧ σs.2 = usdL (butL (l.map Dx.x) kp kv kc σs.1) port ∧ (Step No w wr) ∧ (Own wr nd #[.slice rA rooms.length rc, .slice A l.length ca] 55) ∧ (Sl2 wr lo hi A (flat dxc l)) ∧ (Sl wr rh rA (iL .i64 rooms)) ∧ (hi ≤ wr.heap.size) ∧ (rh ≤ wr.heap.size) ∧ (Own wr b1 #[I6 kp, I6 kv, I6 kc] 30)) (fun σs wr => l.length - σs.1) ⟨0, 0⟩ Su ?_ ?_))))))))))
 ·exact ⟨Nat.zero_le _, rfl, hS, ho, hv, hrv, hhi, hrh, ho1⟩
 rintro ⟨i, s9⟩ wr ⟨hi0, hs9, hS, ho, hv, hrv, hhi, hrh, ho1⟩
 try dsimp only at hi0 hs9 hS ho hv hrv hhi hrh ho1 ⊢
 refine Vrp (Vs (Vid (((i : Nat) : Int) < ((l.length : Nat) : Int)) (fun h1 => ?_) (fun h1 => ?_)))
 ·refine VC_skip (Vn (Vs (VC_block (Vrp (Vs ?_)))))
  obtain ⟨sb1, so1, rfl, hlbsb1⟩ := (Sl2.sl hv).open (by rw [flat_len dxc_len]; omega)
  have hs1 := drew_step wr
  have hs1z : wr.heap.size = wr.drew.heap.size := rfl
  refine Tx 21 (fun k => wr.heap.size ≤ k) [] [0, 1, 2, 3, 4, 5, 6, 7, 8, 9, 10, 11, 12, 13, 14, 15, 16, 17, 18, 19, 20] ?_
  have hzl2 := ho.lt
  have hzl3 := ho1.lt
  generalize wr.drew = w2 at hs1 hs1z ⊢
  replace hS := Step.trans hS hs1
  replace ho := ho.no hs1
  replace hv := hv.step hs1 (fun k hk1 hk2 hF => hF)
  replace hrv := hrv.no hs1
  replace hhi := Nat.le_trans hhi (hs1).size
  replace hrh := Nat.le_trans hrh (hs1).size
  replace ho1 := ho1.no hs1
  refine Tp 3 (Tl (fun w3 hr1 => ho.step hr1 (by (try simp only); omega)) (Tp 1 (VT_index (d := 22) (b := sb1) (o := so1) (len := l.length) (sz := 10) (mm := ((i : Nat) : Int)) (by kernel_rfl) (by kernel_rfl) i (by rfl) (by omega) (so1 + i * 10) (by omega) (Tp 2 ?_))))
  obtain ⟨y1, hy1⟩ : ∃ x, l[i]? = some x := ⟨_, List.getElem?_eq_getElem (by omega)⟩
  refine VT_load (d := 25) (t := 3) (a := ⟨sb1, so1 + i * 10, none⟩) (v := I6 y1.x.p) (by kernel_rfl) (by kernel_rfl) ?_ ?_
  ·intro w4 hr2
   replace hv := hv.step hr2 (fun k hk1 hk2 hG => by (try simp only at hG); omega)
   exact (Sl.flatOne (sz := 10) (Sl2.sl hv) dxc_len hy1 0 (by rfl) (by decide) (by kernel_rfl) _ (by first | rfl | omega))
  refine Tp 3 ?_
  rcases Bool.eq_false_or_eq_true (y1.x.p == port) with hg1 | hg1
  ·refine Tq [(11, Bo (y1.x.p == port)), (10, Bo (y1.x.p == port))] [(11, Bo true), (10, Bo true)] (by simp only [hg1, Bool.not_true, Bool.not_false]) ?_
   try simp only [bne_iff_ne, beq_iff_eq, decide_eq_true_eq, decide_eq_false_iff_not, bne_eq_false_iff_eq, beq_eq_false_iff_ne, ne_eq] at hg1
   refine Tp 3 (Tl (fun w5 hr3 => ho.step hr3 (by (try simp only); omega)) (Tp 1 (VT_index (d := 34) (b := sb1) (o := so1) (len := l.length) (sz := 10) (mm := ((i : Nat) : Int)) (by kernel_rfl) (by kernel_rfl) i (by rfl) (by omega) (so1 + i * 10) (by omega) (Tp 1 (VT_load (d := 36) (t := 30) (a := ⟨sb1, so1 + i * 10, none⟩) (v := .agg #[I6 y1.x.p, I6 y1.x.v, I6 y1.x.c]) (by kernel_rfl) (by kernel_rfl) ?_ ?_)))))
   ·intro w6 hr4
    replace hv := hv.step hr4 (fun k hk1 hk2 hG => by (try simp only at hG); omega)
    exact (Sl.flatAgg (sz := 10) (Sl2.sl hv) dxc_len hy1 0 3 (by kernel_rfl) (by decide) _ (by first | rfl | omega))
   refine Tl (fun w7 hr5 => ho1.step hr5 (by (try simp only); omega)) (VT_end ?_)
   intro w8 hs2
   replace hS := Step.trans hS hs2
   replace ho := ho.no hs2
   replace hv := hv.step hs2 (fun k hk1 hk2 hF => hF)
   replace hrv := hrv.no hs2
   replace hhi := Nat.le_trans hhi (hs2).size
   replace hrh := Nat.le_trans hrh (hs2).size
   replace ho1 := ho1.no hs2
   refine VL_agEq (d := 38) (dd := 9) (ls := ([.int .i64] ++ [.int .i64] ++ [.int .i64] ++ [])) (pos := false) (t := 30) (xs := #[I6 y1.x.p, I6 y1.x.v, I6 y1.x.c]) (ys := #[I6 kp, I6 kv, I6 kc]) (by kernel_rfl) (by kernel_rfl) (by kernel_rfl) (by kernel_rfl) TDa8aa TDa8aa (!(keyX kp kv kc y1.x)) (by rw [Bool.eq_iff_iff]; simp [cellsEq, leafEq, keyX]) (Ve (Vn (Vif (!(keyX kp kv kc y1.x)) (fun h2 => ?_) (fun h2 => ?_))))
   ·try simp only [BB] at h2
    have hbu := hU (i + 1) port
    have hbn := usdL_nonneg (butL (l.map Dx.x) kp kv kc i) port
    have hbk := needC_le y1.x.k
    rw [butL_succ (show (l.map Dx.x)[i]? = some y1.x by rw [List.getElem?_map, hy1]; rfl), if_pos (by simp_all), ← hs9] at hbu
    rw [← hs9] at hbn
    refine Vr (Vl 4 ho (Vp 6 (VL_index (d := 46) (b := sb1) (o := so1) (len := l.length) (sz := 10) (m := ((i : Nat) : Int)) (by kernel_rfl) (by kernel_rfl) i (by rfl) (by omega) (so1 + i * 10) (by omega) (Vla 8 (t := 32) (a := ⟨sb1, so1 + i * 10 + 3, none⟩) (v := .agg #[I6 y1.x.k.kind, I6 y1.x.k.peak, I6 y1.x.k.early, I6 y1.x.k.whole, I6 y1.x.k.burst, I6 y1.x.k.least]) (Sl.flatAgg (sz := 10) (Sl2.sl hv) dxc_len hy1 3 6 (by kernel_rfl) (by decide) _ (by first | rfl | omega)) ?_))))
    refine Vc 9 Tryz.call33 (dneed_any y1.x.k _) ?_
    rintro _ w9 ⟨rfl, hc1⟩
    replace hS := Step.trans hS hc1
    replace ho := ho.no hc1
    replace hv := hv.step hc1 (fun k hk1 hk2 hF => hF)
    replace hrv := hrv.no hc1
    replace hhi := Nat.le_trans hhi (hc1).size
    replace hrh := Nat.le_trans hrh (hc1).size
    replace ho1 := ho1.no hc1
    refine Vp 11 (Vq 50 (I6 (IntKind.wrap .i64 (s9 + (needC y1.x.k)))) (I6 (s9 + needC y1.x.k)) (by rw [wrap_i64 _ (by omega) (by omega)]) (Ve (VQ_block_normal (Vn (Vr (Vp 1 ?_))))))
    have he1 : IntKind.wrap .i64 (((i : Nat) : Int) + 1) = ((i + 1 : Nat) : Int) := TDa8ab
    refine Vq 51 (I6 (IntKind.wrap .i64 (((i : Nat) : Int) + 1))) (I6 ((i + 1 : Nat) : Int)) (by rw [he1]) (Ve (VQ_again ⟨i + 1, (s9 + needC y1.x.k)⟩ Su ?_ ?_))
    ·exact ⟨by omega, by rw [butL_succ (show (l.map Dx.x)[i]? = some y1.x by rw [List.getElem?_map, hy1]; rfl), ← hs9]; split <;> simp_all, hS, ho, hv, hrv, hhi, hrh, ho1⟩
    ·(try dsimp only); omega
   ·try simp only [BB] at h2
    refine VC_skip (VQ_block_normal (Vn (Vr (Vp 1 ?_))))
    have he2 : IntKind.wrap .i64 (((i : Nat) : Int) + 1) = ((i + 1 : Nat) : Int) := TDa8ab
    refine Vq 51 (I6 (IntKind.wrap .i64 (((i : Nat) : Int) + 1))) (I6 ((i + 1 : Nat) : Int)) (by rw [he2]) (Ve (VQ_again ⟨i + 1, s9⟩ Su ?_ ?_))
    ·exact ⟨by omega, by rw [butL_succ (show (l.map Dx.x)[i]? = some y1.x by rw [List.getElem?_map, hy1]; rfl), ← hs9]; split <;> simp_all, hS, ho, hv, hrv, hhi, hrh, ho1⟩
    ·(try dsimp only); omega
  ·refine Tq [(11, Bo (y1.x.p == port)), (10, Bo (y1.x.p == port))] [(11, Bo false), (10, Bo false)] (by simp only [hg1, Bool.not_true, Bool.not_false]) ?_
   try simp only [bne_iff_ne, beq_iff_eq, decide_eq_true_eq, decide_eq_false_iff_not, bne_eq_false_iff_eq, beq_eq_false_iff_ne, ne_eq] at hg1
   refine Tp 9 (VT_end ?_)
   intro w10 hs3
   replace hS := Step.trans hS hs3
   replace ho := ho.no hs3
   replace hv := hv.step hs3 (fun k hk1 hk2 hF => hF)
   replace hrv := hrv.no hs3
   replace hhi := Nat.le_trans hhi (hs3).size
   replace hrh := Nat.le_trans hrh (hs3).size
   replace ho1 := ho1.no hs3
   refine Ve (Vn (Vf (VC_skip (VQ_block_normal (Vn (Vr (Vp 1 ?_)))))))
   have he3 : IntKind.wrap .i64 (((i : Nat) : Int) + 1) = ((i + 1 : Nat) : Int) := TDa8ab
   refine Vq 51 (I6 (IntKind.wrap .i64 (((i : Nat) : Int) + 1))) (I6 ((i + 1 : Nat) : Int)) (by rw [he3]) (Ve (VQ_again ⟨i + 1, s9⟩ Su ?_ ?_))
   ·exact ⟨by omega, by rw [butL_succ (show (l.map Dx.x)[i]? = some y1.x by rw [List.getElem?_map, hy1]; rfl), ← hs9]; split <;> simp_all, hS, ho, hv, hrv, hhi, hrh, ho1⟩
   ·(try dsimp only); omega
 ·refine VC_exit (VQ_then_exit (VQ_then_exit (VQ_block_hit (Vn (Vrp (VC_ret (Vr1 (I6 s9) ?_)))))))
  exact ⟨congrArg (Value.int .i64) (by rw [hs9, butL_all (by rw [List.length_map]; omega)]), hS⟩

end Go.Proofs.YthchmlidobgkoaaGreat
end

section
/- Layer 20, the document's node: what is left, what is booked, whether one can be taken. -/
set_option linter.unusedVariables false
set_option linter.unusedSimpArgs false
set_option maxRecDepth 100000
set_option maxHeartbeats 4000000
namespace Go.Proofs.YthchmlidobgkoaaGreat
open Go.Vc Go.RowKit

theorem dnone_any (w : World) :
  CV Tryz.prog 59 #[] w (fun x w1 => x = .agg #[.int .i64 (-1), .int .i64 0, .int .i64 0] ∧ Step No w w1) := by
 have hS : Step No w w := Step.refl _ _
 refine CV_enter Tryz.f59 _ 2 [] Tryz.func59 rfl rfl (by kernel_rfl) rfl ?_
 refine VC_seq ?_
 refine VC_region ?_
 refine VL_box (d := 0) (t := 30) (c := #[.int .i64 0, .int .i64 0, .int .i64 0]) (by kernel_rfl) (by kernel_rfl) ?_
 intro b1 w1 hn1
 replace hS := Step.trans hS (hn1.step No)
 have ho1 := hn1.own
 have hzhn1 := hn1.size
 have hqhn1 := hn1.eqb
 refine VL_end (by kernel_rfl) ?_
 refine VQ_next ?_
 refine VC_seq ?_
 refine VC_region ?_
 refine VL_pure 1 [0, 1] [(0, .pointer (some ⟨b1, 0, none⟩)), (1, .agg #[.int .i64 (-1), .int .i64 0, .int .i64 0])] (by kernel_rfl) rfl ?_
 refine VL_store (b := b1) (o := 0) (vs := [.int .i64 (-1), .int .i64 0, .int .i64 0]) (by kernel_rfl) (by kernel_rfl) ho1 (Nat.le_of_ble_eq_true (by kernel_rfl)) ?_
 intro w2 hw1
 replace hS := Step.transNew hS hw1.step (fun _ _ _ => by omega)
 have ho2 : Own w2 b1 #[.int .i64 (-1), .int .i64 0, .int .i64 0] 30 := Own.cast hw1.own (by kernel_rfl)
 refine VL_end (by kernel_rfl) ?_
 refine VQ_next ?_
 refine VC_ret ?_
 refine VQ_retC1 (T := 30) (.agg #[.int .i64 (-1), .int .i64 0, .int .i64 0]) (.inr rfl) rfl rfl (Loads.ownL ho2 (n := 3) (by kernel_rfl) (by kernel_rfl) (by kernel_rfl)) ?_
 exact ⟨rfl, hS⟩

theorem dsum_eq {rooms : List Int} {L : List Cx} (h : LI rooms L) (q : Int) : usdL (delC L (-1) 0 0) q = usdL L q := by rw [delC_none (find_neg h)]
theorem dleft_eq {rooms : List Int} {l : List Dx} (h : LI rooms (l.map Dx.x)) {i : Nat} (hi : i < rooms.length) : IntKind.wrap .i64 (rooms.getD i 0 - usdL (delC (l.map Dx.x) (-1) 0 0) (i : Nat)) = leftN rooms (l.map Dx.x) (i : Nat) := by
  have h1 : rooms[i]? = some (rooms.getD i 0) := by simp [List.getElem?_eq_getElem hi]
  have h2 := h.rooms _ (List.mem_of_getElem? h1)
  have h3 := h.fit i _ h1
  have h4 := usdL_nonneg (l.map Dx.x) (i : Int)
  rw [dsum_eq h, leftN_at h1, wrap_i64 _ (by omega) (by omega)]
theorem dleft_ou {rooms : List Int} {L : List Cx} {p : Int} (h : p < 0 ∨ p ≥ rooms.length) : 0 = leftN rooms L p := by unfold leftN; rw [if_neg (by omega)]
theorem dleft_n (nd lo : Nat) (rooms : List Int) (l : List Dx) (p : Int) (w : World) (hR : Dv w nd lo rooms l) (hli : LI rooms (l.map Dx.x)) (hp : p < 0) :
  CV Tryz.prog 34 #[Pt nd 0, I6 p] w (fun x w1 => x = I6 (leftN rooms (l.map Dx.x) p) ∧ Step No w w1) := by
 have hS : Step No w w := Step.refl _ _
 obtain ⟨rA, rc, A, ca, rl, rh, hi, ho, hrc, hcn, hrh, hhi, hrw, hv⟩ := hR
 refine VCe Tryz.func34 (Vrp (Vs (Vs (Vr (Vp 3 (Vkn 7 (decide (p < 0)) true (decide_eq_true (by omega)) (Ve (Vn (Vt (Vrp (VC_ret (VQ_then_ret (Vr1 (I6 0) ?_)))))))))))))
 exact ⟨congrArg (Value.int .i64) (dleft_ou (by omega)), hS⟩

theorem dleft_g (nd lo : Nat) (rooms : List Int) (l : List Dx) (p : Int) (w : World) (hR : Dv w nd lo rooms l) (hli : LI rooms (l.map Dx.x)) (hp : 0 ≤ p ∧ p ≥ rooms.length) :
  CV Tryz.prog 34 #[Pt nd 0, I6 p] w (fun x w1 => x = I6 (leftN rooms (l.map Dx.x) p) ∧ Step No w w1) := by
 have hS : Step No w w := Step.refl _ _
 obtain ⟨rA, rc, A, ca, rl, rh, hi, ho, hrc, hcn, hrh, hhi, hrw, hv⟩ := hR
 refine VCe Tryz.func34 (Vrp (Vs (Vs (Vr (Vp 3 (Vkn 7 (decide (p < 0)) false (decide_eq_false (by omega)) (Vl 7 ho (Ve (Vn (Vit (b := decide (p ≥ ((rooms.length : Nat) : Int))) (decide_eq_true (by omega)) (Vrp (VC_ret (VQ_then_ret (Vr1 (I6 0) ?_))))))))))))))
 exact ⟨congrArg (Value.int .i64) (dleft_ou (by omega)), hS⟩

theorem dleft_i (nd lo : Nat) (rooms : List Int) (l : List Dx) (i : Nat) (w : World) (hR : Dv w nd lo rooms l) (hli : LI rooms (l.map Dx.x)) (hi9 : i < rooms.length) :
  CV Tryz.prog 34 #[.pointer (some ⟨nd, 0, none⟩), .int .i64 ((i : Nat) : Int)] w (fun x w1 => x = .int .i64 (leftN rooms (l.map Dx.x) (i : Nat)) ∧ Step No w w1) := by
 have hS : Step No w w := Step.refl _ _
 obtain ⟨rA, rc, A, ca, rl, rh, hi, ho, hrc, hcn, hrh, hhi, hrw, hv⟩ := hR
 have hrv : Sl w rh rA (iL .i64 rooms) := Sl2.sl hrw
 have hm : l.length ≤ 64 := by have h9 := hli.len; rw [List.length_map] at h9; exact h9
 have hrm := hli.rm
 refine CV_enter Tryz.f34 _ 28 [(0, .pointer (some ⟨nd, 0, none⟩)), (1, .int .i64 ((i : Nat) : Int))] Tryz.func34 rfl rfl (by kernel_rfl) rfl ?_
 refine VC_seq ?_
 refine VC_region ?_
 refine VL_pure 1 [0, 1] [(0, .pointer (some ⟨nd, 0, none⟩)), (1, .int .i64 ((i : Nat) : Int))] (by kernel_rfl) rfl ?_
 refine VL_end (by kernel_rfl) ?_
 refine VQ_next ?_
 refine VC_seq ?_
 refine VC_seq ?_
 refine VC_region ?_
 refine VL_pure 3 [0, 1, 7] [(0, .pointer (some ⟨nd, 0, none⟩)), (1, .int .i64 ((i : Nat) : Int)), (7, .bool (decide (((i : Nat) : Int) < 0)))] (by kernel_rfl) rfl ?_
 refine VL_known (decide (((i : Nat) : Int) < 0)) (fun bV => [(0, .pointer (some ⟨nd, 0, none⟩)), (1, .int .i64 ((i : Nat) : Int)), (7, .bool bV)]) false rfl (decide_eq_false (by omega)) ?_
 refine VL_pure 7 [0, 1, 7, 8, 11] [(0, .pointer (some ⟨nd, 0, none⟩)), (1, .int .i64 ((i : Nat) : Int)), (7, .bool false), (8, .int .i64 ((i : Nat) : Int)), (11, .pointer (some ⟨nd, 0, none⟩))] (by kernel_rfl) rfl ?_
 refine VL_load (d := 12) (t := 22) (a := ⟨nd, 0, none⟩) (v := .slice rA rooms.length rc) (by kernel_rfl) (by kernel_rfl) (Loads.own1 ho (by kernel_rfl) (by rfl)) ?_
 refine VL_pure 11 [0, 1, 15] [(0, .pointer (some ⟨nd, 0, none⟩)), (1, .int .i64 ((i : Nat) : Int)), (15, .bool (decide (((i : Nat) : Int) ≥ ((rooms.length : Nat) : Int))))] (by kernel_rfl) rfl ?_
 refine VL_end (by kernel_rfl) ?_
 refine VQ_next ?_
 refine VC_is (b := decide (((i : Nat) : Int) ≥ ((rooms.length : Nat) : Int))) false (by kernel_rfl) (decide_eq_false (by omega)) ?_
 refine VC_ite_false ?_
 refine VC_skip ?_
 refine VQ_next ?_
 refine VC_seq ?_
 obtain ⟨sb1, so1, rfl, hlbsb1⟩ := hrv.open (by rw [iL_length]; omega)
 refine VC_det [[], [0], [0, 1], [0, 1, 2], [], [0, 1, 2, 3, 4], [0, 1, 2, 3, 4, 5], [], [], [], [7, 8, 9], [0, 1, 2, 3, 4, 5, 6, 7, 8, 9, 10], [0, 1, 2, 3, 4, 5, 6, 7, 8, 9, 10, 11]] 11 [.pointer (some ⟨nd, 0, none⟩), .pointer (some ⟨nd, 0, none⟩), .pointer (some ⟨nd, 0, none⟩), .slice (some ⟨sb1, so1, none⟩) rooms.length rc, .int .i64 ((i : Nat) : Int), .pointer (some ⟨sb1, so1 + i, none⟩), .int .i64 (rooms.getD i 0), .pointer (some ⟨nd, 0, none⟩), .int .i64 ((i : Nat) : Int), .agg #[.int .i64 (-1), .int .i64 0, .int .i64 0], .int .i64 (usdL (delC (l.map Dx.x) (-1) 0 0) ((i : Nat) : Int))] [0, 1, 2, 4, 7, 8] [3, 5, 6, 9, 10] (by kernel_rfl) (by kernel_rfl) (by kernel_rfl) (by kernel_rfl) ?_ ?_
 ·intro w1 hs1
  replace ho := ho.no hs1
  replace hv := hv.step hs1 (fun k hk1 hk2 hF => hF)
  replace hrv := hrv.no hs1
  replace hhi := Nat.le_trans hhi (hs1).size
  replace hrh := Nat.le_trans hrh (hs1).size
  exact ⟨Det1_load (d := 19) (t := 22) (a := ⟨nd, 0, none⟩) (by kernel_rfl) (by kernel_rfl) (Loads.own1 ho (by kernel_rfl) (by rfl)), Det1_index (d := 21) (b := sb1) (o := so1) (len := rooms.length) (sz := 1) (m := ((i : Nat) : Int)) (by kernel_rfl) (by kernel_rfl) i (by rfl) (by omega) (so1 + i) (by omega), Det1_load (d := 22) (t := 3) (a := ⟨sb1, so1 + i, none⟩) (by kernel_rfl) (by kernel_rfl) (Sl.ldI hrv (by kernel_rfl) i (by (try simp only [List.length_set, List.length_append, List.length_map, List.length_replicate, List.length_cons, List.length_nil, List.length_take, List.length_drop, List.length_range]) <;> omega)), Det1_call (d := 25) (f := 59) (args := #[]) (by kernel_rfl) (by kernel_rfl) (by kernel_rfl) Tryz.call59 (by exact dnone_any _), Det1_call (d := 26) (f := 41) (args := #[.pointer (some ⟨nd, 0, none⟩), .int .i64 ((i : Nat) : Int), .agg #[.int .i64 (-1), .int .i64 0, .int .i64 0]]) (by kernel_rfl) (by kernel_rfl) (by kernel_rfl) Tryz.call41 (by exact dused_any nd lo rooms l ((i : Nat) : Int) (-1) 0 0 _ ⟨_, _, _, _, 0, _, _, ho, hrc, hcn, hrh, hhi, sl_sl2 hrv, hv⟩ hm (butL_le hli _ _ _)), trivial⟩
 intro w1 hs1
 replace hS := Step.trans hS hs1
 refine VL_keep [22, 26] [(22, .int .i64 (rooms.getD i 0)), (26, .int .i64 (usdL (delC (l.map Dx.x) (-1) 0 0) ((i : Nat) : Int)))] (by kernel_rfl) ?_
 refine VL_pure 13 [4] [(4, .int .i64 (IntKind.wrap .i64 ((rooms.getD i 0) - (usdL (delC (l.map Dx.x) (-1) 0 0) ((i : Nat) : Int)))))] (by kernel_rfl) rfl ?_
 refine VL_end (by kernel_rfl) ?_
 refine VQ_next ?_
 refine VC_ret ?_
 refine VQ_ret1 (.int .i64 (IntKind.wrap .i64 ((rooms.getD i 0) - (usdL (delC (l.map Dx.x) (-1) 0 0) ((i : Nat) : Int))))) (.inr rfl) rfl rfl ?_
 exact ⟨congrArg (Value.int .i64) (dleft_eq hli hi9), hS⟩

theorem dleft_any (nd lo : Nat) (rooms : List Int) (l : List Dx) (p : Int) (w : World) (hR : Dv w nd lo rooms l) (hli : LI rooms (l.map Dx.x)) : CV Tryz.prog 34 #[.pointer (some ⟨nd, 0, none⟩), .int .i64 p] w fun x w1 => x = .int .i64 (leftN rooms (l.map Dx.x) p) ∧ Step No w w1 := by
  by_cases h : 0 ≤ p ∧ p < rooms.length
  · obtain ⟨i, rfl⟩ : ∃ i : Nat, p = i := ⟨p.toNat, by omega⟩
    exact dleft_i nd lo rooms l i w hR hli (by omega)
  · by_cases h0 : p < 0
    · exact dleft_n nd lo rooms l p w hR hli h0
    · exact dleft_g nd lo rooms l p w hR hli (by omega)
theorem dsum_any (nd lo : Nat) (rooms : List Int) (l : List Dx) (p : Int) (w : World) (hR : Dv w nd lo rooms l) (hli : LI rooms (l.map Dx.x))  :
  CV Tryz.prog 49 #[Pt nd 0, I6 p] w (fun x w1 => x = I6 (usdL (l.map Dx.x) p) ∧ Step No w w1) := by
 have hS : Step No w w := Step.refl _ _
 obtain ⟨rA, rc, A, ca, rl, rh, hi, ho, hrc, hcn, hrh, hhi, hrw, hv⟩ := hR
 have hrv : Sl w rh rA (iL .i64 rooms) := Sl2.sl hrw
 have hm : l.length ≤ 64 := by have h9 := hli.len; rw [List.length_map] at h9; exact h9
 refine VCe Tryz.func49 (Vrp (Vs (Vr (Vp 2 ?_))))
 refine Vc 2 Tryz.call59 (dnone_any _) ?_
 rintro _ w1 ⟨rfl, hc1⟩
 replace hS := Step.trans hS hc1
 replace ho := ho.no hc1
 replace hv := hv.step hc1 (fun k hk1 hk2 hF => hF)
 replace hrv := hrv.no hc1
 replace hhi := Nat.le_trans hhi (hc1).size
 replace hrh := Nat.le_trans hrh (hc1).size
 refine Vc 3 Tryz.call41 (dused_any nd lo rooms l p (-1) 0 0 _ ⟨_, _, _, _, 0, _, _, ho, hrc, hcn, hrh, hhi, sl_sl2 hrv, hv⟩ hm (butL_le hli _ _ _)) ?_
 rintro _ w2 ⟨rfl, hc2⟩
 replace hS := Step.trans hS hc2
 refine Ve (Vn (VC_ret (Vr1 (I6 (usdL (delC (l.map Dx.x) (-1) 0 0) p)) ?_)))
 exact ⟨congrArg (Value.int .i64) (dsum_eq hli p), hS⟩

end Go.Proofs.YthchmlidobgkoaaGreat
end

section
/- Layer 20, the document's node: whether one can be taken. -/
set_option linter.unusedVariables false
set_option linter.unusedSimpArgs false
set_option maxRecDepth 100000
set_option maxHeartbeats 4000000
namespace Go.Proofs.YthchmlidobgkoaaGreat
open Go.Vc Go.RowKit
theorem TDaaaa {P : Prop} (h : P := by first | exact .inl (.inl (by assumption)) | exact .inl (.inr (by assumption)) | exact .inr (by assumption)) : P := h

theorem right_ge {p v c : Int} (h : rightB p v c = true) : 0 ≤ p := by unfold rightB at h; have := of_decide_eq_true h; omega
theorem dwrong_3 {rooms : List Int} {p v c : Int} {k : Con} (h : (rightB p v c = false ∨ c < 32) ∨ p ≥ rooms.length) : wrongN rooms p v c k = 3 := by
  unfold wrongN; rw [if_neg]
  rintro ⟨h1, h2, h3⟩
  rcases h with (h | h) | h
  · rw [h2] at h; cases h
  · omega
  · omega
theorem dwrong_73 {rooms : List Int} {p v c : Int} {k : Con} (h : (rightB p v c = true ∧ ¬ c < 32) ∧ ¬ p ≥ rooms.length) (hk : rightC k ≠ 0) : wrongN rooms p v c k = 73 := by
  unfold wrongN; rw [if_pos ⟨⟨right_ge h.1.1, by omega⟩, h.1.1, by omega⟩, if_neg hk]
theorem dwrong_0 {rooms : List Int} {p v c : Int} {k : Con} (h : (rightB p v c = true ∧ ¬ c < 32) ∧ ¬ p ≥ rooms.length) (hk : rightC k = 0) : wrongN rooms p v c k = 0 := by
  unfold wrongN; rw [if_pos ⟨⟨right_ge h.1.1, by omega⟩, h.1.1, by omega⟩, if_pos hk]
theorem dchk_w {rooms : List Int} {L : List Cx} {p v c x : Int} {k : Con} (h : wrongN rooms p v c k = x) (hx : x ≠ 0) : x = chkN rooms L p v c k := by unfold chkN; rw [if_neg (by rw [h]; exact hx), h]
theorem at_some {l : List Dx} {p v c : Int} : atD l p v c ≥ 0 ↔ (findC (l.map Dx.x) p v c).isSome = true := by
  rcases atD_cases l p v c with ⟨h1, h2⟩ | ⟨i, d, h1, _, h2, _⟩
  · rw [h1, h2]; simp
  · rw [h1, h2]; simp
theorem dchk_35 {rooms : List Int} {l : List Dx} {p v c : Int} {k : Con} (h : wrongN rooms p v c k = 0) (h1 : atD l p v c ≥ 0) : 35 = chkN rooms (l.map Dx.x) p v c k := by unfold chkN; rw [if_pos h, if_pos (at_some.1 h1)]
theorem dchk_47 {rooms : List Int} {l : List Dx} {p v c : Int} {k : Con} (h : wrongN rooms p v c k = 0) (h1 : ¬ atD l p v c ≥ 0) (h2 : 64 ≤ l.length) : 47 = chkN rooms (l.map Dx.x) p v c k := by unfold chkN; rw [if_pos h, if_neg (fun h9 => h1 (at_some.2 h9)), if_pos (by rw [List.length_map]; exact h2)]
theorem dchk_37 {rooms : List Int} {l : List Dx} {p v c : Int} {k : Con} (h : wrongN rooms p v c k = 0) (h1 : ¬ atD l p v c ≥ 0) (h2 : ¬ 64 ≤ l.length) (h3 : needC k > leftN rooms (l.map Dx.x) p) : 37 = chkN rooms (l.map Dx.x) p v c k := by unfold chkN; rw [if_pos h, if_neg (fun h9 => h1 (at_some.2 h9)), if_neg (by rw [List.length_map]; exact h2), if_pos h3]
theorem dchk_0 {rooms : List Int} {l : List Dx} {p v c : Int} {k : Con} (h : wrongN rooms p v c k = 0) (h1 : ¬ atD l p v c ≥ 0) (h2 : ¬ 64 ≤ l.length) (h3 : ¬ needC k > leftN rooms (l.map Dx.x) p) : 0 = chkN rooms (l.map Dx.x) p v c k := by unfold chkN; rw [if_pos h, if_neg (fun h9 => h1 (at_some.2 h9)), if_neg (by rw [List.length_map]; exact h2), if_neg h3]
theorem dcheck_any (nd lo : Nat) (rooms : List Int) (l : List Dx) (p v c : Int) (k : Con) (w : World) (hR : Dv w nd lo rooms l) (hli : LI rooms (l.map Dx.x))  :
  CV Tryz.prog 9 #[Pt nd 0, .agg #[I6 p, I6 v, I6 c], .agg #[I6 k.kind, I6 k.peak, I6 k.early, I6 k.whole, I6 k.burst, I6 k.least]] w (fun x w1 => x = I6 (chkN rooms (l.map Dx.x) p v c k) ∧ Step No w w1) := by
 have hS : Step No w w := Step.refl _ _
 obtain ⟨rA, rc, A, ca, rl, rh, hi, ho, hrc, hcn, hrh, hhi, hrw, hv⟩ := hR
 have hrv : Sl w rh rA (iL .i64 rooms) := Sl2.sl hrw
 have hm : l.length ≤ 64 := by have h9 := hli.len; rw [List.length_map] at h9; exact h9
 refine VCe Tryz.func9 (Vs (Vr ?_))
 have hzl1 := ho.lt
 refine Vx 0 30 #[I6 p, I6 v, I6 c] ?_
 intro b1 w1 hn1
 replace hS := Step.trans hS (hn1.step No)
 replace ho := ho.no (hn1.step No)
 replace hv := hv.step (hn1.step No) (fun k hk1 hk2 hF => hF)
 replace hrv := hrv.no (hn1.step No)
 replace hhi := Nat.le_trans hhi (hn1.step No).size
 replace hrh := Nat.le_trans hrh (hn1.step No).size
 have ho1 := hn1.own
 have hzhn1 := hn1.size
 have hqhn1 := hn1.eqb
 refine Vx 1 32 #[I6 k.kind, I6 k.peak, I6 k.early, I6 k.whole, I6 k.burst, I6 k.least] ?_
 intro b2 w2 hn2
 replace hS := Step.trans hS (hn2.step No)
 replace ho := ho.no (hn2.step No)
 replace hv := hv.step (hn2.step No) (fun k hk1 hk2 hF => hF)
 replace hrv := hrv.no (hn2.step No)
 replace hhi := Nat.le_trans hhi (hn2.step No).size
 replace hrh := Nat.le_trans hrh (hn2.step No).size
 replace ho1 := ho1.no (hn2.step No)
 have ho2 := hn2.own
 have hzhn2 := hn2.size
 have hqhn2 := hn2.eqb
 refine Ve (Vn (Vs (Vs ?_)))
 have hs1 := drew_step w2
 have hs1z : w2.heap.size = w2.drew.heap.size := rfl
 refine Tx 16 (fun k => w2.heap.size ≤ k) [1] [0, 1, 2, 3, 4, 5, 6, 7, 8, 9, 10, 11, 12, 13, 14, 15] ?_
 generalize w2.drew = w3 at hs1 hs1z ⊢
 replace hS := Step.trans hS hs1
 replace ho := ho.no hs1
 replace hv := hv.step hs1 (fun k hk1 hk2 hF => hF)
 replace hrv := hrv.no hs1
 replace hhi := Nat.le_trans hhi (hs1).size
 replace hrh := Nat.le_trans hrh (hs1).size
 replace ho1 := ho1.no hs1
 replace ho2 := ho2.no hs1
 refine Tl (fun w4 hr1 => ho1.step hr1 (by (try simp only); omega)) (Th ?_)
 intro w5 hs2
 replace hS := Step.trans hS hs2
 replace ho := ho.no hs2
 replace hv := hv.step hs2 (fun k hk1 hk2 hF => hF)
 replace hrv := hrv.no hs2
 replace hhi := Nat.le_trans hhi (hs2).size
 replace hrh := Nat.le_trans hrh (hs2).size
 replace ho1 := ho1.no hs2
 replace ho2 := ho2.no hs2
 refine Tc Tryz.call30 (dkright_any p v c _) ?_ ?_
 ·rintro _ w6 ⟨rfl, hc1⟩
  exact Step.mono hc1 (by intro i hi; first | exact hi.elim | exact .inl hi | ((try simp only at hi ⊢); omega))
 rintro _ w6 ⟨rfl, hc1⟩
 replace hS := Step.trans hS hc1
 replace ho := ho.no hc1
 replace hv := hv.step hc1 (fun k hk1 hk2 hF => hF)
 replace hrv := hrv.no hc1
 replace hhi := Nat.le_trans hhi (hc1).size
 replace hrh := Nat.le_trans hrh (hc1).size
 replace ho1 := ho1.no hc1
 replace ho2 := ho2.no hc1
 refine Tp 2 ?_
 rcases Bool.eq_false_or_eq_true (rightB p v c) with hg1 | hg1
 ·refine Tq [(3, Bo (!(rightB p v c))), (2, Bo (!(rightB p v c))), (1, Bo (rightB p v c))] [(3, Bo false), (2, Bo false), (1, Bo true)] (by simp only [hg1, Bool.not_true, Bool.not_false]) ?_
  try simp only [bne_iff_ne, beq_iff_eq, decide_eq_true_eq, decide_eq_false_iff_not, bne_eq_false_iff_eq, beq_eq_false_iff_ne, ne_eq] at hg1
  refine Tp 1 (Tl (fun w7 hr2 => ho1.step hr2 (by (try simp only); omega)) (Tp 3 ?_))
  rcases Bool.eq_false_or_eq_true (decide (c < 32)) with hg2 | hg2
  ·refine Tq [(8, Bo (decide (c < 32))), (7, Bo (decide (c < 32))), (6, Bo (decide (c < 32)))] [(8, Bo true), (7, Bo true), (6, Bo true)] (by simp only [hg2, Bool.not_true, Bool.not_false]) ?_
   try simp only [bne_iff_ne, beq_iff_eq, decide_eq_true_eq, decide_eq_false_iff_not, bne_eq_false_iff_eq, beq_eq_false_iff_ne, ne_eq] at hg2
   refine Tp 7 (VT_end ?_)
   intro w8 hs3
   replace hS := Step.trans hS hs3
   refine Ve (Vn (Vt (Vrp (VC_ret (VQ_then_ret (Vr1 (I6 3) ?_))))))
   exact ⟨congrArg (Value.int .i64) (dchk_w (dwrong_3 TDaaaa) (by decide)), hS⟩
  ·refine Tq [(8, Bo (decide (c < 32))), (7, Bo (decide (c < 32))), (6, Bo (decide (c < 32)))] [(8, Bo false), (7, Bo false), (6, Bo false)] (by simp only [hg2, Bool.not_true, Bool.not_false]) ?_
   try simp only [bne_iff_ne, beq_iff_eq, decide_eq_true_eq, decide_eq_false_iff_not, bne_eq_false_iff_eq, beq_eq_false_iff_ne, ne_eq] at hg2
   refine Tp 1 (Tl (fun w9 hr3 => ho1.step hr3 (by (try simp only); omega)) (Tp 3 (Tl (fun w10 hr4 => ho.step hr4 (by (try simp only); omega)) (Tp 1 (VT_end ?_)))))
   intro w11 hs4
   replace hS := Step.trans hS hs4
   replace ho := ho.no hs4
   replace hv := hv.step hs4 (fun k hk1 hk2 hF => hF)
   replace hrv := hrv.no hs4
   replace hhi := Nat.le_trans hhi (hs4).size
   replace hrh := Nat.le_trans hrh (hs4).size
   replace ho1 := ho1.no hs4
   replace ho2 := ho2.no hs4
   refine Ve (Vn (Vid (p ≥ ((rooms.length : Nat) : Int)) (fun h1 => ?_) (fun h1 => ?_)))
   ·refine Vrp (VC_ret (VQ_then_ret (Vr1 (I6 3) ?_)))
    exact ⟨congrArg (Value.int .i64) (dchk_w (dwrong_3 TDaaaa) (by decide)), hS⟩
   ·refine VC_skip (Vn (Vs (Vs (Vr (Vl 0 ho2 ?_)))))
    refine Vc 1 Tryz.call31 (dright_any k _) ?_
    rintro _ w12 ⟨rfl, hc2⟩
    replace hS := Step.trans hS hc2
    replace ho := ho.no hc2
    replace hv := hv.step hc2 (fun k hk1 hk2 hF => hF)
    replace hrv := hrv.no hc2
    replace hhi := Nat.le_trans hhi (hc2).size
    replace hrh := Nat.le_trans hrh (hc2).size
    replace ho1 := ho1.no hc2
    replace ho2 := ho2.no hc2
    refine Ve (Vn (Viu (rightC k) 0 (fun h2 => ?_) (fun h2 => ?_)))
    ·refine Vrp (VC_ret (VQ_then_ret (Vr1 (I6 73) ?_)))
     exact ⟨congrArg (Value.int .i64) (dchk_w (dwrong_73 ⟨⟨by assumption, by assumption⟩, by assumption⟩ (by assumption)) (by decide)), hS⟩
    ·refine VC_skip (Vn (Vs (Vs (Vr (Vl 1 ho1 ?_)))))
     refine Vc 2 Tryz.call32 (dat_any _ _ _ _ _ _ _ _ _ p v c _ ho hcn hhi hv hm) ?_
     rintro _ w13 ⟨rfl, hc3⟩
     replace hS := Step.trans hS hc3
     replace ho := ho.no hc3
     replace hv := hv.step hc3 (fun k hk1 hk2 hF => hF)
     replace hrv := hrv.no hc3
     replace hhi := Nat.le_trans hhi (hc3).size
     replace hrh := Nat.le_trans hrh (hc3).size
     replace ho1 := ho1.no hc3
     replace ho2 := ho2.no hc3
     refine Ve (Vn (Vid ((atD l p v c) ≥ 0) (fun h3 => ?_) (fun h3 => ?_)))
     ·refine Vrp (VC_ret (VQ_then_ret (Vr1 (I6 35) ?_)))
      exact ⟨congrArg (Value.int .i64) (dchk_35 (dwrong_0 ⟨⟨by assumption, by assumption⟩, by assumption⟩ (by assumption)) (by assumption)), hS⟩
     ·refine VC_skip (Vn (Vs (Vs (Vr (Vl 3 ho (Ve (Vn (Vid (((l.length : Nat) : Int) ≥ 64) (fun h4 => ?_) (fun h4 => ?_)))))))))
      ·refine Vrp (VC_ret (VQ_then_ret (Vr1 (I6 47) ?_)))
       exact ⟨congrArg (Value.int .i64) (dchk_47 (dwrong_0 ⟨⟨by assumption, by assumption⟩, by assumption⟩ (by assumption)) (by assumption) (by omega)), hS⟩
      ·refine VC_skip (Vn (Vs (Vs (Vd 5 [(0, .agg #[I6 k.kind, I6 k.peak, I6 k.early, I6 k.whole, I6 k.burst, I6 k.least]), (1, I6 (needC k)), (4, I6 p)] [0, 1, 4] ?_ ?_))))
       ·intro w14 hs5
        replace ho1 := ho1.no hs5
        replace ho2 := ho2.no hs5
        exact ⟨Dl ho2, Dc Tryz.call33 (dneed_any k _), Dl ho1, trivial⟩
       intro w14 hs5
       replace hS := Step.trans hS hs5
       replace ho := ho.no hs5
       replace hv := hv.step hs5 (fun k hk1 hk2 hF => hF)
       replace hrv := hrv.no hs5
       replace hhi := Nat.le_trans hhi (hs5).size
       replace hrh := Nat.le_trans hrh (hs5).size
       refine VL_keep [39, 40, 42] [(39, I6 (needC k)), (40, Pt nd 0), (42, I6 p)] (by kernel_rfl) ?_
       refine Vc 5 Tryz.call34 (dleft_any nd lo rooms l p _ ⟨_, _, _, _, 0, _, _, ho, hrc, hcn, hrh, hhi, sl_sl2 hrv, hv⟩ hli) ?_
       rintro _ w15 ⟨rfl, hc4⟩
       replace hS := Step.trans hS hc4
       refine Ve (Vn (Vid ((needC k) > (leftN rooms (l.map Dx.x) p)) (fun h5 => ?_) (fun h5 => ?_)))
       ·refine Vrp (VC_ret (VQ_then_ret (Vr1 (I6 37) ?_)))
        exact ⟨congrArg (Value.int .i64) (dchk_37 (dwrong_0 ⟨⟨by assumption, by assumption⟩, by assumption⟩ (by assumption)) (by assumption) (by omega) (by assumption)), hS⟩
       ·refine VC_skip (Vn (Vrp (VC_ret (Vr1 (I6 0) ?_))))
        exact ⟨congrArg (Value.int .i64) (dchk_0 (dwrong_0 ⟨⟨by assumption, by assumption⟩, by assumption⟩ (by assumption)) (by assumption) (by omega) (by assumption)), hS⟩
 ·refine Tq [(3, Bo (!(rightB p v c))), (2, Bo (!(rightB p v c))), (1, Bo (rightB p v c))] [(3, Bo true), (2, Bo true), (1, Bo false)] (by simp only [hg1, Bool.not_true, Bool.not_false]) ?_
  try simp only [bne_iff_ne, beq_iff_eq, decide_eq_true_eq, decide_eq_false_iff_not, bne_eq_false_iff_eq, beq_eq_false_iff_ne, ne_eq] at hg1
  refine Tp 12 (VT_end ?_)
  intro w16 hs6
  replace hS := Step.trans hS hs6
  refine Ve (Vn (Vt (Vrp (VC_ret (VQ_then_ret (Vr1 (I6 3) ?_))))))
  exact ⟨congrArg (Value.int .i64) (dchk_w (dwrong_3 TDaaaa) (by decide)), hS⟩

end Go.Proofs.YthchmlidobgkoaaGreat
end

section
/- Layer 20, the document's node: drop, verdict. -/
set_option linter.unusedVariables false
set_option linter.unusedSimpArgs false
set_option maxRecDepth 100000
set_option maxHeartbeats 4000000
namespace Go.Proofs.YthchmlidobgkoaaGreat
open Go.Vc Go.RowKit
theorem TDabaa {P : Prop} (h : P := by simp only [flat_append, flat_one, List.append_assoc, List.nil_append, List.append_nil, show flat dxc [] = [] from rfl]) : P := h
theorem TDabab {P : Prop} (h : P := by simp only [List.length_take, List.length_drop]; have hq9 : l.length = l.length := rfl; omega) : P := h

theorem dmut_fin {w1 : World} {nd n m c rm rc base base2 : Nat} {rA A : Option Addr} {xs ys : List Value} (ho : Own w1 nd #[.slice rA rm rc, .slice A n c] 55) (hr : RwS w1 10 base 67 A n c xs) (hn : n = m) (hx : xs = ys) (hb : base2 ≤ base) : ∃ A2 c2, Own w1 nd #[.slice rA rm rc, .slice A2 m c2] 55 ∧ RwS w1 10 base2 67 A2 m c2 ys := by
  subst hn; subst hx
  exact ⟨A, c, ho, hr.low hb⟩
theorem ddrop_no (nd lo hi : Nat) (rooms : List Int) (l : List Dx) (rA : Option Addr) (rc : Nat) (A : Option Addr) (ca : Nat) (kp kv kc : Int) (w : World) (ho : Own w nd #[.slice rA rooms.length rc, .slice A l.length ca] 55) (hcn : l.length ≤ ca) (hhi : hi ≤ w.heap.size) (hv : Sl2 w lo hi A (flat dxc l)) (hnw : nd < lo ∨ hi ≤ nd) (hm : l.length ≤ 64) (hat : atD l kp kv kc = -1)  :
  CV Tryz.prog 15 #[Pt nd 0, .agg #[I6 kp, I6 kv, I6 kc]] w (fun x w1 => x = Bo false ∧ Step No w w1) := by
 have hS : Step No w w := Step.refl _ _
 refine VCe Tryz.func15 (Vs (Vr ?_))
 refine Vx 0 30 #[I6 kp, I6 kv, I6 kc] ?_
 intro b1 w1 hn1
 replace hS := Step.trans hS (hn1.step No)
 replace ho := ho.no (hn1.step No)
 replace hv := hv.step (hn1.step No) (fun k hk1 hk2 hF => hF)
 replace hhi := Nat.le_trans hhi (hn1.step No).size
 have ho1 := hn1.own
 refine Ve (Vn (Vs (Vr (Vl 1 ho1 ?_))))
 refine Vc 2 Tryz.call32 ((dat_any _ _ _ _ _ _ _ _ _ kp kv kc _ ho hcn hhi hv hm).mono (fun x w1 h9 => by rw [hat] at h9; exact h9)) ?_
 rintro _ w2 ⟨rfl, hc1⟩
 replace hS := Step.trans hS hc1
 refine Ve (Vn (Vs (Vrp (Vt (Vrp (VC_ret (VQ_then_ret (Vr1 (Bo false) ?_))))))))
 exact ⟨rfl, hS⟩

theorem ddrop_yes (nd lo hi : Nat) (rooms : List Int) (l : List Dx) (rA : Option Addr) (rc : Nat) (A : Option Addr) (ca : Nat) (kp kv kc : Int) (w : World) (ho : Own w nd #[.slice rA rooms.length rc, .slice A l.length ca] 55) (hcn : l.length ≤ ca) (hhi : hi ≤ w.heap.size) (hv : Sl2 w lo hi A (flat dxc l)) (hnw : nd < lo ∨ hi ≤ nd) (hm : l.length ≤ 64) (i : Nat) (y : Dx) (hat : atD l kp kv kc = (i : Nat)) (hy : l[i]? = some y)  :
  CV Tryz.prog 15 #[Pt nd 0, .agg #[I6 kp, I6 kv, I6 kc]] w (fun x w1 => x = Bo true ∧ ∃ A2 c2, Own w1 nd #[.slice rA rooms.length rc, .slice A2 (l.length - 1) c2] 55 ∧ RwS w1 10 w.heap.size 67 A2 (l.length - 1) c2 (flat dxc (l.take i ++ l.drop (i + 1))) ∧ Step (Just nd) w w1) := by
 have hS : Step (Just nd) w w := Step.refl _ _
 have hiL := (List.getElem?_eq_some_iff.1 hy).1
 refine VCe Tryz.func15 (Vs (Vr ?_))
 refine Vx 0 30 #[I6 kp, I6 kv, I6 kc] ?_
 intro b1 w1 hn1
 replace hS := Step.trans hS (Step.weak (hn1.step No))
 replace ho := ho.no (hn1.step No)
 replace hv := hv.step (hn1.step No) (fun k hk1 hk2 hF => hF)
 replace hhi := Nat.le_trans hhi (hn1.step No).size
 have ho1 := hn1.own
 have hzhn1 := hn1.size
 have hqhn1 := hn1.eqb
 refine Ve (Vn (Vs (Vr (Vl 1 ho1 ?_))))
 refine Vc 2 Tryz.call32 ((dat_any _ _ _ _ _ _ _ _ _ kp kv kc _ ho hcn hhi hv hm).mono (fun x w1 h9 => by rw [hat] at h9; exact h9)) ?_
 rintro _ w2 ⟨rfl, hc1⟩
 replace hS := Step.trans hS (Step.weak hc1)
 replace ho := ho.no hc1
 replace hv := hv.step hc1 (fun k hk1 hk2 hF => hF)
 replace hhi := Nat.le_trans hhi (hc1).size
 replace ho1 := ho1.no hc1
 refine Ve (Vn (Vs (Vrp (Viz (b := decide (((i : Nat) : Int) < 0)) (decide_eq_false (by omega)) (VC_skip (Vn (Vs ?_)))))))
 have hs1 := drew_step w2
 have hs1z : w2.heap.size = w2.drew.heap.size := rfl
 refine Tx 17 (fun k => w2.heap.size ≤ k) [1, 8, 16] [0, 2, 3, 4, 5, 6, 7, 9, 10, 11, 12, 13, 14, 15, 1, 8, 16] ?_
 have hzl4 := ho.lt
 generalize w2.drew = w3 at hs1 hs1z ⊢
 replace hS := Step.trans hS (Step.weak hs1)
 replace ho := ho.no hs1
 replace hv := hv.step hs1 (fun k hk1 hk2 hF => hF)
 replace hhi := Nat.le_trans hhi (hs1).size
 replace ho1 := ho1.no hs1
 refine Tp 4 (Tl (fun w4 hr1 => ho.step hr1 (by (try simp only); omega)) (Tp 1 (VT_sliceV (d := 18) (A := A) (sz := 10) (len := l.length) (cap := ca) (lo := none) (hi := (some ((i : Nat) : Int))) (mx := none) (by kernel_rfl) (by kernel_rfl) (fun h => by first | exact absurd rfl h | exact (fun h => by cases h)) (Sl2.sl hv) 0 i ca rfl rfl rfl (by omega) (by omega) (by omega) i (by omega) ca (by omega) _ (flat_cut dxc_len l 0 i) ?_)))
 intro A1 hsl1
 refine Tp 3 (Tl (fun w5 hr2 => ho.step hr2 (by (try simp only); omega)) (Tp 2 (VT_sliceV (d := 26) (A := A) (sz := 10) (len := l.length) (cap := ca) (lo := (some (IntKind.wrap .i64 (((i : Nat) : Int) + 1)))) (hi := none) (mx := none) (by kernel_rfl) (by kernel_rfl) (fun h => by first | exact absurd rfl h | exact (fun h => by cases h)) (Sl2.sl hv) (i + 1) l.length ca (show IntKind.wrap .i64 (((i : Nat) : Int) + 1) = ((i + 1 : Nat) : Int) from (by rw [wrap_i64 _ (by omega) (by omega)]; omega)) rfl rfl (by omega) (by omega) (by omega) (l.length - (i + 1)) (by omega) (ca - (i + 1)) (by omega) _ (flat_cut dxc_len l (i + 1) (l.length - (i + 1))) ?_)))
 intro A2 hsl2
 refine Th ?_
 intro w6 hs2
 have hzhs2 := hs2.size
 replace hS := Step.trans hS (Step.weak hs2)
 replace ho := ho.no hs2
 replace hhi := Nat.le_trans hhi (hs2).size
 replace ho1 := ho1.no hs2
 replace hsl1 := hsl1.no hs2
 replace hsl2 := hsl2.no hs2
 have hzl6 := ho.lt
 have hzk2 := hhi
 have hzl7 := ho1.lt
 refine VTc_bs (d := 12) (e := 67) (c := #[]) (len := 0) (by kernel_rfl) (by kernel_rfl) (fun b w1 hn => hn.step _) ?_
 intro b2 w7 hn2
 replace hS := Step.trans hS (Step.weak (hn2.step No))
 replace ho := ho.no (hn2.step No)
 replace hhi := Nat.le_trans hhi (hn2.step No).size
 replace hsl1 := hsl1.no (hn2.step No)
 replace hsl2 := hsl2.no (hn2.step No)
 have ho2 := hn2.own
 have hzhn2 := hn2.size
 have hqhn2 := hn2.eqb
 refine Th ?_
 intro w8 hs3
 replace hS := Step.trans hS (Step.weak hs3)
 replace ho := ho.no hs3
 replace hhi := Nat.le_trans hhi (hs3).size
 replace hsl1 := hsl1.no hs3
 replace hsl2 := hsl2.no hs3
 replace ho2 := ho2.no hs3
 have hzk4 := hhi
 have hbase1 := Nat.le_of_lt ho2.lt
 have hrowhbase1 := RwS.of_new (n := 0) (sz := 10) (base := b2) ho2 (Nat.le_refl _) (by simp [maxLen]) (by rfl)
 refine VTc_appendZ (d := 19) (e := 67) (A := (some ⟨b2, 0, none⟩)) (mm := 0) (c := 0) (A2 := A1) (m2 := i) (c2 := ca) (sz := 10) (bytes := 80) (by kernel_rfl) (by kernel_rfl) (by kernel_rfl) b2 w8.heap.size (flat dxc ([])) (flat dxc (l.take i)) hrowhbase1 (by rw [flat_len dxc_len, show (l.take i).length = i from TDabab]) (Sl.mono hsl1 (by first | exact Nat.le_refl _ | omega)) (flat_one' dxc_one _) i (by omega) (by simp only [maxLen]; omega) (by omega) (by omega) ?_ ?_
 ·intro w1 hs1; exact Step.mono hs1 (fun i hi => by obtain ⟨a9, ha9, hi9⟩ := hi; cases ha9; have hi8 : b2 = i := hi9; (try simp only); omega)
 intro A3 c1 w9 hr3 hg1
 replace hr3 : RwS w9 10 b2 67 A3 i c1 (flat dxc (l.take i)) := RwS.cast hr3 rfl TDabaa
 replace hg1 := Step.mono (G := fun k => k = b2) hg1 (fun i hi => by obtain ⟨a9, ha9, hi9⟩ := hi; cases ha9; exact hi9.symm)
 replace hS := Step.transNew hS hg1 (fun i hi hG => by (try simp only at hG); (first | show _ ∨ _ | show _ = _); omega)
 replace ho := ho.step hg1 (by (try simp only); omega)
 replace hhi := Nat.le_trans hhi (hg1).size
 replace hsl2 := hsl2.step hg1 (fun k hk hG => by (try simp only at hG); omega)
 replace hbase1 := Nat.le_trans hbase1 (hg1).size
 have hlhr3 : (l.take i).length = i := by have hq9 := RwS.len hr3; rw [flat_len dxc_len] at hq9 <;> omega
 refine Th ?_
 intro w10 hs4
 replace hS := Step.trans hS (Step.weak hs4)
 replace ho := ho.no hs4
 replace hhi := Nat.le_trans hhi (hs4).size
 replace hsl2 := hsl2.no hs4
 replace hbase1 := Nat.le_trans hbase1 (hs4).size
 replace hr3 := hr3.no hs4
 have hzk5 := hhi
 have hzk6 := hbase1
 refine VTc_appendZ (d := 27) (e := 67) (A := A3) (mm := i) (c := c1) (A2 := A2) (m2 := (l.length - (i + 1))) (c2 := (ca - (i + 1))) (sz := 10) (bytes := 80) (by kernel_rfl) (by kernel_rfl) (by kernel_rfl) b2 w10.heap.size (flat dxc (l.take i)) (flat dxc ((l.drop (i + 1)).take (l.length - (i + 1)))) hr3 (by rw [flat_len dxc_len, show ((l.drop (i + 1)).take (l.length - (i + 1))).length = (l.length - (i + 1)) from TDabab]) (Sl.mono hsl2 (by first | exact Nat.le_refl _ | omega)) (flat_one' dxc_one _) (i + (l.length - (i + 1))) (by omega) (by simp only [maxLen]; omega) (by omega) (by omega) ?_ ?_
 ·intro w1 hs1; exact Step.mono hs1 (fun i hi => by have hi1 := (RwS.lt hr3 i hi).1; (try simp only); omega)
 intro A4 c2 w11 hr4 hg2
 replace hr4 : RwS w11 10 b2 67 A4 (i + (l.length - (i + 1))) c2 (flat dxc ((l.take i) ++ ((l.drop (i + 1)).take (l.length - (i + 1))))) := RwS.cast hr4 rfl TDabaa
 replace hg2 := Step.mono (G := fun k => b2 ≤ k) hg2 (fun i hi => (RwS.lt hr3 i hi).1)
 replace hS := Step.transNew hS hg2 (fun i hi hG => by (try simp only at hG); (first | show _ ∨ _ | show _ = _); omega)
 replace ho := ho.step hg2 (by (try simp only); omega)
 have hlhr4 : ((l.take i) ++ ((l.drop (i + 1)).take (l.length - (i + 1)))).length = i + (l.length - (i + 1)) := by have hq9 := RwS.len hr4; rw [flat_len dxc_len] at hq9 <;> omega
 refine VT_end ?_
 intro w12 hs5
 replace hS := Step.trans hS (Step.weak hs5)
 replace ho := ho.no hs5
 replace hr4 := hr4.no hs5
 refine Vst 19 (o := 1) [.slice A4 (i + (l.length - (i + 1))) c2] ho #[.slice rA rooms.length rc, .slice A4 (i + (l.length - (i + 1))) c2] ?_
 intro w13 hw1
 replace hS := Step.trans hS (Step.mono hw1.step (by intro i hi; first | exact hi | exact ⟨_, by assumption, hi⟩ | (have hi9 : i = nd := hi; (first | show _ ∨ _ | show _ = _); omega)))
 replace hr4 := hr4.step hw1.step (fun k hk (hF : k = nd) => by omega)
 have ho3 := hw1.own
 refine Ve (Vn (Vrp (VC_ret (Vr1 (Bo true) ?_))))
 obtain ⟨A9, c9, q1, q2⟩ := dmut_fin (m := l.length - 1) (ys := flat dxc (l.take i ++ l.drop (i + 1))) (base2 := w.heap.size) ho3 hr4 (by omega) (by rw [List.take_of_length_le (show (l.drop (i + 1)).length ≤ _ by rw [List.length_drop]; omega)]) (by omega)
 exact ⟨rfl, A9, c9, q1, q2, hS⟩

end Go.Proofs.YthchmlidobgkoaaGreat
end

section
/- Layer 20, the document's node: one is taken. -/
set_option linter.unusedVariables false
set_option linter.unusedSimpArgs false
set_option maxRecDepth 100000
set_option maxHeartbeats 4000000
namespace Go.Proofs.YthchmlidobgkoaaGreat
open Go.Vc Go.RowKit
theorem TDacaa {P : Prop} (h : P := by simp only [flat_append, flat_one, List.append_assoc, List.nil_append, List.append_nil, show flat dxc [] = [] from rfl]) : P := h
theorem TDacab {P : Prop} (h : P := by intro i hi; first | exact hi | exact ⟨_, by assumption, hi⟩ | (have hi9 : i = nd := hi; (first | show _ ∨ _ | show _ = _); omega)) : P := h
theorem TDacac {P : Prop} (h : P := by simp only [List.length_take, List.length_drop]; have hq9 : l.length = l.length := rfl; omega) : P := h
theorem TDacae {P : Prop} (h : P := by rw [hie, List.take_of_length_le (show (l.drop i).length ≤ _ by rw [List.length_drop]; omega)]; simp only [List.append_assoc, List.singleton_append, List.cons_append, List.nil_append]) : P := h
theorem TDacaf {P : Prop} (h : P := by first | exact Nat.le_refl _ | omega) : P := h
theorem TDacah {P : Prop} (h : P := by rw [flat_len dxc_len, show (l.take 0).length = 0 from (by simp only [List.length_take, List.length_drop]; have hq9 : l.length = 0 := hl0; omega)]) : P := h
theorem TDacai {P : Prop} (h : P := by simp only [maxLen]; omega) : P := h
theorem TDacaj {P : Prop} (h : P := by intro i hi; first | exact hi.elim | exact .inl hi | ((try simp only at hi ⊢); omega)) : P := h

def eD (l : List Dx) : List Ent := l.map fun d => d.x.e0
theorem eD_get {l : List Dx} {i : Nat} {d : Dx} (h : l[i]? = some d) : (eD l)[i]? = some d.x.e0 := by unfold eD; rw [List.getElem?_map, h]; rfl
theorem eD_len (l : List Dx) : (eD l).length = l.length := by unfold eD; simp
theorem dahead_step {l : List Dx} {i : Nat} {y : Dx} {p v c : Int} (hy : l[i]? = some y) (hb : befK y.x.p y.x.v y.x.c p v c = true) : aheadE ((eD l).drop i) p v c = aheadE ((eD l).drop (i + 1)) p v c + 1 := by
  obtain ⟨hi, he⟩ := List.getElem?_eq_some_iff.1 (eD_get hy)
  rw [List.drop_eq_getElem_cons hi, he, aheadE, show befK y.x.e0.p y.x.e0.v y.x.e0.c p v c = true from hb]; rfl
theorem dahead_stop {l : List Dx} {i : Nat} {y : Dx} {p v c : Int} (hy : l[i]? = some y) (hb : befK y.x.p y.x.v y.x.c p v c = false) : aheadE ((eD l).drop i) p v c = 0 := by
  obtain ⟨hi, he⟩ := List.getElem?_eq_some_iff.1 (eD_get hy)
  rw [List.drop_eq_getElem_cons hi, he, aheadE, show befK y.x.e0.p y.x.e0.v y.x.e0.c p v c = false from hb]; rfl
theorem dahead_nil {l : List Dx} {i : Nat} {p v c : Int} (h : l.length ≤ i) : aheadE ((eD l).drop i) p v c = 0 := by rw [List.drop_eq_nil_of_le (by rw [eD_len]; exact h)]; rfl
theorem RwS.tyB {w : World} {sz base n c : Nat} {T : TypeId} {A : Option Addr} {xs : List Value} (h : RwS w sz base T A n c xs) {q : Nat} (hq : ownB A q) : TyB w T q := by
  obtain ⟨a, rfl, rfl⟩ := hq
  rcases h.2 with ⟨hv, _⟩ | ⟨g, cap, cur, hv, hb, hg, rest⟩
  · cases hv
  · cases hv; exact ⟨_, _, hg⟩
theorem DPl.app {w w' : World} {pp sz base n c : Nat} {Y : Nat → Prop} {k : Con} {rs : List Rl} {A : Option Addr} {xs : List Value} (h : DPl w pp Y k rs) (hr : RwS w sz base 67 A n c xs) (hs : Step (ownB A) w w') : DPl w' pp Y k rs :=
  h.step hs fun q hq ho => by
    have h1 := RwS.tyB hr ho
    rcases h.ty hq with h2 | h2 | h2 | h2 <;> exact tyb_ne h1 h2 (by decide) rfl
theorem dntake_more (nd lo hi : Nat) (rooms : List Int) (l : List Dx) (rA : Option Addr) (rc : Nat) (A : Option Addr) (ca : Nat) (kp kv kc : Int) (w : World) (ho : Own w nd #[.slice rA rooms.length rc, .slice A l.length ca] 55) (hcn : l.length ≤ ca) (hhi : hi ≤ w.heap.size) (hv : Sl2 w lo hi A (flat dxc l)) (hnw : nd < lo ∨ hi ≤ nd) (hm : l.length ≤ 64) (rl rh : Nat) (k : Con) (hrc : rooms.length ≤ rc) (hrh : rh ≤ w.heap.size) (hrw : Sl2 w rl rh rA (iL .i64 rooms)) (hli : LI rooms (l.map Dx.x)) (he : chkN rooms (l.map Dx.x) kp kv kc k = 0) (hk : rightC k = 0) (hpos : 0 < l.length) :
  CV Tryz.prog 11 #[Pt nd 0, .agg #[I6 kp, I6 kv, I6 kc], .agg #[I6 k.kind, I6 k.peak, I6 k.early, I6 k.whole, I6 k.burst, I6 k.least]] w (fun x w1 => x = I6 0 ∧ ∃ A2 c2 pn Yn, Own w1 nd #[.slice rA rooms.length rc, .slice A2 (l.length + 1) c2] 55 ∧ RwS w1 10 w.heap.size 67 A2 (l.length + 1) c2 (flat dxc (l.take (aheadE (eD l) kp kv kc) ++ (⟨⟨kp, kv, kc, k, rulesC k⟩, pn, Yn⟩ : Dx) :: l.drop (aheadE (eD l) kp kv kc))) ∧ DPl w1 pn Yn k (rulesC k) ∧ (∀ q, Yn q → w.heap.size ≤ q) ∧ Step (Just nd) w w1) := by
 have hS : Step (Just nd) w w := Step.refl _ _
 refine VCe Tryz.func11 (Vs (Vr ?_))
 have hzk1 := hhi
 refine Vx 0 30 #[I6 kp, I6 kv, I6 kc] ?_
 intro b1 w1 hn1
 replace hS := Step.trans hS (Step.weak (hn1.step No))
 replace ho := ho.no (hn1.step No)
 replace hv := hv.step (hn1.step No) (fun k hk1 hk2 hF => hF)
 replace hhi := Nat.le_trans hhi (hn1.step No).size
 replace hrw := hrw.step (hn1.step No) (fun k hk1 hk2 hF => hF)
 replace hrh := Nat.le_trans hrh (hn1.step No).size
 have ho1 := hn1.own
 have hzhn1 := hn1.size
 have hqhn1 := hn1.eqb
 refine Vx 1 32 #[I6 k.kind, I6 k.peak, I6 k.early, I6 k.whole, I6 k.burst, I6 k.least] ?_
 intro b2 w2 hn2
 replace hS := Step.trans hS (Step.weak (hn2.step No))
 replace ho := ho.no (hn2.step No)
 replace hv := hv.step (hn2.step No) (fun k hk1 hk2 hF => hF)
 replace hhi := Nat.le_trans hhi (hn2.step No).size
 replace hrw := hrw.step (hn2.step No) (fun k hk1 hk2 hF => hF)
 replace hrh := Nat.le_trans hrh (hn2.step No).size
 replace ho1 := ho1.no (hn2.step No)
 have ho2 := hn2.own
 have hzhn2 := hn2.size
 have hqhn2 := hn2.eqb
 refine Ve (Vn (Vs (Vr (Vl 1 ho1 (Vl 2 ho2 ?_)))))
 refine Vc 3 Tryz.call9 ((dcheck_any nd lo rooms l kp kv kc k _ ⟨_, _, _, _, rl, rh, _, ho, hrc, hcn, hrh, hhi, hrw, hv⟩ hli).mono (fun x w1 h9 => by rw [he] at h9; exact h9)) ?_
 rintro _ w3 ⟨rfl, hc1⟩
 replace hS := Step.trans hS (Step.weak hc1)
 replace ho := ho.no hc1
 replace hv := hv.step hc1 (fun k hk1 hk2 hF => hF)
 replace hhi := Nat.le_trans hhi (hc1).size
 replace ho1 := ho1.no hc1
 replace ho2 := ho2.no hc1
 refine Ve (Vn (Vs (Vrp (Vf (VC_skip (Vn (Vrp (Vs (VC_block (VC_loop (σ := Nat) (fun σs => [(0, Pt nd 0), (4, Pt b1 0), (5, Pt b2 0), (8, I6 ((σs : Nat) : Int))]) (fun σs wr => σs ≤ l.length ∧ aheadE ((eD l).drop σs) kp kv kc + σs = aheadE (eD l) kp kv kc ∧ (Own wr nd #[.slice rA rooms.length rc, .slice A l.length ca] 55) ∧ (Sl2 wr lo hi A (flat dxc l)) ∧ (hi ≤ wr.heap.size) ∧ (Own wr b1 #[I6 kp, I6 kv, I6 kc] 30) ∧ (Own wr b2 #[I6 k.kind, I6 k.peak, I6 k.early, I6 k.whole, I6 k.burst, I6 k.least] 32) ∧ (Step (Just nd) w wr)) (fun σs wr => l.length - σs) 0 Su ?_ ?_))))))))))
 ·exact ⟨Nat.zero_le _, rfl, ho, hv, hhi, ho1, ho2, hS⟩
 rintro i wr ⟨hi0, hah, ho, hv, hhi, ho1, ho2, hS⟩
 try dsimp only at hi0 hah ho hv hhi ho1 ho2 hS ⊢
 refine Vs (Vs ?_)
 obtain ⟨sb1, so1, rfl, hlbsb1⟩ := (Sl2.sl hv).open (by rw [flat_len dxc_len]; omega)
 have hs1 := drew_step wr
 have hs1z : wr.heap.size = wr.drew.heap.size := rfl
 refine Tx 17 (fun k => wr.heap.size ≤ k) [] [0, 1, 2, 3, 4, 5, 6, 7, 8, 9, 10, 11, 12, 13, 14, 15, 16] ?_
 have hzl7 := ho.lt
 have hzl9 := ho2.lt
 generalize wr.drew = w4 at hs1 hs1z ⊢
 replace ho := ho.no hs1
 replace hv := hv.step hs1 (fun k hk1 hk2 hF => hF)
 replace hhi := Nat.le_trans hhi (hs1).size
 replace ho1 := ho1.no hs1
 replace ho2 := ho2.no hs1
 replace hS := Step.trans hS (Step.weak hs1)
 refine Tp 4 (Tl (fun w5 hr1 => ho.step hr1 (by (try simp only); omega)) (Tp 3 ?_))
 rcases Bool.eq_false_or_eq_true (decide (((i : Nat) : Int) < ((l.length : Nat) : Int))) with hg1 | hg1
 ·refine Tq [(7, Bo (decide (((i : Nat) : Int) < ((l.length : Nat) : Int)))), (6, Bo (decide (((i : Nat) : Int) < ((l.length : Nat) : Int))))] [(7, Bo true), (6, Bo true)] (by simp only [hg1, Bool.not_true, Bool.not_false]) ?_
  try simp only [bne_iff_ne, beq_iff_eq, decide_eq_true_eq, decide_eq_false_iff_not, bne_eq_false_iff_eq, beq_eq_false_iff_ne, ne_eq] at hg1
  refine Tp 3 (Tl (fun w6 hr2 => ho.step hr2 (by (try simp only); omega)) (Tp 1 (VT_index (d := 30) (b := sb1) (o := so1) (len := l.length) (sz := 10) (mm := ((i : Nat) : Int)) (by kernel_rfl) (by kernel_rfl) i (by rfl) (by omega) (so1 + i * 10) (by omega) (Tp 1 ?_))))
  obtain ⟨y1, hy1⟩ : ∃ x, l[i]? = some x := ⟨_, List.getElem?_eq_getElem (by omega)⟩
  refine VT_load (d := 32) (t := 30) (a := ⟨sb1, so1 + i * 10, none⟩) (v := .agg #[I6 y1.x.p, I6 y1.x.v, I6 y1.x.c]) (by kernel_rfl) (by kernel_rfl) ?_ ?_
  ·intro w7 hr3
   replace hv := hv.step hr3 (fun k hk1 hk2 hG => by (try simp only at hG); omega)
   exact (Sl.flatAgg (sz := 10) (Sl2.sl hv) dxc_len hy1 0 3 (by kernel_rfl) (by decide) _ (by first | rfl | omega))
  refine Tl (fun w8 hr4 => ho1.step hr4 (by (try simp only); omega)) (VT_end ?_)
  intro w9 hs2
  replace ho := ho.no hs2
  replace hv := hv.step hs2 (fun k hk1 hk2 hF => hF)
  replace hhi := Nat.le_trans hhi (hs2).size
  replace ho1 := ho1.no hs2
  replace ho2 := ho2.no hs2
  replace hS := Step.trans hS (Step.weak hs2)
  refine VL_keep [0, 4, 5, 8, 24, 32, 33] [(0, Pt nd 0), (4, Pt b1 0), (5, Pt b2 0), (8, I6 ((i : Nat) : Int)), (24, Bo true), (32, .agg #[I6 y1.x.p, I6 y1.x.v, I6 y1.x.c]), (33, .agg #[I6 kp, I6 kv, I6 kc])] (by kernel_rfl) ?_
  refine VL_call (d := 34) (f := 38) (args := #[.agg #[I6 y1.x.p, I6 y1.x.v, I6 y1.x.c], .agg #[I6 kp, I6 kv, I6 kc]]) (by kernel_rfl) (by kernel_rfl) (by kernel_rfl) Tryz.call38 (dkbefore_any y1.x.p y1.x.v y1.x.c kp kv kc _) ?_
  rintro _ w10 ⟨rfl, hc2⟩
  replace ho := ho.no hc2
  replace hv := hv.step hc2 (fun k hk1 hk2 hF => hF)
  replace hhi := Nat.le_trans hhi (hc2).size
  replace ho1 := ho1.no hc2
  replace ho2 := ho2.no hc2
  replace hS := Step.trans hS (Step.weak hc2)
  refine Ve (Vn (Vif (befK y1.x.p y1.x.v y1.x.c kp kv kc) (fun h1 => ?_) (fun h1 => ?_)))
  ·try simp only [BB] at h1
   refine VC_skip (Vn (VC_block (Vr (Vp 2 ?_))))
   have he1 : IntKind.wrap .i64 (((i : Nat) : Int) + 1) = ((i + 1 : Nat) : Int) := (by rw [wrap_i64 _ (by omega) (by omega)]; omega)
   refine Vq 37 (I6 (IntKind.wrap .i64 (((i : Nat) : Int) + 1))) (I6 ((i + 1 : Nat) : Int)) (by rw [he1]) (Ve (VQ_block_normal (VQ_again (i + 1) Su ?_ ?_)))
   ·exact ⟨(by (try dsimp only); omega), (by have h9 := dahead_step hy1 (by first | assumption | simp_all); omega), ho, hv, hhi, ho1, ho2, hS⟩
   ·(try dsimp only); omega
  ·try simp only [BB] at h1
   refine VC_exit (VQ_then_exit (VQ_then_exit (VQ_block_hit (Vn (Vrp (Vs ?_))))))
   have hs3 := drew_step w10
   have hs3z : w10.heap.size = w10.drew.heap.size := rfl
   refine Tx 12 (fun k => w10.heap.size ≤ k) [7, 11] [0, 1, 2, 3, 4, 5, 6, 8, 9, 10, 7, 11] ?_
   have hzl13 := ho.lt
   have hzl15 := ho2.lt
   generalize w10.drew = w11 at hs3 hs3z ⊢
   replace ho := ho.no hs3
   replace hv := hv.step hs3 (fun k hk1 hk2 hF => hF)
   replace hhi := Nat.le_trans hhi (hs3).size
   replace ho1 := ho1.no hs3
   replace ho2 := ho2.no hs3
   replace hS := Step.trans hS (Step.weak hs3)
   refine Tp 4 (Tl (fun w12 hr5 => ho.step hr5 (by (try simp only); omega)) (Tp 1 (VT_sliceV (d := 44) (A := (some ⟨sb1, so1, none⟩)) (sz := 10) (len := l.length) (cap := ca) (lo := none) (hi := (some ((i : Nat) : Int))) (mx := none) (by kernel_rfl) (by kernel_rfl) (fun h => by first | exact absurd rfl h | exact (fun h => by cases h)) (Sl2.sl hv) 0 i ca rfl rfl rfl (by omega) (by omega) (by omega) i (by omega) ca (by omega) _ (flat_cut dxc_len l 0 i) ?_)))
   intro A1 hsl1
   refine Tl (fun w13 hr6 => ho1.step hr6 (by (try simp only); omega)) (Tl (fun w14 hr7 => ho2.step hr7 (by (try simp only); omega)) (Tl (fun w15 hr8 => ho2.step hr8 (by (try simp only); omega)) (Th ?_)))
   intro w16 hs4
   have hzhs4 := hs4.size
   replace ho := ho.no hs4
   replace hv := hv.step hs4 (fun k hk1 hk2 hF => hF)
   replace hhi := Nat.le_trans hhi (hs4).size
   replace ho2 := ho2.no hs4
   replace hS := Step.trans hS (Step.weak hs4)
   replace hsl1 := hsl1.no hs4
   have hzl16 := ho.lt
   have hzl18 := ho2.lt
   obtain ⟨base1, hbase1E⟩ : ∃ x, x = w16.heap.size := ⟨_, rfl⟩
   have hbase1 : base1 ≤ w16.heap.size := Nat.le_of_eq hbase1E
   have hzk6 := hhi
   have hzk7 := hbase1
   refine VTc_appendZ (d := 45) (e := 67) (A := none) (mm := 0) (c := 0) (A2 := A1) (m2 := i) (c2 := ca) (sz := 10) (bytes := 80) (by kernel_rfl) (by kernel_rfl) (by kernel_rfl) base1 w16.heap.size (flat dxc ([])) (flat dxc (l.take i)) (RwS.nil w16 10 base1 67) (by rw [flat_len dxc_len, show (l.take i).length = i from TDacac]) (Sl.mono hsl1 TDacaf) (flat_one' dxc_one _) i (by omega) TDacai (by omega) (by omega) ?_ ?_
   ·intro w1 hs1; exact Step.mono hs1 (fun i hi => by have hi1 := (RwS.lt (RwS.nil w16 10 base1 67) i hi).1; (try simp only); omega)
   intro A2 c1 w17 hr9 hg2
   replace hr9 : RwS w17 10 base1 67 A2 i c1 (flat dxc (l.take i)) := RwS.cast hr9 rfl TDacaa
   replace hg2 := Step.mono (G := fun k => base1 ≤ k) hg2 (fun i hi => (RwS.lt (RwS.nil w16 10 base1 67) i hi).1)
   replace ho := ho.step hg2 (by (try simp only); omega)
   replace hv := hv.step hg2 (fun k hk1 hk2 hG => by (try simp only at hG); omega)
   replace hhi := Nat.le_trans hhi (hg2).size
   replace ho2 := ho2.step hg2 (by (try simp only); omega)
   replace hS := Step.transNew hS hg2 (fun i hi hG => by (try simp only at hG); (first | show _ ∨ _ | show _ = _); omega)
   replace hbase1 := Nat.le_trans hbase1 (hg2).size
   have hlhr9 : (l.take i).length = i := by have hq9 := RwS.len hr9; rw [flat_len dxc_len] at hq9 <;> omega
   refine Th ?_
   intro w18 hs5
   replace ho := ho.no hs5
   replace hv := hv.step hs5 (fun k hk1 hk2 hF => hF)
   replace hhi := Nat.le_trans hhi (hs5).size
   replace ho2 := ho2.no hs5
   replace hS := Step.trans hS (Step.weak hs5)
   replace hbase1 := Nat.le_trans hbase1 (hs5).size
   replace hr9 := hr9.no hs5
   have hzl22 := ho.lt
   have hzl24 := ho2.lt
   refine Tc Tryz.call39 (dpnew_any k hk _) ?_ ?_
   ·rintro _ w19 ⟨pn, Yn, rfl, hYn, hPn, hc3⟩
    exact Step.mono hc3 TDacaj
   rintro _ w19 ⟨pn, Yn, rfl, hYn, hPn, hc3⟩
   replace ho := ho.no hc3
   replace hv := hv.step hc3 (fun k hk1 hk2 hF => hF)
   replace hhi := Nat.le_trans hhi (hc3).size
   replace hS := Step.trans hS (Step.weak hc3)
   replace hbase1 := Nat.le_trans hbase1 (hc3).size
   replace hr9 := hr9.no hc3
   refine VT_end ?_
   intro w20 hs6
   replace ho := ho.no hs6
   replace hv := hv.step hs6 (fun k hk1 hk2 hF => hF)
   replace hhi := Nat.le_trans hhi (hs6).size
   replace hS := Step.trans hS (Step.weak hs6)
   replace hbase1 := Nat.le_trans hbase1 (hs6).size
   replace hr9 := hr9.no hs6
   replace hPn := DPl.no hPn hs6
   refine Vp 13 ?_
   refine VL_bs (d := 51) (e := 67) (c := #[I6 kp, I6 kv, I6 kc, I6 k.kind, I6 k.peak, I6 k.early, I6 k.whole, I6 k.burst, I6 k.least, Pt pn 0]) (len := 1) (by kernel_rfl) (by kernel_rfl) ?_
   intro b3 w21 hn3
   replace ho := ho.no (hn3.step No)
   replace hv := hv.step (hn3.step No) (fun k hk1 hk2 hF => hF)
   replace hhi := Nat.le_trans hhi (hn3.step No).size
   replace hS := Step.trans hS (Step.weak (hn3.step No))
   replace hbase1 := Nat.le_trans hbase1 (hn3.step No).size
   replace hr9 := hr9.no (hn3.step No)
   replace hPn := DPl.no hPn (hn3.step No)
   have ho3 := hn3.own
   have hzk11 := hbase1
   refine VL_appendZ (d := 52) (e := 67) (A := A2) (m := i) (c := c1) (A2 := (some ⟨b3, 0, none⟩)) (m2 := 1) (c2 := 1) (sz := 10) (bytes := 80) (by kernel_rfl) (by kernel_rfl) (by kernel_rfl) base1 w21.heap.size (flat dxc (l.take i)) (flat dxc [(⟨⟨kp, kv, kc, k, rulesC k⟩, pn, Yn⟩ : Dx)]) hr9 (by rw [flat_one, dxc_len]) (Sl.mono (Sl.cast (Own.sl ho3 ho3.lt) (by first | rfl | simp [flat])) TDacaf) (flat_one' dxc_one _) (i + 1) (by omega) TDacai (by omega) (by omega) ?_
   intro A3 c2 w22 hr10 hg3
   replace hr10 : RwS w22 10 base1 67 A3 (i + 1) c2 (flat dxc ((l.take i) ++ ([(⟨⟨kp, kv, kc, k, rulesC k⟩, pn, Yn⟩ : Dx)]))) := RwS.cast hr10 rfl TDacaa
   have hgO := hg3
   replace hg3 := Step.mono (G := fun k => base1 ≤ k) hg3 (fun i hi => (RwS.lt hr9 i hi).1)
   replace ho := ho.step hg3 (by (try simp only); omega)
   replace hv := hv.step hg3 (fun k hk1 hk2 hG => by (try simp only at hG); omega)
   replace hhi := Nat.le_trans hhi (hg3).size
   replace hS := Step.transNew hS hg3 (fun i hi hG => by (try simp only at hG); (first | show _ ∨ _ | show _ = _); omega)
   replace hbase1 := Nat.le_trans hbase1 (hg3).size
   replace hPn := DPl.app hPn hr9 hgO
   have hlhr10 : ((l.take i) ++ ([(⟨⟨kp, kv, kc, k, rulesC k⟩, pn, Yn⟩ : Dx)])).length = i + 1 := by have hq9 := RwS.len hr10; rw [flat_len dxc_len] at hq9 <;> omega
   refine Ve (Vn (Vs (Vr (Vl 5 ho (Vp 7 (VL_sliceV (d := 60) (A := (some ⟨sb1, so1, none⟩)) (sz := 10) (len := l.length) (cap := ca) (lo := (some ((i : Nat) : Int))) (hi := none) (mx := none) (by kernel_rfl) (by kernel_rfl) (fun h => by first | exact absurd rfl h | exact (fun h => by cases h)) (Sl2.sl hv) i l.length ca rfl rfl rfl (by omega) (by omega) (by omega) (l.length - i) (by omega) (ca - i) (by omega) _ (flat_cut dxc_len l i (l.length - i)) ?_))))))
   intro A4 hsl2
   have hzk12 := hhi
   have hzk13 := hbase1
   refine VL_appendZ (d := 61) (e := 67) (A := A3) (m := (i + 1)) (c := c2) (A2 := A4) (m2 := (l.length - i)) (c2 := (ca - i)) (sz := 10) (bytes := 80) (by kernel_rfl) (by kernel_rfl) (by kernel_rfl) base1 w22.heap.size (flat dxc ((l.take i) ++ ([(⟨⟨kp, kv, kc, k, rulesC k⟩, pn, Yn⟩ : Dx)]))) (flat dxc ((l.drop i).take (l.length - i))) hr10 (by rw [flat_len dxc_len, show ((l.drop i).take (l.length - i)).length = (l.length - i) from TDacac]) (Sl.mono hsl2 TDacaf) (flat_one' dxc_one _) (i + 1 + (l.length - i)) (by omega) TDacai (by omega) (by omega) ?_
   intro A5 c3 w23 hr11 hg4
   replace hr11 : RwS w23 10 base1 67 A5 (i + 1 + (l.length - i)) c3 (flat dxc ((l.take i) ++ ([(⟨⟨kp, kv, kc, k, rulesC k⟩, pn, Yn⟩ : Dx)]) ++ ((l.drop i).take (l.length - i)))) := RwS.cast hr11 rfl TDacaa
   have hgO := hg4
   replace hg4 := Step.mono (G := fun k => base1 ≤ k) hg4 (fun i hi => (RwS.lt hr10 i hi).1)
   replace ho := ho.step hg4 (by (try simp only); omega)
   replace hS := Step.transNew hS hg4 (fun i hi hG => by (try simp only at hG); (first | show _ ∨ _ | show _ = _); omega)
   replace hPn := DPl.app hPn hr10 hgO
   have hlhr11 : ((l.take i) ++ ([(⟨⟨kp, kv, kc, k, rulesC k⟩, pn, Yn⟩ : Dx)]) ++ ((l.drop i).take (l.length - i))).length = i + 1 + (l.length - i) := by have hq9 := RwS.len hr11; rw [flat_len dxc_len] at hq9 <;> omega
   refine Vst 11 (o := 1) [.slice A5 (i + 1 + (l.length - i)) c3] ho #[.slice rA rooms.length rc, .slice A5 (i + 1 + (l.length - i)) c3] ?_
   intro w24 hw1
   replace hS := Step.trans hS (Step.mono hw1.step TDacab)
   replace hPn := DPl.step hPn hw1.step (fun q9 hq9 hF9 => by have h8 := hYn q9 hq9; have h7 : q9 = nd := hF9; omega)
   replace hr11 := hr11.step hw1.step (fun k hk (hF : k = nd) => by omega)
   have ho4 := hw1.own
   refine Ve (Vn (Vrp (VC_ret (Vr1 (I6 0) ?_))))
   have hie : aheadE (eD l) kp kv kc = i := by
    have h9 : aheadE ((eD l).drop i) kp kv kc = 0 := by first | exact dahead_nil (by omega) | exact dahead_stop hy1 (by first | assumption | simp_all)
    omega
   obtain ⟨A9, c9, q1, q2⟩ := dmut_fin (m := l.length + 1) (ys := flat dxc (l.take (aheadE (eD l) kp kv kc) ++ (⟨⟨kp, kv, kc, k, rulesC k⟩, pn, Yn⟩ : Dx) :: l.drop (aheadE (eD l) kp kv kc))) (base2 := w.heap.size) ho4 hr11 (by omega) TDacae (by omega)
   exact ⟨rfl, A9, c9, pn, Yn, q1, q2, hPn, (fun q hq => by have h9 := hYn q hq; omega), hS⟩
 ·refine Tq [(7, Bo (decide (((i : Nat) : Int) < ((l.length : Nat) : Int)))), (6, Bo (decide (((i : Nat) : Int) < ((l.length : Nat) : Int))))] [(7, Bo false), (6, Bo false)] (by simp only [hg1, Bool.not_true, Bool.not_false]) ?_
  try simp only [bne_iff_ne, beq_iff_eq, decide_eq_true_eq, decide_eq_false_iff_not, bne_eq_false_iff_eq, beq_eq_false_iff_ne, ne_eq] at hg1
  refine Tp 9 (VT_end ?_)
  intro w25 hs7
  replace ho := ho.no hs7
  replace hv := hv.step hs7 (fun k hk1 hk2 hF => hF)
  replace hhi := Nat.le_trans hhi (hs7).size
  replace ho1 := ho1.no hs7
  replace ho2 := ho2.no hs7
  replace hS := Step.trans hS (Step.weak hs7)
  refine Ve (Vn (Vf (VC_exit (VQ_then_exit (VQ_then_exit (VQ_block_hit (Vn (Vrp (Vs ?_)))))))))
  have hs8 := drew_step w25
  have hs8z : w25.heap.size = w25.drew.heap.size := rfl
  refine Tx 12 (fun k => w25.heap.size ≤ k) [7, 11] [0, 1, 2, 3, 4, 5, 6, 8, 9, 10, 7, 11] ?_
  have hzl35 := ho.lt
  have hzl37 := ho2.lt
  generalize w25.drew = w26 at hs8 hs8z ⊢
  replace ho := ho.no hs8
  replace hv := hv.step hs8 (fun k hk1 hk2 hF => hF)
  replace hhi := Nat.le_trans hhi (hs8).size
  replace ho1 := ho1.no hs8
  replace ho2 := ho2.no hs8
  replace hS := Step.trans hS (Step.weak hs8)
  refine Tp 4 (Tl (fun w27 hr12 => ho.step hr12 (by (try simp only); omega)) (Tp 1 (VT_sliceV (d := 44) (A := (some ⟨sb1, so1, none⟩)) (sz := 10) (len := l.length) (cap := ca) (lo := none) (hi := (some ((i : Nat) : Int))) (mx := none) (by kernel_rfl) (by kernel_rfl) (fun h => by first | exact absurd rfl h | exact (fun h => by cases h)) (Sl2.sl hv) 0 i ca rfl rfl rfl (by omega) (by omega) (by omega) i (by omega) ca (by omega) _ (flat_cut dxc_len l 0 i) ?_)))
  intro A6 hsl3
  refine Tl (fun w28 hr13 => ho1.step hr13 (by (try simp only); omega)) (Tl (fun w29 hr14 => ho2.step hr14 (by (try simp only); omega)) (Tl (fun w30 hr15 => ho2.step hr15 (by (try simp only); omega)) (Th ?_)))
  intro w31 hs9
  have hzhs9 := hs9.size
  replace ho := ho.no hs9
  replace hv := hv.step hs9 (fun k hk1 hk2 hF => hF)
  replace hhi := Nat.le_trans hhi (hs9).size
  replace ho2 := ho2.no hs9
  replace hS := Step.trans hS (Step.weak hs9)
  replace hsl3 := hsl3.no hs9
  have hzl38 := ho.lt
  have hzl40 := ho2.lt
  obtain ⟨base2, hbase2E⟩ : ∃ x, x = w31.heap.size := ⟨_, rfl⟩
  have hbase2 : base2 ≤ w31.heap.size := Nat.le_of_eq hbase2E
  have hzk15 := hhi
  have hzk16 := hbase2
  refine VTc_appendZ (d := 45) (e := 67) (A := none) (mm := 0) (c := 0) (A2 := A6) (m2 := i) (c2 := ca) (sz := 10) (bytes := 80) (by kernel_rfl) (by kernel_rfl) (by kernel_rfl) base2 w31.heap.size (flat dxc ([])) (flat dxc (l.take i)) (RwS.nil w31 10 base2 67) (by rw [flat_len dxc_len, show (l.take i).length = i from TDacac]) (Sl.mono hsl3 TDacaf) (flat_one' dxc_one _) i (by omega) TDacai (by omega) (by omega) ?_ ?_
  ·intro w1 hs1; exact Step.mono hs1 (fun i hi => by have hi1 := (RwS.lt (RwS.nil w31 10 base2 67) i hi).1; (try simp only); omega)
  intro A7 c4 w32 hr16 hg5
  replace hr16 : RwS w32 10 base2 67 A7 i c4 (flat dxc (l.take i)) := RwS.cast hr16 rfl TDacaa
  replace hg5 := Step.mono (G := fun k => base2 ≤ k) hg5 (fun i hi => (RwS.lt (RwS.nil w31 10 base2 67) i hi).1)
  replace ho := ho.step hg5 (by (try simp only); omega)
  replace hv := hv.step hg5 (fun k hk1 hk2 hG => by (try simp only at hG); omega)
  replace hhi := Nat.le_trans hhi (hg5).size
  replace ho2 := ho2.step hg5 (by (try simp only); omega)
  replace hS := Step.transNew hS hg5 (fun i hi hG => by (try simp only at hG); (first | show _ ∨ _ | show _ = _); omega)
  replace hbase2 := Nat.le_trans hbase2 (hg5).size
  have hlhr16 : (l.take i).length = i := by have hq9 := RwS.len hr16; rw [flat_len dxc_len] at hq9 <;> omega
  refine Th ?_
  intro w33 hs10
  replace ho := ho.no hs10
  replace hv := hv.step hs10 (fun k hk1 hk2 hF => hF)
  replace hhi := Nat.le_trans hhi (hs10).size
  replace ho2 := ho2.no hs10
  replace hS := Step.trans hS (Step.weak hs10)
  replace hbase2 := Nat.le_trans hbase2 (hs10).size
  replace hr16 := hr16.no hs10
  have hzl44 := ho.lt
  have hzl46 := ho2.lt
  refine Tc Tryz.call39 (dpnew_any k hk _) ?_ ?_
  ·rintro _ w34 ⟨pn, Yn, rfl, hYn, hPn, hc4⟩
   exact Step.mono hc4 TDacaj
  rintro _ w34 ⟨pn, Yn, rfl, hYn, hPn, hc4⟩
  replace ho := ho.no hc4
  replace hv := hv.step hc4 (fun k hk1 hk2 hF => hF)
  replace hhi := Nat.le_trans hhi (hc4).size
  replace hS := Step.trans hS (Step.weak hc4)
  replace hbase2 := Nat.le_trans hbase2 (hc4).size
  replace hr16 := hr16.no hc4
  refine VT_end ?_
  intro w35 hs11
  replace ho := ho.no hs11
  replace hv := hv.step hs11 (fun k hk1 hk2 hF => hF)
  replace hhi := Nat.le_trans hhi (hs11).size
  replace hS := Step.trans hS (Step.weak hs11)
  replace hbase2 := Nat.le_trans hbase2 (hs11).size
  replace hr16 := hr16.no hs11
  replace hPn := DPl.no hPn hs11
  refine Vp 13 ?_
  refine VL_bs (d := 51) (e := 67) (c := #[I6 kp, I6 kv, I6 kc, I6 k.kind, I6 k.peak, I6 k.early, I6 k.whole, I6 k.burst, I6 k.least, Pt pn 0]) (len := 1) (by kernel_rfl) (by kernel_rfl) ?_
  intro b4 w36 hn4
  replace ho := ho.no (hn4.step No)
  replace hv := hv.step (hn4.step No) (fun k hk1 hk2 hF => hF)
  replace hhi := Nat.le_trans hhi (hn4.step No).size
  replace hS := Step.trans hS (Step.weak (hn4.step No))
  replace hbase2 := Nat.le_trans hbase2 (hn4.step No).size
  replace hr16 := hr16.no (hn4.step No)
  replace hPn := DPl.no hPn (hn4.step No)
  have ho5 := hn4.own
  have hzk20 := hbase2
  refine VL_appendZ (d := 52) (e := 67) (A := A7) (m := i) (c := c4) (A2 := (some ⟨b4, 0, none⟩)) (m2 := 1) (c2 := 1) (sz := 10) (bytes := 80) (by kernel_rfl) (by kernel_rfl) (by kernel_rfl) base2 w36.heap.size (flat dxc (l.take i)) (flat dxc [(⟨⟨kp, kv, kc, k, rulesC k⟩, pn, Yn⟩ : Dx)]) hr16 (by rw [flat_one, dxc_len]) (Sl.mono (Sl.cast (Own.sl ho5 ho5.lt) (by first | rfl | simp [flat])) TDacaf) (flat_one' dxc_one _) (i + 1) (by omega) TDacai (by omega) (by omega) ?_
  intro A8 c5 w37 hr17 hg6
  replace hr17 : RwS w37 10 base2 67 A8 (i + 1) c5 (flat dxc ((l.take i) ++ ([(⟨⟨kp, kv, kc, k, rulesC k⟩, pn, Yn⟩ : Dx)]))) := RwS.cast hr17 rfl TDacaa
  have hgO := hg6
  replace hg6 := Step.mono (G := fun k => base2 ≤ k) hg6 (fun i hi => (RwS.lt hr16 i hi).1)
  replace ho := ho.step hg6 (by (try simp only); omega)
  replace hv := hv.step hg6 (fun k hk1 hk2 hG => by (try simp only at hG); omega)
  replace hhi := Nat.le_trans hhi (hg6).size
  replace hS := Step.transNew hS hg6 (fun i hi hG => by (try simp only at hG); (first | show _ ∨ _ | show _ = _); omega)
  replace hbase2 := Nat.le_trans hbase2 (hg6).size
  replace hPn := DPl.app hPn hr16 hgO
  have hlhr17 : ((l.take i) ++ ([(⟨⟨kp, kv, kc, k, rulesC k⟩, pn, Yn⟩ : Dx)])).length = i + 1 := by have hq9 := RwS.len hr17; rw [flat_len dxc_len] at hq9 <;> omega
  refine Ve (Vn (Vs (Vr (Vl 5 ho (Vp 7 (VL_sliceV (d := 60) (A := (some ⟨sb1, so1, none⟩)) (sz := 10) (len := l.length) (cap := ca) (lo := (some ((i : Nat) : Int))) (hi := none) (mx := none) (by kernel_rfl) (by kernel_rfl) (fun h => by first | exact absurd rfl h | exact (fun h => by cases h)) (Sl2.sl hv) i l.length ca rfl rfl rfl (by omega) (by omega) (by omega) (l.length - i) (by omega) (ca - i) (by omega) _ (flat_cut dxc_len l i (l.length - i)) ?_))))))
  intro A9 hsl4
  have hzk21 := hhi
  have hzk22 := hbase2
  refine VL_appendZ (d := 61) (e := 67) (A := A8) (m := (i + 1)) (c := c5) (A2 := A9) (m2 := (l.length - i)) (c2 := (ca - i)) (sz := 10) (bytes := 80) (by kernel_rfl) (by kernel_rfl) (by kernel_rfl) base2 w37.heap.size (flat dxc ((l.take i) ++ ([(⟨⟨kp, kv, kc, k, rulesC k⟩, pn, Yn⟩ : Dx)]))) (flat dxc ((l.drop i).take (l.length - i))) hr17 (by rw [flat_len dxc_len, show ((l.drop i).take (l.length - i)).length = (l.length - i) from TDacac]) (Sl.mono hsl4 TDacaf) (flat_one' dxc_one _) (i + 1 + (l.length - i)) (by omega) TDacai (by omega) (by omega) ?_
  intro A10 c6 w38 hr18 hg7
  replace hr18 : RwS w38 10 base2 67 A10 (i + 1 + (l.length - i)) c6 (flat dxc ((l.take i) ++ ([(⟨⟨kp, kv, kc, k, rulesC k⟩, pn, Yn⟩ : Dx)]) ++ ((l.drop i).take (l.length - i)))) := RwS.cast hr18 rfl TDacaa
  have hgO := hg7
  replace hg7 := Step.mono (G := fun k => base2 ≤ k) hg7 (fun i hi => (RwS.lt hr17 i hi).1)
  replace ho := ho.step hg7 (by (try simp only); omega)
  replace hS := Step.transNew hS hg7 (fun i hi hG => by (try simp only at hG); (first | show _ ∨ _ | show _ = _); omega)
  replace hPn := DPl.app hPn hr17 hgO
  have hlhr18 : ((l.take i) ++ ([(⟨⟨kp, kv, kc, k, rulesC k⟩, pn, Yn⟩ : Dx)]) ++ ((l.drop i).take (l.length - i))).length = i + 1 + (l.length - i) := by have hq9 := RwS.len hr18; rw [flat_len dxc_len] at hq9 <;> omega
  refine Vst 11 (o := 1) [.slice A10 (i + 1 + (l.length - i)) c6] ho #[.slice rA rooms.length rc, .slice A10 (i + 1 + (l.length - i)) c6] ?_
  intro w39 hw2
  replace hS := Step.trans hS (Step.mono hw2.step TDacab)
  replace hPn := DPl.step hPn hw2.step (fun q9 hq9 hF9 => by have h8 := hYn q9 hq9; have h7 : q9 = nd := hF9; omega)
  replace hr18 := hr18.step hw2.step (fun k hk (hF : k = nd) => by omega)
  have ho6 := hw2.own
  refine Ve (Vn (Vrp (VC_ret (Vr1 (I6 0) ?_))))
  have hie : aheadE (eD l) kp kv kc = i := by
   have h9 : aheadE ((eD l).drop i) kp kv kc = 0 := by first | exact dahead_nil (by omega)
   omega
  obtain ⟨A9, c9, q1, q2⟩ := dmut_fin (m := l.length + 1) (ys := flat dxc (l.take (aheadE (eD l) kp kv kc) ++ (⟨⟨kp, kv, kc, k, rulesC k⟩, pn, Yn⟩ : Dx) :: l.drop (aheadE (eD l) kp kv kc))) (base2 := w.heap.size) ho6 hr18 (by omega) TDacae (by omega)
  exact ⟨rfl, A9, c9, pn, Yn, q1, q2, hPn, (fun q hq => by have h9 := hYn q hq; omega), hS⟩

theorem dntake_no (nd lo hi : Nat) (rooms : List Int) (l : List Dx) (rA : Option Addr) (rc : Nat) (A : Option Addr) (ca : Nat) (kp kv kc : Int) (w : World) (ho : Own w nd #[.slice rA rooms.length rc, .slice A l.length ca] 55) (hcn : l.length ≤ ca) (hhi : hi ≤ w.heap.size) (hv : Sl2 w lo hi A (flat dxc l)) (hnw : nd < lo ∨ hi ≤ nd) (hm : l.length ≤ 64) (rl rh : Nat) (k : Con) (hrc : rooms.length ≤ rc) (hrh : rh ≤ w.heap.size) (hrw : Sl2 w rl rh rA (iL .i64 rooms)) (hli : LI rooms (l.map Dx.x)) (e9 : Int) (he : chkN rooms (l.map Dx.x) kp kv kc k = e9) (h0 : e9 ≠ 0) :
  CV Tryz.prog 11 #[Pt nd 0, .agg #[I6 kp, I6 kv, I6 kc], .agg #[I6 k.kind, I6 k.peak, I6 k.early, I6 k.whole, I6 k.burst, I6 k.least]] w (fun x w1 => x = I6 e9 ∧ Step No w w1) := by
 have hS : Step No w w := Step.refl _ _
 refine VCe Tryz.func11 (Vs (Vr ?_))
 refine Vx 0 30 #[I6 kp, I6 kv, I6 kc] ?_
 intro b1 w1 hn1
 replace hS := Step.trans hS (hn1.step No)
 replace ho := ho.no (hn1.step No)
 replace hv := hv.step (hn1.step No) (fun k hk1 hk2 hF => hF)
 replace hhi := Nat.le_trans hhi (hn1.step No).size
 replace hrw := hrw.step (hn1.step No) (fun k hk1 hk2 hF => hF)
 replace hrh := Nat.le_trans hrh (hn1.step No).size
 have ho1 := hn1.own
 refine Vx 1 32 #[I6 k.kind, I6 k.peak, I6 k.early, I6 k.whole, I6 k.burst, I6 k.least] ?_
 intro b2 w2 hn2
 replace hS := Step.trans hS (hn2.step No)
 replace ho := ho.no (hn2.step No)
 replace hv := hv.step (hn2.step No) (fun k hk1 hk2 hF => hF)
 replace hhi := Nat.le_trans hhi (hn2.step No).size
 replace hrw := hrw.step (hn2.step No) (fun k hk1 hk2 hF => hF)
 replace hrh := Nat.le_trans hrh (hn2.step No).size
 replace ho1 := ho1.no (hn2.step No)
 have ho2 := hn2.own
 refine Ve (Vn (Vs (Vr (Vl 1 ho1 (Vl 2 ho2 ?_)))))
 refine Vc 3 Tryz.call9 ((dcheck_any nd lo rooms l kp kv kc k _ ⟨_, _, _, _, rl, rh, _, ho, hrc, hcn, hrh, hhi, hrw, hv⟩ hli).mono (fun x w1 h9 => by rw [he] at h9; exact h9)) ?_
 rintro _ w3 ⟨rfl, hc1⟩
 replace hS := Step.trans hS hc1
 refine Ve (Vn (Vs (Vrp (Vit (b := e9 != 0) (by simpa using h0) (Vrp (VC_ret (VQ_then_ret (Vr1 (I6 e9) ?_))))))))
 exact ⟨rfl, hS⟩

theorem dntake_first (nd lo hi : Nat) (rooms : List Int) (l : List Dx) (rA : Option Addr) (rc : Nat) (A : Option Addr) (ca : Nat) (kp kv kc : Int) (w : World) (ho : Own w nd #[.slice rA rooms.length rc, .slice A 0 ca] 55) (hcn : l.length ≤ ca) (hhi : hi ≤ w.heap.size) (hv : Sl2 w lo hi A (flat dxc l)) (hnw : nd < lo ∨ hi ≤ nd) (hm : l.length ≤ 64) (rl rh : Nat) (k : Con) (hrc : rooms.length ≤ rc) (hrh : rh ≤ w.heap.size) (hrw : Sl2 w rl rh rA (iL .i64 rooms)) (hli : LI rooms (l.map Dx.x)) (he : chkN rooms (l.map Dx.x) kp kv kc k = 0) (hk : rightC k = 0) (h0 : l = []) :
  CV Tryz.prog 11 #[Pt nd 0, .agg #[I6 kp, I6 kv, I6 kc], .agg #[I6 k.kind, I6 k.peak, I6 k.early, I6 k.whole, I6 k.burst, I6 k.least]] w (fun x w1 => x = I6 0 ∧ ∃ A2 c2 pn Yn, Own w1 nd #[.slice rA rooms.length rc, .slice A2 1 c2] 55 ∧ RwS w1 10 w.heap.size 67 A2 1 c2 (flat dxc [(⟨⟨kp, kv, kc, k, rulesC k⟩, pn, Yn⟩ : Dx)]) ∧ DPl w1 pn Yn k (rulesC k) ∧ (∀ q, Yn q → w.heap.size ≤ q) ∧ Step (Just nd) w w1) := by
 have hS : Step (Just nd) w w := Step.refl _ _
 have hl0 : l.length = 0 := by rw [h0]; rfl
 refine VCe Tryz.func11 (Vs (Vr ?_))
 have hzk1 := hhi
 refine Vx 0 30 #[I6 kp, I6 kv, I6 kc] ?_
 intro b1 w1 hn1
 replace hS := Step.trans hS (Step.weak (hn1.step No))
 replace ho := ho.no (hn1.step No)
 replace hv := hv.step (hn1.step No) (fun k hk1 hk2 hF => hF)
 replace hhi := Nat.le_trans hhi (hn1.step No).size
 replace hrw := hrw.step (hn1.step No) (fun k hk1 hk2 hF => hF)
 replace hrh := Nat.le_trans hrh (hn1.step No).size
 have ho1 := hn1.own
 have hzhn1 := hn1.size
 have hqhn1 := hn1.eqb
 refine Vx 1 32 #[I6 k.kind, I6 k.peak, I6 k.early, I6 k.whole, I6 k.burst, I6 k.least] ?_
 intro b2 w2 hn2
 replace hS := Step.trans hS (Step.weak (hn2.step No))
 replace ho := ho.no (hn2.step No)
 replace hv := hv.step (hn2.step No) (fun k hk1 hk2 hF => hF)
 replace hhi := Nat.le_trans hhi (hn2.step No).size
 replace hrw := hrw.step (hn2.step No) (fun k hk1 hk2 hF => hF)
 replace hrh := Nat.le_trans hrh (hn2.step No).size
 replace ho1 := ho1.no (hn2.step No)
 have ho2 := hn2.own
 have hzhn2 := hn2.size
 have hqhn2 := hn2.eqb
 refine Ve (Vn (Vs (Vr (Vl 1 ho1 (Vl 2 ho2 ?_)))))
 refine Vc 3 Tryz.call9 ((dcheck_any nd lo rooms l kp kv kc k _ ⟨_, _, _, _, rl, rh, _, by rw [hl0]; exact ho, hrc, hcn, hrh, hhi, hrw, hv⟩ hli).mono (fun x w1 h9 => by rw [he] at h9; exact h9)) ?_
 rintro _ w3 ⟨rfl, hc1⟩
 replace hS := Step.trans hS (Step.weak hc1)
 replace ho := ho.no hc1
 replace hv := hv.step hc1 (fun k hk1 hk2 hF => hF)
 replace hhi := Nat.le_trans hhi (hc1).size
 replace ho1 := ho1.no hc1
 replace ho2 := ho2.no hc1
 refine Ve (Vn (Vs (Vrp (Vf (VC_skip (Vn (Vrp (Vs (VC_block (VC_rounds (VCL_round (Vs (Vs (Vd 17 [(4, .slice A 0 ca)] [4] ?_ ?_))))))))))))))
 ·intro w4 hs1
  replace ho := ho.no hs1
  exact ⟨Dl ho, trivial⟩
 intro w4 hs1
 replace hS := Step.trans hS (Step.weak hs1)
 replace ho := ho.no hs1
 replace hv := hv.step hs1 (fun k hk1 hk2 hF => hF)
 replace hhi := Nat.le_trans hhi (hs1).size
 replace ho1 := ho1.no hs1
 replace ho2 := ho2.no hs1
 refine Ve (Vn (Vf (VC_exit (VQ_then_exit (VQ_then_exit (VQ_block_hit (Vn (Vrp (Vs ?_)))))))))
 have hs2 := drew_step w4
 have hs2z : w4.heap.size = w4.drew.heap.size := rfl
 refine Tx 12 (fun k => w4.heap.size ≤ k) [7, 11] [0, 1, 2, 3, 4, 5, 6, 8, 9, 10, 7, 11] ?_
 have hzl7 := ho.lt
 have hzl9 := ho2.lt
 generalize w4.drew = w5 at hs2 hs2z ⊢
 replace hS := Step.trans hS (Step.weak hs2)
 replace ho := ho.no hs2
 replace hv := hv.step hs2 (fun k hk1 hk2 hF => hF)
 replace hhi := Nat.le_trans hhi (hs2).size
 replace ho1 := ho1.no hs2
 replace ho2 := ho2.no hs2
 refine Tp 4 (Tl (fun w6 hr1 => ho.step hr1 (by (try simp only); omega)) (Tp 1 (VT_sliceV (d := 44) (A := A) (sz := 10) (len := 0) (cap := ca) (lo := none) (hi := (some 0)) (mx := none) (by kernel_rfl) (by kernel_rfl) (fun h => by first | exact absurd rfl h | exact (fun h => by cases h)) (Sl2.sl hv) 0 0 ca rfl rfl rfl (by omega) (by omega) (by omega) 0 (by omega) ca (by omega) _ (flat_cut dxc_len l 0 0) ?_)))
 intro A1 hsl1
 refine Tl (fun w7 hr2 => ho1.step hr2 (by (try simp only); omega)) (Tl (fun w8 hr3 => ho2.step hr3 (by (try simp only); omega)) (Tl (fun w9 hr4 => ho2.step hr4 (by (try simp only); omega)) (Th ?_)))
 intro w10 hs3
 have hzhs3 := hs3.size
 replace hS := Step.trans hS (Step.weak hs3)
 replace ho := ho.no hs3
 replace hv := hv.step hs3 (fun k hk1 hk2 hF => hF)
 replace hhi := Nat.le_trans hhi (hs3).size
 replace ho2 := ho2.no hs3
 replace hsl1 := hsl1.no hs3
 have hzl10 := ho.lt
 have hzl12 := ho2.lt
 obtain ⟨base1, hbase1E⟩ : ∃ x, x = w10.heap.size := ⟨_, rfl⟩
 have hbase1 : base1 ≤ w10.heap.size := Nat.le_of_eq hbase1E
 have hzk6 := hhi
 have hzk7 := hbase1
 refine VTc_appendZ (d := 45) (e := 67) (A := none) (mm := 0) (c := 0) (A2 := A1) (m2 := 0) (c2 := ca) (sz := 10) (bytes := 80) (by kernel_rfl) (by kernel_rfl) (by kernel_rfl) base1 w10.heap.size (flat dxc ([])) (flat dxc (l.take 0)) (RwS.nil w10 10 base1 67) TDacah (Sl.mono hsl1 TDacaf) (flat_one' dxc_one _) 0 (by omega) TDacai (by omega) (by omega) ?_ ?_
 ·intro w1 hs1; exact Step.mono hs1 (fun i hi => by have hi1 := (RwS.lt (RwS.nil w10 10 base1 67) i hi).1; (try simp only); omega)
 intro A2 c1 w11 hr5 hg1
 replace hr5 : RwS w11 10 base1 67 A2 0 c1 (flat dxc (l.take 0)) := RwS.cast hr5 rfl TDacaa
 replace hg1 := Step.mono (G := fun k => base1 ≤ k) hg1 (fun i hi => (RwS.lt (RwS.nil w10 10 base1 67) i hi).1)
 replace hS := Step.transNew hS hg1 (fun i hi hG => by (try simp only at hG); (first | show _ ∨ _ | show _ = _); omega)
 replace ho := ho.step hg1 (by (try simp only); omega)
 replace hv := hv.step hg1 (fun k hk1 hk2 hG => by (try simp only at hG); omega)
 replace hhi := Nat.le_trans hhi (hg1).size
 replace ho2 := ho2.step hg1 (by (try simp only); omega)
 replace hbase1 := Nat.le_trans hbase1 (hg1).size
 have hlhr5 : (l.take 0).length = 0 := by have hq9 := RwS.len hr5; rw [flat_len dxc_len] at hq9 <;> omega
 refine Th ?_
 intro w12 hs4
 replace hS := Step.trans hS (Step.weak hs4)
 replace ho := ho.no hs4
 replace hv := hv.step hs4 (fun k hk1 hk2 hF => hF)
 replace hhi := Nat.le_trans hhi (hs4).size
 replace ho2 := ho2.no hs4
 replace hbase1 := Nat.le_trans hbase1 (hs4).size
 replace hr5 := hr5.no hs4
 have hzl16 := ho.lt
 have hzl18 := ho2.lt
 refine Tc Tryz.call39 (dpnew_any k hk _) ?_ ?_
 ·rintro _ w13 ⟨pn, Yn, rfl, hYn, hPn, hc2⟩
  exact Step.mono hc2 TDacaj
 rintro _ w13 ⟨pn, Yn, rfl, hYn, hPn, hc2⟩
 replace hS := Step.trans hS (Step.weak hc2)
 replace ho := ho.no hc2
 replace hv := hv.step hc2 (fun k hk1 hk2 hF => hF)
 replace hhi := Nat.le_trans hhi (hc2).size
 replace hbase1 := Nat.le_trans hbase1 (hc2).size
 replace hr5 := hr5.no hc2
 refine VT_end ?_
 intro w14 hs5
 replace hS := Step.trans hS (Step.weak hs5)
 replace ho := ho.no hs5
 replace hv := hv.step hs5 (fun k hk1 hk2 hF => hF)
 replace hhi := Nat.le_trans hhi (hs5).size
 replace hbase1 := Nat.le_trans hbase1 (hs5).size
 replace hr5 := hr5.no hs5
 replace hPn := DPl.no hPn hs5
 refine Vp 13 ?_
 refine VL_bs (d := 51) (e := 67) (c := #[I6 kp, I6 kv, I6 kc, I6 k.kind, I6 k.peak, I6 k.early, I6 k.whole, I6 k.burst, I6 k.least, Pt pn 0]) (len := 1) (by kernel_rfl) (by kernel_rfl) ?_
 intro b3 w15 hn3
 replace hS := Step.trans hS (Step.weak (hn3.step No))
 replace ho := ho.no (hn3.step No)
 replace hv := hv.step (hn3.step No) (fun k hk1 hk2 hF => hF)
 replace hhi := Nat.le_trans hhi (hn3.step No).size
 replace hbase1 := Nat.le_trans hbase1 (hn3.step No).size
 replace hr5 := hr5.no (hn3.step No)
 replace hPn := DPl.no hPn (hn3.step No)
 have ho3 := hn3.own
 have hzk11 := hbase1
 refine VL_appendZ (d := 52) (e := 67) (A := A2) (m := 0) (c := c1) (A2 := (some ⟨b3, 0, none⟩)) (m2 := 1) (c2 := 1) (sz := 10) (bytes := 80) (by kernel_rfl) (by kernel_rfl) (by kernel_rfl) base1 w15.heap.size (flat dxc (l.take 0)) (flat dxc [(⟨⟨kp, kv, kc, k, rulesC k⟩, pn, Yn⟩ : Dx)]) hr5 (by rw [flat_one, dxc_len]) (Sl.mono (Sl.cast (Own.sl ho3 ho3.lt) (by first | rfl | simp [flat])) TDacaf) (flat_one' dxc_one _) 1 (by omega) TDacai (by omega) (by omega) ?_
 intro A3 c2 w16 hr6 hg2
 replace hr6 : RwS w16 10 base1 67 A3 1 c2 (flat dxc ((l.take 0) ++ ([(⟨⟨kp, kv, kc, k, rulesC k⟩, pn, Yn⟩ : Dx)]))) := RwS.cast hr6 rfl TDacaa
 have hgO := hg2
 replace hg2 := Step.mono (G := fun k => base1 ≤ k) hg2 (fun i hi => (RwS.lt hr5 i hi).1)
 replace hS := Step.transNew hS hg2 (fun i hi hG => by (try simp only at hG); (first | show _ ∨ _ | show _ = _); omega)
 replace ho := ho.step hg2 (by (try simp only); omega)
 replace hv := hv.step hg2 (fun k hk1 hk2 hG => by (try simp only at hG); omega)
 replace hhi := Nat.le_trans hhi (hg2).size
 replace hbase1 := Nat.le_trans hbase1 (hg2).size
 replace hPn := DPl.app hPn hr5 hgO
 have hlhr6 : ((l.take 0) ++ ([(⟨⟨kp, kv, kc, k, rulesC k⟩, pn, Yn⟩ : Dx)])).length = 1 := by have hq9 := RwS.len hr6; rw [flat_len dxc_len] at hq9 <;> omega
 refine Ve (Vn (Vs (Vr (Vl 5 ho (Vp 7 (VL_sliceV (d := 60) (A := A) (sz := 10) (len := 0) (cap := ca) (lo := (some 0)) (hi := none) (mx := none) (by kernel_rfl) (by kernel_rfl) (fun h => by first | exact absurd rfl h | exact (fun h => by cases h)) (Sl2.sl hv) 0 0 ca rfl rfl rfl (by omega) (by omega) (by omega) 0 (by omega) ca (by omega) _ (flat_cut dxc_len l 0 0) ?_))))))
 intro A4 hsl2
 have hzk12 := hhi
 have hzk13 := hbase1
 refine VL_appendZ (d := 61) (e := 67) (A := A3) (m := 1) (c := c2) (A2 := A4) (m2 := 0) (c2 := ca) (sz := 10) (bytes := 80) (by kernel_rfl) (by kernel_rfl) (by kernel_rfl) base1 w16.heap.size (flat dxc ((l.take 0) ++ ([(⟨⟨kp, kv, kc, k, rulesC k⟩, pn, Yn⟩ : Dx)]))) (flat dxc (l.take 0)) hr6 TDacah (Sl.mono hsl2 TDacaf) (flat_one' dxc_one _) 1 (by omega) TDacai (by omega) (by omega) ?_
 intro A5 c3 w17 hr7 hg3
 replace hr7 : RwS w17 10 base1 67 A5 1 c3 (flat dxc ((l.take 0) ++ ([(⟨⟨kp, kv, kc, k, rulesC k⟩, pn, Yn⟩ : Dx)]) ++ (l.take 0))) := RwS.cast hr7 rfl TDacaa
 have hgO := hg3
 replace hg3 := Step.mono (G := fun k => base1 ≤ k) hg3 (fun i hi => (RwS.lt hr6 i hi).1)
 replace hS := Step.transNew hS hg3 (fun i hi hG => by (try simp only at hG); (first | show _ ∨ _ | show _ = _); omega)
 replace ho := ho.step hg3 (by (try simp only); omega)
 replace hv := hv.step hg3 (fun k hk1 hk2 hG => by (try simp only at hG); omega)
 replace hPn := DPl.app hPn hr6 hgO
 have hlhr7 : ((l.take 0) ++ ([(⟨⟨kp, kv, kc, k, rulesC k⟩, pn, Yn⟩ : Dx)]) ++ (l.take 0)).length = 1 := by have hq9 := RwS.len hr7; rw [flat_len dxc_len] at hq9 <;> omega
 refine Vst 11 (o := 1) [.slice A5 1 c3] ho #[.slice rA rooms.length rc, .slice A5 1 c3] ?_
 intro w18 hw1
 replace hS := Step.trans hS (Step.mono hw1.step TDacab)
 replace hv := hv.step hw1.step (fun k hk1 hk2 (hF : k = nd) => by omega)
 replace hPn := DPl.step hPn hw1.step (fun q9 hq9 hF9 => by have h8 := hYn q9 hq9; have h7 : q9 = nd := hF9; omega)
 replace hr7 := hr7.step hw1.step (fun k hk (hF : k = nd) => by omega)
 have ho4 := hw1.own
 refine Ve (Vn (Vrp (VC_ret (Vr1 (I6 0) ?_))))
 obtain ⟨A9, c9, q1, q2⟩ := dmut_fin (m := 1) (ys := flat dxc [(⟨⟨kp, kv, kc, k, rulesC k⟩, pn, Yn⟩ : Dx)]) (base2 := w.heap.size) ho4 hr7 (by omega) (by subst h0; first | rfl | simp [flat]) (by omega)
 exact ⟨rfl, A9, c9, pn, Yn, q1, q2, hPn, (fun q hq => by have h9 := hYn q hq; omega), hS⟩

end Go.Proofs.YthchmlidobgkoaaGreat
end

section
/- The calculus: an element of a row of flat elements is laid anew. -/
set_option linter.unusedVariables false
set_option linter.unusedSimpArgs false
namespace Go.Vc
open Go.RowKit
section
variable {F : Nat → Prop} {w w' : World} {base n c sz : Nat} {e : TypeId} {xs : List Value}
theorem RwS.openG {g : Nat} (h : RwS w sz base e (some ⟨g, 0, none⟩) n c xs) : ∃ cur, base ≤ g ∧ g < w.heap.size ∧ Own w g cur e ∧ cur.size = c * sz ∧ n ≤ c ∧ c ≤ maxLen ∧ cur.toList.take (n * sz) = xs := by
  rcases h.2 with ⟨hv, hn⟩ | ⟨g, cap, cur, hv, hb', hg, hc, hm, hs, ht⟩
  · cases hv
  · cases hv
    exact ⟨cur, hb', (Array.getElem?_eq_some_iff.1 hg).1, hg, hs, hc, hm, ht⟩
variable {α : Type} {enc : α → List Value}
theorem RwS.putF {g j : Nat} {cur : Array Value} {l : List α} {y : α} (hz : ∀ x, (enc x).length = sz) (h0 : 0 < sz) (hx : cur.toList.take (n * sz) = flat enc l) (hl : l.length = n) (hw : Wr w w' g (setRow cur (j * sz) (enc y)) e) (hb : base ≤ g) (hs : cur.size = c * sz) (hn : n ≤ c) (hm : c ≤ maxLen) (hj : j < n) : RwS w' sz base e (some ⟨g, 0, none⟩) n c (flat enc (l.set j y)) := by
  refine RwS.of_own hw.own hb (by rw [size_setRow]; exact hs) hn hm ?_
  have hle : n * sz ≤ c * sz := Nat.mul_le_mul_right sz hn
  have hjs : j * sz + sz ≤ n * sz := by have := Nat.mul_le_mul_right sz (show j + 1 ≤ n from hj); rw [Nat.add_mul, Nat.one_mul] at this; exact this
  apply List.ext_getElem?
  intro q
  by_cases hq : q < n * sz
  · rw [List.getElem?_take_of_lt hq, Array.getElem?_toList, getElem?_setRow _ _ _ (by rw [hz, hs]; omega), hz]
    have hqd : q = q / sz * sz + q % sz := by have := Nat.div_add_mod q sz; rw [Nat.mul_comm] at this; exact this.symm
    have hqm : q % sz < sz := Nat.mod_lt _ h0
    have hold : cur[q]? = (flat enc l)[q]? := by rw [← hx, List.getElem?_take_of_lt hq, Array.getElem?_toList]
    rw [hold]
    have e9 := flat_get hz l (q / sz) (q % sz) hqm
    have e8 := flat_get hz (l.set j y) (q / sz) (q % sz) hqm
    rw [← hqd] at e9 e8
    rw [e9, e8, List.getElem?_set]
    by_cases e1 : j = q / sz
    · subst e1
      rw [if_pos ⟨by omega, by omega⟩, if_pos rfl, if_pos (by rw [hl]; exact hj)]
      rw [show q - q / sz * sz = q % sz by omega]; rfl
    · rw [if_neg, if_neg e1]
      rintro ⟨h1, h2⟩
      have h3 : j ≤ q / sz := (Nat.le_div_iff_mul_le h0).2 h1
      have h4 : q / sz < j + 1 := Nat.div_lt_of_lt_mul (by rw [Nat.mul_comm, Nat.add_mul, Nat.one_mul]; omega)
      omega
  · rw [List.getElem?_eq_none (by rw [List.length_take, Array.length_toList]; omega), List.getElem?_eq_none (by rw [flat_len hz, List.length_set, hl]; omega)]
end
end Go.Vc
end
