import Derived.Test.YtcablikikkmfjaaGreatProg
import Derived.Test.YtcablikikkmfjaaGreatMn3
section
/- Layer 20: new policers. -/
set_option linter.unusedVariables false
set_option linter.unusedSimpArgs false
set_option maxRecDepth 100000
set_option maxHeartbeats 4000000
namespace Go.Proofs.YtcablikikkmfjaaGreat
open Go.Vc Go.RowKit
theorem TAd7aa {P : Prop} (h : P := by simp only [flat_append, flat_one, List.append_assoc, List.nil_append, List.append_nil, show flat rlc [] = [] from rfl]) : P := h
theorem TAd7ab {P : Prop} (h : P := by simp only [flat_append, flat_one, List.append_assoc, List.nil_append, List.append_nil, show flat r4 [] = [] from rfl]) : P := h
theorem TAd7ac {P : Prop} (h : P := by intro i hi; first | exact hi.elim | exact .inl hi | ((try simp only at hi ⊢); omega)) : P := h
theorem TAd7ad {P : Prop} (h : P := by first | exact Nat.le_refl _ | omega) : P := h
theorem TAd7ae {P : Prop} (h : P := by first | rfl | simp [flat]) : P := h
theorem TAd7af {P : Prop} (h : P := by simp only [maxLen]; omega) : P := h

def r4 (r : Rl) : List Value := [.int .i64 r.step, .int .i64 r.early, .bool r.zero, .bool r.tag]
theorem r4_len (r : Rl) : (r4 r).length = 4 := rfl
theorem r4_one (r : Rl) : ∀ u ∈ r4 r, oneC u = true := by
  intro u hu
  simp only [r4, List.mem_cons, List.not_mem_nil, or_false] at hu
  rcases hu with rfl | rfl | rfl | rfl <;> rfl
theorem rules_one {c : Con} (h : rightC c = 0) (h2 : ¬ c.kind = 2) (h3 : ¬ c.kind = 3) (h4 : ¬ c.kind = 4) : [rlNew c.peak c.early false false] = rulesC c := by unfold rulesC; rw [if_pos h, if_neg h2, if_neg h3, if_neg h4]
theorem rules_v1 {c : Con} (h : rightC c = 0) (h2 : c.kind = 2) : [rlNew c.peak c.early false false, rlNew c.whole (c.burst + c.early) false false] = rulesC c := by unfold rulesC; rw [if_pos h, if_pos h2]
theorem rules_v2 {c : Con} (h : rightC c = 0) (h2 : c.kind = 3) : [rlNew c.peak c.early false false, rlNew c.whole (c.burst + c.early) true false] = rulesC c := by unfold rulesC; rw [if_pos h, if_neg (by omega), if_pos h2]
theorem rules_v3 {c : Con} (h : rightC c = 0) (h2 : c.kind = 4) : [rlNew c.peak c.early false false, rlNew c.whole (c.burst + c.early) true true] = rulesC c := by unfold rulesC; rw [if_pos h, if_neg (by omega), if_neg (by omega), if_pos h2]
theorem bur_early {c : Con} (h : rightC c = 0) (hk : c.kind = 2 ∨ c.kind = 3 ∨ c.kind = 4) : IntKind.wrap .i64 (c.burst + c.early) = c.burst + c.early := by
  obtain ⟨h1, h2, h3, h4⟩ := vbr_of h hk
  exact wrap_i64 _ (by omega) (by omega)
theorem rules_v1_any (c : Con) (hr : rightC c = 0) (hk : c.kind = 2) (w : World) :
  CV Tryz.prog 244 #[.agg #[I6 c.kind, I6 c.peak, I6 c.early, I6 c.whole, I6 c.burst, I6 c.least]] w (fun x w1 => ∃ A n cc, x = .slice A n cc ∧ (rulesC c).length = n ∧ RwS w1 4 w.heap.size 385 A n cc (flat r4 (rulesC c)) ∧ Step No w w1) := by
 have hS : Step No w w := Step.refl _ _
 refine VCe Tryz.func244 (Vs (Vr ?_))
 refine Vx 0 23 #[I6 c.kind, I6 c.peak, I6 c.early, I6 c.whole, I6 c.burst, I6 c.least] ?_
 intro b1 w1 hn1
 replace hS := Step.trans hS (hn1.step No)
 have ho1 := hn1.own
 have hzhn1 := hn1.size
 have hqhn1 := hn1.eqb
 refine Ve (Vn (Vs (Vs (Vr (Vl 0 ho1 ?_)))))
 refine Vc 1 Tryz.call18 ((cright_any c _).mono (fun x w1 h9 => ⟨h9.1.trans (by rw [hr]), h9.2⟩ : ∀ x w1, _ → x = I6 0 ∧ Step No _ w1)) ?_
 rintro _ w2 ⟨rfl, hc1⟩
 replace hS := Step.trans hS hc1
 replace ho1 := ho1.no hc1
 refine Ve (Vn (Vf (VC_skip (Vn (Vs (Vr (Vl 1 ho1 (Vl 3 ho1 (Vp 5 ?_)))))))))
 have hzl2 := ho1.lt
 refine VL_bs (d := 13) (e := 385) (c := #[I6 c.peak, I6 c.early, Bo false, Bo false]) (len := 1) (by kernel_rfl) (by kernel_rfl) ?_
 intro b2 w3 hn2
 replace hS := Step.trans hS (hn2.step No)
 replace ho1 := ho1.no (hn2.step No)
 have ho2 := hn2.own
 have hzhn2 := hn2.size
 have hqhn2 := hn2.eqb
 refine Ve (Vn (Vs (Vr (Vl 1 ho1 (Vl 3 ho1 (Vl 5 ho1 (Vp 7 (Vq 20 (I6 (IntKind.wrap .i64 (c.burst + c.early))) (I6 (c.burst + c.early)) (by rw [bur_early hr (by omega)]) (Vp 8 ?_)))))))))
 refine Vx 8 385 #[I6 0, I6 0, Bo false, Bo false] ?_
 intro b3 w4 hn3
 replace hS := Step.trans hS (hn3.step No)
 replace ho1 := ho1.no (hn3.step No)
 replace ho2 := ho2.no (hn3.step No)
 have ho3 := hn3.own
 have hzhn3 := hn3.size
 have hqhn3 := hn3.eqb
 refine Vst 9 (o := 0) [I6 c.whole, I6 (c.burst + c.early), Bo false, Bo false] ho3 #[I6 c.whole, I6 (c.burst + c.early), Bo false, Bo false] ?_
 intro w5 hw1
 replace hS := Step.transNew hS hw1.step (fun _ _ _ => by omega)
 replace ho1 := ho1.step hw1.step (show ¬ b1 = b3 by omega)
 replace ho2 := ho2.step hw1.step (show ¬ b2 = b3 by omega)
 have ho4 := hw1.own
 have hzhw1 := hw1.same
 refine Ve (Vn (Vs (Vs (Vr (Vl 1 ho1 (Ve (Vn (VC_block (Vs (VC_block (Vs (VC_block (Vs (VC_block (Vs (Vs (Vrp (Viz (b := c.kind == 4) (by rw [hk]; rfl) (VC_skip (Vn (Vs ?_)))))))))))))))))))))
 refine Vrp (Viz (b := c.kind == 3) (by rw [hk]; rfl) (VC_skip (Vn (Vrp (Vit (b := c.kind == 2) (by rw [hk]; rfl) (VC_exit (VQ_then_exit (VQ_block_miss (by kernel_rfl) (VQ_then_exit (VQ_block_miss (by kernel_rfl) (VQ_then_exit (VQ_block_hit (Vn (Vs (Vr (Vl 1 ho4 ?_))))))))))))))))
 refine VL_bs (d := 34) (e := 385) (c := #[I6 c.whole, I6 (c.burst + c.early), Bo false, Bo false]) (len := 1) (by kernel_rfl) (by kernel_rfl) ?_
 intro b4 w6 hn4
 replace hS := Step.trans hS (hn4.step No)
 replace ho2 := ho2.no (hn4.step No)
 have ho5 := hn4.own
 have hzhn4 := hn4.size
 have hqhn4 := hn4.eqb
 have hbase1 := Nat.le_of_lt ho2.lt
 have hrowhbase1 := RwS.cast (ys := flat r4 [(rlNew c.peak c.early false false)]) (RwS.of_new (n := 1) (sz := 4) (base := b2) ho2 (Nat.le_refl _) (by simp [maxLen]) (by rfl)) rfl (by rfl)
 refine VL_appendZ (d := 35) (e := 385) (A := (some ⟨b2, 0, none⟩)) (m := 1) (c := 1) (A2 := (some ⟨b4, 0, none⟩)) (m2 := 1) (c2 := 1) (sz := 4) (bytes := 24) (by kernel_rfl) (by kernel_rfl) (by kernel_rfl) b2 w6.heap.size (flat r4 ([(rlNew c.peak c.early false false)])) (flat r4 [(rlNew c.whole (c.burst + c.early) false false)]) hrowhbase1 (by rw [flat_one, r4_len]) (Sl.mono (Sl.cast (Own.sl ho5 ho5.lt) TAd7ae) TAd7ad) (flat_one' r4_one _) 2 (by omega) TAd7af (by omega) (by omega) ?_
 intro A1 c1 w7 hr1 hg1
 replace hr1 : RwS w7 4 b2 385 A1 2 c1 (flat r4 (([(rlNew c.peak c.early false false)]) ++ ([(rlNew c.whole (c.burst + c.early) false false)]))) := RwS.cast hr1 rfl TAd7ab
 replace hg1 := Step.mono (G := fun k => k = b2) hg1 (fun i hi => by obtain ⟨a9, ha9, hi9⟩ := hi; cases ha9; exact hi9.symm)
 replace hS := Step.transNew hS hg1 (fun i hi hG => by (try simp only at hG); omega)
 refine Ve (Vn (VC_exit (VQ_block_hit (Vn (Vrp (VC_ret (Vr1 (.slice A1 2 c1) ?_)))))))
 have hR := rules_v1 hr (by assumption)
 rw [← hR]
 exact ⟨A1, _, _, rfl, rfl, RwS.low (RwS.cast hr1 rfl (by rfl)) (by omega), hS⟩

theorem rules_v2_any (c : Con) (hr : rightC c = 0) (hk : c.kind = 3) (w : World) :
  CV Tryz.prog 244 #[.agg #[I6 c.kind, I6 c.peak, I6 c.early, I6 c.whole, I6 c.burst, I6 c.least]] w (fun x w1 => ∃ A n cc, x = .slice A n cc ∧ (rulesC c).length = n ∧ RwS w1 4 w.heap.size 385 A n cc (flat r4 (rulesC c)) ∧ Step No w w1) := by
 have hS : Step No w w := Step.refl _ _
 refine VCe Tryz.func244 (Vs (Vr ?_))
 refine Vx 0 23 #[I6 c.kind, I6 c.peak, I6 c.early, I6 c.whole, I6 c.burst, I6 c.least] ?_
 intro b1 w1 hn1
 replace hS := Step.trans hS (hn1.step No)
 have ho1 := hn1.own
 have hzhn1 := hn1.size
 have hqhn1 := hn1.eqb
 refine Ve (Vn (Vs (Vs (Vr (Vl 0 ho1 ?_)))))
 refine Vc 1 Tryz.call18 ((cright_any c _).mono (fun x w1 h9 => ⟨h9.1.trans (by rw [hr]), h9.2⟩ : ∀ x w1, _ → x = I6 0 ∧ Step No _ w1)) ?_
 rintro _ w2 ⟨rfl, hc1⟩
 replace hS := Step.trans hS hc1
 replace ho1 := ho1.no hc1
 refine Ve (Vn (Vf (VC_skip (Vn (Vs (Vr (Vl 1 ho1 (Vl 3 ho1 (Vp 5 ?_)))))))))
 have hzl2 := ho1.lt
 refine VL_bs (d := 13) (e := 385) (c := #[I6 c.peak, I6 c.early, Bo false, Bo false]) (len := 1) (by kernel_rfl) (by kernel_rfl) ?_
 intro b2 w3 hn2
 replace hS := Step.trans hS (hn2.step No)
 replace ho1 := ho1.no (hn2.step No)
 have ho2 := hn2.own
 have hzhn2 := hn2.size
 have hqhn2 := hn2.eqb
 refine Ve (Vn (Vs (Vr (Vl 1 ho1 (Vl 3 ho1 (Vl 5 ho1 (Vp 7 (Vq 20 (I6 (IntKind.wrap .i64 (c.burst + c.early))) (I6 (c.burst + c.early)) (by rw [bur_early hr (by omega)]) (Vp 8 ?_)))))))))
 refine Vx 8 385 #[I6 0, I6 0, Bo false, Bo false] ?_
 intro b3 w4 hn3
 replace hS := Step.trans hS (hn3.step No)
 replace ho1 := ho1.no (hn3.step No)
 replace ho2 := ho2.no (hn3.step No)
 have ho3 := hn3.own
 have hzhn3 := hn3.size
 have hqhn3 := hn3.eqb
 refine Vst 9 (o := 0) [I6 c.whole, I6 (c.burst + c.early), Bo false, Bo false] ho3 #[I6 c.whole, I6 (c.burst + c.early), Bo false, Bo false] ?_
 intro w5 hw1
 replace hS := Step.transNew hS hw1.step (fun _ _ _ => by omega)
 replace ho1 := ho1.step hw1.step (show ¬ b1 = b3 by omega)
 replace ho2 := ho2.step hw1.step (show ¬ b2 = b3 by omega)
 have ho4 := hw1.own
 have hzhw1 := hw1.same
 refine Ve (Vn (Vs (Vs (Vr (Vl 1 ho1 (Ve (Vn (VC_block (Vs (VC_block (Vs (VC_block (Vs (VC_block (Vs (Vs (Vrp (Viz (b := c.kind == 4) (by rw [hk]; rfl) (VC_skip (Vn (Vs ?_)))))))))))))))))))))
 refine Vrp (Vit (b := c.kind == 3) (by rw [hk]; rfl) (VC_exit (VQ_then_exit (VQ_then_exit (VQ_block_miss (by kernel_rfl) (VQ_then_exit (VQ_block_hit (Vn (Vr (Vst 1 (o := 2) [Bo true] ho4 #[I6 c.whole, I6 (c.burst + c.early), Bo true, Bo false] ?_))))))))))
 intro w6 hw2
 replace hS := Step.transNew hS hw2.step (fun _ _ _ => by omega)
 replace ho2 := ho2.step hw2.step (show ¬ b2 = b3 by omega)
 have ho5 := hw2.own
 have hzhw2 := hw2.same
 refine Ve (VQ_block_normal (Vn (Vs (Vr (Vl 1 ho5 ?_)))))
 refine VL_bs (d := 34) (e := 385) (c := #[I6 c.whole, I6 (c.burst + c.early), Bo true, Bo false]) (len := 1) (by kernel_rfl) (by kernel_rfl) ?_
 intro b4 w7 hn4
 replace hS := Step.trans hS (hn4.step No)
 replace ho2 := ho2.no (hn4.step No)
 have ho6 := hn4.own
 have hzhn4 := hn4.size
 have hqhn4 := hn4.eqb
 have hbase1 := Nat.le_of_lt ho2.lt
 have hrowhbase1 := RwS.cast (ys := flat r4 [(rlNew c.peak c.early false false)]) (RwS.of_new (n := 1) (sz := 4) (base := b2) ho2 (Nat.le_refl _) (by simp [maxLen]) (by rfl)) rfl (by rfl)
 refine VL_appendZ (d := 35) (e := 385) (A := (some ⟨b2, 0, none⟩)) (m := 1) (c := 1) (A2 := (some ⟨b4, 0, none⟩)) (m2 := 1) (c2 := 1) (sz := 4) (bytes := 24) (by kernel_rfl) (by kernel_rfl) (by kernel_rfl) b2 w7.heap.size (flat r4 ([(rlNew c.peak c.early false false)])) (flat r4 [(rlNew c.whole (c.burst + c.early) true false)]) hrowhbase1 (by rw [flat_one, r4_len]) (Sl.mono (Sl.cast (Own.sl ho6 ho6.lt) TAd7ae) TAd7ad) (flat_one' r4_one _) 2 (by omega) TAd7af (by omega) (by omega) ?_
 intro A1 c1 w8 hr1 hg1
 replace hr1 : RwS w8 4 b2 385 A1 2 c1 (flat r4 (([(rlNew c.peak c.early false false)]) ++ ([(rlNew c.whole (c.burst + c.early) true false)]))) := RwS.cast hr1 rfl TAd7ab
 replace hg1 := Step.mono (G := fun k => k = b2) hg1 (fun i hi => by obtain ⟨a9, ha9, hi9⟩ := hi; cases ha9; exact hi9.symm)
 replace hS := Step.transNew hS hg1 (fun i hi hG => by (try simp only at hG); omega)
 refine Ve (Vn (VC_exit (VQ_block_hit (Vn (Vrp (VC_ret (Vr1 (.slice A1 2 c1) ?_)))))))
 have hR := rules_v2 hr (by assumption)
 rw [← hR]
 exact ⟨A1, _, _, rfl, rfl, RwS.low (RwS.cast hr1 rfl (by rfl)) (by omega), hS⟩

theorem rules_v3_any (c : Con) (hr : rightC c = 0) (hk : c.kind = 4) (w : World) :
  CV Tryz.prog 244 #[.agg #[I6 c.kind, I6 c.peak, I6 c.early, I6 c.whole, I6 c.burst, I6 c.least]] w (fun x w1 => ∃ A n cc, x = .slice A n cc ∧ (rulesC c).length = n ∧ RwS w1 4 w.heap.size 385 A n cc (flat r4 (rulesC c)) ∧ Step No w w1) := by
 have hS : Step No w w := Step.refl _ _
 refine VCe Tryz.func244 (Vs (Vr ?_))
 refine Vx 0 23 #[I6 c.kind, I6 c.peak, I6 c.early, I6 c.whole, I6 c.burst, I6 c.least] ?_
 intro b1 w1 hn1
 replace hS := Step.trans hS (hn1.step No)
 have ho1 := hn1.own
 have hzhn1 := hn1.size
 have hqhn1 := hn1.eqb
 refine Ve (Vn (Vs (Vs (Vr (Vl 0 ho1 ?_)))))
 refine Vc 1 Tryz.call18 ((cright_any c _).mono (fun x w1 h9 => ⟨h9.1.trans (by rw [hr]), h9.2⟩ : ∀ x w1, _ → x = I6 0 ∧ Step No _ w1)) ?_
 rintro _ w2 ⟨rfl, hc1⟩
 replace hS := Step.trans hS hc1
 replace ho1 := ho1.no hc1
 refine Ve (Vn (Vf (VC_skip (Vn (Vs (Vr (Vl 1 ho1 (Vl 3 ho1 (Vp 5 ?_)))))))))
 have hzl2 := ho1.lt
 refine VL_bs (d := 13) (e := 385) (c := #[I6 c.peak, I6 c.early, Bo false, Bo false]) (len := 1) (by kernel_rfl) (by kernel_rfl) ?_
 intro b2 w3 hn2
 replace hS := Step.trans hS (hn2.step No)
 replace ho1 := ho1.no (hn2.step No)
 have ho2 := hn2.own
 have hzhn2 := hn2.size
 have hqhn2 := hn2.eqb
 refine Ve (Vn (Vs (Vr (Vl 1 ho1 (Vl 3 ho1 (Vl 5 ho1 (Vp 7 (Vq 20 (I6 (IntKind.wrap .i64 (c.burst + c.early))) (I6 (c.burst + c.early)) (by rw [bur_early hr (by omega)]) (Vp 8 ?_)))))))))
 refine Vx 8 385 #[I6 0, I6 0, Bo false, Bo false] ?_
 intro b3 w4 hn3
 replace hS := Step.trans hS (hn3.step No)
 replace ho1 := ho1.no (hn3.step No)
 replace ho2 := ho2.no (hn3.step No)
 have ho3 := hn3.own
 have hzhn3 := hn3.size
 have hqhn3 := hn3.eqb
 refine Vst 9 (o := 0) [I6 c.whole, I6 (c.burst + c.early), Bo false, Bo false] ho3 #[I6 c.whole, I6 (c.burst + c.early), Bo false, Bo false] ?_
 intro w5 hw1
 replace hS := Step.transNew hS hw1.step (fun _ _ _ => by omega)
 replace ho1 := ho1.step hw1.step (show ¬ b1 = b3 by omega)
 replace ho2 := ho2.step hw1.step (show ¬ b2 = b3 by omega)
 have ho4 := hw1.own
 have hzhw1 := hw1.same
 refine Ve (Vn (Vs (Vs (Vr (Vl 1 ho1 (Ve (Vn (VC_block (Vs (VC_block (Vs (VC_block (Vs (VC_block (Vs (Vs (Vrp (Vit (b := c.kind == 4) (by rw [hk]; rfl) (VC_exit (VQ_then_exit (VQ_then_exit ?_)))))))))))))))))))))
 refine VQ_block_hit (Vn (Vr (Vst 1 (o := 3) [Bo true] ho4 #[I6 c.whole, I6 (c.burst + c.early), Bo false, Bo true] ?_)))
 intro w6 hw2
 replace hS := Step.transNew hS hw2.step (fun _ _ _ => by omega)
 replace ho2 := ho2.step hw2.step (show ¬ b2 = b3 by omega)
 have ho5 := hw2.own
 have hzhw2 := hw2.same
 refine Ve (VQ_block_normal (Vn (Vr (Vst 1 (o := 2) [Bo true] ho5 #[I6 c.whole, I6 (c.burst + c.early), Bo true, Bo true] ?_))))
 intro w7 hw3
 replace hS := Step.transNew hS hw3.step (fun _ _ _ => by omega)
 replace ho2 := ho2.step hw3.step (show ¬ b2 = b3 by omega)
 have ho6 := hw3.own
 have hzhw3 := hw3.same
 refine Ve (VQ_block_normal (Vn (Vs (Vr (Vl 1 ho6 ?_)))))
 refine VL_bs (d := 34) (e := 385) (c := #[I6 c.whole, I6 (c.burst + c.early), Bo true, Bo true]) (len := 1) (by kernel_rfl) (by kernel_rfl) ?_
 intro b4 w8 hn4
 replace hS := Step.trans hS (hn4.step No)
 replace ho2 := ho2.no (hn4.step No)
 have ho7 := hn4.own
 have hzhn4 := hn4.size
 have hqhn4 := hn4.eqb
 have hbase1 := Nat.le_of_lt ho2.lt
 have hrowhbase1 := RwS.cast (ys := flat r4 [(rlNew c.peak c.early false false)]) (RwS.of_new (n := 1) (sz := 4) (base := b2) ho2 (Nat.le_refl _) (by simp [maxLen]) (by rfl)) rfl (by rfl)
 refine VL_appendZ (d := 35) (e := 385) (A := (some ⟨b2, 0, none⟩)) (m := 1) (c := 1) (A2 := (some ⟨b4, 0, none⟩)) (m2 := 1) (c2 := 1) (sz := 4) (bytes := 24) (by kernel_rfl) (by kernel_rfl) (by kernel_rfl) b2 w8.heap.size (flat r4 ([(rlNew c.peak c.early false false)])) (flat r4 [(rlNew c.whole (c.burst + c.early) true true)]) hrowhbase1 (by rw [flat_one, r4_len]) (Sl.mono (Sl.cast (Own.sl ho7 ho7.lt) TAd7ae) TAd7ad) (flat_one' r4_one _) 2 (by omega) TAd7af (by omega) (by omega) ?_
 intro A1 c1 w9 hr1 hg1
 replace hr1 : RwS w9 4 b2 385 A1 2 c1 (flat r4 (([(rlNew c.peak c.early false false)]) ++ ([(rlNew c.whole (c.burst + c.early) true true)]))) := RwS.cast hr1 rfl TAd7ab
 replace hg1 := Step.mono (G := fun k => k = b2) hg1 (fun i hi => by obtain ⟨a9, ha9, hi9⟩ := hi; cases ha9; exact hi9.symm)
 replace hS := Step.transNew hS hg1 (fun i hi hG => by (try simp only at hG); omega)
 refine Ve (Vn (VC_exit (VQ_block_hit (Vn (Vrp (VC_ret (Vr1 (.slice A1 2 c1) ?_)))))))
 have hR := rules_v3 hr (by assumption)
 rw [← hR]
 exact ⟨A1, _, _, rfl, rfl, RwS.low (RwS.cast hr1 rfl (by rfl)) (by omega), hS⟩

theorem rules_v0_any (c : Con) (hr : rightC c = 0) (h2 : ¬ c.kind = 2) (h3 : ¬ c.kind = 3) (h4 : ¬ c.kind = 4) (w : World) :
  CV Tryz.prog 244 #[.agg #[I6 c.kind, I6 c.peak, I6 c.early, I6 c.whole, I6 c.burst, I6 c.least]] w (fun x w1 => ∃ A n cc, x = .slice A n cc ∧ (rulesC c).length = n ∧ RwS w1 4 w.heap.size 385 A n cc (flat r4 (rulesC c)) ∧ Step No w w1) := by
 have hS : Step No w w := Step.refl _ _
 refine VCe Tryz.func244 (Vs (Vr ?_))
 refine Vx 0 23 #[I6 c.kind, I6 c.peak, I6 c.early, I6 c.whole, I6 c.burst, I6 c.least] ?_
 intro b1 w1 hn1
 replace hS := Step.trans hS (hn1.step No)
 have ho1 := hn1.own
 have hzhn1 := hn1.size
 have hqhn1 := hn1.eqb
 refine Ve (Vn (Vs (Vs (Vr (Vl 0 ho1 ?_)))))
 refine Vc 1 Tryz.call18 ((cright_any c _).mono (fun x w1 h9 => ⟨h9.1.trans (by rw [hr]), h9.2⟩ : ∀ x w1, _ → x = I6 0 ∧ Step No _ w1)) ?_
 rintro _ w2 ⟨rfl, hc1⟩
 replace hS := Step.trans hS hc1
 replace ho1 := ho1.no hc1
 refine Ve (Vn (Vf (VC_skip (Vn (Vs (Vr (Vl 1 ho1 (Vl 3 ho1 (Vp 5 ?_)))))))))
 have hzl2 := ho1.lt
 refine VL_bs (d := 13) (e := 385) (c := #[I6 c.peak, I6 c.early, Bo false, Bo false]) (len := 1) (by kernel_rfl) (by kernel_rfl) ?_
 intro b2 w3 hn2
 replace hS := Step.trans hS (hn2.step No)
 replace ho1 := ho1.no (hn2.step No)
 have ho2 := hn2.own
 have hzhn2 := hn2.size
 have hqhn2 := hn2.eqb
 refine Ve (Vn (Vs (Vr (Vl 1 ho1 (Vl 3 ho1 (Vl 5 ho1 (Vp 8 ?_)))))))
 refine Vx 8 385 #[I6 0, I6 0, Bo false, Bo false] ?_
 intro b3 w4 hn3
 replace hS := Step.trans hS (hn3.step No)
 replace ho1 := ho1.no (hn3.step No)
 replace ho2 := ho2.no (hn3.step No)
 have ho3 := hn3.own
 have hzhn3 := hn3.size
 have hqhn3 := hn3.eqb
 refine Vst 9 (o := 0) [I6 c.whole, I6 (IntKind.wrap .i64 (c.burst + c.early)), Bo false, Bo false] ho3 #[I6 c.whole, I6 (IntKind.wrap .i64 (c.burst + c.early)), Bo false, Bo false] ?_
 intro w5 hw1
 replace hS := Step.transNew hS hw1.step (fun _ _ _ => by omega)
 replace ho1 := ho1.step hw1.step (show ¬ b1 = b3 by omega)
 replace ho2 := ho2.step hw1.step (show ¬ b2 = b3 by omega)
 have hzhw1 := hw1.same
 refine Ve (Vn (Vs (Vs (Vr (Vl 1 ho1 (Ve (Vn (VC_block (Vs (VC_block (Vs (VC_block (Vs (VC_block (Vs (Vs (Vrp (Viz (b := c.kind == 4) (beq_eq_false_iff_ne.2 (by assumption)) (VC_skip (Vn (Vs ?_)))))))))))))))))))))
 refine Vrp (Viz (b := c.kind == 3) (beq_eq_false_iff_ne.2 (by assumption)) (VC_skip (Vn (Vrp (Viz (b := c.kind == 2) (beq_eq_false_iff_ne.2 (by assumption)) (VC_skip (Vn (VC_exit (VQ_block_miss (by kernel_rfl) (VQ_then_exit (VQ_block_miss (by kernel_rfl) (VQ_then_exit (VQ_block_miss (by kernel_rfl) (VQ_then_exit (VQ_block_hit (Vn (Vs (Vr ?_))))))))))))))))))
 refine Ve (Vn (VC_ret (Vr1 (.slice (some ⟨b2, 0, none⟩) 1 1) ?_)))
 have hR := rules_one hr (by assumption) (by assumption) (by assumption)
 rw [← hR]
 exact ⟨_, _, _, rfl, rfl, RwS.cast (RwS.of_new (n := 1) (sz := 4) (base := w.heap.size) ho2 (by omega) (by simp [maxLen]) (by rfl)) rfl (by rfl), hS⟩

theorem rules_any (c : Con) (hr : rightC c = 0) (w : World) : CV Tryz.prog 244 #[.agg #[.int .i64 c.kind, .int .i64 c.peak, .int .i64 c.early, .int .i64 c.whole, .int .i64 c.burst, .int .i64 c.least]] w (fun x w1 => ∃ A n cc, x = .slice A n cc ∧ (rulesC c).length = n ∧ RwS w1 4 w.heap.size 385 A n cc (flat r4 (rulesC c)) ∧ Step No w w1) := by
  by_cases h2 : c.kind = 2
  · exact rules_v1_any c hr h2 w
  · by_cases h3 : c.kind = 3
    · exact rules_v2_any c hr h3 w
    · by_cases h4 : c.kind = 4
      · exact rules_v3_any c hr h4 w
      · exact rules_v0_any c hr h2 h3 h4 w
theorem pl_mk {w w1 : World} {p base c : Nat} {A : Option Addr} {a : Bool} {l : List Rb} {rs : List Rl} (hl : rs = l.map (·.1)) (hI : RlsI rs) (h0 : 0 < l.length) (ho : Own w1 p #[.bool a, .slice A l.length c, .int .i64 0, .int .i64 0, .int .i64 0, .int .i64 0] 381) (hr : RwS w1 5 base 391 A l.length c (flat rlc l)) (hb : BksW w1 l) (hnd : (l.map (·.2)).Nodup)
    (hp : w.heap.size ≤ p) (hbase : w.heap.size ≤ base) (hq : ∀ q ∈ l, w.heap.size ≤ q.2) : ∃ Y : Nat → Prop, (∀ k, Y k → w.heap.size ≤ k) ∧ Pl w1 p Y a rs := by
  obtain ⟨rb, rfl, h1, hrow⟩ := RowE.of_rw hr h0
  refine ⟨fun k => k = p ∨ k = rb ∨ ∃ q ∈ l, k = q.2, ?_, hI, l, rb, c, 0, 0, 0, 0, hl, ⟨ho, hrow, hb, hnd, .inl rfl, .inr (.inl rfl), fun q hq => .inr (.inr ⟨q, hq, rfl⟩), ?_, h0⟩⟩
  · rintro k (rfl | rfl | ⟨q, hq', rfl⟩)
    · exact hp
    · omega
    · exact hq q hq'
  · rintro k (rfl | rfl | ⟨q, hq', rfl⟩)
    · exact .inl ho.tyB
    · exact .inr (.inl hrow.ty)
    · exact .inr (.inr (hb q hq').tyB)
theorem rules_l1 {c : Con} (hr : rightC c = 0) (s1 e1 : Int) (z1 t1 : Bool) (hR : rulesC c = [(rlNew s1 e1 z1 t1)]) (w : World) : CV Tryz.prog 244 #[.agg #[.int .i64 c.kind, .int .i64 c.peak, .int .i64 c.early, .int .i64 c.whole, .int .i64 c.burst, .int .i64 c.least]] w fun x w1 => ∃ A cc, x = .slice A 1 cc ∧ RwS w1 4 w.heap.size 385 A 1 cc (flat r4 [(rlNew s1 e1 z1 t1)]) ∧ Step No w w1 := by
  refine (rules_any c hr w).mono ?_
  rintro x w1 ⟨A, n, cc, rfl, hn, hrw, hs⟩
  rw [hR] at hn hrw
  subst hn
  exact ⟨A, cc, rfl, hrw, hs⟩
theorem pnew_1 (c : Con) (hr : rightC c = 0) (s1 e1 : Int) (z1 t1 : Bool) (hR : rulesC c = [(rlNew s1 e1 z1 t1)]) (w : World) :
  CV Tryz.prog 189 #[.agg #[I6 c.kind, I6 c.peak, I6 c.early, I6 c.whole, I6 c.burst, I6 c.least]] w (fun x w1 => ∃ pp Y, x = .tuple #[Pt pp 0, I6 0] ∧ (∀ k, Y k → w.heap.size ≤ k) ∧ Pl w1 pp Y (alwaysC c) (rulesC c) ∧ Step No w w1) := by
 have hS : Step No w w := Step.refl _ _
 refine VCe Tryz.func189 (Vs (Vr ?_))
 refine Vx 0 23 #[I6 c.kind, I6 c.peak, I6 c.early, I6 c.whole, I6 c.burst, I6 c.least] ?_
 intro b1 w1 hn1
 replace hS := Step.trans hS (hn1.step No)
 have ho1 := hn1.own
 have hzhn1 := hn1.size
 have hqhn1 := hn1.eqb
 refine Ve (Vn (Vs (Vs (Vr (Vl 0 ho1 ?_)))))
 refine Vc 1 Tryz.call18 ((cright_any c _).mono (fun x w1 h9 => ⟨h9.1.trans (by rw [hr]), h9.2⟩ : ∀ x w1, _ → x = I6 0 ∧ Step No _ w1)) ?_
 rintro _ w2 ⟨rfl, hc1⟩
 replace hS := Step.trans hS hc1
 replace ho1 := ho1.no hc1
 refine Ve (Vn (Vrp (Vf (VC_skip (Vn (Vs (Vr (Vl 0 ho1 ?_))))))))
 refine Vc 1 Tryz.call243 (always_any c _) ?_
 rintro _ w3 ⟨rfl, hc2⟩
 replace hS := Step.trans hS hc2
 replace ho1 := ho1.no hc2
 refine Vp 3 ?_
 have hzl3 := ho1.lt
 refine Vx 3 381 #[Bo (alwaysC c), .slice none 0 0, I6 0, I6 0, I6 0, I6 0] ?_
 intro b2 w4 hn2
 replace hS := Step.trans hS (hn2.step No)
 replace ho1 := ho1.no (hn2.step No)
 have ho2 := hn2.own
 have hzhn2 := hn2.size
 have hqhn2 := hn2.eqb
 refine Ve (Vn (Vs (Vs (Vr (Vl 0 ho1 ?_)))))
 refine Vc 1 Tryz.call244 (rules_l1 hr s1 e1 z1 t1 hR _) ?_
 rintro _ w5 ⟨AR, ccR, rfl, hrR, hc3⟩
 replace hS := Step.trans hS hc3
 replace ho1 := ho1.no hc3
 replace ho2 := ho2.no hc3
 obtain ⟨lo9, hlo9E⟩ : ∃ x, x = w4.heap.size := ⟨_, rfl⟩
 rw [← hlo9E] at hrR
 have hlo9 : lo9 ≤ w5.heap.size := by have h9 := (hc3).size; omega
 refine Ve (Vn (VC_block (VC_rounds (VCL_round (Vrp (Vs (Vt (VC_skip (Vn (Vs (VC_block (Vs (Vr ?_)))))))))))))
 obtain ⟨g1, cur1, rfl, hgbg1, hglg1, -⟩ := RwS.open hrR (Nat.le_of_ble_eq_true (by kernel_rfl))
 refine VL_index (d := 22) (b := g1) (o := 0) (len := 1) (sz := 4) (m := 0) (by kernel_rfl) (by kernel_rfl) 0 (by rfl) (by omega) 0 (by omega) (Vla 1 (t := 385) (a := ⟨g1, 0, none⟩) (v := .agg #[I6 s1, I6 e1, Bo z1, Bo t1]) (Sl.flatAgg (sz := 4) (RwS.sl2 hrR).sl r4_len (show ([(rlNew s1 e1 z1 t1)] : List Rl)[0]? = some (rlNew s1 e1 z1 t1) from rfl) 0 4 (by kernel_rfl) (by decide) _ (by rfl)) ?_)
 have hzl6 := ho1.lt
 have hzl7 := ho2.lt
 have hzk2 := hglg1
 refine Vx 2 385 #[I6 0, I6 0, Bo false, Bo false] ?_
 intro b3 w6 hn3
 replace hS := Step.trans hS (hn3.step No)
 replace ho1 := ho1.no (hn3.step No)
 replace ho2 := ho2.no (hn3.step No)
 replace hlo9 := Nat.le_trans hlo9 (hn3.step No).size
 have ho3 := hn3.own
 have hzhn3 := hn3.size
 have hqhn3 := hn3.eqb
 refine Vst 3 (o := 0) [I6 s1, I6 e1, Bo z1, Bo t1] ho3 #[I6 s1, I6 e1, Bo z1, Bo t1] ?_
 intro w7 hw1
 replace hS := Step.transNew hS hw1.step (fun _ _ _ => by omega)
 replace ho1 := ho1.step hw1.step (show ¬ b1 = b3 by omega)
 replace ho2 := ho2.step hw1.step (show ¬ b2 = b3 by omega)
 replace hlo9 := Nat.le_trans hlo9 (hw1.step).size
 have ho4 := hw1.own
 have hzhw1 := hw1.same
 refine Ve (Vn ?_)
 have hs1 := drew_step w7
 have hs1z : w7.heap.size = w7.drew.heap.size := rfl
 refine Tx 15 (fun k => w7.heap.size ≤ k) [10, 13, 14] [0, 1, 2, 3, 4, 5, 6, 7, 8, 9, 10, 11, 12, 13, 14] ?_
 generalize w7.drew = w8 at hs1 hs1z ⊢
 replace hS := Step.trans hS hs1
 replace ho1 := ho1.no hs1
 replace ho2 := ho2.no hs1
 replace hlo9 := Nat.le_trans hlo9 (hs1).size
 replace ho4 := ho4.no hs1
 refine Tp 4 (Tl (fun w9 hr1 => ho2.step hr1 (by (try simp only); omega)) (Tl (fun w10 hr2 => ho4.step hr2 (by (try simp only); omega)) (Tp 1 (Tl (fun w11 hr3 => ho4.step hr3 (by (try simp only); omega)) (Tp 1 (Tl (fun w12 hr4 => ho4.step hr4 (by (try simp only); omega)) (Th ?_)))))))
 intro w13 hs2
 have hzhs2 := hs2.size
 replace hS := Step.trans hS hs2
 replace ho1 := ho1.no hs2
 replace ho2 := ho2.no hs2
 replace hlo9 := Nat.le_trans hlo9 (hs2).size
 have hzl11 := ho1.lt
 have hzl12 := ho2.lt
 refine Tc Tryz.call245 (bnew_any s1 e1 _) ?_ ?_
 ·rintro _ w14 ⟨bk1, rfl, bk1E, bk1Z, hbk1, hc4⟩
  exact Step.mono hc4 TAd7ac
 rintro _ w14 ⟨bk1, rfl, bk1E, bk1Z, hbk1, hc4⟩
 replace hS := Step.trans hS hc4
 replace ho1 := ho1.no hc4
 replace ho2 := ho2.no hc4
 replace hlo9 := Nat.le_trans hlo9 (hc4).size
 refine Tp 2 (Th ?_)
 intro w15 hs3
 have hzhs3 := hs3.size
 replace hS := Step.trans hS hs3
 replace ho1 := ho1.no hs3
 replace ho2 := ho2.no hs3
 replace hlo9 := Nat.le_trans hlo9 (hs3).size
 replace hbk1 := hbk1.no hs3
 refine VTc_bs (d := 37) (e := 391) (c := #[I6 s1, I6 e1, Bo z1, Bo t1, .iface 386 (Pt bk1 0)]) (len := 1) (by kernel_rfl) (by kernel_rfl) (fun b w1 hn => hn.step _) ?_
 intro b4 w16 hn4
 replace hS := Step.trans hS (hn4.step No)
 replace ho1 := ho1.no (hn4.step No)
 replace ho2 := ho2.no (hn4.step No)
 replace hlo9 := Nat.le_trans hlo9 (hn4.step No).size
 replace hbk1 := hbk1.no (hn4.step No)
 have ho5 := hn4.own
 have hzhn4 := hn4.size
 have hqhn4 := hn4.eqb
 refine Th ?_
 intro w17 hs4
 have hzhs4 := hs4.size
 replace hS := Step.trans hS hs4
 replace ho1 := ho1.no hs4
 replace ho2 := ho2.no hs4
 replace hlo9 := Nat.le_trans hlo9 (hs4).size
 replace hbk1 := hbk1.no hs4
 replace ho5 := ho5.no hs4
 have hzl22 := ho1.lt
 have hzl23 := ho2.lt
 have hzl25 := hbk1.lt
 obtain ⟨base1, hbase1E⟩ : ∃ x, x = w17.heap.size := ⟨_, rfl⟩
 have hbase1 : base1 ≤ w17.heap.size := Nat.le_of_eq hbase1E
 have hzk11 := hbase1
 refine VTc_appendZ (d := 38) (e := 391) (A := none) (mm := 0) (c := 0) (A2 := (some ⟨b4, 0, none⟩)) (m2 := 1) (c2 := 1) (sz := 5) (bytes := 40) (by kernel_rfl) (by kernel_rfl) (by kernel_rfl) base1 w17.heap.size (flat rlc ([])) (flat rlc [(rlNew s1 e1 z1 t1, bk1)]) (RwS.nil w17 5 base1 391) (by rw [flat_one, rlc_len]) (Sl.mono (Sl.cast (Own.sl ho5 ho5.lt) TAd7ae) TAd7ad) (flat_one' rlc_one _) 1 (by omega) TAd7af (by omega) (by omega) ?_ ?_
 ·intro w1 hs1; exact Step.mono hs1 (fun i hi => by have hi1 := (RwS.lt (RwS.nil w17 5 base1 391) i hi).1; (try simp only); omega)
 intro A1 c1 w18 hr5 hg1
 replace hr5 : RwS w18 5 base1 391 A1 1 c1 (flat rlc ([(rlNew s1 e1 z1 t1, bk1)])) := RwS.cast hr5 rfl TAd7aa
 replace hg1 := Step.mono (G := fun k => base1 ≤ k) hg1 (fun i hi => (RwS.lt (RwS.nil w17 5 base1 391) i hi).1)
 replace hS := Step.transNew hS hg1 (fun i hi hG => by (try simp only at hG); omega)
 replace ho2 := ho2.step hg1 (by (try simp only); omega)
 replace hbk1 := hbk1.step hg1 (by (try simp only); omega)
 refine VT_end ?_
 intro w19 hs5
 replace hS := Step.trans hS hs5
 replace ho2 := ho2.no hs5
 replace hbk1 := hbk1.no hs5
 replace hr5 := hr5.no hs5
 refine Vst 17 (o := 1) [.slice A1 1 c1] ho2 #[Bo (alwaysC c), .slice A1 1 c1, I6 0, I6 0, I6 0, I6 0] ?_
 intro w20 hw2
 replace hS := Step.transNew hS hw2.step (fun _ _ _ => by omega)
 replace hbk1 := hbk1.step hw2.step (show ¬ bk1 = b2 by omega)
 replace hr5 := hr5.step hw2.step (fun k hk (hF : k = b2) => by omega)
 have ho6 := hw2.own
 refine Ve (VQ_block_normal (Vn (Vr (Ve (VQ_round (VCL_round (Vrp (Vs (Vf (VC_exit (VQ_then_exit (VQ_then_exit (VQ_block_hit (Vn (Vrp (VC_ret (Vr2 (Pt b2 0) (I6 0) ?_)))))))))))))))))
 obtain ⟨Y, hY, hPl⟩ := pl_mk (w := w) (p := b2) (base := base1) (l := [((rlNew s1 e1 z1 t1), bk1)]) hR (RlsI.rules c) (Nat.le_of_ble_eq_true (by kernel_rfl)) ho6 (RwS.cast hr5 rfl (by rfl)) (by intro q9 hq9; simp only [List.mem_cons, List.not_mem_nil, or_false] at hq9; subst hq9; exact hbk1) (by simp only [List.map_cons, List.map_nil, List.nodup_cons, List.mem_cons, List.not_mem_nil, or_false, not_false_eq_true, List.nodup_nil, and_true]) (by omega) (by omega) (by intro q9 hq9; simp only [List.mem_cons, List.not_mem_nil, or_false] at hq9; subst hq9; simp only; omega)
 exact ⟨b2, Y, rfl, hY, hPl, hS⟩

theorem rules_l2 {c : Con} (hr : rightC c = 0) (s1 e1 : Int) (z1 t1 : Bool) (s2 e2 : Int) (z2 t2 : Bool) (hR : rulesC c = [(rlNew s1 e1 z1 t1), (rlNew s2 e2 z2 t2)]) (w : World) : CV Tryz.prog 244 #[.agg #[.int .i64 c.kind, .int .i64 c.peak, .int .i64 c.early, .int .i64 c.whole, .int .i64 c.burst, .int .i64 c.least]] w fun x w1 => ∃ A cc, x = .slice A 2 cc ∧ RwS w1 4 w.heap.size 385 A 2 cc (flat r4 [(rlNew s1 e1 z1 t1), (rlNew s2 e2 z2 t2)]) ∧ Step No w w1 := by
  refine (rules_any c hr w).mono ?_
  rintro x w1 ⟨A, n, cc, rfl, hn, hrw, hs⟩
  rw [hR] at hn hrw
  subst hn
  exact ⟨A, cc, rfl, hrw, hs⟩
theorem pnew_2 (c : Con) (hr : rightC c = 0) (s1 e1 : Int) (z1 t1 : Bool) (s2 e2 : Int) (z2 t2 : Bool) (hR : rulesC c = [(rlNew s1 e1 z1 t1), (rlNew s2 e2 z2 t2)]) (w : World) :
  CV Tryz.prog 189 #[.agg #[I6 c.kind, I6 c.peak, I6 c.early, I6 c.whole, I6 c.burst, I6 c.least]] w (fun x w1 => ∃ pp Y, x = .tuple #[Pt pp 0, I6 0] ∧ (∀ k, Y k → w.heap.size ≤ k) ∧ Pl w1 pp Y (alwaysC c) (rulesC c) ∧ Step No w w1) := by
 have hS : Step No w w := Step.refl _ _
 refine VCe Tryz.func189 (Vs (Vr ?_))
 refine Vx 0 23 #[I6 c.kind, I6 c.peak, I6 c.early, I6 c.whole, I6 c.burst, I6 c.least] ?_
 intro b1 w1 hn1
 replace hS := Step.trans hS (hn1.step No)
 have ho1 := hn1.own
 have hzhn1 := hn1.size
 have hqhn1 := hn1.eqb
 refine Ve (Vn (Vs (Vs (Vr (Vl 0 ho1 ?_)))))
 refine Vc 1 Tryz.call18 ((cright_any c _).mono (fun x w1 h9 => ⟨h9.1.trans (by rw [hr]), h9.2⟩ : ∀ x w1, _ → x = I6 0 ∧ Step No _ w1)) ?_
 rintro _ w2 ⟨rfl, hc1⟩
 replace hS := Step.trans hS hc1
 replace ho1 := ho1.no hc1
 refine Ve (Vn (Vrp (Vf (VC_skip (Vn (Vs (Vr (Vl 0 ho1 ?_))))))))
 refine Vc 1 Tryz.call243 (always_any c _) ?_
 rintro _ w3 ⟨rfl, hc2⟩
 replace hS := Step.trans hS hc2
 replace ho1 := ho1.no hc2
 refine Vp 3 ?_
 have hzl3 := ho1.lt
 refine Vx 3 381 #[Bo (alwaysC c), .slice none 0 0, I6 0, I6 0, I6 0, I6 0] ?_
 intro b2 w4 hn2
 replace hS := Step.trans hS (hn2.step No)
 replace ho1 := ho1.no (hn2.step No)
 have ho2 := hn2.own
 have hzhn2 := hn2.size
 have hqhn2 := hn2.eqb
 refine Ve (Vn (Vs (Vs (Vr (Vl 0 ho1 ?_)))))
 refine Vc 1 Tryz.call244 (rules_l2 hr s1 e1 z1 t1 s2 e2 z2 t2 hR _) ?_
 rintro _ w5 ⟨AR, ccR, rfl, hrR, hc3⟩
 replace hS := Step.trans hS hc3
 replace ho1 := ho1.no hc3
 replace ho2 := ho2.no hc3
 obtain ⟨lo9, hlo9E⟩ : ∃ x, x = w4.heap.size := ⟨_, rfl⟩
 rw [← hlo9E] at hrR
 have hlo9 : lo9 ≤ w5.heap.size := by have h9 := (hc3).size; omega
 refine Ve (Vn (VC_block (VC_rounds (VCL_round (Vrp (Vs (Vt (VC_skip (Vn (Vs (VC_block (Vs (Vr ?_)))))))))))))
 obtain ⟨g1, cur1, rfl, hgbg1, hglg1, -⟩ := RwS.open hrR (Nat.le_of_ble_eq_true (by kernel_rfl))
 refine VL_index (d := 22) (b := g1) (o := 0) (len := 2) (sz := 4) (m := 0) (by kernel_rfl) (by kernel_rfl) 0 (by rfl) (by omega) 0 (by omega) (Vla 1 (t := 385) (a := ⟨g1, 0, none⟩) (v := .agg #[I6 s1, I6 e1, Bo z1, Bo t1]) (Sl.flatAgg (sz := 4) (RwS.sl2 hrR).sl r4_len (show ([(rlNew s1 e1 z1 t1), (rlNew s2 e2 z2 t2)] : List Rl)[0]? = some (rlNew s1 e1 z1 t1) from rfl) 0 4 (by kernel_rfl) (by decide) _ (by rfl)) ?_)
 have hzl6 := ho1.lt
 have hzl7 := ho2.lt
 have hzk2 := hglg1
 refine Vx 2 385 #[I6 0, I6 0, Bo false, Bo false] ?_
 intro b3 w6 hn3
 replace hS := Step.trans hS (hn3.step No)
 replace ho1 := ho1.no (hn3.step No)
 replace ho2 := ho2.no (hn3.step No)
 replace hrR := hrR.no (hn3.step No)
 replace hlo9 := Nat.le_trans hlo9 (hn3.step No).size
 replace hglg1 := Nat.lt_of_lt_of_le hglg1 (hn3.step No).size
 have ho3 := hn3.own
 have hzhn3 := hn3.size
 have hqhn3 := hn3.eqb
 refine Vst 3 (o := 0) [I6 s1, I6 e1, Bo z1, Bo t1] ho3 #[I6 s1, I6 e1, Bo z1, Bo t1] ?_
 intro w7 hw1
 replace hS := Step.transNew hS hw1.step (fun _ _ _ => by omega)
 replace ho1 := ho1.step hw1.step (show ¬ b1 = b3 by omega)
 replace ho2 := ho2.step hw1.step (show ¬ b2 = b3 by omega)
 replace hrR := hrR.keepG hw1.step (show ¬ g1 = b3 by omega)
 replace hlo9 := Nat.le_trans hlo9 (hw1.step).size
 replace hglg1 := Nat.lt_of_lt_of_le hglg1 (hw1.step).size
 have ho4 := hw1.own
 have hzhw1 := hw1.same
 refine Ve (Vn ?_)
 have hs1 := drew_step w7
 have hs1z : w7.heap.size = w7.drew.heap.size := rfl
 refine Tx 15 (fun k => w7.heap.size ≤ k) [10, 13, 14] [0, 1, 2, 3, 4, 5, 6, 7, 8, 9, 10, 11, 12, 13, 14] ?_
 generalize w7.drew = w8 at hs1 hs1z ⊢
 replace hS := Step.trans hS hs1
 replace ho1 := ho1.no hs1
 replace ho2 := ho2.no hs1
 replace hrR := hrR.no hs1
 replace hlo9 := Nat.le_trans hlo9 (hs1).size
 replace hglg1 := Nat.lt_of_lt_of_le hglg1 (hs1).size
 replace ho4 := ho4.no hs1
 refine Tp 4 (Tl (fun w9 hr1 => ho2.step hr1 (by (try simp only); omega)) (Tl (fun w10 hr2 => ho4.step hr2 (by (try simp only); omega)) (Tp 1 (Tl (fun w11 hr3 => ho4.step hr3 (by (try simp only); omega)) (Tp 1 (Tl (fun w12 hr4 => ho4.step hr4 (by (try simp only); omega)) (Th ?_)))))))
 intro w13 hs2
 have hzhs2 := hs2.size
 replace hS := Step.trans hS hs2
 replace ho1 := ho1.no hs2
 replace ho2 := ho2.no hs2
 replace hrR := hrR.no hs2
 replace hlo9 := Nat.le_trans hlo9 (hs2).size
 replace hglg1 := Nat.lt_of_lt_of_le hglg1 (hs2).size
 have hzl11 := ho1.lt
 have hzl12 := ho2.lt
 refine Tc Tryz.call245 (bnew_any s1 e1 _) ?_ ?_
 ·rintro _ w14 ⟨bk1, rfl, bk1E, bk1Z, hbk1, hc4⟩
  exact Step.mono hc4 TAd7ac
 rintro _ w14 ⟨bk1, rfl, bk1E, bk1Z, hbk1, hc4⟩
 replace hS := Step.trans hS hc4
 replace ho1 := ho1.no hc4
 replace ho2 := ho2.no hc4
 replace hrR := hrR.no hc4
 replace hlo9 := Nat.le_trans hlo9 (hc4).size
 replace hglg1 := Nat.lt_of_lt_of_le hglg1 (hc4).size
 refine Tp 2 (Th ?_)
 intro w15 hs3
 have hzhs3 := hs3.size
 replace hS := Step.trans hS hs3
 replace ho1 := ho1.no hs3
 replace ho2 := ho2.no hs3
 replace hrR := hrR.no hs3
 replace hlo9 := Nat.le_trans hlo9 (hs3).size
 replace hglg1 := Nat.lt_of_lt_of_le hglg1 (hs3).size
 replace hbk1 := hbk1.no hs3
 refine VTc_bs (d := 37) (e := 391) (c := #[I6 s1, I6 e1, Bo z1, Bo t1, .iface 386 (Pt bk1 0)]) (len := 1) (by kernel_rfl) (by kernel_rfl) (fun b w1 hn => hn.step _) ?_
 intro b4 w16 hn4
 replace hS := Step.trans hS (hn4.step No)
 replace ho1 := ho1.no (hn4.step No)
 replace ho2 := ho2.no (hn4.step No)
 replace hrR := hrR.no (hn4.step No)
 replace hlo9 := Nat.le_trans hlo9 (hn4.step No).size
 replace hglg1 := Nat.lt_of_lt_of_le hglg1 (hn4.step No).size
 replace hbk1 := hbk1.no (hn4.step No)
 have ho5 := hn4.own
 have hzhn4 := hn4.size
 have hqhn4 := hn4.eqb
 refine Th ?_
 intro w17 hs4
 have hzhs4 := hs4.size
 replace hS := Step.trans hS hs4
 replace ho1 := ho1.no hs4
 replace ho2 := ho2.no hs4
 replace hrR := hrR.no hs4
 replace hlo9 := Nat.le_trans hlo9 (hs4).size
 replace hglg1 := Nat.lt_of_lt_of_le hglg1 (hs4).size
 replace hbk1 := hbk1.no hs4
 replace ho5 := ho5.no hs4
 have hzl22 := ho1.lt
 have hzl23 := ho2.lt
 have hzl25 := hbk1.lt
 obtain ⟨base1, hbase1E⟩ : ∃ x, x = w17.heap.size := ⟨_, rfl⟩
 have hbase1 : base1 ≤ w17.heap.size := Nat.le_of_eq hbase1E
 have hzk11 := hbase1
 refine VTc_appendZ (d := 38) (e := 391) (A := none) (mm := 0) (c := 0) (A2 := (some ⟨b4, 0, none⟩)) (m2 := 1) (c2 := 1) (sz := 5) (bytes := 40) (by kernel_rfl) (by kernel_rfl) (by kernel_rfl) base1 w17.heap.size (flat rlc ([])) (flat rlc [(rlNew s1 e1 z1 t1, bk1)]) (RwS.nil w17 5 base1 391) (by rw [flat_one, rlc_len]) (Sl.mono (Sl.cast (Own.sl ho5 ho5.lt) TAd7ae) TAd7ad) (flat_one' rlc_one _) 1 (by omega) TAd7af (by omega) (by omega) ?_ ?_
 ·intro w1 hs1; exact Step.mono hs1 (fun i hi => by have hi1 := (RwS.lt (RwS.nil w17 5 base1 391) i hi).1; (try simp only); omega)
 intro A1 c1 w18 hr5 hg1
 replace hr5 : RwS w18 5 base1 391 A1 1 c1 (flat rlc ([(rlNew s1 e1 z1 t1, bk1)])) := RwS.cast hr5 rfl TAd7aa
 replace hg1 := Step.mono (G := fun k => base1 ≤ k) hg1 (fun i hi => (RwS.lt (RwS.nil w17 5 base1 391) i hi).1)
 replace hS := Step.transNew hS hg1 (fun i hi hG => by (try simp only at hG); omega)
 replace ho1 := ho1.step hg1 (by (try simp only); omega)
 replace ho2 := ho2.step hg1 (by (try simp only); omega)
 replace hrR := hrR.keepG hg1 (by (try simp only); omega)
 replace hlo9 := Nat.le_trans hlo9 (hg1).size
 replace hbk1 := hbk1.step hg1 (by (try simp only); omega)
 replace hbase1 := Nat.le_trans hbase1 (hg1).size
 refine VT_end ?_
 intro w19 hs5
 replace hS := Step.trans hS hs5
 replace ho1 := ho1.no hs5
 replace ho2 := ho2.no hs5
 replace hrR := hrR.no hs5
 replace hlo9 := Nat.le_trans hlo9 (hs5).size
 replace hbk1 := hbk1.no hs5
 replace hbase1 := Nat.le_trans hbase1 (hs5).size
 replace hr5 := hr5.no hs5
 refine Vst 17 (o := 1) [.slice A1 1 c1] ho2 #[Bo (alwaysC c), .slice A1 1 c1, I6 0, I6 0, I6 0, I6 0] ?_
 intro w20 hw2
 replace hS := Step.transNew hS hw2.step (fun _ _ _ => by omega)
 replace ho1 := ho1.step hw2.step (show ¬ b1 = b2 by omega)
 replace hrR := hrR.keepG hw2.step (show ¬ g1 = b2 by omega)
 replace hlo9 := Nat.le_trans hlo9 (hw2.step).size
 replace hbk1 := hbk1.step hw2.step (show ¬ bk1 = b2 by omega)
 replace hbase1 := Nat.le_trans hbase1 (hw2.step).size
 replace hr5 := hr5.step hw2.step (fun k hk (hF : k = b2) => by omega)
 have ho6 := hw2.own
 have hzhw2 := hw2.same
 refine Ve (VQ_block_normal (Vn (Vr (Ve (VQ_round (VCL_round (Vrp (Vs (Vt (VC_skip (Vn (Vs (VC_block (Vs ?_))))))))))))))
 obtain ⟨g2, cur2, rfl, hgbg2, hglg2, -⟩ := RwS.open hr5 (by omega)
 refine Vr (VL_index (d := 22) (b := g1) (o := 0) (len := 2) (sz := 4) (m := 1) (by kernel_rfl) (by kernel_rfl) 1 (by rfl) (by omega) 4 (by omega) (Vla 1 (t := 385) (a := ⟨g1, 4, none⟩) (v := .agg #[I6 s2, I6 e2, Bo z2, Bo t2]) (Sl.flatAgg (sz := 4) (RwS.sl2 hrR).sl r4_len (show ([(rlNew s1 e1 z1 t1), (rlNew s2 e2 z2 t2)] : List Rl)[1]? = some (rlNew s2 e2 z2 t2) from rfl) 0 4 (by kernel_rfl) (by decide) _ (by rfl)) ?_))
 have hzl32 := ho1.lt
 have hzk12 := hlo9
 have hzl34 := hbk1.lt
 have hzk15 := hglg2
 refine Vx 2 385 #[I6 0, I6 0, Bo false, Bo false] ?_
 intro b5 w21 hn5
 replace hS := Step.trans hS (hn5.step No)
 replace ho1 := ho1.no (hn5.step No)
 replace hbk1 := hbk1.no (hn5.step No)
 replace hbase1 := Nat.le_trans hbase1 (hn5.step No).size
 replace hr5 := hr5.no (hn5.step No)
 replace ho6 := ho6.no (hn5.step No)
 have ho7 := hn5.own
 have hzhn5 := hn5.size
 have hqhn5 := hn5.eqb
 refine Vst 3 (o := 0) [I6 s2, I6 e2, Bo z2, Bo t2] ho7 #[I6 s2, I6 e2, Bo z2, Bo t2] ?_
 intro w22 hw3
 replace hS := Step.transNew hS hw3.step (fun _ _ _ => by omega)
 replace ho1 := ho1.step hw3.step (show ¬ b1 = b5 by omega)
 replace hbk1 := hbk1.step hw3.step (show ¬ bk1 = b5 by omega)
 replace hbase1 := Nat.le_trans hbase1 (hw3.step).size
 replace hr5 := hr5.keepG hw3.step (show ¬ g2 = b5 by omega)
 replace ho6 := ho6.step hw3.step (show ¬ b2 = b5 by omega)
 have ho8 := hw3.own
 have hzhw3 := hw3.same
 refine Ve (Vn ?_)
 have hs6 := drew_step w22
 have hs6z : w22.heap.size = w22.drew.heap.size := rfl
 refine Tx 15 (fun k => k = g2 ∨ w22.heap.size ≤ k) [10, 13, 14] [0, 1, 2, 3, 4, 5, 6, 7, 8, 9, 10, 11, 12, 13, 14] ?_
 generalize w22.drew = w23 at hs6 hs6z ⊢
 replace hS := Step.trans hS hs6
 replace ho1 := ho1.no hs6
 replace hbk1 := hbk1.no hs6
 replace hbase1 := Nat.le_trans hbase1 (hs6).size
 replace hr5 := hr5.no hs6
 replace ho6 := ho6.no hs6
 replace ho8 := ho8.no hs6
 refine Tp 4 (Tl (fun w24 hr6 => ho6.step hr6 (by (try simp only); omega)) (Tl (fun w25 hr7 => ho8.step hr7 (by (try simp only); omega)) (Tp 1 (Tl (fun w26 hr8 => ho8.step hr8 (by (try simp only); omega)) (Tp 1 (Tl (fun w27 hr9 => ho8.step hr9 (by (try simp only); omega)) (Th ?_)))))))
 intro w28 hs7
 have hzhs7 := hs7.size
 replace hS := Step.trans hS hs7
 replace ho1 := ho1.no hs7
 replace hbk1 := hbk1.no hs7
 replace hbase1 := Nat.le_trans hbase1 (hs7).size
 replace hr5 := hr5.no hs7
 replace ho6 := ho6.no hs7
 have hzl41 := ho1.lt
 have hzl43 := hbk1.lt
 have hzl44 := ho6.lt
 refine Tc Tryz.call245 (bnew_any s2 e2 _) ?_ ?_
 ·rintro _ w29 ⟨bk2, rfl, bk2E, bk2Z, hbk2, hc5⟩
  exact Step.mono hc5 TAd7ac
 rintro _ w29 ⟨bk2, rfl, bk2E, bk2Z, hbk2, hc5⟩
 replace hS := Step.trans hS hc5
 replace hbk1 := hbk1.no hc5
 replace hbase1 := Nat.le_trans hbase1 (hc5).size
 replace hr5 := hr5.no hc5
 replace ho6 := ho6.no hc5
 refine Tp 2 (Th ?_)
 intro w30 hs8
 replace hS := Step.trans hS hs8
 replace hbk1 := hbk1.no hs8
 replace hbase1 := Nat.le_trans hbase1 (hs8).size
 replace hr5 := hr5.no hs8
 replace ho6 := ho6.no hs8
 replace hbk2 := hbk2.no hs8
 refine VTc_bs (d := 37) (e := 391) (c := #[I6 s2, I6 e2, Bo z2, Bo t2, .iface 386 (Pt bk2 0)]) (len := 1) (by kernel_rfl) (by kernel_rfl) (fun b w1 hn => hn.step _) ?_
 intro b6 w31 hn6
 replace hS := Step.trans hS (hn6.step No)
 replace hbk1 := hbk1.no (hn6.step No)
 replace hbase1 := Nat.le_trans hbase1 (hn6.step No).size
 replace hr5 := hr5.no (hn6.step No)
 replace ho6 := ho6.no (hn6.step No)
 replace hbk2 := hbk2.no (hn6.step No)
 have ho9 := hn6.own
 refine Th ?_
 intro w32 hs9
 replace hS := Step.trans hS hs9
 replace hbk1 := hbk1.no hs9
 replace hbase1 := Nat.le_trans hbase1 (hs9).size
 replace hr5 := hr5.no hs9
 replace ho6 := ho6.no hs9
 replace hbk2 := hbk2.no hs9
 replace ho9 := ho9.no hs9
 have hzk26 := hbase1
 refine VTc_appendZ (d := 38) (e := 391) (A := (some ⟨g2, 0, none⟩)) (mm := 1) (c := c1) (A2 := (some ⟨b6, 0, none⟩)) (m2 := 1) (c2 := 1) (sz := 5) (bytes := 40) (by kernel_rfl) (by kernel_rfl) (by kernel_rfl) base1 w32.heap.size (flat rlc ([(rlNew s1 e1 z1 t1, bk1)])) (flat rlc [(rlNew s2 e2 z2 t2, bk2)]) hr5 (by rw [flat_one, rlc_len]) (Sl.mono (Sl.cast (Own.sl ho9 ho9.lt) TAd7ae) TAd7ad) (flat_one' rlc_one _) 2 (by omega) TAd7af (by omega) (by omega) ?_ ?_
 ·intro w1 hs1; exact Step.mono hs1 (fun i hi => by obtain ⟨a9, ha9, hi9⟩ := hi; cases ha9; have hi8 : g2 = i := hi9; (try simp only); omega)
 intro A2 c2 w33 hr10 hg2
 replace hr10 : RwS w33 5 base1 391 A2 2 c2 (flat rlc (([(rlNew s1 e1 z1 t1, bk1)]) ++ ([(rlNew s2 e2 z2 t2, bk2)]))) := RwS.cast hr10 rfl TAd7aa
 replace hg2 := Step.mono (G := fun k => k = g2) hg2 (fun i hi => by obtain ⟨a9, ha9, hi9⟩ := hi; cases ha9; exact hi9.symm)
 replace hS := Step.transNew hS hg2 (fun i hi hG => by (try simp only at hG); omega)
 replace hbk1 := hbk1.step hg2 (by (try simp only); omega)
 replace ho6 := ho6.step hg2 (by (try simp only); omega)
 replace hbk2 := hbk2.step hg2 (by (try simp only); omega)
 refine VT_end ?_
 intro w34 hs10
 replace hS := Step.trans hS hs10
 replace hbk1 := hbk1.no hs10
 replace ho6 := ho6.no hs10
 replace hbk2 := hbk2.no hs10
 replace hr10 := hr10.no hs10
 refine Vst 17 (o := 1) [.slice A2 2 c2] ho6 #[Bo (alwaysC c), .slice A2 2 c2, I6 0, I6 0, I6 0, I6 0] ?_
 intro w35 hw4
 replace hS := Step.transNew hS hw4.step (fun _ _ _ => by omega)
 replace hbk1 := hbk1.step hw4.step (show ¬ bk1 = b2 by omega)
 replace hbk2 := hbk2.step hw4.step (show ¬ bk2 = b2 by omega)
 replace hr10 := hr10.step hw4.step (fun k hk (hF : k = b2) => by omega)
 have ho10 := hw4.own
 refine Ve (VQ_block_normal (Vn (Vr (Ve (VQ_round (VCL_round (Vrp (Vs (Vf (VC_exit (VQ_then_exit (VQ_then_exit (VQ_block_hit (Vn (Vrp (VC_ret (Vr2 (Pt b2 0) (I6 0) ?_)))))))))))))))))
 obtain ⟨Y, hY, hPl⟩ := pl_mk (w := w) (p := b2) (base := base1) (l := [((rlNew s1 e1 z1 t1), bk1), ((rlNew s2 e2 z2 t2), bk2)]) hR (RlsI.rules c) (Nat.le_of_ble_eq_true (by kernel_rfl)) ho10 (RwS.cast hr10 rfl (by rfl)) (by intro q9 hq9; simp only [List.mem_cons, List.not_mem_nil, or_false] at hq9; rcases hq9 with rfl | rfl; exact hbk1; exact hbk2) (by simp only [List.map_cons, List.map_nil, List.nodup_cons, List.mem_cons, List.not_mem_nil, or_false, not_false_eq_true, List.nodup_nil, and_true]; omega) (by omega) (by omega) (by intro q9 hq9; simp only [List.mem_cons, List.not_mem_nil, or_false] at hq9; rcases hq9 with rfl | rfl <;> (simp only; omega))
 exact ⟨b2, Y, rfl, hY, hPl, hS⟩

theorem pnew_any (c : Con) (hr : rightC c = 0) (w : World) : CV Tryz.prog 189 #[.agg #[.int .i64 c.kind, .int .i64 c.peak, .int .i64 c.early, .int .i64 c.whole, .int .i64 c.burst, .int .i64 c.least]] w (fun x w1 => ∃ pp Y, x = .tuple #[.pointer (some ⟨pp, 0, none⟩), .int .i64 0] ∧ (∀ k, Y k → w.heap.size ≤ k) ∧ Pl w1 pp Y (alwaysC c) (rulesC c) ∧ Step No w w1) := by
  by_cases h2 : c.kind = 2
  · exact pnew_2 c hr _ _ _ _ _ _ _ _ (rules_v1 hr h2).symm w
  · by_cases h3 : c.kind = 3
    · exact pnew_2 c hr _ _ _ _ _ _ _ _ (rules_v2 hr h3).symm w
    · by_cases h4 : c.kind = 4
      · exact pnew_2 c hr _ _ _ _ _ _ _ _ (rules_v3 hr h4).symm w
      · exact pnew_1 c hr _ _ _ _ (rules_one hr h2 h3 h4).symm w
end Go.Proofs.YtcablikikkmfjaaGreat
end

section
/- Layer 20: a node in memory. -/
set_option linter.unusedVariables false
set_option linter.unusedSimpArgs false
namespace Go.Proofs.YtcablikikkmfjaaGreat
open Go.Vc Go.RowKit

abbrev lgc (a : Nat) : List Value := [.pointer (some ⟨a, 0, none⟩)]
abbrev uc (x : Con × Nat) : Value := .agg #[.int .i64 x.1.kind, .int .i64 x.1.peak, .int .i64 x.1.early, .int .i64 x.1.whole, .int .i64 x.1.burst, .int .i64 x.1.least, .pointer (some ⟨x.2, 0, none⟩)]
structure Ci where
  x : Cx
  id : Int
  pp : Nat
  Y : Nat → Prop
def Ci.ent (y : Ci) : Ent := ⟨y.x.p, y.x.v, y.x.c, y.id⟩
/-- What is told of a node beside its list. -/
structure NdG where
  ci : List Ci
  la : Option Addr
  lb : Nat
  lc : Nat
  lg : Nat → Nat
  lm : Nat → Nat
  N : Nat → List (Int × Int)
  tb : Nat
  cm : Nat
  M : List (Int × (Con × Nat))
  next : Nat
def NdG.L (g : NdG) : List Cx := g.ci.map Ci.x

/-- A block's type, two more; 0: a map; 1: another thing. -/
def tyO (w : World) (k : Nat) : Nat := match w.heap[k]? with | some (.cells _ T _) => T + 2 | some (.map _ _) => 0 | _ => 1
section
variable {w w1 : World} {F : Nat → Prop}
theorem tyO_tyB {T k : Nat} (h : TyB w T k) : tyO w k = T + 2 := by obtain ⟨c, fr, h⟩ := h; unfold tyO; rw [h]
theorem tyO_own {b T : Nat} {cs : Array Value} (h : Own w b cs T) : tyO w b = T + 2 := tyO_tyB h.tyB
theorem tyO_map {κ ν : Type} {m : Nat} {ek : κ → Value} {u : ν → Value} {L : List (κ × ν)} (h : MapL w m ek u L) : tyO w m = 0 := by obtain ⟨⟨es, ck, h, _⟩, _⟩ := h; unfold tyO; rw [h]
theorem tyO_step {k : Nat} (hk : k < w.heap.size) (hs : Step F w w1) (hF : ¬ F k) : tyO w1 k = tyO w k := by unfold tyO; rw [hs.block k hk hF]
def NT (w : World) (k : Nat) : Prop := k < w.heap.size ∧ (tyO w k = 0 ∨ tyO w k = 237 + 2 ∨ tyO w k = 238 + 2 ∨ tyO w k = 330 + 2 ∨ tyO w k = 244 + 2 ∨ tyO w k = 381 + 2 ∨ tyO w k = 391 + 2 ∨ tyO w k = 443 + 2)
theorem tyO_PT {k : Nat} (h : PT w k) : k < w.heap.size ∧ (tyO w k = 381 + 2 ∨ tyO w k = 391 + 2 ∨ tyO w k = 443 + 2) := by
  refine ⟨h.lt, ?_⟩
  rcases h with h | h | h
  · exact .inl (tyO_tyB h)
  · exact .inr (.inl (tyO_tyB h))
  · exact .inr (.inr (tyO_tyB h))
theorem NT.of_PT {k : Nat} (h : PT w k) : NT w k := by
  obtain ⟨h1, h2⟩ := tyO_PT h
  exact ⟨h1, by omega⟩
/-- A block of another type is not a node's. -/
theorem NT.not {k T : Nat} {cs : Array Value} (ho : Own w k cs T) (hT : T ≠ 237 ∧ T ≠ 238 ∧ T ≠ 330 ∧ T ≠ 244 ∧ T ≠ 381 ∧ T ≠ 391 ∧ T ≠ 443) : ¬ NT w k := by
  rintro ⟨_, h⟩
  rw [tyO_own ho] at h
  omega
end

structure NdX (w : World) (nd : Nat) (X : Nat → Prop) (lo : Nat) (rooms : List Int) (g : NdG) : Prop where
  own : Own w nd #[.slice g.la rooms.length g.lc, .pointer (some ⟨g.tb, 0, none⟩), .map (some g.cm), .int .i64 ((g.next : Nat) : Int)] 237
  links : 0 < rooms.length → g.la = some ⟨g.lb, 0, none⟩ ∧ RowE w g.lb 238 (flat lgc ((List.range rooms.length).map g.lg)) ∧ X g.lb
  led : ∀ (i : Nat) (r : Int), rooms[i]? = some r → Ld w (g.lg i) (g.lm i) r (usdL g.L i) (g.N i)
  ledX : ∀ i, i < rooms.length → X (g.lg i) ∧ X (g.lm i)
  lgi : ∀ i j, i < rooms.length → j < rooms.length → g.lg i = g.lg j → i = j
  lmi : ∀ i j, i < rooms.length → j < rooms.length → g.lm i = g.lm j → i = j
  lmc : ∀ i, i < rooms.length → g.lm i ≠ g.cm
  tab : Tb w g.tb 64 (g.ci.map Ci.ent)
  cmap : MapL w g.cm ei uc g.M
  pol : ∀ y ∈ g.ci, getM g.M y.id = some (y.x.k, y.pp) ∧ Pl w y.pp y.Y (alwaysC y.x.k) y.x.rs
  polX : ∀ y ∈ g.ci, ∀ k, y.Y k → X k
  apart : ∀ y ∈ g.ci, ∀ z ∈ g.ci, y.id ≠ z.id → ∀ k, y.Y k → ¬ z.Y k
  ids : ∀ y ∈ g.ci, ∀ z ∈ g.ci, y.id = z.id → y = z
  idlt : ∀ y ∈ g.ci, 0 ≤ y.id ∧ y.id < g.next
  need : ∀ (i : Nat), i < rooms.length → ∀ y ∈ g.ci, y.x.p = (i : Int) → getM (g.N i) y.id = some (needC y.x.k)
  nlt : ∀ i, i < rooms.length → ∀ id n, getM (g.N i) id = some n → id < g.next
  li : LI rooms g.L
  inX : X nd ∧ X g.tb ∧ X g.cm
  ty : ∀ k, X k → NT w k
  lo : ∀ k, X k → lo ≤ k

section
variable {w w1 : World} {F : Nat → Prop} {nd lo : Nat} {X : Nat → Prop} {rooms : List Int} {g : NdG}
theorem NdX.lt (h : NdX w nd X lo rooms g) {k : Nat} (hk : X k) : k < w.heap.size := (h.ty k hk).1
theorem NT.step {k : Nat} (h : NT w k) (hs : Step F w w1) (hF : ¬ F k) : NT w1 k := by
  unfold NT
  rw [tyO_step h.1 hs hF]
  exact ⟨Nat.lt_of_lt_of_le h.1 hs.size, h.2⟩
theorem NdX.step (h : NdX w nd X lo rooms g) (hs : Step F w w1) (hF : ∀ k, X k → ¬ F k) : NdX w1 nd X lo rooms g where
  own := h.own.step hs (hF _ h.inX.1)
  links h0 := by obtain ⟨h1, h2, h3⟩ := h.links h0; exact ⟨h1, h2.step hs (hF _ h3), h3⟩
  led i r hi := by have hl := (List.getElem?_eq_some_iff.1 hi).1; exact (h.led i r hi).step hs (hF _ (h.ledX i hl).1) (hF _ (h.ledX i hl).2)
  ledX := h.ledX
  lgi := h.lgi
  lmi := h.lmi
  lmc := h.lmc
  tab := h.tab.step hs (hF _ h.inX.2.1)
  cmap := h.cmap.step hs (hF _ h.inX.2.2)
  pol y hy := ⟨(h.pol y hy).1, (h.pol y hy).2.step hs fun k hk => hF k (h.polX y hy k hk)⟩
  polX := h.polX
  apart := h.apart
  ids := h.ids
  idlt := h.idlt
  need := h.need
  nlt := h.nlt
  li := h.li
  inX := h.inX
  ty k hk := (h.ty k hk).step hs (hF k hk)
  lo := h.lo
theorem NdX.no (h : NdX w nd X lo rooms g) (hs : Step No w w1) : NdX w1 nd X lo rooms g := h.step hs fun _ _ => id
theorem NdX.room (h : NdX w nd X lo rooms g) {i : Nat} (hi : i < rooms.length) : ∃ r, rooms[i]? = some r ∧ Ld w (g.lg i) (g.lm i) r (usdL g.L i) (g.N i) := ⟨_, List.getElem?_eq_getElem hi, h.led i _ (List.getElem?_eq_getElem hi)⟩
theorem NdX.t_nd (h : NdX w nd X lo rooms g) : tyO w nd = 237 + 2 := tyO_own h.own
theorem NdX.t_tb (h : NdX w nd X lo rooms g) : tyO w g.tb = 244 + 2 := by obtain ⟨s, len, h1, _⟩ := h.tab; exact tyO_own h1
theorem NdX.t_cm (h : NdX w nd X lo rooms g) : tyO w g.cm = 0 := tyO_map h.cmap
theorem NdX.t_lg (h : NdX w nd X lo rooms g) {i : Nat} (hi : i < rooms.length) : tyO w (g.lg i) = 330 + 2 := by obtain ⟨r, _, h1⟩ := h.room hi; exact tyO_own h1.own
theorem NdX.t_lm (h : NdX w nd X lo rooms g) {i : Nat} (hi : i < rooms.length) : tyO w (g.lm i) = 0 := by obtain ⟨r, _, h1⟩ := h.room hi; exact tyO_map h1.map
theorem NdX.t_lb (h : NdX w nd X lo rooms g) (h0 : 0 < rooms.length) : tyO w g.lb = 238 + 2 := tyO_tyB (h.links h0).2.1.ty
theorem NdX.t_pol (h : NdX w nd X lo rooms g) {y : Ci} (hy : y ∈ g.ci) {k : Nat} (hk : y.Y k) : tyO w k = 381 + 2 ∨ tyO w k = 391 + 2 ∨ tyO w k = 443 + 2 := (tyO_PT ((h.pol y hy).2.ty hk)).2
/-- The blocks that an operation on a link turns. -/
def fiveF (nd : Nat) (g : NdG) (i k : Nat) : Prop := k = nd ∨ k = g.tb ∨ k = g.cm ∨ k = g.lg i ∨ k = g.lm i
theorem NdX.rest (h : NdX w nd X lo rooms g) {i : Nat} (hi : i < rooms.length) (hT : Step (fiveF nd g i) w w1) :
    (0 < rooms.length → g.la = some ⟨g.lb, 0, none⟩ ∧ RowE w1 g.lb 238 (flat lgc ((List.range rooms.length).map g.lg)) ∧ X g.lb) ∧
    (∀ (j : Nat) (r : Int), j ≠ i → rooms[j]? = some r → Ld w1 (g.lg j) (g.lm j) r (usdL g.L j) (g.N j)) ∧ (∀ y ∈ g.ci, Pl w1 y.pp y.Y (alwaysC y.x.k) y.x.rs) := by
  have t1 := h.t_nd
  have t2 := h.t_tb
  have t3 := h.t_cm
  have t4 := h.t_lg hi
  have t5 := h.t_lm hi
  refine ⟨fun h0 => ?_, fun j r hj hr => ?_, fun y hy => ?_⟩
  · obtain ⟨h1, h2, h3⟩ := h.links h0
    have t6 := h.t_lb h0
    refine ⟨h1, h2.step hT ?_, h3⟩
    rintro (e | e | e | e | e) <;> rw [e] at t6 <;> omega
  · have hl := (List.getElem?_eq_some_iff.1 hr).1
    have t6 := h.t_lg hl
    have t7 := h.t_lm hl
    refine (h.led j r hr).step hT ?_ ?_
    · rintro (e | e | e | e | e)
      · rw [e] at t6; omega
      · rw [e] at t6; omega
      · rw [e] at t6; omega
      · exact hj (h.lgi _ _ hl hi e)
      · rw [e] at t6; omega
    · rintro (e | e | e | e | e)
      · rw [e] at t7; omega
      · rw [e] at t7; omega
      · exact h.lmc j hl e
      · rw [e] at t7; omega
      · exact hj (h.lmi _ _ hl hi e)
  · refine (h.pol y hy).2.step hT fun k hk => ?_
    have t6 := h.t_pol hy hk
    rintro (e | e | e | e | e) <;> rw [e] at t6 <;> omega
/-- All of a node's blocks are of a node's types still. -/
theorem NdX.typed (h : NdX w nd X lo rooms g) {i : Nat} (hi : i < rooms.length) (hT : Step (fiveF nd g i) w w1) (h1 : tyO w1 nd = 237 + 2) (h2 : tyO w1 g.tb = 244 + 2) (h3 : tyO w1 g.cm = 0) (h4 : tyO w1 (g.lg i) = 330 + 2) (h5 : tyO w1 (g.lm i) = 0) : ∀ k, X k → NT w1 k := by
  intro k hk
  have hz := Nat.lt_of_lt_of_le (h.lt hk) hT.size
  by_cases e : fiveF nd g i k
  · rcases e with e | e | e | e | e
    · rw [e] at hz ⊢; exact ⟨hz, by omega⟩
    · rw [e] at hz ⊢; exact ⟨hz, by omega⟩
    · rw [e] at hz ⊢; exact ⟨hz, by omega⟩
    · rw [e] at hz ⊢; exact ⟨hz, by omega⟩
    · rw [e] at hz ⊢; exact ⟨hz, by omega⟩
  · exact (h.ty k hk).step hT e
theorem tyO_tb {b : Nat} {room : Int} {L : List Ent} (h : Tb w b room L) : tyO w b = 244 + 2 := by obtain ⟨s, len, h1, _⟩ := h; exact tyO_own h1

/-! ### The lists -/
def findI (l : List Ci) (p v c : Int) : Option Ci := l.find? fun y => keyX p v c y.x
theorem findI_map (l : List Ci) (p v c : Int) : findC (l.map Ci.x) p v c = (findI l p v c).map Ci.x := by
  unfold findC findI
  rw [List.find?_map]; rfl
theorem lookE_map (l : List Ci) (p v c : Int) : lookE (l.map Ci.ent) p v c = (findI l p v c).map Ci.id := by
  unfold lookE findI
  rw [List.find?_map, Option.map_map]
  rfl
theorem lookE_isSome (g : NdG) (p v c : Int) : (lookE (g.ci.map Ci.ent) p v c).isSome = (findC g.L p v c).isSome := by
  unfold NdG.L
  rw [lookE_map, findI_map, Option.isSome_map, Option.isSome_map]
theorem ahead_map (l : List Ci) (p v c : Int) : aheadE (l.map Ci.ent) p v c = aheadC (l.map Ci.x) p v c := by
  unfold aheadC
  induction l with
  | nil => rfl
  | cons y l ih => simp only [List.map_cons, aheadE, ih, Ci.ent, Cx.e0]
def insI (l : List Ci) (y : Ci) : List Ci := l.take (aheadC (l.map Ci.x) y.x.p y.x.v y.x.c) ++ y :: l.drop (aheadC (l.map Ci.x) y.x.p y.x.v y.x.c)
theorem insI_x (l : List Ci) (y : Ci) : (insI l y).map Ci.x = insC (l.map Ci.x) y.x := by
  unfold insI insC; simp only [List.map_append, List.map_cons, List.map_take, List.map_drop]
theorem insI_ent (l : List Ci) (y : Ci) : (insI l y).map Ci.ent = insE (l.map Ci.ent) y.ent := by
  unfold insI insE
  simp only [List.map_append, List.map_cons, List.map_take, List.map_drop, show y.ent.p = y.x.p from rfl, show y.ent.v = y.x.v from rfl, show y.ent.c = y.x.c from rfl, ahead_map]
theorem mem_insI {l : List Ci} {x y : Ci} : y ∈ insI l x ↔ y = x ∨ y ∈ l := by
  unfold insI
  rw [List.mem_append, List.mem_cons]
  have h : y ∈ l ↔ y ∈ l.take (aheadC (l.map Ci.x) x.x.p x.x.v x.x.c) ∨ y ∈ l.drop (aheadC (l.map Ci.x) x.x.p x.x.v x.x.c) := by rw [← List.mem_append, List.take_append_drop]
  rw [h]
  exact ⟨fun h => by rcases h with h | h | h; exact .inr (.inl h); exact .inl h; exact .inr (.inr h), fun h => by rcases h with h | h | h; exact .inr (.inl h); exact .inl h; exact .inr (.inr h)⟩
def setI (l : List Ci) (p v c : Int) (f : Ci → Ci) : List Ci := l.map fun y => if keyX p v c y.x = true then f y else y
theorem setI_x (l : List Ci) (p v c : Int) (f : Ci → Ci) (h : Cx → Cx) (hf : ∀ y, (f y).x = h y.x) : (setI l p v c f).map Ci.x = setC (l.map Ci.x) p v c h := by
  unfold setI setC
  rw [List.map_map, List.map_map]
  apply List.map_congr_left
  intro y _
  simp only [Function.comp]
  split
  · exact hf y
  · rfl
theorem setI_ent (l : List Ci) (p v c : Int) (f : Ci → Ci) (hf : ∀ y, (f y).ent = y.ent) : (setI l p v c f).map Ci.ent = l.map Ci.ent := by
  unfold setI
  rw [List.map_map]
  apply List.map_congr_left
  intro y _
  simp only [Function.comp]
  split
  · exact hf y
  · rfl
theorem mem_setI {l : List Ci} {p v c : Int} {f : Ci → Ci} {z : Ci} (h : z ∈ setI l p v c f) : (z ∈ l ∧ keyX p v c z.x = false) ∨ ∃ y ∈ l, keyX p v c y.x = true ∧ z = f y := by
  obtain ⟨y, hy, rfl⟩ := List.mem_map.1 h
  cases e : keyX p v c y.x with
  | true => exact .inr ⟨y, hy, e, by rw [if_pos rfl]⟩
  | false => exact .inl ⟨by rw [if_neg (by simp)]; exact hy, by rw [if_neg (by simp)]; exact e⟩
theorem findI_some {l : List Ci} {p v c : Int} {y : Ci} (h : findI l p v c = some y) : y ∈ l ∧ y.x.p = p ∧ y.x.v = v ∧ y.x.c = c := by
  unfold findI at h
  exact ⟨List.mem_of_find?_eq_some h, keyX_iff.1 (List.find?_some (p := fun y : Ci => keyX p v c y.x) h)⟩
/-- One of a key. -/
theorem NdX.key_one (h : NdX w nd X lo rooms g) {p v c : Int} {y z : Ci} (hy : y ∈ g.ci) (hz : z ∈ g.ci) (ky : keyX p v c y.x = true) (kz : keyX p v c z.x = true) : y = z := by
  have hs := h.tab.srt
  have a := keyX_iff.1 ky
  have b := keyX_iff.1 kz
  have hy' : y.ent ∈ g.ci.map Ci.ent := List.mem_map_of_mem hy
  have hz' : z.ent ∈ g.ci.map Ci.ent := List.mem_map_of_mem hz
  have h1 : lookE (g.ci.map Ci.ent) p v c = some y.id := (lookE_some hs).2 (by rw [← a.1, ← a.2.1, ← a.2.2]; exact hy')
  have h2 : lookE (g.ci.map Ci.ent) p v c = some z.id := (lookE_some hs).2 (by rw [← b.1, ← b.2.1, ← b.2.2]; exact hz')
  rw [h1] at h2
  exact h.ids y hy z hz (by simpa using h2)
end
end Go.Proofs.YtcablikikkmfjaaGreat
end

section
/- Layer 20: a node in memory, behind what is done with it. -/
set_option linter.unusedVariables false
set_option linter.unusedSimpArgs false
namespace Go.Proofs.YtcablikikkmfjaaGreat
open Go.Vc Go.RowKit
section
variable {w w1 : World} {F : Nat → Prop} {nd lo : Nat} {X : Nat → Prop} {rooms : List Int} {g : NdG}
theorem putK_zero {g : NdG} (h : NdX w nd X lo rooms g) {p v c : Int} {k : Con} (hc : chkN rooms g.L p v c k = 0) : putK (g.ci.map Ci.ent) 64 p v c = 0 := by
  obtain ⟨h1, h2, h3, h4⟩ := chkN_zero hc
  obtain ⟨a1, a2, a3, a4⟩ := wrongN_zero h1
  refine putK_ok.2 ⟨a2, ?_, ?_⟩
  · rw [lookE_map]
    unfold NdG.L at h2
    rw [findI_map] at h2
    simpa using h2
  · rw [List.length_map]
    unfold NdG.L at h3
    rw [List.length_map] at h3
    omega
theorem NdX.took (h : NdX w nd X lo rooms g) {p v c : Int} {k : Con} {i : Nat} {r : Int} {pp : Nat} {Y : Nat → Prop} (hi : rooms[i]? = some r) (hp : p = (i : Int)) (hc : chkN rooms g.L p v c k = 0) (hT : Step (fiveF nd g i) w w1)
    (hnd : Own w1 nd #[.slice g.la rooms.length g.lc, .pointer (some ⟨g.tb, 0, none⟩), .map (some g.cm), .int .i64 ((g.next + 1 : Nat) : Int)] 237)
    (htb : Tb w1 g.tb 64 (putE (g.ci.map Ci.ent) 64 p v c (g.next : Nat))) (hld : Ld w1 (g.lg i) (g.lm i) r (usdL g.L i + needC k) (putM (g.N i) (g.next : Nat) (needC k))) (hcm : MapL w1 g.cm ei uc (putM g.M (g.next : Nat) (k, pp)))
    (hpl : Pl w1 pp Y (alwaysC k) (rulesC k)) (hY : ∀ q, Y q → w.heap.size ≤ q) (hlo : lo ≤ w.heap.size) :
    NdX w1 nd (fun q => X q ∨ Y q) lo rooms { g with ci := insI g.ci ⟨⟨p, v, c, k, rulesC k⟩, (g.next : Nat), pp, Y⟩, N := fun j => if j = i then putM (g.N i) (g.next : Nat) (needC k) else g.N j, M := putM g.M (g.next : Nat) (k, pp), next := g.next + 1 } := by
  have hil := (List.getElem?_eq_some_iff.1 hi).1
  obtain ⟨r1, r2, r3⟩ := h.rest hil hT
  have hL : ({ g with ci := insI g.ci ⟨⟨p, v, c, k, rulesC k⟩, (g.next : Nat), pp, Y⟩, N := fun j => if j = i then putM (g.N i) (g.next : Nat) (needC k) else g.N j, M := putM g.M (g.next : Nat) (k, pp), next := g.next + 1 } : NdG).L = insC g.L ⟨p, v, c, k, rulesC k⟩ := insI_x _ _
  have hpz := putK_zero h hc
  have hnew : ∀ y ∈ g.ci, y.id ≠ ((g.next : Nat) : Int) := fun y hy e => by have := (h.idlt y hy).2; omega
  have hty := h.typed hil hT (tyO_own hnd) (tyO_tb htb) (tyO_map hcm) (tyO_own hld.own) (tyO_map hld.map)
  have hYX : ∀ q, Y q → ¬ X q := fun q hq hx => by have := h.lt hx; have := hY q hq; omega
  refine { own := hnd, links := fun h0 => ?_, led := fun j r' hj => ?_, ledX := fun j hj => ⟨.inl (h.ledX j hj).1, .inl (h.ledX j hj).2⟩, lgi := h.lgi, lmi := h.lmi, lmc := h.lmc, tab := ?_, cmap := hcm, pol := fun y hy => ?_, polX := fun y hy q hq => ?_, apart := fun y hy z hz hne q hq => ?_, ids := fun y hy z hz he => ?_, idlt := fun y hy => ?_, need := fun j hj y hy he => ?_, nlt := fun j hj id n hn => ?_, li := ?_, inX := ⟨.inl h.inX.1, .inl h.inX.2.1, .inl h.inX.2.2⟩, ty := fun q hq => ?_, lo := fun q hq => ?_ }
  · obtain ⟨a, b, c'⟩ := r1 h0; exact ⟨a, b, .inl c'⟩
  · rw [hL, usdL_ins]
    by_cases e : j = i
    · subst e
      rw [hi] at hj
      simp only [Option.some.injEq] at hj
      subst hj
      simp only [if_true, hp]
      exact hld
    · have := r2 j r' e hj
      simp only [e, if_false, hp]
      rw [if_neg (by omega), Int.add_zero]
      exact this
  · simp only [insI_ent]
    have hh := htb
    unfold putE at hh
    rw [if_pos hpz] at hh
    exact hh
  · have my := mem_insI.1 hy; clear hy; rcases my with rfl | hy
    · exact ⟨by rw [getM_put, if_pos rfl], hpl⟩
    · refine ⟨?_, r3 y hy⟩
      rw [getM_put, if_neg (fun e => hnew y hy e.symm)]
      exact (h.pol y hy).1
  · have my := mem_insI.1 hy; clear hy; rcases my with rfl | hy
    · exact .inr hq
    · exact .inl (h.polX y hy q hq)
  · have my := mem_insI.1 hy; clear hy; rcases my with rfl | hy
    · have mz := mem_insI.1 hz; clear hz; rcases mz with rfl | hz
      · exact absurd rfl hne
      · exact fun hz' => hYX q hq (h.polX z hz q hz')
    · have mz := mem_insI.1 hz; clear hz; rcases mz with rfl | hz
      · exact fun hz' => hYX q hz' (h.polX y hy q hq)
      · exact h.apart y hy z hz hne q hq
  · have my := mem_insI.1 hy; clear hy; rcases my with rfl | hy
    · have mz := mem_insI.1 hz; clear hz; rcases mz with rfl | hz
      · rfl
      · exact absurd he.symm (hnew z hz)
    · have mz := mem_insI.1 hz; clear hz; rcases mz with rfl | hz
      · exact absurd he (hnew y hy)
      · exact h.ids y hy z hz he
  · have my := mem_insI.1 hy; clear hy; rcases my with rfl | hy
    · simp only; omega
    · have := h.idlt y hy; simp only; omega
  · simp only
    have my := mem_insI.1 hy; clear hy; rcases my with rfl | hy
    · simp only at he ⊢
      have : j = i := by omega
      subst this
      rw [if_pos rfl, getM_put, if_pos rfl]
    · by_cases e : j = i
      · subst e
        rw [if_pos rfl, getM_put, if_neg (fun e => hnew y hy e.symm)]
        exact h.need j hj y hy he
      · rw [if_neg e]
        exact h.need j hj y hy he
  · simp only at hn ⊢
    by_cases e : j = i
    · subst e
      rw [if_pos rfl, getM_put] at hn
      split at hn
      · omega
      · have := h.nlt j hj id n hn; omega
    · rw [if_neg e] at hn
      have := h.nlt j hj id n hn; omega
  · rw [hL]
    have := h.li.take p v c k
    unfold takeN at this
    rwa [if_pos hc] at this
  · rcases hq with hq | hq
    · exact hty q hq
    · exact .of_PT (hpl.ty hq)
  · rcases hq with hq | hq
    · exact h.lo q hq
    · have := hY q hq; omega

/-- A cell of one was policed. -/
theorem NdX.judged (h : NdX w nd X lo rooms g) {p v c t clp : Int} {y0 : Ci} (hf : findI g.ci p v c = some y0) (hT : Step y0.Y w w1) (hpl : Pl w1 y0.pp y0.Y (alwaysC y0.x.k) (rulesT t clp y0.x.rs)) :
    NdX w1 nd X lo rooms { g with ci := setI g.ci p v c (fun y => ⟨newR t clp y.x, y.id, y.pp, y.Y⟩) } := by
  have hL : ({ g with ci := setI g.ci p v c (fun y => ⟨newR t clp y.x, y.id, y.pp, y.Y⟩) } : NdG).L = setC g.L p v c (newR t clp) := setI_x _ _ _ _ _ _ (fun y => rfl)
  obtain ⟨b1, b2, b3, b4⟩ := findI_some hf
  have hk0 : keyX p v c y0.x = true := keyX_iff.2 ⟨b2, b3, b4⟩
  have hone : ∀ y ∈ g.ci, keyX p v c y.x = true → y = y0 := fun y hy hk => h.key_one hy b1 hk hk0
  have hoth : ∀ y ∈ g.ci, keyX p v c y.x = false → y.id ≠ y0.id := fun y hy hk e => by
    have := h.ids y hy y0 b1 e; subst this; rw [hk] at hk0; cases hk0
  have no : ∀ q, tyO w q ≠ 381 + 2 → tyO w q ≠ 391 + 2 → tyO w q ≠ 443 + 2 → ¬ y0.Y q := fun q h1 h2 h3 hq => by
    have := h.t_pol b1 hq; omega
  have src : ∀ y ∈ setI g.ci p v c (fun y => ⟨newR t clp y.x, y.id, y.pp, y.Y⟩), ∃ z ∈ g.ci, z.id = y.id ∧ z.pp = y.pp ∧ z.Y = y.Y ∧ z.x.p = y.x.p ∧ z.x.k = y.x.k := fun y hy => by
    have my := mem_setI hy; clear hy; rcases my with ⟨hy, hk⟩ | ⟨z, hz, hk, rfl⟩
    · exact ⟨y, hy, rfl, rfl, rfl, rfl, rfl⟩
    · exact ⟨z, hz, rfl, rfl, rfl, rfl, rfl⟩
  have t1 := h.t_nd
  have t2 := h.t_tb
  have t3 := h.t_cm
  refine { own := h.own.step hT (no _ (by omega) (by omega) (by omega)), links := fun h0 => ?_, led := fun j r' hj => ?_, ledX := h.ledX, lgi := h.lgi, lmi := h.lmi, lmc := h.lmc, tab := ?_, cmap := h.cmap.step hT (no _ (by omega) (by omega) (by omega)), pol := fun y hy => ?_, polX := fun y hy q hq => ?_, apart := fun y hy z hz hne q hq => ?_, ids := fun y hy z hz he => ?_, idlt := fun y hy => ?_, need := fun j hj y hy he => ?_, nlt := h.nlt, li := ?_, inX := h.inX, ty := fun q hq => ?_, lo := h.lo }
  · obtain ⟨a, b, c'⟩ := h.links h0
    have t6 := h.t_lb h0
    exact ⟨a, b.step hT (no _ (by omega) (by omega) (by omega)), c'⟩
  · have hl := (List.getElem?_eq_some_iff.1 hj).1
    have t6 := h.t_lg hl
    have t7 := h.t_lm hl
    rw [hL, usdL_same _ _ _ _ (newR t clp) (fun x => ⟨rfl, rfl⟩)]
    exact (h.led j r' hj).step hT (no _ (by omega) (by omega) (by omega)) (no _ (by omega) (by omega) (by omega))
  · simp only
    rw [setI_ent _ _ _ _ (fun y => ⟨newR t clp y.x, y.id, y.pp, y.Y⟩) (fun y => rfl)]
    exact h.tab.step hT (no _ (by omega) (by omega) (by omega))
  · have my := mem_setI hy; clear hy; rcases my with ⟨hy, hk⟩ | ⟨z, hz, hk, rfl⟩
    · exact ⟨(h.pol y hy).1, (h.pol y hy).2.step hT (fun q hq => h.apart y hy y0 b1 (hoth y hy hk) q hq)⟩
    · have := hone z hz hk
      subst this
      exact ⟨(h.pol z hz).1, hpl⟩
  · obtain ⟨z, hz, e1, e2, e3, e4, e5⟩ := src y hy
    exact h.polX z hz q (by rw [e3]; exact hq)
  · obtain ⟨y', hy', e1, e2, e3, e4, e5⟩ := src y hy
    obtain ⟨z', hz', f1, f2, f3, f4, f5⟩ := src z hz
    have := h.apart y' hy' z' hz' (by rw [e1, f1]; exact hne) q (by rw [e3]; exact hq)
    rwa [f3] at this
  · have my := mem_setI hy; clear hy; rcases my with ⟨hy, hk⟩ | ⟨y', hy', hk, rfl⟩
    · have mz := mem_setI hz; clear hz; rcases mz with ⟨hz, hk'⟩ | ⟨z', hz', hk', rfl⟩
      · exact h.ids y hy z hz he
      · have := hone z' hz' hk'
        subst this
        exact absurd he (hoth y hy hk)
    · have mz := mem_setI hz; clear hz; rcases mz with ⟨hz, hk'⟩ | ⟨z', hz', hk', rfl⟩
      · have := hone y' hy' hk
        subst this
        exact absurd he.symm (hoth z hz hk')
      · rw [hone y' hy' hk, hone z' hz' hk']
  · obtain ⟨z, hz, e1, e2, e3, e4, e5⟩ := src y hy
    have := h.idlt z hz
    rwa [e1] at this
  · obtain ⟨z, hz, e1, e2, e3, e4, e5⟩ := src y hy
    have := h.need j hj z hz (by rw [e4]; exact he)
    rwa [e1, e5] at this
  · rw [hL]; exact h.li.verdict p v c t clp
  · by_cases e : y0.Y q
    · exact .of_PT (hpl.ty e)
    · exact (h.ty q hq).step hT e
end
end Go.Proofs.YtcablikikkmfjaaGreat
end

section
/- Layer 20: what the walks of a node's functions need. -/
set_option linter.unusedVariables false
set_option linter.unusedSimpArgs false
namespace Go.Proofs.YtcablikikkmfjaaGreat
open Go.Vc Go.RowKit
section
variable {w w1 : World} {F : Nat → Prop} {nd lo : Nat} {X : Nat → Prop} {rooms : List Int} {g : NdG}
theorem NdX.five (h : NdX w nd X lo rooms g) {i : Nat} (hi : i < rooms.length) : nd ≠ g.tb ∧ nd ≠ g.cm ∧ nd ≠ g.lg i ∧ nd ≠ g.lm i ∧ g.tb ≠ g.cm ∧ g.tb ≠ g.lg i ∧ g.tb ≠ g.lm i ∧ g.cm ≠ g.lg i ∧ g.cm ≠ g.lm i ∧ g.lg i ≠ g.lm i := by
  have t1 := h.t_nd
  have t2 := h.t_tb
  have t3 := h.t_cm
  have t4 := h.t_lg hi
  have t5 := h.t_lm hi
  refine ⟨?_, ?_, ?_, ?_, ?_, ?_, ?_, ?_, fun e => h.lmc i hi e.symm, ?_⟩ <;> intro e
  · rw [e] at t1; omega
  · rw [e] at t1; omega
  · rw [e] at t1; omega
  · rw [e] at t1; omega
  · rw [e] at t2; omega
  · rw [e] at t2; omega
  · rw [e] at t2; omega
  · rw [e] at t3; omega
  · rw [e] at t4; omega
theorem fiveF_X (h : NdX w nd X lo rooms g) {i : Nat} (hi : i < rooms.length) : ∀ k, fiveF nd g i k → X k := by
  rintro k (rfl | rfl | rfl | rfl | rfl)
  · exact h.inX.1
  · exact h.inX.2.1
  · exact h.inX.2.2
  · exact (h.ledX i hi).1
  · exact (h.ledX i hi).2
theorem stepG_no {i : Nat} {w2 : World} (h : Step (fiveF nd g i) w w1) (k : Step No w1 w2) : Step (fiveF nd g i) w w2 := Step.trans h k.weak
theorem NdX.row (h : NdX w nd X lo rooms g) {i : Nat} (hi : i < rooms.length) : ((List.range rooms.length).map g.lg)[i]? = some (g.lg i) := by simp [hi]
theorem lgc_len (a : Nat) : (lgc a).length = 1 := rfl
theorem lgc_one (a : Nat) : ∀ u ∈ lgc a, oneC u = true := by intro u hu; simp only [lgc, List.mem_singleton] at hu; subst hu; rfl
/-- A node with so many connections; so many numbers were given at most. -/
def NdP (w : World) (nd : Nat) (X : Nat → Prop) (lo : Nat) (rooms : List Int) (L : List Cx) (n : Nat) : Prop := ∃ g, NdX w nd X lo rooms g ∧ g.L = L ∧ g.next ≤ n
theorem wrong_out {rooms : List Int} {p v c : Int} {k : Con} (h : ¬ (0 ≤ p ∧ p < rooms.length)) : 3 = wrongN rooms p v c k := by unfold wrongN; rw [if_neg (fun e => h e.1)]
theorem wrong_r {rooms : List Int} {p v c : Int} {k : Con} (h : rightB p v c = false) : 3 = wrongN rooms p v c k := by unfold wrongN; rw [if_neg (fun e => by rw [e.2.1] at h; cases h)]
theorem wrong_c {rooms : List Int} {p v c : Int} {k : Con} (h : c < 32) : 3 = wrongN rooms p v c k := by unfold wrongN; rw [if_neg (fun e => by have := e.2.2; omega)]
theorem wrong_k {rooms : List Int} {p v c : Int} {k : Con} {i : Nat} (hp : p = (i : Int)) (hi : i < rooms.length) (h1 : rightB p v c = true) (h2 : ¬ c < 32) (h3 : ¬ rightC k = 0) : 73 = wrongN rooms p v c k := by unfold wrongN; rw [if_pos ⟨⟨by omega, by omega⟩, h1, by omega⟩, if_neg h3]
theorem wrong_0 {rooms : List Int} {p v c : Int} {k : Con} {i : Nat} (hp : p = (i : Int)) (hi : i < rooms.length) (h1 : rightB p v c = true) (h2 : ¬ c < 32) (h3 : rightC k = 0) : 0 = wrongN rooms p v c k := by unfold wrongN; rw [if_pos ⟨⟨by omega, by omega⟩, h1, by omega⟩, if_pos h3]
theorem chk_w {rooms : List Int} {L : List Cx} {p v c : Int} {k : Con} (h : ¬ wrongN rooms p v c k = 0) : wrongN rooms p v c k = chkN rooms L p v c k := by unfold chkN; rw [if_neg h]
theorem chk_35 {rooms : List Int} {p v c : Int} {k : Con} (h : wrongN rooms p v c k = 0) (h1 : (lookE (g.ci.map Ci.ent) p v c).isSome = true) : 35 = chkN rooms g.L p v c k := by unfold chkN; rw [if_pos h, if_pos (by rw [← lookE_isSome]; exact h1)]
theorem chk_47 {rooms : List Int} {p v c : Int} {k : Con} (h : wrongN rooms p v c k = 0) (h1 : (lookE (g.ci.map Ci.ent) p v c).isSome = false) (h2 : (((g.ci.map Ci.ent).length : Nat) : Int) ≥ 64) : 47 = chkN rooms g.L p v c k := by
  unfold chkN; rw [if_pos h, if_neg (by rw [← lookE_isSome, h1]; decide), if_pos (by unfold NdG.L; simp only [List.length_map] at h2 ⊢; omega)]
theorem left_at {rooms : List Int} {L : List Cx} {p : Int} {i : Nat} {r : Int} (hp : p = (i : Int)) (hi : rooms[i]? = some r) : leftN rooms L p = r - usdL L (i : Int) := by rw [hp]; exact leftN_at hi
theorem chk_37 {rooms : List Int} {p v c : Int} {k : Con} {i : Nat} {r : Int} (hp : p = (i : Int)) (hi : rooms[i]? = some r) (h : wrongN rooms p v c k = 0) (h1 : (lookE (g.ci.map Ci.ent) p v c).isSome = false) (h2 : ¬ (((g.ci.map Ci.ent).length : Nat) : Int) ≥ 64) (h3 : needC k > r - usdL g.L (i : Int)) : 37 = chkN rooms g.L p v c k := by
  unfold chkN; rw [if_pos h, if_neg (by rw [← lookE_isSome, h1]; decide), if_neg (by unfold NdG.L; simp only [List.length_map] at h2 ⊢; omega), if_pos (by rw [left_at hp hi]; exact h3)]
theorem chk_0 {rooms : List Int} {p v c : Int} {k : Con} {i : Nat} {r : Int} (hp : p = (i : Int)) (hi : rooms[i]? = some r) (h : wrongN rooms p v c k = 0) (h1 : (lookE (g.ci.map Ci.ent) p v c).isSome = false) (h2 : ¬ (((g.ci.map Ci.ent).length : Nat) : Int) ≥ 64) (h3 : ¬ needC k > r - usdL g.L (i : Int)) : 0 = chkN rooms g.L p v c k := by
  unfold chkN; rw [if_pos h, if_neg (by rw [← lookE_isSome, h1]; decide), if_neg (by unfold NdG.L; simp only [List.length_map] at h2 ⊢; omega), if_neg (by rw [left_at hp hi]; exact h3)]
/-- What lies at a key that is there. -/
theorem NdX.there (h : NdX w nd X lo rooms g) {p v c : Int} (h1 : (lookE (g.ci.map Ci.ent) p v c).isSome = true) : ∃ (y : Ci) (i : Nat) (r : Int), findI g.ci p v c = some y ∧ y ∈ g.ci ∧ lookE (g.ci.map Ci.ent) p v c = some y.id ∧ p = (i : Int) ∧ i < rooms.length ∧ rooms[i]? = some r ∧ Ld w (g.lg i) (g.lm i) r (usdL g.L i) (g.N i) ∧ getM (g.N i) y.id = some (needC y.x.k) ∧ getM g.M y.id = some (y.x.k, y.pp) ∧ Pl w y.pp y.Y (alwaysC y.x.k) y.x.rs ∧ findC g.L p v c = some y.x ∧ 0 ≤ usdL g.L i ∧ usdL g.L i ≤ r ∧ r ≤ 1152921504606846976 ∧ needC y.x.k ≤ usdL g.L i := by
  rw [lookE_map] at h1
  cases e : findI g.ci p v c with
  | none => rw [e] at h1; cases h1
  | some y =>
    obtain ⟨b1, b2, b3, b4⟩ := findI_some e
    have hx : y.x ∈ g.L := List.mem_map_of_mem b1
    obtain ⟨k1, k2, k3, k4⟩ := h.li.key y.x hx
    obtain ⟨i, r, e1, e2, e3⟩ := port_nat k1
    have hp : p = (i : Int) := by omega
    refine ⟨y, i, r, rfl, b1, by rw [lookE_map, e]; rfl, hp, e2, e3, h.led i r e3, h.need i e2 y b1 (by omega), (h.pol y b1).1, (h.pol y b1).2, by unfold NdG.L; rw [findI_map, e]; rfl, usdL_nonneg _ _, h.li.fit i r e3, (h.li.rooms r (List.mem_of_getElem? e3)).2, ?_⟩
    have := usdL_mem hx
    rw [e1] at this
    exact this
theorem setC_none {L : List Cx} {p v c : Int} {f : Cx → Cx} (h : findC L p v c = none) : setC L p v c f = L := by
  unfold setC
  conv => rhs; rw [← List.map_id L]
  apply List.map_congr_left
  intro x hx
  rw [if_neg (fun e => findC_none.1 h x hx (keyX_iff.1 e))]; rfl
end
end Go.Proofs.YtcablikikkmfjaaGreat
end

section
/- Layer 20: a node is asked, turned. -/
set_option linter.unusedVariables false
set_option linter.unusedSimpArgs false
set_option maxRecDepth 100000
set_option maxHeartbeats 4000000
namespace Go.Proofs.YtcablikikkmfjaaGreat
open Go.Vc Go.RowKit
theorem TAdcaa {P : Prop} (h : P := by first | exact chk_w (by assumption) | exact chk_35 (by assumption) (by assumption) | exact chk_47 (by assumption) (by assumption) (by assumption) | exact chk_37 hp hir (by assumption) (by assumption) (by assumption) (by assumption) | exact chk_0 hp hir (by assumption) (by assumption) (by assumption) (by assumption)) : P := h
theorem TAdcab {P : Prop} (h : P := by first | exact wrong_r (by assumption) | exact wrong_c (by assumption) | exact wrong_k hp hil (by assumption) (by assumption) (by assumption) | exact wrong_0 hp hil (by assumption) (by assumption) (by assumption)) : P := h

theorem link_raw (nd : Nat) (rooms : List Int) (g : NdG) (x1 x2 x3 : Value) (p : Int) (i : Nat) (hp : p = (i : Int)) (hi : i < rooms.length) (w : World) (hnd : Own w nd #[.slice (some ⟨g.lb, 0, none⟩) rooms.length g.lc, x1, x2, x3] 237) (hrw : RowE w g.lb 238 (flat lgc ((List.range rooms.length).map g.lg))) :
  CV Tryz.prog 113 #[Pt nd 0, I6 p] w (fun x w1 => x = Pt (g.lg i) 0 ∧ Step No w w1) := by
 have hS : Step No w w := Step.refl _ _
 have hrow := hrw.sl
 have hgi : ((List.range rooms.length).map g.lg)[i]? = some (g.lg i) := by simp [hi]
 refine VCe Tryz.func113 (Vrp (Vs (Vs (Vr (Vp 7 (Vkn 11 (decide (p < 0)) false (decide_eq_false (by omega)) (Vl 11 hnd (Ve (Vn (Viz (b := decide (p ≥ ((rooms.length : Nat) : Int))) (decide_eq_false (by omega)) (VC_skip (Vn (Vs (Vr (Vl 3 hnd (Vp 5 (VL_index (d := 25) (b := g.lb) (o := 0) (len := rooms.length) (sz := 1) (m := p) (by kernel_rfl) (by kernel_rfl) i hp (by omega) i (by omega) (Vla 6 (t := 238) (a := ⟨g.lb, i, none⟩) (v := .pointer (some ⟨(g.lg i), 0, none⟩)) (Sl.flatOne (sz := 1) (Sl2.sl hrow) lgc_len hgi 0 (by rfl) (by decide) (by kernel_rfl) _ (by first | rfl | omega)) (Ve (Vn (VC_ret ?_)))))))))))))))))))))
 refine Vr1 (.pointer (some ⟨(g.lg i), 0, none⟩)) ?_
 exact ⟨rfl, hS⟩

theorem link_in (nd lo : Nat) (X : Nat → Prop) (rooms : List Int) (g : NdG) (p : Int) (i : Nat) (hp : p = (i : Int)) (hi : i < rooms.length) (w : World) (h : NdX w nd X lo rooms g) : CV Tryz.prog 113 #[.pointer (some ⟨nd, 0, none⟩), .int .i64 p] w fun x w1 => x = .pointer (some ⟨g.lg i, 0, none⟩) ∧ Step No w w1 := by
  obtain ⟨hla, hrw, _⟩ := h.links (by omega)
  have hnd := h.own
  rw [hla] at hnd
  exact link_raw nd rooms g _ _ _ p i hp hi w hnd hrw
theorem link_out (nd lo : Nat) (X : Nat → Prop) (rooms : List Int) (g : NdG) (p : Int) (hp : ¬ (0 ≤ p ∧ p < rooms.length)) (w : World) (h : NdX w nd X lo rooms g)  :
  CV Tryz.prog 113 #[Pt nd 0, I6 p] w (fun x w1 => x = .pointer none ∧ Step No w w1) := by
 have hS : Step No w w := Step.refl _ _
 have hnd := h.own
 refine VCe Tryz.func113 (Vrp (Vs (Vs (Vr (VL_pure 7 [0, 1, 11] [(0, Pt nd 0), (1, I6 p), (11, Bo (decide (p < 0)))] (by kernel_rfl) rfl (VL_dec (p < 0) (fun bV => [(0, Pt nd 0), (1, I6 p), (11, Bo bV)]) rfl (fun hg1 => ?_) (fun hg1 => ?_)))))))
 ·refine Ve (Vn (Vt (Vrp (VC_ret (VQ_then_ret (Vr1 (.pointer none) ?_))))))
  exact ⟨rfl, hS⟩
 ·refine Vl 11 hnd (Ve (Vn (Vit (b := decide (p ≥ ((rooms.length : Nat) : Int))) (decide_eq_true (by omega)) (Vrp (VC_ret (VQ_then_ret (Vr1 (.pointer none) ?_)))))))
  exact ⟨rfl, hS⟩

theorem wrong_in (nd lo : Nat) (X : Nat → Prop) (rooms : List Int) (g : NdG) (p v c : Int) (k : Con) (i : Nat) (hp : p = (i : Int)) (hil : i < rooms.length) (w : World) (h : NdX w nd X lo rooms g)  :
  CV Tryz.prog 186 #[Pt nd 0, .agg #[I6 p, I6 v, I6 c], .agg #[I6 k.kind, I6 k.peak, I6 k.early, I6 k.whole, I6 k.burst, I6 k.least]] w (fun x w1 => x = I6 (wrongN rooms p v c k) ∧ Step No w w1) := by
 have hS : Step No w w := Step.refl _ _
 have hSn : Step No w w := Step.refl _ _
 refine VCe Tryz.func186 (Vs (Vr ?_))
 refine Vx 0 34 #[I6 p, I6 v, I6 c] ?_
 intro b1 w1 hn1
 replace hS := Step.trans hS (hn1.step No)
 replace hSn := Step.trans hSn (hn1.step No)
 have ho1 := hn1.own
 refine Vx 1 23 #[I6 k.kind, I6 k.peak, I6 k.early, I6 k.whole, I6 k.burst, I6 k.least] ?_
 intro b2 w2 hn2
 replace hS := Step.trans hS (hn2.step No)
 replace hSn := Step.trans hSn (hn2.step No)
 replace ho1 := ho1.no (hn2.step No)
 have ho2 := hn2.own
 refine Ve (Vn (Vs (VC_block (Vs (Vr (Vl 2 ho1 ?_))))))
 refine Vc 3 Tryz.call113 (link_in nd lo X rooms g p i hp hil _ (h.no hSn)) ?_
 rintro _ w3 ⟨rfl, hc1⟩
 replace hS := Step.trans hS hc1
 replace ho1 := ho1.no hc1
 replace ho2 := ho2.no hc1
 refine Vl 6 ho1 ?_
 refine Vc 7 Tryz.call56 (right_any p v c _) ?_
 rintro _ w4 ⟨rfl, hc2⟩
 replace hS := Step.trans hS hc2
 replace ho1 := ho1.no hc2
 replace ho2 := ho2.no hc2
 refine VL_pure 11 [4, 5, 18] [(4, Pt b1 0), (5, Pt b2 0), (18, Bo (!(rightB p v c)))] (by kernel_rfl) rfl (VL_bool (rightB p v c) (fun bV => [(4, Pt b1 0), (5, Pt b2 0), (18, Bo (!bV))]) rfl (fun hg1 => ?_) (fun hg1 => ?_))
 ·refine Vl 12 ho1 (Ve (Vn (Vid (c < 32) (fun h1 => ?_) (fun h1 => ?_))))
  ·refine Vrp (VC_ret (VQ_block_ret (VQ_then_ret (Vr1 (I6 3) ?_))))
   exact ⟨congrArg (Value.int .i64) TAdcab, hS⟩
  ·refine Vs (Vr (Vl 0 ho2 ?_))
   refine Vc 1 Tryz.call18 (cright_any k _) ?_
   rintro _ w5 ⟨rfl, hc3⟩
   replace hS := Step.trans hS hc3
   refine Ve (Vn (Viu (rightC k) 0 (fun h2 => ?_) (fun h2 => ?_)))
   ·refine Vrp (VC_ret (VQ_block_ret (VQ_then_ret (Vr1 (I6 73) ?_))))
    exact ⟨congrArg (Value.int .i64) TAdcab, hS⟩
   ·refine VC_skip (VQ_block_normal (Vn (Vrp (VC_ret (Vr1 (I6 0) ?_)))))
    exact ⟨congrArg (Value.int .i64) TAdcab, hS⟩
 ·refine Ve (Vn (Vt (Vrp (VC_ret (VQ_block_ret (VQ_then_ret (Vr1 (I6 3) ?_)))))))
  exact ⟨congrArg (Value.int .i64) TAdcab, hS⟩

theorem wrong_ou (nd lo : Nat) (X : Nat → Prop) (rooms : List Int) (g : NdG) (p v c : Int) (k : Con) (hp : ¬ (0 ≤ p ∧ p < rooms.length)) (w : World) (h : NdX w nd X lo rooms g)  :
  CV Tryz.prog 186 #[Pt nd 0, .agg #[I6 p, I6 v, I6 c], .agg #[I6 k.kind, I6 k.peak, I6 k.early, I6 k.whole, I6 k.burst, I6 k.least]] w (fun x w1 => x = I6 (wrongN rooms p v c k) ∧ Step No w w1) := by
 have hS : Step No w w := Step.refl _ _
 have hSn : Step No w w := Step.refl _ _
 refine VCe Tryz.func186 (Vs (Vr ?_))
 refine Vx 0 34 #[I6 p, I6 v, I6 c] ?_
 intro b1 w1 hn1
 replace hS := Step.trans hS (hn1.step No)
 replace hSn := Step.trans hSn (hn1.step No)
 have ho1 := hn1.own
 refine Vx 1 23 #[I6 k.kind, I6 k.peak, I6 k.early, I6 k.whole, I6 k.burst, I6 k.least] ?_
 intro b2 w2 hn2
 replace hS := Step.trans hS (hn2.step No)
 replace hSn := Step.trans hSn (hn2.step No)
 replace ho1 := ho1.no (hn2.step No)
 refine Ve (Vn (Vs (VC_block (Vs (Vr (Vl 2 ho1 ?_))))))
 refine Vc 3 Tryz.call113 (link_out nd lo X rooms g p hp _ (h.no hSn)) ?_
 rintro _ w3 ⟨rfl, hc1⟩
 replace hS := Step.trans hS hc1
 refine Ve (Vn (Vt (Vrp (VC_ret (VQ_block_ret (VQ_then_ret (Vr1 (I6 3) ?_)))))))
 exact ⟨congrArg (Value.int .i64) (wrong_out hp), hS⟩

theorem wrong_any (nd lo : Nat) (X : Nat → Prop) (rooms : List Int) (g : NdG) (p v c : Int) (k : Con) (w : World) (h : NdX w nd X lo rooms g) : CV Tryz.prog 186 #[.pointer (some ⟨nd, 0, none⟩), .agg #[.int .i64 p, .int .i64 v, .int .i64 c], .agg #[.int .i64 k.kind, .int .i64 k.peak, .int .i64 k.early, .int .i64 k.whole, .int .i64 k.burst, .int .i64 k.least]] w fun x w1 => x = .int .i64 (wrongN rooms p v c k) ∧ Step No w w1 := by
  by_cases hp : 0 ≤ p ∧ p < rooms.length
  · obtain ⟨i, r, e, hil, hir⟩ := port_nat hp
    exact wrong_in nd lo X rooms g p v c k i e hil w h
  · exact wrong_ou nd lo X rooms g p v c k hp w h
theorem check_any (nd lo : Nat) (X : Nat → Prop) (rooms : List Int) (g : NdG) (p v c : Int) (k : Con) (w : World) (h : NdX w nd X lo rooms g)  :
  CV Tryz.prog 112 #[Pt nd 0, .agg #[I6 p, I6 v, I6 c], .agg #[I6 k.kind, I6 k.peak, I6 k.early, I6 k.whole, I6 k.burst, I6 k.least]] w (fun x w1 => x = I6 (chkN rooms g.L p v c k) ∧ Step No w w1) := by
 have hS : Step No w w := Step.refl _ _
 have hSn : Step No w w := Step.refl _ _
 have hnd := h.own
 have htab := h.tab
 refine VCe Tryz.func112 (Vs (Vr ?_))
 refine Vx 0 34 #[I6 p, I6 v, I6 c] ?_
 intro b1 w1 hn1
 replace hS := Step.trans hS (hn1.step No)
 replace hSn := Step.trans hSn (hn1.step No)
 replace hnd := hnd.no (hn1.step No)
 replace htab := Tb.no htab (hn1.step No)
 have ho1 := hn1.own
 have hzhn1 := hn1.size
 have hqhn1 := hn1.eqb
 refine Vx 1 23 #[I6 k.kind, I6 k.peak, I6 k.early, I6 k.whole, I6 k.burst, I6 k.least] ?_
 intro b2 w2 hn2
 replace hS := Step.trans hS (hn2.step No)
 replace hSn := Step.trans hSn (hn2.step No)
 replace hnd := hnd.no (hn2.step No)
 replace htab := Tb.no htab (hn2.step No)
 replace ho1 := ho1.no (hn2.step No)
 have ho2 := hn2.own
 have hzhn2 := hn2.size
 have hqhn2 := hn2.eqb
 refine Ve (Vn (Vs (Vs (Vr (Vl 1 ho1 (Vl 2 ho2 ?_))))))
 refine Vc 3 Tryz.call186 (wrong_any nd lo X rooms g p v c k _ (h.no hSn)) ?_
 rintro _ w3 ⟨rfl, hc1⟩
 replace hS := Step.trans hS hc1
 replace hSn := Step.trans hSn hc1
 replace hnd := hnd.no hc1
 replace htab := Tb.no htab hc1
 replace ho1 := ho1.no hc1
 replace ho2 := ho2.no hc1
 refine Ve (Vn (Vrp (Viu (wrongN rooms p v c k) 0 (fun h1 => ?_) (fun h1 => ?_))))
 ·refine Vrp (VC_ret (VQ_then_ret (Vr1 (I6 (wrongN rooms p v c k)) ?_)))
  exact ⟨congrArg (Value.int .i64) TAdcaa, hS⟩
 ·refine VC_skip (Vn (Vs (Vs (Vd 10 [(3, Pt g.tb 0), (4, .agg #[I6 p, I6 v, I6 c]), (5, .tuple #[I6 ((lookE (g.ci.map Ci.ent) p v c).getD 0), Bo ((lookE (g.ci.map Ci.ent) p v c).isSome)])] [3, 4, 5] ?_ ?_))))
  ·intro w4 hs1
   replace hnd := hnd.no hs1
   replace htab := Tb.no htab hs1
   replace ho1 := ho1.no hs1
   exact ⟨Dl hnd, Dl ho1, Dc Tryz.call111 (tget p v c htab), trivial⟩
  intro w4 hs1
  replace hS := Step.trans hS hs1
  replace hSn := Step.trans hSn hs1
  replace hnd := hnd.no hs1
  replace htab := Tb.no htab hs1
  replace ho1 := ho1.no hs1
  replace ho2 := ho2.no hs1
  refine Ve (Vn (Vrp (Vif ((lookE (g.ci.map Ci.ent) p v c).isSome) (fun h2 => ?_) (fun h2 => ?_))))
  ·try simp only [BB] at h2
   refine Vrp (VC_ret (VQ_then_ret (Vr1 (I6 35) ?_)))
   exact ⟨congrArg (Value.int .i64) TAdcaa, hS⟩
  ·try simp only [BB] at h2
   refine VC_skip (Vn (Vs (VC_block (Vs (Vr (Vl 3 hnd ?_))))))
   refine Vc 4 Tryz.call187 (tlen htab) ?_
   rintro _ w5 ⟨rfl, hc2⟩
   replace hS := Step.trans hS hc2
   replace hSn := Step.trans hSn hc2
   replace ho1 := ho1.no hc2
   replace ho2 := ho2.no hc2
   refine Ve (Vn (Vid ((((g.ci.map Ci.ent).length : Nat) : Int) ≥ 64) (fun h3 => ?_) (fun h3 => ?_)))
   ·refine Vrp (VC_ret (VQ_block_ret (VQ_then_ret (Vr1 (I6 47) ?_))))
    exact ⟨congrArg (Value.int .i64) TAdcaa, hS⟩
   ·refine Vs ?_
    obtain ⟨⟨hp1, hp2⟩, hw2, hw3, hw4⟩ := wrongN_zero (show wrongN rooms p v c k = 0 by assumption)
    obtain ⟨i, r, hp, hil, hir⟩ := port_nat ⟨hp1, hp2⟩
    have hled : Ld w (g.lg i) (g.lm i) r (usdL g.L (i : Int)) (g.N i) := h.led i r hir
    have hu0 := usdL_nonneg g.L (i : Int)
    have hu1 := h.li.fit i r hir
    have hrM := (h.li.rooms r (List.mem_of_getElem? hir)).2
    replace hled := hled.no hSn
    have hs2 := drew_step w5
    have hs2z : w5.heap.size = w5.drew.heap.size := rfl
    refine Tx 5 (fun k => w5.heap.size ≤ k) [1] [0, 2, 3, 4, 1] ?_
    have hzl17 := ho2.lt
    generalize w5.drew = w6 at hs2 hs2z ⊢
    replace hS := Step.trans hS hs2
    replace hSn := Step.trans hSn hs2
    replace ho1 := ho1.no hs2
    replace ho2 := ho2.no hs2
    replace hled := Ld.no hled hs2
    refine Tl (fun w7 hr1 => ho2.step hr1 (by (try simp only); omega)) (Tp 2 (Tl (fun w8 hr2 => ho1.step hr2 (by (try simp only); omega)) (Th ?_)))
    intro w9 hs3
    replace hS := Step.trans hS hs3
    replace hSn := Step.trans hSn hs3
    replace hled := Ld.no hled hs3
    refine Tc Tryz.call39 (need_any k _) ?_ ?_
    ·rintro _ w10 ⟨rfl, hc3⟩
     exact Step.mono hc3 (by intro i hi; first | exact hi.elim | exact .inl hi | ((try simp only at hi ⊢); omega))
    rintro _ w10 ⟨rfl, hc3⟩
    replace hS := Step.trans hS hc3
    replace hSn := Step.trans hSn hc3
    replace hled := Ld.no hled hc3
    refine VT_end ?_
    intro w11 hs4
    replace hS := Step.trans hS hs4
    replace hSn := Step.trans hSn hs4
    replace hled := Ld.no hled hs4
    refine VL_keep [37, 39, 36] [(37, Pt nd 0), (39, I6 p), (36, I6 (needC k))] (by kernel_rfl) ?_
    refine VL_call (d := 40) (f := 113) (args := #[Pt nd 0, I6 p]) (by kernel_rfl) (by kernel_rfl) (by kernel_rfl) Tryz.call113 (link_in nd lo X rooms g p i hp hil _ (h.no hSn)) ?_
    rintro _ w12 ⟨rfl, hc4⟩
    replace hS := Step.trans hS hc4
    replace hled := Ld.no hled hc4
    refine VL_call (d := 41) (f := 188) (args := #[.pointer (some ⟨(g.lg i), 0, none⟩)]) (by kernel_rfl) (by kernel_rfl) (by kernel_rfl) Tryz.call188 (lleft_any (g.lg i) (g.lm i) r (usdL g.L (i : Int)) (g.N i) _ hled hu0 hu1 hrM) ?_
    rintro _ w13 ⟨rfl, hc5⟩
    replace hS := Step.trans hS hc5
    refine Ve (Vn (Vid ((needC k) > (r - usdL g.L (i : Int))) (fun h4 => ?_) (fun h4 => ?_)))
    ·refine Vrp (VC_ret (VQ_block_ret (VQ_then_ret (Vr1 (I6 37) ?_))))
     exact ⟨congrArg (Value.int .i64) TAdcaa, hS⟩
    ·refine VC_skip (VQ_block_normal (Vn (Vrp (VC_ret (Vr1 (I6 0) ?_)))))
     exact ⟨congrArg (Value.int .i64) TAdcaa, hS⟩

theorem nfind_any (nd lo : Nat) (X : Nat → Prop) (rooms : List Int) (g : NdG) (p v c : Int) (w : World) (h : NdX w nd X lo rooms g)  :
  CV Tryz.prog 151 #[Pt nd 0, .agg #[I6 p, I6 v, I6 c]] w (fun x w1 => x = .tuple #[I6 ((lookE (g.ci.map Ci.ent) p v c).getD 0), Bo (lookE (g.ci.map Ci.ent) p v c).isSome] ∧ Step No w w1) := by
 have hS : Step No w w := Step.refl _ _
 have hnd := h.own
 have htab := h.tab
 refine VCe Tryz.func151 (Vs (Vr ?_))
 refine Vx 0 34 #[I6 p, I6 v, I6 c] ?_
 intro b1 w1 hn1
 replace hS := Step.trans hS (hn1.step No)
 replace hnd := hnd.no (hn1.step No)
 replace htab := Tb.no htab (hn1.step No)
 have ho1 := hn1.own
 refine Ve (Vn (Vs (Vrp (Vf (VC_skip (Vn (Vs (Vd 8 [(3, Pt g.tb 0), (4, .agg #[I6 p, I6 v, I6 c]), (5, .tuple #[I6 ((lookE (g.ci.map Ci.ent) p v c).getD 0), Bo ((lookE (g.ci.map Ci.ent) p v c).isSome)])] [3, 4, 5] ?_ ?_))))))))
 ·intro w2 hs1
  replace hnd := hnd.no hs1
  replace htab := Tb.no htab hs1
  replace ho1 := ho1.no hs1
  exact ⟨Dl hnd, Dl ho1, Dc Tryz.call111 (tget p v c htab), trivial⟩
 intro w2 hs1
 replace hS := Step.trans hS hs1
 refine Ve (Vn (VC_ret (Vr2 (I6 ((lookE (g.ci.map Ci.ent) p v c).getD 0)) (Bo ((lookE (g.ci.map Ci.ent) p v c).isSome)) ?_)))
 exact ⟨rfl, hS⟩

end Go.Proofs.YtcablikikkmfjaaGreat
end

section
/- Layer 20: a node is turned. -/
set_option linter.unusedVariables false
set_option linter.unusedSimpArgs false
set_option maxRecDepth 100000
set_option maxHeartbeats 4000000
namespace Go.Proofs.YtcablikikkmfjaaGreat
open Go.Vc Go.RowKit
theorem TAdeaa {P : Prop} (h : P := by intro i hi; first | exact hi.elim | exact .inl hi | ((try simp only at hi ⊢); omega)) : P := h

theorem nput_any (nd cm : Nat) (x0 x1 x3 : Value) (M : List (Int × (Con × Nat))) (id : Int) (k : Con) (hr : rightC k = 0) (w : World) (hnd : Own w nd #[x0, x1, .map (some cm), x3] 237) (hcm : MapL w cm ei uc M) :
  CV Tryz.prog 115 #[Pt nd 0, I6 id, .agg #[I6 k.kind, I6 k.peak, I6 k.early, I6 k.whole, I6 k.burst, I6 k.least]] w (fun x w1 => ∃ pp Y, x = .tuple #[] ∧ (∀ q, Y q → w.heap.size ≤ q) ∧ Pl w1 pp Y (alwaysC k) (rulesC k) ∧ MapL w1 cm ei uc (putM M id (k, pp)) ∧ Step (Just cm) w w1) := by
 have hS : Step (Just cm) w w := Step.refl _ _
 have hml := hcm.lt
 refine VCe Tryz.func115 (Vs (Vr ?_))
 refine Vx 0 23 #[I6 k.kind, I6 k.peak, I6 k.early, I6 k.whole, I6 k.burst, I6 k.least] ?_
 intro b1 w1 hn1
 replace hS := Step.trans hS (Step.weak (hn1.step No))
 replace hnd := hnd.no (hn1.step No)
 replace hcm := MapL.no hcm (hn1.step No)
 have ho1 := hn1.own
 have hzhn1 := hn1.size
 have hqhn1 := hn1.eqb
 refine Ve (Vn (Vs (Vr (Vl 0 ho1 ?_))))
 refine Vc 1 Tryz.call189 (pnew_any k hr _) ?_
 rintro _ w2 ⟨pp9, Y9, rfl, hY9, hPl, hc1⟩
 replace hS := Step.trans hS (Step.weak hc1)
 replace hnd := hnd.no hc1
 replace hcm := MapL.no hcm hc1
 replace ho1 := ho1.no hc1
 replace hY9 : ∀ q, Y9 q → w.heap.size ≤ q := fun q hq => by have h9 := hY9 q hq; omega
 refine Ve (Vn ?_)
 have hs1 := drew_step w2
 have hs1z : w2.heap.size = w2.drew.heap.size := rfl
 refine Tx 8 (fun k => w2.heap.size ≤ k) [] [0, 1, 2, 3, 4, 5, 6, 7] ?_
 have hzl6 := hnd.lt
 have hzl8 := ho1.lt
 generalize w2.drew = w3 at hs1 hs1z ⊢
 replace hS := Step.trans hS (Step.weak hs1)
 replace hnd := hnd.no hs1
 replace hcm := MapL.no hcm hs1
 replace ho1 := ho1.no hs1
 replace hPl := Pl.no hPl hs1
 refine Tp 3 (Tl (fun w4 hr1 => hnd.step hr1 (by (try simp only); omega)) (Tp 1 (Tl (fun w5 hr2 => ho1.step hr2 (by (try simp only); omega)) (Tp 2 (VT_end ?_)))))
 intro w6 hs2
 replace hS := Step.trans hS (Step.weak hs2)
 replace hcm := MapL.no hcm hs2
 replace hPl := Pl.no hPl hs2
 refine VL_upd (ek := ei) (u := uc) (m := cm) (kt := 3) (k := id) (v := (k, pp9)) (by kernel_rfl) (by kernel_rfl) keyTi hcm ?_
 intro w7 hw1
 replace hS := Step.trans hS (Step.mono hw1.step (by intro i hi; first | exact hi | exact ⟨_, by assumption, hi⟩ | (have hi9 : i = cm := hi; (first | show _ ∨ _ | show _ = _); omega)))
 replace hPl := Pl.step hPl hw1.step (fun q9 hq9 hF9 => by have h9 := hY9 q9 hq9; have hF8 : q9 = cm := hF9; omega)
 have hM1 := hw1.map
 refine Ve (Vr0 ?_)
 exact ⟨pp9, Y9, rfl, hY9, hPl, hM1, hS⟩

theorem take_yes (nd lo : Nat) (X : Nat → Prop) (rooms : List Int) (g : NdG) (p v c : Int) (k : Con) (hnx : g.next < 1152921504606846976) (hc : chkN rooms g.L p v c k = 0) (w : World) (hlo : lo ≤ w.heap.size) (h : NdX w nd X lo rooms g)  :
  CV Tryz.prog 58 #[Pt nd 0, .agg #[I6 p, I6 v, I6 c], .agg #[I6 k.kind, I6 k.peak, I6 k.early, I6 k.whole, I6 k.burst, I6 k.least]] w (fun x w1 => x = I6 0 ∧ ∃ g9 X9, NdX w1 nd X9 lo rooms g9 ∧ g9.L = takeN rooms g.L p v c k ∧ g9.next ≤ g.next + 1 ∧ (∀ q, X9 q → X q ∨ w.heap.size ≤ q) ∧ Step X w w1) := by
 obtain ⟨hw, hfn, hlt, hfit0⟩ := chkN_zero hc
 obtain ⟨⟨hp1, hp2⟩, hw2, hw3, hr⟩ := wrongN_zero hw
 obtain ⟨i, r, hp, hil, hir⟩ := port_nat ⟨hp1, hp2⟩
 have hu0 := usdL_nonneg g.L (i : Int)
 obtain ⟨hla, hrw, hxb⟩ := h.links (by omega)
 have hnd := h.own
 rw [hla] at hnd
 have htab := h.tab
 have hled : Ld w (g.lg i) (g.lm i) r (usdL g.L (i : Int)) (g.N i) := h.led i r hir
 have hu1 := h.li.fit i r hir
 have hrM := (h.li.rooms r (List.mem_of_getElem? hir)).2
 have hcm := h.cmap
 have hS : Step (fiveF nd g i) w w := Step.refl _ _
 have hSn : Step No w w := Step.refl _ _
 obtain ⟨n1, n2, n3, n4, n5, n6, n7, n8, n9, n10⟩ := h.five hil
 have hnl := hnd.lt
 have htl := htab.lt
 have hll := hled.lt
 have hb5 : g.lb ≠ nd ∧ g.lb ≠ g.tb ∧ g.lb ≠ g.cm ∧ g.lb ≠ g.lg i ∧ g.lb ≠ g.lm i := by have t1 := h.t_nd; have t2 := h.t_tb; have t3 := h.t_cm; have t4 := h.t_lg hil; have t5 := h.t_lm hil; have t6 := h.t_lb (by omega); refine ⟨?_, ?_, ?_, ?_, ?_⟩ <;> (intro e; rw [e] at t6; omega)
 have hfit : needC k ≤ r - usdL g.L (i : Int) := by rw [← left_at hp hir]; exact hfit0
 have hnone : getM (g.N i) ((g.next : Nat) : Int) = none := by cases e9 : getM (g.N i) ((g.next : Nat) : Int) with | none => rfl | some n9 => exact absurd (h.nlt i hil _ _ e9) (by omega)
 refine VCe Tryz.func58 (Vs (Vr ?_))
 refine Vx 0 34 #[I6 p, I6 v, I6 c] ?_
 intro b1 w1 hn1
 replace hSn := Step.trans hSn (hn1.step No)
 replace hS := stepG_no hS (hn1.step No)
 replace hnd := hnd.no (hn1.step No)
 replace hrw := RowE.no hrw (hn1.step No)
 replace htab := Tb.no htab (hn1.step No)
 replace hled := Ld.no hled (hn1.step No)
 replace hcm := MapL.no hcm (hn1.step No)
 have ho1 := hn1.own
 have hzhn1 := hn1.size
 have hqhn1 := hn1.eqb
 refine Vx 1 23 #[I6 k.kind, I6 k.peak, I6 k.early, I6 k.whole, I6 k.burst, I6 k.least] ?_
 intro b2 w2 hn2
 replace hSn := Step.trans hSn (hn2.step No)
 replace hS := stepG_no hS (hn2.step No)
 replace hnd := hnd.no (hn2.step No)
 replace hrw := RowE.no hrw (hn2.step No)
 replace htab := Tb.no htab (hn2.step No)
 replace hled := Ld.no hled (hn2.step No)
 replace hcm := MapL.no hcm (hn2.step No)
 replace ho1 := ho1.no (hn2.step No)
 have ho2 := hn2.own
 have hzhn2 := hn2.size
 have hqhn2 := hn2.eqb
 refine Ve (Vn (Vs (Vs (Vr (Vl 1 ho1 (Vl 2 ho2 ?_))))))
 refine Vc 3 Tryz.call112 ((check_any nd lo X rooms g p v c k _ (h.no hSn)).mono (fun x w1 h9 => ⟨h9.1.trans (by rw [hc]), h9.2⟩ : ∀ x w1, _ → x = I6 0 ∧ Step No _ w1)) ?_
 rintro _ w3 ⟨rfl, hc1⟩
 replace hS := stepG_no hS hc1
 replace hnd := hnd.no hc1
 replace hrw := RowE.no hrw hc1
 replace htab := Tb.no htab hc1
 replace hled := Ld.no hled hc1
 replace hcm := MapL.no hcm hc1
 replace ho1 := ho1.no hc1
 replace ho2 := ho2.no hc1
 refine Ve (Vn (Vrp (Vf (VC_skip (Vn (Vs (Vr (Vl 3 hnd (Ve (Vn (Vs (Vr (Vl 3 hnd (Vp 5 ?_))))))))))))))
 have he1 : IntKind.wrap .i64 (((g.next : Nat) : Int) + 1) = ((g.next + 1 : Nat) : Int) := (by rw [wrap_i64 _ (by omega) (by omega)]; omega)
 refine Vq 24 (I6 (IntKind.wrap .i64 (((g.next : Nat) : Int) + 1))) (I6 ((g.next + 1 : Nat) : Int)) (by rw [he1]) (Vst 7 (o := 3) [I6 ((g.next + 1 : Nat) : Int)] hnd #[.slice (some ⟨g.lb, 0, none⟩) rooms.length g.lc, Pt g.tb 0, .map (some g.cm), I6 ((g.next + 1 : Nat) : Int)] ?_)
 intro w4 hw1
 replace hS := Step.trans hS (Step.mono hw1.step (fun i9 h9 => .inl h9))
 replace hrw := RowE.step hrw hw1.step (show ¬ g.lb = nd by omega)
 replace htab := Tb.step htab hw1.step (show ¬ g.tb = nd by omega)
 replace hled := Ld.step hled hw1.step (show ¬ g.lg i = nd by omega) (show ¬ g.lm i = nd by omega)
 replace hcm := MapL.step hcm hw1.step (show ¬ g.cm = nd by omega)
 replace ho1 := ho1.step hw1.step (show ¬ b1 = nd by omega)
 replace ho2 := ho2.step hw1.step (show ¬ b2 = nd by omega)
 have ho3 := hw1.own
 have hzhw1 := hw1.same
 refine Ve (Vn (Vs ?_))
 have hs1 := drew_step w4
 have hs1z : w4.heap.size = w4.drew.heap.size := rfl
 refine Tx 6 (fun k => w4.heap.size ≤ k) [] [0, 1, 2, 3, 4, 5] ?_
 have hzl24 := ho2.lt
 have hzl25 := ho3.lt
 generalize w4.drew = w5 at hs1 hs1z ⊢
 replace hS := stepG_no hS hs1
 replace hrw := RowE.no hrw hs1
 replace htab := Tb.no htab hs1
 replace hled := Ld.no hled hs1
 replace hcm := MapL.no hcm hs1
 replace ho1 := ho1.no hs1
 replace ho2 := ho2.no hs1
 replace ho3 := ho3.no hs1
 refine Tp 3 (Tl (fun w6 hr1 => ho3.step hr1 (by (try simp only); omega)) (Tl (fun w7 hr2 => ho1.step hr2 (by (try simp only); omega)) (Tp 1 (VT_end ?_))))
 intro w8 hs2
 replace hS := stepG_no hS hs2
 replace hrw := RowE.no hrw hs2
 replace htab := Tb.no htab hs2
 replace hled := Ld.no hled hs2
 replace hcm := MapL.no hcm hs2
 replace ho1 := ho1.no hs2
 replace ho2 := ho2.no hs2
 replace ho3 := ho3.no hs2
 refine VL_keep [0, 4, 5, 8, 30, 31, 32] [(0, Pt nd 0), (4, Pt b1 0), (5, Pt b2 0), (8, I6 ((g.next : Nat) : Int)), (30, Pt g.tb 0), (31, .agg #[I6 p, I6 v, I6 c]), (32, I6 ((g.next : Nat) : Int))] (by kernel_rfl) ?_
 refine VL_call (d := 33) (f := 61) (args := #[Pt g.tb 0, .agg #[I6 p, I6 v, I6 c], I6 ((g.next : Nat) : Int)]) (by kernel_rfl) (by kernel_rfl) (by kernel_rfl) Tryz.call61 (tput p v c ((g.next : Nat) : Int) htab) ?_
 rintro _ w9 ⟨rfl, hT1, hc2⟩
 replace hS := Step.trans hS (Step.mono hc2 (fun i9 h9 => .inr (.inl h9)))
 replace hrw := RowE.step hrw hc2 (show ¬ g.lb = g.tb by omega)
 replace hled := Ld.step hled hc2 (show ¬ g.lg i = g.tb by omega) (show ¬ g.lm i = g.tb by omega)
 replace hcm := MapL.step hcm hc2 (show ¬ g.cm = g.tb by omega)
 replace ho1 := ho1.step hc2 (show ¬ b1 = g.tb by omega)
 replace ho2 := ho2.step hc2 (show ¬ b2 = g.tb by omega)
 replace ho3 := ho3.step hc2 (show ¬ nd = g.tb by omega)
 refine Ve (Vn (Vs ?_))
 have hs3 := drew_step w9
 have hs3z : w9.heap.size = w9.drew.heap.size := rfl
 refine Tx 7 (fun k => w9.heap.size ≤ k) [3, 6] [0, 1, 2, 4, 5, 3, 6] ?_
 have hzl37 := ho2.lt
 generalize w9.drew = w10 at hs3 hs3z ⊢
 replace hS := stepG_no hS hs3
 replace hrw := RowE.no hrw hs3
 replace hled := Ld.no hled hs3
 replace hcm := MapL.no hcm hs3
 replace ho1 := ho1.no hs3
 replace ho2 := ho2.no hs3
 replace ho3 := ho3.no hs3
 replace hT1 := Tb.no hT1 hs3
 refine Tp 2 (Tl (fun w11 hr3 => ho1.step hr3 (by (try simp only); omega)) (Tp 1 (Tl (fun w12 hr4 => ho2.step hr4 (by (try simp only); omega)) (Th ?_))))
 intro w13 hs4
 replace hS := stepG_no hS hs4
 replace hrw := RowE.no hrw hs4
 replace hled := Ld.no hled hs4
 replace hcm := MapL.no hcm hs4
 replace ho2 := ho2.no hs4
 replace ho3 := ho3.no hs4
 replace hT1 := Tb.no hT1 hs4
 refine Tc Tryz.call113 (link_raw nd rooms g _ _ _ p i hp hil _ ho3 hrw) ?_ ?_
 ·rintro _ w14 ⟨rfl, hc3⟩
  exact Step.mono hc3 TAdeaa
 rintro _ w14 ⟨rfl, hc3⟩
 replace hS := stepG_no hS hc3
 replace hled := Ld.no hled hc3
 replace hcm := MapL.no hcm hc3
 replace ho2 := ho2.no hc3
 replace ho3 := ho3.no hc3
 replace hT1 := Tb.no hT1 hc3
 refine Th ?_
 intro w15 hs5
 replace hS := stepG_no hS hs5
 replace hled := Ld.no hled hs5
 replace hcm := MapL.no hcm hs5
 replace ho2 := ho2.no hs5
 replace ho3 := ho3.no hs5
 replace hT1 := Tb.no hT1 hs5
 refine Tc Tryz.call39 (need_any k _) ?_ ?_
 ·rintro _ w16 ⟨rfl, hc4⟩
  exact Step.mono hc4 TAdeaa
 rintro _ w16 ⟨rfl, hc4⟩
 replace hS := stepG_no hS hc4
 replace hled := Ld.no hled hc4
 replace hcm := MapL.no hcm hc4
 replace ho2 := ho2.no hc4
 replace ho3 := ho3.no hc4
 replace hT1 := Tb.no hT1 hc4
 refine VT_end ?_
 intro w17 hs6
 replace hS := stepG_no hS hs6
 replace hled := Ld.no hled hs6
 replace hcm := MapL.no hcm hs6
 replace ho2 := ho2.no hs6
 replace ho3 := ho3.no hs6
 replace hT1 := Tb.no hT1 hs6
 refine VL_keep [0, 5, 8, 38, 37, 40] [(0, Pt nd 0), (5, Pt b2 0), (8, I6 ((g.next : Nat) : Int)), (38, I6 ((g.next : Nat) : Int)), (37, .pointer (some ⟨(g.lg i), 0, none⟩)), (40, I6 (needC k))] (by kernel_rfl) ?_
 refine VL_call (d := 41) (f := 114) (args := #[.pointer (some ⟨(g.lg i), 0, none⟩), I6 ((g.next : Nat) : Int), I6 (needC k)]) (by kernel_rfl) (by kernel_rfl) (by kernel_rfl) Tryz.call114 (lbook_any (g.lg i) (g.lm i) r (usdL g.L (i : Int)) (g.N i) ((g.next : Nat) : Int) (needC k) _ hled hu0 hu1 hrM (by first | exact hnone | assumption) (needC_le k).1 hfit) ?_
 rintro _ w18 ⟨rfl, hL1, hc5⟩
 replace hS := Step.trans hS (Step.mono hc5 (fun i9 h9 => by rcases h9 with h9 | h9; exact .inr (.inr (.inr (.inl h9))); exact .inr (.inr (.inr (.inr h9)))))
 replace hcm := MapL.step hcm hc5 (by (try simp only); omega)
 replace ho2 := ho2.step hc5 (by (try simp only); omega)
 replace ho3 := ho3.step hc5 (by (try simp only); omega)
 replace hT1 := Tb.step hT1 hc5 (by (try simp only); omega)
 refine Ve (Vn (Vs (Vr (Vl 2 ho2 ?_))))
 have hzl64 := ho2.lt
 refine Vc 3 Tryz.call115 (nput_any nd g.cm _ _ _ g.M ((g.next : Nat) : Int) k hr _ ho3 hcm) ?_
 rintro _ w19 ⟨pp9, Y9, rfl, hY9, hPl, hM1, hc6⟩
 replace hS := Step.trans hS (Step.mono hc6 (fun i9 h9 => .inr (.inr (.inl h9))))
 replace ho3 := ho3.step hc6 (show ¬ nd = g.cm by omega)
 replace hT1 := Tb.step hT1 hc6 (show ¬ g.tb = g.cm by omega)
 replace hL1 := Ld.step hL1 hc6 (show ¬ g.lg i = g.cm by omega) (show ¬ g.lm i = g.cm by omega)
 replace hY9 : ∀ q, Y9 q → w.heap.size ≤ q := fun q hq => by have h9 := hY9 q hq; omega
 refine Ve (Vn (Vrp (VC_ret (Vr1 (I6 0) ?_))))
 have hX9 := h.took hir hp hc hS (Own.cast ho3 (by rw [hla])) hT1 hL1 hM1 hPl hY9 hlo
 exact ⟨rfl, _, _, hX9, by unfold takeN; rw [if_pos hc]; exact insI_x _ _, Nat.le_refl _, fun q hq => hq.elim .inl (fun h9 => .inr (hY9 q h9)), Step.mono hS (fiveF_X h hil)⟩

theorem take_any (nd lo : Nat) (X : Nat → Prop) (rooms : List Int) (g : NdG) (p v c : Int) (k : Con) (hnx : g.next < 1152921504606846976) (w : World) (hlo : lo ≤ w.heap.size) (h : NdX w nd X lo rooms g) (hno : ¬ chkN rooms g.L p v c k = 0 → CV Tryz.prog 58 #[.pointer (some ⟨nd, 0, none⟩), .agg #[.int .i64 p, .int .i64 v, .int .i64 c], .agg #[.int .i64 k.kind, .int .i64 k.peak, .int .i64 k.early, .int .i64 k.whole, .int .i64 k.burst, .int .i64 k.least]] w fun x w1 => x = .int .i64 (chkN rooms g.L p v c k) ∧ Step No w w1) : CV Tryz.prog 58 #[.pointer (some ⟨nd, 0, none⟩), .agg #[.int .i64 p, .int .i64 v, .int .i64 c], .agg #[.int .i64 k.kind, .int .i64 k.peak, .int .i64 k.early, .int .i64 k.whole, .int .i64 k.burst, .int .i64 k.least]] w (fun x w1 => x = .int .i64 (chkN rooms g.L p v c k) ∧ ∃ g9 X9, NdX w1 nd X9 lo rooms g9 ∧ g9.L = takeN rooms g.L p v c k ∧ g9.next ≤ g.next + 1 ∧ (∀ q, X9 q → X q ∨ w.heap.size ≤ q) ∧ Step X w w1) := by
  by_cases hc : chkN rooms g.L p v c k = 0
  · have := take_yes nd lo X rooms g p v c k hnx hc w hlo h
    rw [hc]; exact this
  · refine (hno hc).mono ?_
    rintro x w1 ⟨rfl, hs⟩
    exact ⟨rfl, g, X, h.no hs, by unfold takeN; rw [if_neg hc], by omega, fun q hq => .inl hq, hs.weak⟩
theorem take_no (nd lo : Nat) (X : Nat → Prop) (rooms : List Int) (g : NdG) (p v c : Int) (k : Con) (hc : ¬ chkN rooms g.L p v c k = 0) (w : World) (h : NdX w nd X lo rooms g)  :
  CV Tryz.prog 58 #[Pt nd 0, .agg #[I6 p, I6 v, I6 c], .agg #[I6 k.kind, I6 k.peak, I6 k.early, I6 k.whole, I6 k.burst, I6 k.least]] w (fun x w1 => x = I6 (chkN rooms g.L p v c k) ∧ Step No w w1) := by
 have hS : Step No w w := Step.refl _ _
 have hSn : Step No w w := Step.refl _ _
 refine VCe Tryz.func58 (Vs (Vr ?_))
 refine Vx 0 34 #[I6 p, I6 v, I6 c] ?_
 intro b1 w1 hn1
 replace hS := Step.trans hS (hn1.step No)
 replace hSn := Step.trans hSn (hn1.step No)
 have ho1 := hn1.own
 refine Vx 1 23 #[I6 k.kind, I6 k.peak, I6 k.early, I6 k.whole, I6 k.burst, I6 k.least] ?_
 intro b2 w2 hn2
 replace hS := Step.trans hS (hn2.step No)
 replace hSn := Step.trans hSn (hn2.step No)
 replace ho1 := ho1.no (hn2.step No)
 have ho2 := hn2.own
 refine Ve (Vn (Vs (Vs (Vr (Vl 1 ho1 (Vl 2 ho2 ?_))))))
 refine Vc 3 Tryz.call112 (check_any nd lo X rooms g p v c k _ (h.no hSn)) ?_
 rintro _ w3 ⟨rfl, hc1⟩
 replace hS := Step.trans hS hc1
 refine Ve (Vn (Vrp (Vit (b := (chkN rooms g.L p v c k) != 0) (by first | exact bne_iff_ne.2 hc | exact beq_eq_false_iff_ne.2 hc) (Vrp (VC_ret (VQ_then_ret (Vr1 (I6 (chkN rooms g.L p v c k)) ?_)))))))
 exact ⟨rfl, hS⟩

theorem stepY9 {Y : Nat → Prop} {w w1 w2 : World} (h : Step Y w w1) (k : Step No w1 w2) : Step Y w w2 := Step.trans h k.weak
theorem verdict_yes (nd lo : Nat) (X : Nat → Prop) (rooms : List Int) (g : NdG) (p v c t clp : Int) (w : World) (h : NdX w nd X lo rooms g) (hth : (lookE (g.ci.map Ci.ent) p v c).isSome = true) :
  CV Tryz.prog 125 #[Pt nd 0, .agg #[I6 p, I6 v, I6 c], I6 t, I6 clp] w (fun x w1 => x = .tuple #[I6 (verV g.L p v c t clp), Bo true] ∧ ∃ g9 X9, NdX w1 nd X9 lo rooms g9 ∧ g9.L = verN g.L p v c t clp ∧ g9.next ≤ g.next + 1 ∧ (∀ q, X9 q → X q ∨ w.heap.size ≤ q) ∧ Step X w w1) := by
 obtain ⟨y, i, r, hfI, hym, hlk, hp, hil, hir, hled0, hnn, hmm, hpl0, hfc, hu0, hu1, hrM, hnu⟩ := h.there hth
 have hS : Step y.Y w w := Step.refl _ _
 have hSn : Step No w w := Step.refl _ _
 have hnd := h.own
 have hcm := h.cmap
 have hvv : verV g.L p v c t clp = polV (alwaysC y.x.k) t clp y.x.rs := by unfold verV; rw [hfc]
 refine VCe Tryz.func125 (Vs (Vr ?_))
 refine Vx 0 34 #[I6 p, I6 v, I6 c] ?_
 intro b1 w1 hn1
 replace hS := stepY9 hS (hn1.step No)
 replace hSn := Step.trans hSn (hn1.step No)
 replace hnd := hnd.no (hn1.step No)
 replace hcm := MapL.no hcm (hn1.step No)
 have ho1 := hn1.own
 refine Ve (Vn (Vs (Vr (Vl 1 ho1 ?_))))
 refine Vc 2 Tryz.call151 ((nfind_any nd lo X rooms g p v c _ (h.no hSn)).mono (fun x w1 h9 => ⟨h9.1.trans (by rw [hlk]; rfl), h9.2⟩ : ∀ (x : Value) (w1 : World), _ → x = Value.tuple #[I6 y.id, Bo true] ∧ Step No _ w1)) ?_
 rintro _ w2 ⟨rfl, hc1⟩
 replace hS := stepY9 hS hc1
 replace hSn := Step.trans hSn hc1
 replace hnd := hnd.no hc1
 replace hcm := MapL.no hcm hc1
 refine Ve (Vn (Vs (Vrp (Vf (VC_skip (Vn (Vs (Vr (Vl 3 hnd (Vp 5 (VL_lookup (ek := ei) (u := uc) (d := 25) (m := g.cm) (kt := 3) (z := .agg #[I6 0, I6 0, I6 0, I6 0, I6 0, I6 0, .pointer none]) (k := y.id) (ok := false) (by kernel_rfl) (by kernel_rfl) keyTi hcm (.agg #[I6 y.x.k.kind, I6 y.x.k.peak, I6 y.x.k.early, I6 y.x.k.whole, I6 y.x.k.burst, I6 y.x.k.least, Pt y.pp 0]) (by rw [hmm]; rfl) (Vp 9 ?_))))))))))))
 refine Vc 9 Tryz.call198 (ptake_any t clp (hpl0.no hSn)) ?_
 rintro _ w3 ⟨rfl, hpl1, hc2⟩
 replace hS := Step.trans hS hc2
 refine Ve (Vn (VC_ret (Vr2 (I6 (polV (alwaysC y.x.k) t clp y.x.rs)) (Bo true) ?_)))
 exact ⟨by rw [hvv], _, _, h.judged hfI hS hpl1, setI_x _ _ _ _ _ _ (fun y => rfl), Nat.le_succ _, fun q hq => .inl hq, Step.mono hS (h.polX y hym)⟩

theorem verdict_no (nd lo : Nat) (X : Nat → Prop) (rooms : List Int) (g : NdG) (p v c t clp : Int) (w : World) (h : NdX w nd X lo rooms g) (hth : (lookE (g.ci.map Ci.ent) p v c).isSome = false) :
  CV Tryz.prog 125 #[Pt nd 0, .agg #[I6 p, I6 v, I6 c], I6 t, I6 clp] w (fun x w1 => x = .tuple #[I6 0, Bo false] ∧ Step No w w1) := by
 have hS : Step No w w := Step.refl _ _
 have hSn : Step No w w := Step.refl _ _
 refine VCe Tryz.func125 (Vs (Vr ?_))
 refine Vx 0 34 #[I6 p, I6 v, I6 c] ?_
 intro b1 w1 hn1
 replace hS := Step.trans hS (hn1.step No)
 replace hSn := Step.trans hSn (hn1.step No)
 have ho1 := hn1.own
 refine Ve (Vn (Vs (Vr (Vl 1 ho1 ?_))))
 refine Vc 2 Tryz.call151 (nfind_any nd lo X rooms g p v c _ (h.no hSn)) ?_
 rintro _ w2 ⟨rfl, hc1⟩
 replace hS := Step.trans hS hc1
 refine Ve (Vn (Vs (Vrp (Vit (b := !((lookE (g.ci.map Ci.ent) p v c).isSome)) (by rw [hth]; rfl) (Vrp (VC_ret (VQ_then_ret (Vr2 (I6 0) (Bo false) ?_))))))))
 exact ⟨rfl, hS⟩

end Go.Proofs.YtcablikikkmfjaaGreat
end

section
/- Layer 20: a new node. -/
set_option linter.unusedVariables false
set_option linter.unusedSimpArgs false
namespace Go.Proofs.YtcablikikkmfjaaGreat
open Go.Vc Go.RowKit
def rmC (r : Int) : Int := imax 0 (imin r 1152921504606846976)
theorem rmC_le (r : Int) : 0 ≤ rmC r ∧ rmC r ≤ 1152921504606846976 := by unfold rmC imax imin; split <;> split <;> omega
def roomsN (rs : List Int) : List Int := (rs.take (min rs.length 8)).map rmC
theorem roomsN_len (rs : List Int) : (roomsN rs).length = min rs.length 8 := by unfold roomsN; rw [List.length_map, List.length_take]; omega
theorem roomsN_ok (rs : List Int) : (roomsN rs).length ≤ 8 ∧ ∀ r ∈ roomsN rs, 0 ≤ r ∧ r ≤ 1152921504606846976 := by
  refine ⟨by rw [roomsN_len]; omega, fun r hr => ?_⟩
  obtain ⟨x, _, rfl⟩ := List.mem_map.1 hr
  exact rmC_le x
theorem roomsN_at {rs : List Int} {n j : Nat} (hn : rs.length = n) (hj : j < min n 8) : (roomsN rs)[j]? = some (imax 0 (imin ((rs.take (min n 8)).getD j 0) 1152921504606846976)) := by
  subst hn
  unfold roomsN
  rw [List.getElem?_map]
  have hl : j < (rs.take (min rs.length 8)).length := by rw [List.length_take]; omega
  rw [List.getElem?_eq_getElem hl]
  simp only [Option.map_some, List.getD, List.getElem?_eq_getElem hl, Option.getD_some]
  rfl
structure Leds (w : World) (lo : Nat) (rs : List Int) (ls ms : List Nat) : Prop where
  len : ls.length = ms.length
  led : ∀ (i lg lm : Nat) (r : Int), ls[i]? = some lg → ms[i]? = some lm → rs[i]? = some r → Ld w lg lm r 0 []
  le : ls.length ≤ rs.length
  n1 : ls.Nodup
  n2 : ms.Nodup
  l1 : ∀ x ∈ ls, lo ≤ x
  l2 : ∀ x ∈ ms, lo ≤ x
section
variable {w w1 : World} {F : Nat → Prop} {lo : Nat} {rs : List Int} {ls ms : List Nat}
theorem Leds.two (h : Leds w lo rs ls ms) {x : Nat} (hx : x ∈ ls ∨ x ∈ ms) : ∃ lg lm r, Ld w lg lm r 0 [] ∧ (x = lg ∨ x = lm) := by
  have hlen := h.len
  have hle := h.le
  rcases hx with hx | hx
  · obtain ⟨i, hi⟩ := List.mem_iff_getElem?.1 hx
    have hl := (List.getElem?_eq_some_iff.1 hi).1
    exact ⟨x, _, _, h.led i x _ _ hi (List.getElem?_eq_getElem (by omega)) (List.getElem?_eq_getElem (by omega)), .inl rfl⟩
  · obtain ⟨i, hi⟩ := List.mem_iff_getElem?.1 hx
    have hl := (List.getElem?_eq_some_iff.1 hi).1
    exact ⟨_, x, _, h.led i _ x _ (List.getElem?_eq_getElem (by omega)) hi (List.getElem?_eq_getElem (by omega)), .inr rfl⟩
theorem Leds.lt (h : Leds w lo rs ls ms) {x : Nat} (hx : x ∈ ls ∨ x ∈ ms) : x < w.heap.size := by
  obtain ⟨lg, lm, r, h1, e | e⟩ := h.two hx
  · rw [e]; exact h1.lt.1
  · rw [e]; exact h1.lt.2
theorem Leds.ty (h : Leds w lo rs ls ms) {x : Nat} (hx : x ∈ ls ∨ x ∈ ms) : tyO w x = 330 + 2 ∨ tyO w x = 0 := by
  obtain ⟨lg, lm, r, h1, e | e⟩ := h.two hx
  · rw [e]; exact .inl (tyO_own h1.own)
  · rw [e]; exact .inr (tyO_map h1.map)
theorem Leds.step (h : Leds w lo rs ls ms) (hs : Step F w w1) (hF : ∀ x, x ∈ ls ∨ x ∈ ms → ¬ F x) : Leds w1 lo rs ls ms :=
  ⟨h.len, fun i lg lm r a b c => (h.led i lg lm r a b c).step hs (hF _ (.inl (List.mem_of_getElem? a))) (hF _ (.inr (List.mem_of_getElem? b))), h.le, h.n1, h.n2, h.l1, h.l2⟩
theorem Leds.no (h : Leds w lo rs ls ms) (hs : Step No w w1) : Leds w1 lo rs ls ms := h.step hs fun _ _ => id
theorem Leds.below (h : Leds w lo rs ls ms) (hs : Step F w w1) (hF : ∀ k, F k → k < lo) : Leds w1 lo rs ls ms := h.step hs fun x hx hf => by
  have := hF x hf
  rcases hx with hx | hx
  · have := h.l1 x hx; omega
  · have := h.l2 x hx; omega
theorem Leds.row {base n c : Nat} {A : Option Addr} {xs : List Value} (h : Leds w lo rs ls ms) (hr : RwS w 1 base 238 A n c xs) (hs : Step (ownB A) w w1) : Leds w1 lo rs ls ms := h.step hs fun x hx hf => by
  have h1 := tyO_tyB (hr.tyB hf)
  rcases h.ty hx with h2 | h2 <;> omega
theorem Leds.push (h : Leds w lo rs ls ms) {lg lm j : Nat} {r : Int} (hj : ls.length = j) (hr : rs[j]? = some r) (hs : Step No w w1) (hn : Ld w1 lg lm r 0 []) (h1 : w.heap.size ≤ lg) (h2 : w.heap.size ≤ lm) (hlo : lo ≤ w.heap.size) : Leds w1 lo rs (ls ++ [lg]) (ms ++ [lm]) := by
  have hl := (List.getElem?_eq_some_iff.1 hr).1
  have hlen := h.len
  refine ⟨by simp [hlen], fun i a b c ha hb hc => ?_, by simp; omega, ?_, ?_, ?_, ?_⟩
  · by_cases e : i < ls.length
    · rw [List.getElem?_append_left e] at ha
      rw [List.getElem?_append_left (by omega)] at hb
      exact (h.led i a b c ha hb hc).no hs
    · have hi : i = j := by
        have := (List.getElem?_eq_some_iff.1 ha).1
        simp at this; omega
      subst hi
      rw [List.getElem?_append_right (by omega), show i - ls.length = 0 by omega] at ha
      rw [List.getElem?_append_right (by omega), show i - ms.length = 0 by omega] at hb
      simp only [List.getElem?_cons_zero, Option.some.injEq] at ha hb
      rw [hr] at hc
      simp only [Option.some.injEq] at hc
      rw [← ha, ← hb, ← hc]; exact hn
  · rw [List.nodup_append]
    refine ⟨h.n1, by simp, fun x hx y hy e => ?_⟩
    simp at hy
    have := h.lt (.inl hx); omega
  · rw [List.nodup_append]
    refine ⟨h.n2, by simp, fun x hx y hy e => ?_⟩
    simp at hy
    have := h.lt (.inr hx); omega
  · intro x hx
    rcases List.mem_append.1 hx with hx | hx
    · exact h.l1 x hx
    · simp at hx; omega
  · intro x hx
    rcases List.mem_append.1 hx with hx | hx
    · exact h.l2 x hx
    · simp at hx; omega
theorem Leds.nil (w : World) (lo : Nat) (rs : List Int) : Leds w lo rs [] [] := ⟨rfl, fun i lg lm r h => by simp at h, Nat.zero_le _, List.nodup_nil, List.nodup_nil, by simp, by simp⟩
theorem range_getD (ls : List Nat) {n : Nat} (hn : ls.length = n) : (List.range n).map (fun i => ls.getD i 0) = ls := by
  subst hn
  apply List.ext_getElem?
  intro i
  rw [List.getElem?_map]
  by_cases h : i < ls.length
  · rw [List.getElem?_range h, List.getElem?_eq_getElem h]; simp [List.getD, h]
  · rw [List.getElem?_eq_none (by simpa using h), List.getElem?_eq_none (by omega)]; rfl
theorem getD_at {ls : List Nat} {i : Nat} (h : i < ls.length) : ls[i]? = some (ls.getD i 0) := by simp [List.getD, h]
theorem nodup_inj {ls : List Nat} (h : ls.Nodup) {i j : Nat} (hi : i < ls.length) (hj : j < ls.length) (he : ls.getD i 0 = ls.getD j 0) : i = j := by
  have a := getD_at hi
  have b := getD_at hj
  rw [he] at a
  exact (List.getElem?_inj hi h).1 (a.trans b.symm)
theorem NdX.fresh {nd tb cm base c : Nat} {A : Option Addr} (hok : rs.length ≤ 8 ∧ ∀ r ∈ rs, 0 ≤ r ∧ r ≤ 1152921504606846976) (hl : ls.length = rs.length) (ho : Own w1 nd #[.slice A rs.length c, .pointer (some ⟨tb, 0, none⟩), .map (some cm), .int .i64 0] 237)
    (hrow : RwS w1 1 base 238 A rs.length c (flat lgc ls)) (htb : Tb w1 tb 64 []) (hcm : MapL w1 cm ei uc ([] : List (Int × (Con × Nat)))) (hled : Leds w1 lo rs ls ms) (h1 : w.heap.size ≤ nd) (h2 : w.heap.size ≤ tb) (h3 : w.heap.size ≤ cm) (h4 : cm < lo) (h5 : w.heap.size ≤ base) (h6 : w.heap.size ≤ lo) :
    ∃ X g, NdX w1 nd X w.heap.size rs g ∧ g.L = [] ∧ g.next = 0 ∧ ∀ q, X q → w.heap.size ≤ q := by
  have hlm : ms.length = rs.length := by rw [← hled.len]; exact hl
  have hX : ∀ q, (q = nd ∨ q = tb ∨ q = cm ∨ ownB A q ∨ q ∈ ls ∨ q ∈ ms) → w.heap.size ≤ q := by
    rintro q (rfl | rfl | rfl | hq | hq | hq)
    · exact h1
    · exact h2
    · exact h3
    · have := (hrow.lt q hq).1; omega
    · have := hled.l1 q hq; omega
    · have := hled.l2 q hq; omega
  have hlb : 0 < rs.length → ∃ lb, A = some ⟨lb, 0, none⟩ ∧ RowE w1 lb 238 (flat lgc ls) := fun h0 => by
    obtain ⟨rb, e, _, hr⟩ := RowE.of_rw hrow h0
    exact ⟨rb, e, hr⟩
  obtain ⟨lb, hlb'⟩ : ∃ lb, 0 < rs.length → A = some ⟨lb, 0, none⟩ ∧ RowE w1 lb 238 (flat lgc ls) := by
    by_cases h0 : 0 < rs.length
    · obtain ⟨lb, h⟩ := hlb h0; exact ⟨lb, fun _ => h⟩
    · exact ⟨0, fun h => absurd h h0⟩
  refine ⟨fun q => q = nd ∨ q = tb ∨ q = cm ∨ ownB A q ∨ q ∈ ls ∨ q ∈ ms, ⟨[], A, lb, c, fun i => ls.getD i 0, fun i => ms.getD i 0, fun _ => [], tb, cm, [], 0⟩, ?_, rfl, rfl, hX⟩
  have hmem : ∀ i, i < rs.length → ls.getD i 0 ∈ ls ∧ ms.getD i 0 ∈ ms := fun i hi => ⟨List.mem_of_getElem? (getD_at (by omega)), List.mem_of_getElem? (getD_at (by omega))⟩
  refine { own := ho, links := fun h0 => ?_, led := fun i r hi => ?_, ledX := fun i hi => ⟨.inr (.inr (.inr (.inr (.inl (hmem i hi).1)))), .inr (.inr (.inr (.inr (.inr (hmem i hi).2))))⟩, lgi := fun i j hi hj he => nodup_inj hled.n1 (by omega) (by omega) he, lmi := fun i j hi hj he => nodup_inj hled.n2 (by omega) (by omega) he, lmc := fun i hi he => ?_, tab := htb, cmap := hcm, pol := fun y hy => (List.not_mem_nil hy).elim, polX := fun y hy => (List.not_mem_nil hy).elim, apart := fun y hy => (List.not_mem_nil hy).elim, ids := fun y hy => (List.not_mem_nil hy).elim, idlt := fun y hy => (List.not_mem_nil hy).elim, need := fun i hi y hy => (List.not_mem_nil hy).elim, nlt := fun i hi id n hn => (Option.some_ne_none n hn.symm).elim, li := LI.nil hok.1 hok.2, inX := ⟨.inl rfl, .inr (.inl rfl), .inr (.inr (.inl rfl))⟩, ty := fun q hq => ?_, lo := hX }
  · obtain ⟨a, b⟩ := hlb' h0
    simp only
    rw [range_getD ls hl]
    exact ⟨a, b, .inr (.inr (.inr (.inl ⟨_, a, rfl⟩)))⟩
  · have hil := (List.getElem?_eq_some_iff.1 hi).1
    exact hled.led i _ _ r (getD_at (by omega)) (getD_at (by omega)) hi
  · have := hled.l2 _ (hmem i hi).2
    simp only at he
    omega
  · rcases hq with rfl | rfl | rfl | hq | hq | hq
    · exact ⟨ho.lt, by have := tyO_own ho; omega⟩
    · exact ⟨htb.lt, by have := tyO_tb htb; omega⟩
    · exact ⟨hcm.lt, by have := tyO_map hcm; omega⟩
    · exact ⟨(hrow.lt q hq).2, by have := tyO_tyB (hrow.tyB hq); omega⟩
    · exact ⟨hled.lt (.inl hq), by have := hled.ty (.inl hq); omega⟩
    · exact ⟨hled.lt (.inr hq), by have := hled.ty (.inr hq); omega⟩
end
end Go.Proofs.YtcablikikkmfjaaGreat
end

section
/- Layer 20: a new node. -/
set_option linter.unusedVariables false
set_option linter.unusedSimpArgs false
set_option maxRecDepth 100000
set_option maxHeartbeats 4000000
namespace Go.Proofs.YtcablikikkmfjaaGreat
open Go.Vc Go.RowKit

theorem nnew_x (A : Option Addr) (n c Bd : Nat) (rs : List Int) (w : World) (hn : rs.length = n) (hA : Sl w Bd A (iL .i64 rs)) (hB : Bd ≤ w.heap.size) (hnc : n ≤ c) :
  CV Tryz.prog 52 #[.slice A n c] w (fun x w1 => ∃ nd X g, x = Pt nd 0 ∧ NdX w1 nd X w.heap.size (roomsN rs) g ∧ g.L = [] ∧ g.next = 0 ∧ (∀ q, X q → w.heap.size ≤ q) ∧ Step No w w1) := by
 have hS : Step No w w := Step.refl _ _
 refine VCe Tryz.func52 (Vrp (Vs (Vr ?_)))
 refine Vc 0 Tryz.call53 (tnew 64 _) ?_
 rintro _ w1 ⟨tb1, rfl, hftb1, hT1, hc1⟩
 replace hS := Step.trans hS hc1
 replace hA := hA.no hc1
 rw [show imax 0 (imin 64 64) = 64 from by decide] at hT1
 have hztb1 := hT1.lt
 refine VL_mkMap (d := 7) (by kernel_rfl) (by kernel_rfl) ?_
 intro mp1 w2 hn1
 replace hS := Step.trans hS (hn1.step No)
 replace hA := hA.no (hn1.step No)
 replace hT1 := Tb.no hT1 (hn1.step No)
 have hM1 := New.map hn1 ei uc
 have hzhn1 := hn1.size
 have hqhn1 := hn1.eqb
 refine Vp 3 ?_
 have hzs2 := hS.size
 refine Vx 3 237 #[.slice none 0 0, Pt tb1 0, .map (some mp1), I6 0] ?_
 intro b1 w3 hn2
 replace hS := Step.trans hS (hn2.step No)
 replace hA := hA.no (hn2.step No)
 replace hT1 := Tb.no hT1 (hn2.step No)
 replace hM1 := MapL.no hM1 (hn2.step No)
 have ho1 := hn2.own
 have hzhn2 := hn2.size
 have hqhn2 := hn2.eqb
 refine Ve (Vn (Vs (Vs ?_)))
 obtain ⟨lo9, hlo9E⟩ : ∃ x, x = w3.heap.size := ⟨_, rfl⟩
 have hlo9 : lo9 ≤ w3.heap.size := Nat.le_of_eq hlo9E
 have hmp9 := MapL.lt hM1
 have hleds := Leds.nil w3 lo9 (roomsN rs)
 have hnb9 : b1 < lo9 ∧ tb1 < lo9 ∧ mp1 < lo9 := by rw [hlo9E]; exact ⟨ho1.lt, hT1.lt, hmp9⟩
 have hnw9 : w.heap.size ≤ b1 ∧ w.heap.size ≤ tb1 ∧ w.heap.size ≤ mp1 ∧ w.heap.size ≤ lo9 := by omega
 refine Vr (Vp 4 (Vq 13 (I6 (imin ((n : Nat) : Int) 8)) (I6 ((min n 8 : Nat) : Int)) (by rw [show imin ((n : Nat) : Int) 8 = ((min n 8 : Nat) : Int) by unfold imin; split <;> omega]) (VL_sliceV (d := 14) (A := A) (sz := 1) (len := n) (cap := c) (lo := none) (hi := (some ((min n 8 : Nat) : Int))) (mx := none) (by kernel_rfl) (by kernel_rfl) (fun h => by first | exact absurd rfl h | exact (fun h => by cases h)) hA 0 (min n 8) c rfl rfl rfl (by omega) (by omega) (by omega) (min n 8) (by omega) c (by omega) _ (iL_takeV rs (min n 8)) ?_)))
 intro A1 hsl1
 refine Ve (Vn (VC_block (VC_loop (σ := Nat × (List Nat) × (List Nat) × (Option Addr) × Nat) (fun σs => [(3, Pt b1 0), (14, .slice A1 (min n 8) c), (15, I6 ((min n 8 : Nat) : Int)), (16, I6 ((σs.1 : Nat) : Int))]) (fun σs wr => σs.1 ≤ min n 8 ∧ σs.2.1.length = σs.1 ∧ Own wr b1 #[.slice σs.2.2.2.1 σs.1 σs.2.2.2.2, Pt tb1 0, .map (some mp1), I6 0] 237 ∧ Leds wr lo9 (roomsN rs) σs.2.1 σs.2.2.1 ∧ RwS wr 1 lo9 238 σs.2.2.2.1 σs.1 σs.2.2.2.2 (flat lgc σs.2.1) ∧ (Step No w wr) ∧ (Sl wr Bd A (iL .i64 rs)) ∧ (Tb wr tb1 64 ([] : List Ent)) ∧ (MapL wr mp1 ei uc ([] : List (Int × Con × Nat))) ∧ (lo9 ≤ wr.heap.size) ∧ (Sl wr Bd A1 (iL .i64 (rs.take (min n 8))))) (fun σs wr => min n 8 - σs.1) ⟨0, [], [], none, 0⟩ Su ?_ ?_)))
 ·exact ⟨Nat.zero_le _, rfl, ho1, hleds, RwS.nil _ _ _ _, hS, hA, hT1, hM1, hlo9, hsl1⟩
 rintro ⟨j, ls, ms, AL, cL⟩ wr ⟨hj0, hlj, hnd9, hleds, hRow, hS, hA, hT1, hM1, hlo9, hsl1⟩
 try dsimp only at hj0 hlj hnd9 hleds hRow hS hA hT1 hM1 hlo9 hsl1 ⊢
 refine Vrp (Vs (Vid (((j : Nat) : Int) < ((min n 8 : Nat) : Int)) (fun h1 => ?_) (fun h1 => ?_)))
 ·refine VC_skip (Vn (Vs (VC_block (Vs (Vr ?_)))))
  obtain ⟨sb1, so1, rfl, hlbsb1⟩ := hsl1.open (by simp only [iL_length, List.length_take]; omega)
  refine VL_index (d := 18) (b := sb1) (o := so1) (len := (min n 8)) (sz := 1) (m := ((j : Nat) : Int)) (by kernel_rfl) (by kernel_rfl) j (by rfl) (by omega) (so1 + j) (by omega) (Vla 1 (t := 3) (a := ⟨sb1, so1 + j, none⟩) (v := I6 ((rs.take (min n 8)).getD j 0)) (Sl.ldI hsl1 (by kernel_rfl) j (by (try simp only [List.length_set, List.length_append, List.length_map, List.length_replicate, List.length_cons, List.length_nil, List.length_take, List.length_drop, List.length_range]) <;> omega)) (Ve (Vn ?_)))
  have hs1 := drew_step wr
  have hs1z : wr.heap.size = wr.drew.heap.size := rfl
  refine Tx 9 (fun k => lo9 ≤ k ∨ wr.heap.size ≤ k) [6, 7, 8] [0, 1, 2, 3, 4, 5, 6, 7, 8] ?_
  have hzl6 := hnd9.lt
  generalize wr.drew = w4 at hs1 hs1z ⊢
  replace hnd9 := hnd9.no hs1
  replace hleds := Leds.no hleds hs1
  replace hRow := hRow.no hs1
  replace hS := Step.trans hS hs1
  replace hA := hA.no hs1
  replace hT1 := Tb.no hT1 hs1
  replace hM1 := MapL.no hM1 hs1
  replace hlo9 := Nat.le_trans hlo9 (hs1).size
  replace hsl1 := hsl1.no hs1
  refine Tp 4 (Tl (fun w5 hr1 => hnd9.step hr1 (by (try simp only); omega)) (Tp 1 (Th ?_)))
  intro w6 hs2
  replace hnd9 := hnd9.no hs2
  replace hleds := Leds.no hleds hs2
  replace hRow := hRow.no hs2
  replace hS := Step.trans hS hs2
  replace hA := hA.no hs2
  replace hT1 := Tb.no hT1 hs2
  replace hM1 := MapL.no hM1 hs2
  replace hlo9 := Nat.le_trans hlo9 (hs2).size
  replace hsl1 := hsl1.no hs2
  have hzl9 := hnd9.lt
  refine Tc Tryz.call110 (lnew_any ((rs.take (min n 8)).getD j 0) _) ?_ ?_
  ·rintro _ w7 ⟨lg9, lm9, rfl, hlg9, hlm9, hL9, hc2⟩
   exact Step.mono hc2 (by intro i hi; first | exact hi.elim | exact .inl hi | ((try simp only at hi ⊢); omega))
  rintro _ w7 ⟨lg9, lm9, rfl, hlg9, hlm9, hL9, hc2⟩
  replace hnd9 := hnd9.no hc2
  replace hRow := hRow.no hc2
  replace hS := Step.trans hS hc2
  replace hA := hA.no hc2
  replace hT1 := Tb.no hT1 hc2
  replace hM1 := MapL.no hM1 hc2
  replace hlo9 := Nat.le_trans hlo9 (hc2).size
  replace hsl1 := hsl1.no hc2
  have hleds2 := Leds.push hleds hlj (show (roomsN rs)[j]? = some (imax 0 (imin ((rs.take (min n 8)).getD j 0) 1152921504606846976)) by exact roomsN_at hn (by omega)) hc2 hL9 hlg9 hlm9 (by omega)
  refine Th ?_
  intro w8 hs3
  replace hnd9 := hnd9.no hs3
  replace hRow := hRow.no hs3
  replace hS := Step.trans hS hs3
  replace hA := hA.no hs3
  replace hT1 := Tb.no hT1 hs3
  replace hM1 := MapL.no hM1 hs3
  replace hlo9 := Nat.le_trans hlo9 (hs3).size
  replace hsl1 := hsl1.no hs3
  replace hleds2 := Leds.no hleds2 hs3
  refine VTc_bs (d := 27) (e := 238) (c := #[Pt lg9 0]) (len := 1) (by kernel_rfl) (by kernel_rfl) (fun b w1 hn => hn.step _) ?_
  intro b2 w9 hn3
  replace hnd9 := hnd9.no (hn3.step No)
  replace hRow := hRow.no (hn3.step No)
  replace hS := Step.trans hS (hn3.step No)
  replace hA := hA.no (hn3.step No)
  replace hT1 := Tb.no hT1 (hn3.step No)
  replace hM1 := MapL.no hM1 (hn3.step No)
  replace hlo9 := Nat.le_trans hlo9 (hn3.step No).size
  replace hsl1 := hsl1.no (hn3.step No)
  replace hleds2 := Leds.no hleds2 (hn3.step No)
  have ho2 := hn3.own
  refine Th ?_
  intro w10 hs4
  replace hnd9 := hnd9.no hs4
  replace hRow := hRow.no hs4
  replace hS := Step.trans hS hs4
  replace hA := hA.no hs4
  replace hT1 := Tb.no hT1 hs4
  replace hM1 := MapL.no hM1 hs4
  replace hlo9 := Nat.le_trans hlo9 (hs4).size
  replace hsl1 := hsl1.no hs4
  replace hleds2 := Leds.no hleds2 hs4
  replace ho2 := ho2.no hs4
  have hzk3 := hlo9
  refine VTc_appendZ (d := 28) (e := 238) (A := AL) (mm := j) (c := cL) (A2 := (some ⟨b2, 0, none⟩)) (m2 := 1) (c2 := 1) (sz := 1) (bytes := 8) (by kernel_rfl) (by kernel_rfl) (by kernel_rfl) lo9 w10.heap.size (flat lgc ls) (flat lgc [lg9]) hRow (by rw [flat_one, lgc_len]) (Sl.mono (Sl.cast (Own.sl ho2 ho2.lt) (by first | rfl | simp [flat])) (by first | exact Nat.le_refl _ | omega)) (flat_one' lgc_one _) (j + 1) (by omega) (by simp only [maxLen]; omega) (by omega) (by omega) ?_ ?_
  ·intro w1 hs1; exact Step.mono hs1 (fun i hi => by have hi1 := (RwS.lt hRow i hi).1; (try simp only); omega)
  intro A2 c1 w11 hr2 hg1
  replace hr2 : RwS w11 1 lo9 238 A2 (j + 1) c1 (flat lgc (ls ++ ([lg9]))) := RwS.cast hr2 rfl (by simp only [flat_append, flat_one, List.append_assoc, List.nil_append, List.append_nil, show flat lgc [] = [] from rfl])
  have hgO := hg1
  replace hg1 := Step.mono (G := fun k => lo9 ≤ k) hg1 (fun i hi => (RwS.lt hRow i hi).1)
  replace hnd9 := hnd9.step hg1 (by (try simp only); omega)
  replace hS := Step.transNew hS hg1 (fun i hi hG => by (try simp only at hG); omega)
  replace hA := hA.step hg1 (fun k hk hG => by (try simp only at hG); omega)
  replace hT1 := Tb.step hT1 hg1 (by (try simp only); omega)
  replace hM1 := MapL.step hM1 hg1 (by (try simp only); omega)
  replace hlo9 := Nat.le_trans hlo9 (hg1).size
  replace hsl1 := hsl1.keepB hg1 (by (try simp only); omega)
  replace hleds2 := Leds.row hleds2 hRow hgO
  have hlhr2 : (ls ++ ([lg9])).length = j + 1 := by have hq9 := RwS.len hr2; rw [flat_len lgc_len] at hq9 <;> omega
  refine VT_end ?_
  intro w12 hs5
  replace hnd9 := hnd9.no hs5
  replace hS := Step.trans hS hs5
  replace hA := hA.no hs5
  replace hT1 := Tb.no hT1 hs5
  replace hM1 := MapL.no hM1 hs5
  replace hlo9 := Nat.le_trans hlo9 (hs5).size
  replace hsl1 := hsl1.no hs5
  replace hleds2 := Leds.no hleds2 hs5
  replace hr2 := hr2.no hs5
  refine Vst 11 (o := 0) [.slice A2 (j + 1) c1] hnd9 #[.slice A2 (j + 1) c1, Pt tb1 0, .map (some mp1), I6 0] ?_
  intro w13 hw1
  replace hS := Step.transNew hS hw1.step (fun _ _ _ => by omega)
  replace hA := hA.step hw1.step (fun k hk (hF : k = b1) => by omega)
  replace hT1 := Tb.step hT1 hw1.step (show ¬ tb1 = b1 by omega)
  replace hM1 := MapL.step hM1 hw1.step (show ¬ mp1 = b1 by omega)
  replace hlo9 := Nat.le_trans hlo9 (hw1.step).size
  replace hsl1 := hsl1.keepB hw1.step (show ¬ sb1 = b1 by omega)
  replace hleds2 := Leds.below hleds2 hw1.step (fun k9 hk9 => by have h8 : k9 = b1 := hk9; omega)
  replace hr2 := hr2.step hw1.step (fun k hk (hF : k = b1) => by omega)
  have ho3 := hw1.own
  refine Ve (VQ_block_normal (Vn (Vr (Vp 1 ?_))))
  have he1 : IntKind.wrap .i64 (((j : Nat) : Int) + 1) = ((j + 1 : Nat) : Int) := (by rw [wrap_i64 _ (by omega) (by omega)]; omega)
  refine Vq 31 (I6 (IntKind.wrap .i64 (((j : Nat) : Int) + 1))) (I6 ((j + 1 : Nat) : Int)) (by rw [he1]) (Ve (VQ_again ⟨j + 1, ls ++ [lg9], ms ++ [lm9], A2, c1⟩ Su ?_ ?_))
  ·exact ⟨(by (try dsimp only); omega), (by (try dsimp only); simp only [List.length_append, List.length_singleton]; omega), ho3, hleds2, hr2, hS, hA, hT1, hM1, hlo9, hsl1⟩
  ·(try dsimp only); omega
 ·refine VC_exit (VQ_then_exit (VQ_then_exit (VQ_block_hit (Vn (Vrp (VC_ret (Vr1 (Pt b1 0) ?_)))))))
  have hjl : (roomsN rs).length = j := by rw [roomsN_len, hn]; omega
  obtain ⟨X9, g9, hX9, hg9, hn9, hq9⟩ := NdX.fresh (w := w) (roomsN_ok rs) (hlj.trans hjl.symm) (by rw [hjl]; exact hnd9) (by rw [hjl]; exact hRow) hT1 hM1 hleds hnw9.1 hnw9.2.1 hnw9.2.2.1 hnb9.2.2 hnw9.2.2.2 hnw9.2.2.2
  exact ⟨_, X9, g9, rfl, hX9, hg9, hn9, hq9, hS⟩

end Go.Proofs.YtcablikikkmfjaaGreat
end

section
/- Layer 20: a node by its list; things to be done, as arguments. -/
set_option linter.unusedVariables false
set_option linter.unusedSimpArgs false
namespace Go.Proofs.YtcablikikkmfjaaGreat
open Go.Vc Go.RowKit

structure OpA where
  d : Int
  p : Int
  v : Int
  c : Int
  k : Con
  t : Int
  clp : Int
section
variable {w w1 : World} {F : Nat → Prop} {nd lo : Nat} {X : Nat → Prop} {rooms : List Int} {L : List Cx} {n : Nat}
theorem NdP.step (h : NdP w nd X lo rooms L n) (hs : Step F w w1) (hF : ∀ k, X k → ¬ F k) : NdP w1 nd X lo rooms L n := by obtain ⟨g, h1, h2, h3⟩ := h; exact ⟨g, h1.step hs hF, h2, h3⟩
theorem NdP.no (h : NdP w nd X lo rooms L n) (hs : Step No w w1) : NdP w1 nd X lo rooms L n := h.step hs fun _ _ => id
theorem NdP.lt (h : NdP w nd X lo rooms L n) : nd < w.heap.size := by obtain ⟨g, h1, h2, h3⟩ := h; exact h1.lt h1.inX.1
theorem NdP.ltX (h : NdP w nd X lo rooms L n) {k : Nat} (hk : X k) : k < w.heap.size := by obtain ⟨g, h1, h2, h3⟩ := h; exact h1.lt hk
theorem NdP.low (h : NdP w nd X lo rooms L n) {k : Nat} (hk : X k) : lo ≤ k := by obtain ⟨g, h1, h2, h3⟩ := h; exact h1.lo k hk
theorem NdP.lo_le (h : NdP w nd X lo rooms L n) : lo ≤ w.heap.size := by obtain ⟨g, h1, h2, h3⟩ := h; have := h1.lo nd h1.inX.1; have := h1.lt h1.inX.1; omega
theorem NdP.nt (h : NdP w nd X lo rooms L n) {k : Nat} (hk : X k) : NT w k := by obtain ⟨g, h1, h2, h3⟩ := h; exact h1.ty k hk
theorem NdP.li (h : NdP w nd X lo rooms L n) : LI rooms L := by obtain ⟨g, h1, h2, h3⟩ := h; rw [← h2]; exact h1.li
theorem NdP.len (h : NdP w nd X lo rooms L n) : L.length ≤ 64 := h.li.len
theorem NdP.more (h : NdP w nd X lo rooms L n) {m : Nat} (hm : n ≤ m) : NdP w nd X lo rooms L m := by obtain ⟨g, h1, h2, h3⟩ := h; exact ⟨g, h1, h2, by omega⟩
/-- A block of another type is none of a node's. -/
theorem NdP.nx (h : NdP w nd X lo rooms L n) {b T : Nat} {cs : Array Value} (ho : Own w b cs T) (hT : T ≠ 237 ∧ T ≠ 238 ∧ T ≠ 330 ∧ T ≠ 244 ∧ T ≠ 381 ∧ T ≠ 391 ∧ T ≠ 443) : ¬ X b := fun hb => NT.not ho hT (h.nt hb)
theorem NdP.blk (h : NdP w nd X lo rooms L n) {b T : Nat} {cs : Array Value} (ho : Own w b cs T) (hT : T ≠ 237 ∧ T ≠ 238 ∧ T ≠ 330 ∧ T ≠ 244 ∧ T ≠ 381 ∧ T ≠ 391 ∧ T ≠ 443) (hs : Step (Just b) w w1) : NdP w1 nd X lo rooms L n := h.step hs fun k hk e => h.nx ho hT (by rw [show k = b from e] at hk; exact hk)
theorem NdP.row {sz base m c T : Nat} {A : Option Addr} {xs : List Value} (h : NdP w nd X lo rooms L n) (hr : RwS w sz base T A m c xs) (hT : T ≠ 237 ∧ T ≠ 238 ∧ T ≠ 330 ∧ T ≠ 244 ∧ T ≠ 381 ∧ T ≠ 391 ∧ T ≠ 443) (hs : Step (ownB A) w w1) : NdP w1 nd X lo rooms L n := h.step hs fun k hk e => by
  have h1 := tyO_tyB (hr.tyB e)
  obtain ⟨_, h2⟩ := h.nt hk
  omega
theorem NdP.mark {b : Nat} (h : NdP w nd X lo rooms L n) (hs : Step (Just b) w w1) (hb : ¬ X b) : NdP w1 nd X lo rooms L n := h.step hs fun k hk e => hb (by rw [show k = b from e] at hk; exact hk)
theorem NdP.dfr {b : Nat} (h : NdP w nd X lo rooms L n) (hd : Dfr w b) : ¬ X b := fun hb => by
  obtain ⟨_, h2⟩ := h.nt hb
  have h1 : tyO w b = 1 := by unfold tyO; unfold Dfr at hd; rw [hd]
  omega
abbrev KV (p v c : Int) : Value := .agg #[.int .i64 p, .int .i64 v, .int .i64 c]
abbrev CVv (k : Con) : Value := .agg #[.int .i64 k.kind, .int .i64 k.peak, .int .i64 k.early, .int .i64 k.whole, .int .i64 k.burst, .int .i64 k.least]
/-- What an operation leaves. -/
def Next (w : World) (nd : Nat) (X : Nat → Prop) (lo : Nat) (rooms : List Int) (L : List Cx) (n : Nat) (w1 : World) : Prop := ∃ X9, NdP w1 nd X9 lo rooms L n ∧ (∀ q, X9 q → X q ∨ w.heap.size ≤ q) ∧ Step X w w1
theorem Next.of_no (h : NdP w nd X lo rooms L n) (hs : Step No w w1) : Next w nd X lo rooms L (n + 1) w1 := ⟨X, (h.no hs).more (by omega), fun q hq => .inl hq, hs.weak⟩
theorem ntake (h : NdP w nd X lo rooms L n) (hn : n < 1152921504606846976) (p v c : Int) (k : Con) : CV Tryz.prog 58 #[.pointer (some ⟨nd, 0, none⟩), KV p v c, CVv k] w fun x w1 => x = .int .i64 (chkN rooms L p v c k) ∧ Next w nd X lo rooms (takeN rooms L p v c k) (n + 1) w1 := by
  have hlo := h.lo_le
  obtain ⟨g, h1, rfl, h3⟩ := h
  refine (take_any nd lo X rooms g p v c k (by omega) w hlo h1 (fun hc => take_no nd lo X rooms g p v c k hc w h1)).mono ?_
  rintro x w1 ⟨rfl, g9, X9, a, b, c', d, e⟩
  exact ⟨rfl, X9, ⟨g9, a, b, by omega⟩, d, e⟩
theorem nverdict (h : NdP w nd X lo rooms L n) (p v c t clp : Int) : CV Tryz.prog 125 #[.pointer (some ⟨nd, 0, none⟩), KV p v c, .int .i64 t, .int .i64 clp] w fun x w1 => x = .tuple #[.int .i64 (verV L p v c t clp), .bool (findC L p v c).isSome] ∧ Next w nd X lo rooms (verN L p v c t clp) (n + 1) w1 := by
  have hh := h
  obtain ⟨g, h1, rfl, h3⟩ := h
  cases hc : (findC g.L p v c).isSome with
  | true =>
    refine (verdict_yes nd lo X rooms g p v c t clp w h1 (by rw [lookE_isSome]; exact hc)).mono ?_
    rintro x w1 ⟨rfl, g9, X9, a, b, c', d, e⟩
    exact ⟨rfl, X9, ⟨g9, a, b, by omega⟩, d, e⟩
  | false =>
    have hn : findC g.L p v c = none := by cases e : findC g.L p v c; rfl; rw [e] at hc; cases hc
    refine (verdict_no nd lo X rooms g p v c t clp w h1 (by rw [lookE_isSome]; exact hc)).mono ?_
    rintro x w1 ⟨rfl, hs⟩
    refine ⟨by unfold verV; rw [hn], ?_⟩
    unfold verN
    rw [setC_none hn]
    exact Next.of_no hh hs
theorem nnew {A : Option Addr} {m c Bd : Nat} {rs : List Int} (hn : rs.length = m) (hA : Sl w Bd A (iL .i64 rs)) (hB : Bd ≤ w.heap.size) (hnc : m ≤ c) : CV Tryz.prog 52 #[.slice A m c] w fun x w1 => ∃ nd X, x = .pointer (some ⟨nd, 0, none⟩) ∧ NdP w1 nd X w.heap.size (roomsN rs) [] 0 ∧ (∀ q, X q → w.heap.size ≤ q) ∧ Step No w w1 := by
  refine (nnew_x A m c Bd rs w hn hA hB hnc).mono ?_
  rintro x w1 ⟨nd, X, g, rfl, a, b, c', d, e⟩
  exact ⟨nd, X, rfl, ⟨g, a, b, by omega⟩, d, e⟩
end
end Go.Proofs.YtcablikikkmfjaaGreat
end

section
/- Reply, Got, Sends; what layer 21 shares. -/
set_option linter.unusedVariables false
set_option linter.unusedSimpArgs false
set_option maxRecDepth 100000
set_option maxHeartbeats 4000000
namespace Go.Proofs.YtcablikikkmfjaaGreat
open Go.Vc Go.RowKit
end Go.Proofs.YtcablikikkmfjaaGreat
end

section
/- Layer 11: package gather. -/
set_option linter.unusedVariables false
set_option linter.unusedSimpArgs false
set_option maxRecDepth 100000
set_option maxHeartbeats 4000000
namespace Go.Proofs.YtcablikikkmfjaaGreat
open Go.Vc Go.RowKit
theorem gnew_any (m : Int) (w : World) :
  CV Tryz.prog 54 #[I6 m] w (fun x w1 => ∃ p, x = Pt p 0 ∧ ¬ p < w.heap.size ∧ GaOf w1 246 p (fun _ => True) ⟨imax 1 (imin m 1152921504606846976), 0, 0, [], false⟩ ∧ Step No w w1) := by
 have hS : Step No w w := Step.refl _ _
 refine VCe Tryz.func54 (Vrp (Vs (Vr (Vp 4 ?_))))
 refine Vx 4 246 #[I6 (imax 1 (imin m 1152921504606846976)), I6 0, I6 0, .slice none 0 0, Bo false] ?_
 intro b1 w1 hn1
 replace hS := Step.trans hS (hn1.step No)
 have ho1 := hn1.own
 have hzhn1 := hn1.size
 have hqhn1 := hn1.eqb
 refine Ve (Vn (VC_ret (Vr1 (Pt b1 0) ?_)))
 exact ⟨_, rfl, by omega, ⟨none, 0, ho1, SlX.nil, Nat.le_refl _⟩, hS⟩

end Go.Proofs.YtcablikikkmfjaaGreat
end

section
/- Layer 22: a plane in memory. -/
set_option linter.unusedVariables false
set_option linter.unusedSimpArgs false
namespace Go.Proofs.YtcablikikkmfjaaGreat
open Go.Vc Go.RowKit

structure Wi where
  y : Wy
  id : Int
  wb : Nat
  ab : Nat
def Wi.ent (z : Wi) : Ent := ⟨z.y.ip, z.y.iv, z.y.ic, z.id⟩
abbrev wyA (y : Wy) (ab : Nat) : Array Value := #[.int .i64 y.ip, .int .i64 y.iv, .int .i64 y.ic, .int .i64 y.op, .int .i64 y.ov, .int .i64 y.oc, .pointer (some ⟨ab, 0, none⟩), .bool y.cl]
abbrev wpV (b : Nat) : Value := .pointer (some ⟨b, 0, none⟩)
abbrev knV (x : Int × Int) : Value := .agg #[.int .i64 x.1, .int .i64 x.2]
abbrev tkV (x : CS × (Int × Int × Int)) : Value := .agg #[.int .i64 x.1.ph, .int .i64 x.1.due, .int .i64 x.1.tr, .int .i64 x.2.1, .int .i64 x.2.2.1, .int .i64 x.2.2.2]
/-- What is told of a plane beside what it knows. -/
structure PlG where
  nd : Nat
  la : Option Addr
  lb : Nat
  lc : Nat
  tb : Nat
  wm : Nat
  cm : Nat
  Xn : Nat → Prop
  lg : Nat → Nat
  gg : Nat → Nat
  wi : List Wi
  next : Nat
  M : List (Int × Nat)
abbrev plA (g : PlG) (st : PS) : Array Value := #[.pointer (some ⟨g.nd, 0, none⟩), .slice g.la st.lk.length g.lc, .pointer (some ⟨g.tb, 0, none⟩), .map (some g.wm), .map (some g.cm), .int .i64 st.tm.s, .int .i64 st.tm.c, .int .i64 st.tm.r, .int .i64 st.wait, .int .i64 ((g.next : Nat) : Int), .int .i64 st.now, .int .i64 (st.cn 0), .int .i64 (st.cn 1), .int .i64 (st.cn 2), .int .i64 (st.cn 3), .int .i64 (st.cn 4), .int .i64 (st.cn 5), .int .i64 (st.cn 6), .int .i64 (st.cn 7), .int .i64 (st.cn 8)]
/-- A link in memory. -/
def LkI (w : World) (lb gb : Nat) (XB : Nat → Prop) (l : Lk) : Prop := (∃ r d, Own w lb #[.int .i64 r, .int .i64 d, .bool l.cf, .pointer (some ⟨gb, 0, none⟩), .bool l.dn] 134) ∧ GaOf w 246 gb XB l.ga
/-- The blocks of a plane, but for its own, its table and its maps. -/
def PlSet (g : PlG) (st : PS) (k : Nat) : Prop := g.Xn k ∨ (0 < st.lk.length ∧ k = g.lb) ∨ (∃ i, i < st.lk.length ∧ (k = g.lg i ∨ k = g.gg i)) ∨ ∃ z ∈ g.wi, k = z.wb ∨ k = z.ab
structure PlS (w : World) (lo : Nat) (XB : Nat → Prop) (g : PlG) (st : PS) (n : Nat) : Prop where
  node : NdP w g.nd g.Xn lo st.rooms st.L n
  row : 0 < st.lk.length → g.la = some ⟨g.lb, 0, none⟩ ∧ RowE w g.lb 130 (flat lgc ((List.range st.lk.length).map g.lg))
  lnk : ∀ (i : Nat) (l : Lk), st.lk[i]? = some l → LkI w (g.lg i) (g.gg i) XB l
  lgi : ∀ i j, i < st.lk.length → j < st.lk.length → g.lg i = g.lg j → i = j
  ggi : ∀ i j, i < st.lk.length → j < st.lk.length → g.gg i = g.gg j → i = j
  way : ∀ z ∈ g.wi, Own w z.wb (wyA z.y z.ab) 144 ∧ Own w z.ab (alC z.y.al) 254
  wbi : ∀ z ∈ g.wi, ∀ z' ∈ g.wi, z.wb = z'.wb → z = z'
  abi : ∀ z ∈ g.wi, ∀ z' ∈ g.wi, z.ab = z'.ab → z = z'
/-- The types of a plane's blocks. -/
def PT0 (t : Nat) : Prop := t = 0 ∨ t = 129 + 2 ∨ t = 130 + 2 ∨ t = 134 + 2 ∨ t = 246 + 2 ∨ t = 144 + 2 ∨ t = 254 + 2 ∨ t = 237 + 2 ∨ t = 238 + 2 ∨ t = 330 + 2 ∨ t = 244 + 2 ∨ t = 381 + 2 ∨ t = 391 + 2 ∨ t = 443 + 2
def PTy (w : World) (k : Nat) : Prop := k < w.heap.size ∧ PT0 (tyO w k)
structure PnX (w : World) (p : Nat) (X XB : Nat → Prop) (lo : Nat) (g : PlG) (st : PS) (n : Nat) : Prop where
  own : Own w p (plA g st) 129
  tab : Tb w g.tb 64 (g.wi.map Wi.ent)
  wmap : MapL w g.wm ei wpV g.M
  cmap : MapL w g.cm knV tkV st.K
  s : PlS w lo XB g st n
  W : st.W = g.wi.map Wi.y
  ids : ∀ z ∈ g.wi, getM g.M z.id = some z.wb
  idi : ∀ z ∈ g.wi, ∀ z' ∈ g.wi, z.id = z'.id → z = z'
  idl : ∀ z ∈ g.wi, 0 ≤ z.id ∧ z.id < g.next
  Ml : ∀ id b, getM g.M id = some b → ∃ z ∈ g.wi, z.id = id ∧ z.wb = b
  nx : g.next ≤ n
  ntb : ¬ g.Xn g.tb
  nwm : ¬ g.Xn g.wm
  ncm : ¬ g.Xn g.cm
  wc : g.wm ≠ g.cm
  inX : ∀ k, PlSet g st k → X k
  inp : X p ∧ X g.tb ∧ X g.wm ∧ X g.cm
  ty : ∀ k, X k → PTy w k
  lw : ∀ k, X k → lo ≤ k
  xb : ∀ k, XB k → lo ≤ k ∧ TyB w 5 k
  pi : PI st n
/-- A plane by what it knows. -/
def PlP (w : World) (p : Nat) (X XB : Nat → Prop) (lo : Nat) (st : PS) (n : Nat) : Prop := ∃ g, PnX w p X XB lo g st n

section
variable {w w1 : World} {F : Nat → Prop} {p lo n : Nat} {X XB : Nat → Prop} {g : PlG} {st : PS}
theorem LkI.step {lb gb : Nat} {l : Lk} (h : LkI w lb gb XB l) (hs : Step F w w1) (h1 : ¬ F lb) (h2 : ¬ F gb) (hB : ∀ b, XB b → TyB w 5 b → ¬ F b) : LkI w1 lb gb XB l := by
  obtain ⟨⟨r, d, ho⟩, A, c, ha, hv, hc⟩ := h
  exact ⟨⟨r, d, ho.step hs h1⟩, A, c, ha.step hs h2, hv.keep hs hB, hc⟩
theorem LkI.mono {lb gb : Nat} {l : Lk} {Y : Nat → Prop} (h : LkI w lb gb XB l) (hX : ∀ b, XB b → b < w.heap.size → Y b) : LkI w lb gb Y l := ⟨h.1, h.2.mono hX⟩
theorem PlS.lks (h : PlS w lo XB g st n) {i : Nat} (hi : i < st.lk.length) : ∃ l, st.lk[i]? = some l ∧ LkI w (g.lg i) (g.gg i) XB l := ⟨_, List.getElem?_eq_getElem hi, h.lnk i _ (List.getElem?_eq_getElem hi)⟩
theorem PlS.step (h : PlS w lo XB g st n) (hs : Step F w w1) (hF : ∀ k, PlSet g st k → ¬ F k) (hB : ∀ b, XB b → TyB w 5 b → ¬ F b) : PlS w1 lo XB g st n where
  node := h.node.step hs fun k hk => hF k (.inl hk)
  row h0 := by obtain ⟨a, b⟩ := h.row h0; exact ⟨a, b.step hs (hF _ (.inr (.inl ⟨h0, rfl⟩)))⟩
  lnk i l hl := by
    have hi := (List.getElem?_eq_some_iff.1 hl).1
    exact (h.lnk i l hl).step hs (hF _ (.inr (.inr (.inl ⟨i, hi, .inl rfl⟩)))) (hF _ (.inr (.inr (.inl ⟨i, hi, .inr rfl⟩)))) hB
  lgi := h.lgi
  ggi := h.ggi
  way z hz := ⟨(h.way z hz).1.step hs (hF _ (.inr (.inr (.inr ⟨z, hz, .inl rfl⟩)))), (h.way z hz).2.step hs (hF _ (.inr (.inr (.inr ⟨z, hz, .inr rfl⟩))))⟩
  wbi := h.wbi
  abi := h.abi
theorem PTy.step {k : Nat} (h : PTy w k) (hs : Step F w w1) (hF : ¬ F k) : PTy w1 k := by
  unfold PTy
  rw [tyO_step h.1 hs hF]
  exact ⟨Nat.lt_of_lt_of_le h.1 hs.size, h.2⟩
theorem PTy.of_NT {k : Nat} (h : NT w k) : PTy w k := by
  obtain ⟨h1, h2⟩ := h
  unfold PTy PT0
  exact ⟨h1, by omega⟩
theorem PTy.own {k T : Nat} {cs : Array Value} (ho : Own w k cs T) (hT : PT0 (T + 2)) : PTy w k := ⟨ho.lt, by rw [tyO_own ho]; exact hT⟩
theorem PTy.not {k T : Nat} {cs : Array Value} (ho : Own w k cs T) (hT : ¬ PT0 (T + 2)) : ¬ PTy w k := fun h => hT (by have := h.2; rwa [tyO_own ho] at this)
theorem PnX.t_p (h : PnX w p X XB lo g st n) : tyO w p = 129 + 2 := tyO_own h.own
theorem PnX.t_tb (h : PnX w p X XB lo g st n) : tyO w g.tb = 244 + 2 := tyO_tb h.tab
theorem PnX.t_wm (h : PnX w p X XB lo g st n) : tyO w g.wm = 0 := tyO_map h.wmap
theorem PnX.t_cm (h : PnX w p X XB lo g st n) : tyO w g.cm = 0 := tyO_map h.cmap
theorem PlS.t_nd (h : PlS w lo XB g st n) {k : Nat} (hk : g.Xn k) : tyO w k = 0 ∨ tyO w k = 237 + 2 ∨ tyO w k = 238 + 2 ∨ tyO w k = 330 + 2 ∨ tyO w k = 244 + 2 ∨ tyO w k = 381 + 2 ∨ tyO w k = 391 + 2 ∨ tyO w k = 443 + 2 := (h.node.nt hk).2
theorem PlS.t_lb (h : PlS w lo XB g st n) (h0 : 0 < st.lk.length) : tyO w g.lb = 130 + 2 := tyO_tyB (h.row h0).2.ty
theorem PlS.t_lg (h : PlS w lo XB g st n) {i : Nat} (hi : i < st.lk.length) : tyO w (g.lg i) = 134 + 2 := by obtain ⟨l, _, ⟨r, d, ho⟩, _⟩ := h.lks hi; exact tyO_own ho
theorem PlS.t_gg (h : PlS w lo XB g st n) {i : Nat} (hi : i < st.lk.length) : tyO w (g.gg i) = 246 + 2 := by obtain ⟨l, _, _, A, c, ho, _⟩ := h.lks hi; exact tyO_own ho
theorem PlS.t_wb (h : PlS w lo XB g st n) {z : Wi} (hz : z ∈ g.wi) : tyO w z.wb = 144 + 2 := tyO_own (h.way z hz).1
theorem PlS.t_ab (h : PlS w lo XB g st n) {z : Wi} (hz : z ∈ g.wi) : tyO w z.ab = 254 + 2 := tyO_own (h.way z hz).2
/-- A block of the plane's set is of some of these types. -/
theorem PlS.t_set (h : PlS w lo XB g st n) {k : Nat} (hk : PlSet g st k) : g.Xn k ∨ tyO w k = 130 + 2 ∨ tyO w k = 134 + 2 ∨ tyO w k = 246 + 2 ∨ tyO w k = 144 + 2 ∨ tyO w k = 254 + 2 := by
  rcases hk with hk | ⟨h0, rfl⟩ | ⟨i, hi, rfl | rfl⟩ | ⟨z, hz, rfl | rfl⟩
  · exact .inl hk
  · have := h.t_lb h0; omega
  · have := h.t_lg hi; omega
  · have := h.t_gg hi; omega
  · have := h.t_wb hz; omega
  · have := h.t_ab hz; omega
theorem PnX.n_p (h : PnX w p X XB lo g st n) : ¬ PlSet g st p := fun hk => by
  have h1 := h.t_p
  rcases h.s.t_set hk with h2 | h2
  · have := h.s.t_nd h2; omega
  · omega
theorem PnX.lt (h : PnX w p X XB lo g st n) {k : Nat} (hk : X k) : k < w.heap.size := (h.ty k hk).1
theorem PnX.step (h : PnX w p X XB lo g st n) (hs : Step F w w1) (hF : ∀ k, X k → ¬ F k) (hB : ∀ b, XB b → TyB w 5 b → ¬ F b) : PnX w1 p X XB lo g st n :=
  { h with
    own := h.own.step hs (hF _ h.inp.1)
    tab := h.tab.step hs (hF _ h.inp.2.1)
    wmap := h.wmap.step hs (hF _ h.inp.2.2.1)
    cmap := h.cmap.step hs (hF _ h.inp.2.2.2)
    s := h.s.step hs (fun k hk => hF k (h.inX k hk)) hB
    ty := fun k hk => (h.ty k hk).step hs (hF k hk)
    xb := fun k hk => ⟨(h.xb k hk).1, (h.xb k hk).2.step hs (hB k hk (h.xb k hk).2)⟩ }
theorem PnX.no (h : PnX w p X XB lo g st n) (hs : Step No w w1) : PnX w1 p X XB lo g st n := h.step hs (fun _ _ => id) fun _ _ _ => id
theorem PlP.step (h : PlP w p X XB lo st n) (hs : Step F w w1) (hF : ∀ k, X k → ¬ F k) (hB : ∀ b, XB b → TyB w 5 b → ¬ F b) : PlP w1 p X XB lo st n := by obtain ⟨g, h⟩ := h; exact ⟨g, h.step hs hF hB⟩
theorem PlP.no (h : PlP w p X XB lo st n) (hs : Step No w w1) : PlP w1 p X XB lo st n := by obtain ⟨g, h⟩ := h; exact ⟨g, h.no hs⟩
theorem PlP.lt (h : PlP w p X XB lo st n) : p < w.heap.size := by obtain ⟨g, h⟩ := h; exact h.own.lt
theorem PlP.ltX (h : PlP w p X XB lo st n) {k : Nat} (hk : X k) : k < w.heap.size := by obtain ⟨g, h⟩ := h; exact h.lt hk
theorem PlP.pi (h : PlP w p X XB lo st n) : PI st n := by obtain ⟨g, h⟩ := h; exact h.pi
theorem PlP.li (h : PlP w p X XB lo st n) : LI st.rooms st.L := by obtain ⟨g, h⟩ := h; exact h.s.node.li
theorem PlS.more (h : PlS w lo XB g st n) {m : Nat} (hm : n ≤ m) : PlS w lo XB g st m := { h with node := h.node.more hm }
theorem PnX.more (h : PnX w p X XB lo g st n) {m : Nat} (hm : n ≤ m) : PnX w p X XB lo g st m := { h with s := h.s.more hm, nx := Nat.le_trans h.nx hm, pi := h.pi.more hm }
theorem PlP.more (h : PlP w p X XB lo st n) {m : Nat} (hm : n ≤ m) : PlP w p X XB lo st m := by obtain ⟨g, h⟩ := h; exact ⟨g, h.more hm⟩
/-- A block of another type is none of a plane's. -/
theorem PlP.nx {b T : Nat} {cs : Array Value} (h : PlP w p X XB lo st n) (ho : Own w b cs T) (hT : ¬ PT0 (T + 2)) : ¬ X b := fun hb => by obtain ⟨g, h⟩ := h; exact PTy.not ho hT (h.ty b hb)
theorem PlP.blk {b T : Nat} {cs : Array Value} (h : PlP w p X XB lo st n) (ho : Own w b cs T) (hT : ¬ PT0 (T + 2)) (h5 : 5 ≠ T) (hs : Step (Just b) w w1) : PlP w1 p X XB lo st n :=
  h.step hs (fun k hk e => h.nx ho hT (by rw [show k = b from e] at hk; exact hk)) fun k hk ht e => ht.ne ho h5 e
theorem PlP.mark {b : Nat} (h : PlP w p X XB lo st n) (hs : Step (Just b) w w1) (hb : ¬ X b) (hB : ¬ XB b) : PlP w1 p X XB lo st n :=
  h.step hs (fun k hk e => hb (by rw [show k = b from e] at hk; exact hk)) fun k hk _ e => hB (by rw [show k = b from e] at hk; exact hk)
theorem tyO_dfr {b : Nat} (hd : Dfr w b) : tyO w b = 1 := by unfold tyO; unfold Dfr at hd; rw [hd]
theorem PlP.dfr {b : Nat} (h : PlP w p X XB lo st n) (hd : Dfr w b) : ¬ X b ∧ ¬ XB b := by
  obtain ⟨g, h⟩ := h
  refine ⟨fun hb => ?_, fun hb => ?_⟩
  · have h1 := (h.ty b hb).2
    rw [tyO_dfr hd] at h1
    revert h1; unfold PT0; decide
  · have h1 := tyO_tyB (h.xb b hb).2
    rw [tyO_dfr hd] at h1
    omega
/-- What an operation on a plane leaves. -/
def PNext (w : World) (p : Nat) (X XB : Nat → Prop) (lo : Nat) (st : PS) (n : Nat) (w1 : World) : Prop := ∃ X9 XB9, PlP w1 p X9 XB9 lo st n ∧ (∀ q, X9 q → X q ∨ w.heap.size ≤ q) ∧ (∀ q, XB9 q → XB q ∨ w.heap.size ≤ q) ∧ Step X w w1
theorem PNext.of_no (h : PlP w p X XB lo st n) (hs : Step No w w1) : PNext w p X XB lo st n w1 := ⟨X, XB, h.no hs, fun _ hq => .inl hq, fun _ hq => .inl hq, hs.weak⟩
end
end Go.Proofs.YtcablikikkmfjaaGreat
end

section
/- Layer 22: a plane in memory, behind what is done with it. -/
set_option linter.unusedVariables false
set_option linter.unusedSimpArgs false
namespace Go.Proofs.YtcablikikkmfjaaGreat
open Go.Vc Go.RowKit
section
variable {w w1 : World} {F : Nat → Prop} {p lo n : Nat} {X XB : Nat → Prop} {g : PlG} {st : PS}
/-- What the opening of a way turns. -/
def openF (g : PlG) (p k : Nat) : Prop := g.Xn k ∨ k = p ∨ k = g.tb ∨ k = g.wm
theorem openF_no {w2 : World} (h : Step (openF g p) w w1) (hs : Step No w1 w2) : Step (openF g p) w w2 := Step.trans h hs.weak
theorem openF_X (h : PnX w p X XB lo g st n) (k : Nat) (hk : openF g p k) : X k := by
  rcases hk with hk | rfl | rfl | rfl
  · exact h.inX k (.inl hk)
  · exact h.inp.1
  · exact h.inp.2.1
  · exact h.inp.2.2.1
theorem PnX.lk_open (h : PnX w p X XB lo g st n) (hS : Step (openF g p) w w1) {i : Nat} (hi : i < st.lk.length) : ∃ l r d, st.lk[i]? = some l ∧ Own w1 (g.lg i) #[.int .i64 r, .int .i64 d, .bool l.cf, .pointer (some ⟨g.gg i, 0, none⟩), .bool l.dn] 134 ∧ g.la = some ⟨g.lb, 0, none⟩ ∧ RowE w1 g.lb 130 (flat lgc ((List.range st.lk.length).map g.lg)) := by
  obtain ⟨l, hl, ⟨r, d, ho⟩, _⟩ := h.s.lks hi
  obtain ⟨ha, hr⟩ := h.s.row (by omega)
  have t1 := h.s.t_lg hi
  have t2 := h.s.t_lb (by omega)
  have t3 := h.t_p
  have t4 := h.t_tb
  have t5 := h.t_wm
  refine ⟨l, r, d, hl, ho.step hS ?_, ha, hr.step hS ?_⟩
  · rintro (e | e | e | e)
    · have := h.s.t_nd e; omega
    · rw [e] at t1; omega
    · rw [e] at t1; omega
    · rw [e] at t1; omega
  · rintro (e | e | e | e)
    · have := h.s.t_nd e; omega
    · rw [e] at t2; omega
    · rw [e] at t2; omega
    · rw [e] at t2; omega
theorem newW_dn {st : PS} {i : Nat} {l : Lk} (hl : st.lk[i]? = some l) : (lkAt st ((i : Nat) : Int)).dn = l.dn := by
  unfold lkAt
  rw [Int.toNat_natCast, List.getD_eq_getElem?_getD, hl]; rfl
theorem newW_al {st : PS} {i : Nat} {iv ic op ov oc : Int} {l : Lk} (hl : st.lk[i]? = some l) : (newW st ((i : Nat) : Int) iv ic op ov oc).al = downA (newA (hereP ((i : Nat) : Int)) st.wait) l.dn := by
  unfold newW
  simp only [newW_dn hl]
theorem RowE.ldp {P : Program} {rb T m i : Nat} {f : Nat → Nat} {t : TypeId} (h : RowE w rb T (flat lgc ((List.range m).map f))) (ht : oneB P t = true) (hi : i < m) : Loads P t w ⟨rb, i, none⟩ (.pointer (some ⟨f i, 0, none⟩)) := by
  have h9 := h.sl.sl.ld0 (P := P) ht i (u := .pointer (some ⟨f i, 0, none⟩)) (by
    have := flat_get lgc_len ((List.range m).map f) i 0 (by decide)
    rw [Nat.mul_one, Nat.add_zero] at this
    rw [this]
    simp [hi])
  exact h9
def insWi (l : List Wi) (z : Wi) : List Wi := l.take (aheadW (l.map Wi.y) z.y.ip z.y.iv z.y.ic) ++ z :: l.drop (aheadW (l.map Wi.y) z.y.ip z.y.iv z.y.ic)
theorem ahead_mapW (l : List Wi) (p v c : Int) : aheadE (l.map Wi.ent) p v c = aheadW (l.map Wi.y) p v c := by
  unfold aheadW
  induction l with
  | nil => rfl
  | cons y l ih => simp only [List.map_cons, aheadE, ih, Wi.ent, Wy.e0]
theorem insWi_y (l : List Wi) (z : Wi) : (insWi l z).map Wi.y = insW (l.map Wi.y) z.y := by
  unfold insWi insW; simp only [List.map_append, List.map_cons, List.map_take, List.map_drop]
theorem insWi_ent (l : List Wi) (z : Wi) : (insWi l z).map Wi.ent = insE (l.map Wi.ent) z.ent := by
  unfold insWi insE
  simp only [List.map_append, List.map_cons, List.map_take, List.map_drop, show z.ent.p = z.y.ip from rfl, show z.ent.v = z.y.iv from rfl, show z.ent.c = z.y.ic from rfl, ahead_mapW]
theorem mem_insWi {l : List Wi} {x y : Wi} : y ∈ insWi l x ↔ y = x ∨ y ∈ l := by
  unfold insWi
  rw [List.mem_append, List.mem_cons]
  have h : y ∈ l ↔ y ∈ l.take (aheadW (l.map Wi.y) x.y.ip x.y.iv x.y.ic) ∨ y ∈ l.drop (aheadW (l.map Wi.y) x.y.ip x.y.iv x.y.ic) := by rw [← List.mem_append, List.take_append_drop]
  rw [h]
  exact ⟨fun h => by rcases h with h | h | h; exact .inr (.inl h); exact .inl h; exact .inr (.inr h), fun h => by rcases h with h | h | h; exact .inr (.inl h); exact .inl h; exact .inr (.inr h)⟩
def findWi (l : List Wi) (p v c : Int) : Option Wi := l.find? fun z => keyW p v c z.y
theorem findWi_map (l : List Wi) (p v c : Int) : findW (l.map Wi.y) p v c = (findWi l p v c).map Wi.y := by
  unfold findW findWi
  rw [List.find?_map]; rfl
theorem lookW_map (l : List Wi) (p v c : Int) : lookE (l.map Wi.ent) p v c = (findWi l p v c).map Wi.id := by
  unfold lookE findWi
  rw [List.find?_map, Option.map_map]
  rfl
theorem findWi_some {l : List Wi} {p v c : Int} {z : Wi} (h : findWi l p v c = some z) : z ∈ l ∧ z.y.ip = p ∧ z.y.iv = v ∧ z.y.ic = c := by
  unfold findWi at h
  exact ⟨List.mem_of_find?_eq_some h, keyW_iff.1 (List.find?_some (p := fun z : Wi => keyW p v c z.y) h)⟩
theorem PnX.look_yes (h : PnX w p X XB lo g st n) {q v c : Int} {y : Wy} (hf : findW st.W q v c = some y) : ∃ z, findWi g.wi q v c = some z ∧ z.y = y ∧ lookE (g.wi.map Wi.ent) q v c = some z.id ∧ getM g.M z.id = some z.wb := by
  rw [h.W, findWi_map] at hf
  obtain ⟨z, hz, rfl⟩ := Option.map_eq_some_iff.1 hf
  exact ⟨z, hz, rfl, by rw [lookW_map, hz]; rfl, h.ids z (findWi_some hz).1⟩
theorem PnX.look_no (h : PnX w p X XB lo g st n) {q v c : Int} (hf : findW st.W q v c = none) : lookE (g.wi.map Wi.ent) q v c = none ∧ findWi g.wi q v c = none := by
  rw [h.W, findWi_map, Option.map_eq_none_iff] at hf
  exact ⟨by rw [lookW_map, hf]; rfl, hf⟩
theorem PnX.opened (h : PnX w p X XB lo g st n) {ip iv ic op ov oc : Int} {k : Con} {wb ab : Nat} {X9 : Nat → Prop} (h0 : openK st ip iv ic op ov oc k = 0) (hS : Step (openF g p) w w1)
    (hp : Own w1 p (plA { g with next := g.next + 1 } st) 129) (ht : Tb w1 g.tb 64 (putE (g.wi.map Wi.ent) 64 ip iv ic (g.next : Nat))) (hm : MapL w1 g.wm ei wpV (putM g.M ((g.next : Nat) : Int) wb))
    (hn : NdP w1 g.nd X9 lo st.rooms (takeN st.rooms st.L op ov oc k) (n + 1)) (hX9 : ∀ q, X9 q → g.Xn q ∨ w.heap.size ≤ q) (hwb : Own w1 wb (wyA (newW st ip iv ic op ov oc) ab) 144) (hab : Own w1 ab (alC (newW st ip iv ic op ov oc).al) 254) (hw : w.heap.size ≤ wb) (ha : w.heap.size ≤ ab) (hlo : lo ≤ w.heap.size) :
    PnX w1 p (fun q => (X q ∧ ¬ g.Xn q) ∨ X9 q ∨ q = wb ∨ q = ab) XB lo { g with next := g.next + 1, Xn := X9, wi := insWi g.wi ⟨newW st ip iv ic op ov oc, (g.next : Nat), wb, ab⟩, M := putM g.M ((g.next : Nat) : Int) wb } (openS st ip iv ic op ov oc k) (n + 1) := by
  obtain ⟨h1, h2, h3⟩ := openK_zero h0
  obtain ⟨a1, a2, a3, a4, a5⟩ := okIn_iff.1 h1
  obtain ⟨c1, c2, c3, c4⟩ := chkN_zero h3
  have hOS : openS st ip iv ic op ov oc k = { st with L := takeN st.rooms st.L op ov oc k, W := insW st.W (newW st ip iv ic op ov oc) } := by unfold openS; rw [if_pos h0]
  have hpi := (h.pi.more (Nat.le_succ n)).opened (ip := ip) (iv := iv) (ic := ic) (op := op) (ov := ov) (oc := oc) (k := k) h.s.node.li
  rw [hOS] at hpi ⊢
  have t1 := h.t_p
  have t2 := h.t_tb
  have t3 := h.t_wm
  have t4 := h.t_cm
  have oldT : ∀ {q : Nat}, X q → q < w.heap.size := fun hq => h.lt hq
  have hput : putE (g.wi.map Wi.ent) 64 ip iv ic (g.next : Nat) = insE (g.wi.map Wi.ent) ⟨ip, iv, ic, (g.next : Nat)⟩ := by
    unfold putE
    rw [if_pos (putK_ok.2 ⟨a2, (h.look_no h2).1, by rw [List.length_map]; have := h.pi.len; rw [h.W, List.length_map] at this; omega⟩)]
  have hnt : ∀ q, (tyO w q = 130 + 2 ∨ tyO w q = 134 + 2 ∨ tyO w q = 246 + 2 ∨ tyO w q = 144 + 2 ∨ tyO w q = 254 + 2 ∨ tyO w q = 7) → ¬ openF g p q := by
    intro q hq
    rintro (e | e | e | e)
    · have := h.s.t_nd e; omega
    · rw [e] at hq; omega
    · rw [e] at hq; omega
    · rw [e] at hq; omega
  have hB : ∀ b, XB b → TyB w 5 b → ¬ openF g p b := fun b _ hb => hnt b (by have := tyO_tyB hb; omega)
  have hold : ∀ z ∈ g.wi, z.wb < w.heap.size ∧ z.ab < w.heap.size := fun z hz => ⟨(h.s.way z hz).1.lt, (h.s.way z hz).2.lt⟩
  have hid : ∀ z ∈ g.wi, z.id ≠ ((g.next : Nat) : Int) := fun z hz e => by have := (h.idl z hz).2; omega
  have X9n : ∀ q, X q → ¬ g.Xn q → ¬ X9 q := fun q hq hn' h9 => by
    rcases hX9 q h9 with h8 | h8
    · exact hn' h8
    · have := oldT hq; omega
  refine { own := hp, tab := ?_, wmap := hm, cmap := h.cmap.step hS ?_, s := ?_, W := ?_, ids := fun z hz => ?_, idi := fun z hz z' hz' e => ?_, idl := fun z hz => ?_, Ml := fun id b hb => ?_, nx := ?_, ntb := X9n _ h.inp.2.1 h.ntb, nwm := X9n _ h.inp.2.2.1 h.nwm, ncm := X9n _ h.inp.2.2.2 h.ncm, wc := h.wc, inX := fun k hk => ?_, inp := ⟨.inl ⟨h.inp.1, fun e => by have := h.s.t_nd e; omega⟩, .inl ⟨h.inp.2.1, h.ntb⟩, .inl ⟨h.inp.2.2.1, h.nwm⟩, .inl ⟨h.inp.2.2.2, h.ncm⟩⟩, ty := fun q hq => ?_, lw := fun q hq => ?_, xb := fun q hq => ⟨(h.xb q hq).1, (h.xb q hq).2.step hS (hB q hq (h.xb q hq).2)⟩, pi := hpi }
  · simp only [insWi_ent]
    rw [← show insE (g.wi.map Wi.ent) ⟨ip, iv, ic, (g.next : Nat)⟩ = insE (g.wi.map Wi.ent) (Wi.ent ⟨newW st ip iv ic op ov oc, (g.next : Nat), wb, ab⟩) from rfl, ← hput]
    exact ht
  · rintro (e | e | e | e)
    · exact h.ncm e
    · rw [e] at t4; omega
    · rw [e] at t4; omega
    · exact h.wc e.symm
  · refine { node := hn, row := fun h0 => ?_, lnk := fun i l hl => ?_, lgi := h.s.lgi, ggi := h.s.ggi, way := fun z hz => ?_, wbi := fun z hz z' hz' e => ?_, abi := fun z hz z' hz' e => ?_ }
    · obtain ⟨a, b⟩ := h.s.row h0
      exact ⟨a, b.step hS (hnt _ (.inl (h.s.t_lb h0)))⟩
    · have hi := (List.getElem?_eq_some_iff.1 hl).1
      exact (h.s.lnk i l hl).step hS (hnt _ (.inr (.inl (h.s.t_lg hi)))) (hnt _ (.inr (.inr (.inl (h.s.t_gg hi))))) hB
    · rcases mem_insWi.1 hz with rfl | hz
      · exact ⟨hwb, hab⟩
      · exact ⟨(h.s.way z hz).1.step hS (hnt _ (by have := h.s.t_wb hz; omega)), (h.s.way z hz).2.step hS (hnt _ (by have := h.s.t_ab hz; omega))⟩
    · rcases mem_insWi.1 hz with rfl | hz
      · rcases mem_insWi.1 hz' with rfl | hz'
        · rfl
        · have := (hold z' hz').1; simp only at e; omega
      · rcases mem_insWi.1 hz' with rfl | hz'
        · have := (hold z hz).1; simp only at e; omega
        · exact h.s.wbi z hz z' hz' e
    · rcases mem_insWi.1 hz with rfl | hz
      · rcases mem_insWi.1 hz' with rfl | hz'
        · rfl
        · have := (hold z' hz').2; simp only at e; omega
      · rcases mem_insWi.1 hz' with rfl | hz'
        · have := (hold z hz).2; simp only at e; omega
        · exact h.s.abi z hz z' hz' e
  · simp only [insWi_y, h.W]
  · rcases mem_insWi.1 hz with rfl | hz
    · simp only; rw [getM_put, if_pos rfl]
    · simp only; rw [getM_put, if_neg (fun e => hid z hz e.symm)]; exact h.ids z hz
  · rcases mem_insWi.1 hz with rfl | hz
    · rcases mem_insWi.1 hz' with rfl | hz'
      · rfl
      · exact absurd e.symm (hid z' hz')
    · rcases mem_insWi.1 hz' with rfl | hz'
      · exact absurd e (hid z hz)
      · exact h.idi z hz z' hz' e
  · rcases mem_insWi.1 hz with rfl | hz
    · simp only; omega
    · have := h.idl z hz; simp only; omega
  · simp only at hb
    rw [getM_put] at hb
    split at hb
    · rename_i e
      simp only [Option.some.injEq] at hb
      exact ⟨_, mem_insWi.2 (.inl rfl), e, hb⟩
    · obtain ⟨z, hz, e1, e2⟩ := h.Ml id b hb
      exact ⟨z, mem_insWi.2 (.inr hz), e1, e2⟩
  · have := h.nx; simp only; omega
  · rcases hk with hk | hk | hk | ⟨z, hz, hk⟩
    · exact .inr (.inl hk)
    · exact .inl ⟨h.inX k (.inr (.inl hk)), fun e => by have := h.s.t_nd e; have := h.s.t_lb hk.1; rw [← hk.2] at this; omega⟩
    · exact .inl ⟨h.inX k (.inr (.inr (.inl hk))), fun e => by
        have := h.s.t_nd e
        obtain ⟨i, hi, rfl | rfl⟩ := hk
        · have h8 : tyO w (g.lg i) = 134 + 2 := h.s.t_lg hi
          simp only at this; omega
        · have h8 : tyO w (g.gg i) = 246 + 2 := h.s.t_gg hi
          simp only at this; omega⟩
    · rcases mem_insWi.1 hz with rfl | hz
      · rcases hk with rfl | rfl
        · exact .inr (.inr (.inl rfl))
        · exact .inr (.inr (.inr rfl))
      · exact .inl ⟨h.inX k (.inr (.inr (.inr ⟨z, hz, hk⟩))), fun e => by
          have := h.s.t_nd e
          rcases hk with rfl | rfl
          · have := h.s.t_wb hz; omega
          · have := h.s.t_ab hz; omega⟩
  · rcases hq with ⟨hq, hqn⟩ | hq | rfl | rfl
    · by_cases e : openF g p q
      · rcases e with e | e | e | e
        · exact absurd e hqn
        · rw [e]; exact PTy.own hp (by unfold PT0; omega)
        · rw [e]; exact ⟨ht.lt, by rw [tyO_tb ht]; unfold PT0; omega⟩
        · rw [e]; exact ⟨hm.lt, by rw [tyO_map hm]; unfold PT0; omega⟩
      · exact (h.ty q hq).step hS e
    · exact .of_NT (hn.nt hq)
    · exact PTy.own hwb (by unfold PT0; omega)
    · exact PTy.own hab (by unfold PT0; omega)
  · rcases hq with ⟨hq, _⟩ | hq | rfl | rfl
    · exact h.lw q hq
    · exact hn.low hq
    · omega
    · omega
theorem PnX.openF_not (h : PnX w p X XB lo g st n) {q : Nat} (hq : tyO w q = 130 + 2 ∨ tyO w q = 134 + 2 ∨ tyO w q = 246 + 2 ∨ tyO w q = 144 + 2 ∨ tyO w q = 254 + 2 ∨ tyO w q = 7) : ¬ openF g p q := by
  have t1 := h.t_p
  have t2 := h.t_tb
  have t3 := h.t_wm
  rintro (e | e | e | e)
  · have := h.s.t_nd e; omega
  · rw [e] at hq; omega
  · rw [e] at hq; omega
  · rw [e] at hq; omega
/-- The node alone is another one. -/
theorem PnX.noded (h : PnX w p X XB lo g st n) {L9 : List Cx} {X9 : Nat → Prop} (hS : Step (openF g p) w w1) (hp : Own w1 p (plA g st) 129) (ht : Tb w1 g.tb 64 (g.wi.map Wi.ent)) (hm : MapL w1 g.wm ei wpV g.M)
    (hn : NdP w1 g.nd X9 lo st.rooms L9 (n + 1)) (hX9 : ∀ q, X9 q → g.Xn q ∨ w.heap.size ≤ q) (hL : L9.length = st.L.length) (hf : ∀ a b c, (findC L9 a b c).isSome = (findC st.L a b c).isSome) :
    PnX w1 p (fun q => (X q ∧ ¬ g.Xn q) ∨ X9 q) XB lo { g with Xn := X9 } { st with L := L9 } (n + 1) := by
  have t1 := h.t_p
  have t2 := h.t_tb
  have t3 := h.t_wm
  have t4 := h.t_cm
  have hB : ∀ b, XB b → TyB w 5 b → ¬ openF g p b := fun b _ hb => h.openF_not (by have := tyO_tyB hb; omega)
  have X9n : ∀ q, X q → ¬ g.Xn q → ¬ X9 q := fun q hq hn' h9 => by
    rcases hX9 q h9 with h8 | h8
    · exact hn' h8
    · have := h.lt hq; omega
  have hpi := h.pi.more (Nat.le_succ n)
  refine { own := hp, tab := ht, wmap := hm, cmap := h.cmap.step hS ?_, s := ?_, W := h.W, ids := h.ids, idi := h.idi, idl := h.idl, Ml := h.Ml, nx := by have := h.nx; simp only; omega, ntb := X9n _ h.inp.2.1 h.ntb, nwm := X9n _ h.inp.2.2.1 h.nwm, ncm := X9n _ h.inp.2.2.2 h.ncm, wc := h.wc, inX := fun k hk => ?_, inp := ⟨.inl ⟨h.inp.1, fun e => by have := h.s.t_nd e; omega⟩, .inl ⟨h.inp.2.1, h.ntb⟩, .inl ⟨h.inp.2.2.1, h.nwm⟩, .inl ⟨h.inp.2.2.2, h.ncm⟩⟩, ty := fun q hq => ?_, lw := fun q hq => ?_, xb := fun q hq => ⟨(h.xb q hq).1, (h.xb q hq).2.step hS (hB q hq (h.xb q hq).2)⟩, pi := { hpi with len := by simp only [hL]; exact hpi.len, out := fun y hy => by simp only [hf]; exact hpi.out y hy } }
  · rintro (e | e | e | e)
    · exact h.ncm e
    · rw [e] at t4; omega
    · rw [e] at t4; omega
    · exact h.wc e.symm
  · exact { node := hn, row := fun h0 => by obtain ⟨a, b⟩ := h.s.row h0; exact ⟨a, b.step hS (h.openF_not (.inl (h.s.t_lb h0)))⟩, lnk := fun i l hl => by
              have hi := (List.getElem?_eq_some_iff.1 hl).1
              exact (h.s.lnk i l hl).step hS (h.openF_not (.inr (.inl (h.s.t_lg hi)))) (h.openF_not (.inr (.inr (.inl (h.s.t_gg hi))))) hB
            lgi := h.s.lgi, ggi := h.s.ggi, way := fun z hz => ⟨(h.s.way z hz).1.step hS (h.openF_not (by have := h.s.t_wb hz; omega)), (h.s.way z hz).2.step hS (h.openF_not (by have := h.s.t_ab hz; omega))⟩, wbi := h.s.wbi, abi := h.s.abi }
  · rcases hk with hk | hk | hk | ⟨z, hz, hk⟩
    · exact .inr hk
    · exact .inl ⟨h.inX k (.inr (.inl hk)), fun e => by have := h.s.t_nd e; have := h.s.t_lb hk.1; rw [← hk.2] at this; omega⟩
    · exact .inl ⟨h.inX k (.inr (.inr (.inl hk))), fun e => by
        have := h.s.t_nd e
        obtain ⟨i, hi, rfl | rfl⟩ := hk
        · have h8 : tyO w (g.lg i) = 134 + 2 := h.s.t_lg hi
          simp only at this; omega
        · have h8 : tyO w (g.gg i) = 246 + 2 := h.s.t_gg hi
          simp only at this; omega⟩
    · exact .inl ⟨h.inX k (.inr (.inr (.inr ⟨z, hz, hk⟩))), fun e => by
        have := h.s.t_nd e
        rcases hk with rfl | rfl
        · have := h.s.t_wb hz; omega
        · have := h.s.t_ab hz; omega⟩
  · rcases hq with ⟨hq, hqn⟩ | hq
    · by_cases e : openF g p q
      · rcases e with e | e | e | e
        · exact absurd e hqn
        · rw [e]; exact PTy.own hp (by unfold PT0; omega)
        · rw [e]; exact ⟨ht.lt, by rw [tyO_tb ht]; unfold PT0; omega⟩
        · rw [e]; exact ⟨hm.lt, by rw [tyO_map hm]; unfold PT0; omega⟩
      · exact (h.ty q hq).step hS e
    · exact .of_NT (hn.nt hq)
  · rcases hq with ⟨hq, _⟩ | hq
    · exact h.lw q hq
    · exact hn.low hq
/-! ### A cell of a way -/
def passF (g : PlG) (p ab k : Nat) : Prop := g.Xn k ∨ k = p ∨ k = ab
theorem passF_no {w2 : World} {ab : Nat} (h : Step (passF g p ab) w w1) (hs : Step No w1 w2) : Step (passF g p ab) w w2 := Step.trans h hs.weak
def setWi (l : List Wi) (p v c : Int) (f : Wy → Wy) : List Wi := l.map fun z => if keyW p v c z.y = true then { z with y := f z.y } else z
theorem setWi_y (l : List Wi) (p v c : Int) (f : Wy → Wy) : (setWi l p v c f).map Wi.y = setW (l.map Wi.y) p v c f := by
  unfold setWi setW
  rw [List.map_map, List.map_map]
  apply List.map_congr_left
  intro z _
  simp only [Function.comp]
  split <;> rfl
theorem setWi_ent (l : List Wi) (p v c : Int) (f : Wy → Wy) (hf : ∀ y, (f y).e0 = y.e0) : (setWi l p v c f).map Wi.ent = l.map Wi.ent := by
  unfold setWi
  rw [List.map_map]
  apply List.map_congr_left
  intro z _
  simp only [Function.comp]
  split
  · have := hf z.y
    unfold Wy.e0 at this
    unfold Wi.ent
    injection this with a b c d
    simp only [a, b, c]
  · rfl
theorem setW_e0 (W : List Wy) (p v c : Int) (f : Wy → Wy) (hf : ∀ y, (f y).e0 = y.e0) : (setW W p v c f).map Wy.e0 = W.map Wy.e0 := by
  unfold setW
  rw [List.map_map]
  apply List.map_congr_left
  intro y _
  simp only [Function.comp]
  split
  · exact hf y
  · rfl
theorem mem_setW {W : List Wy} {p v c : Int} {f : Wy → Wy} {y : Wy} (h : y ∈ setW W p v c f) : y ∈ W ∨ ∃ x ∈ W, keyW p v c x = true ∧ y = f x := by
  obtain ⟨x, hx, rfl⟩ := List.mem_map.1 h
  split
  · rename_i hk; exact .inr ⟨x, hx, hk, rfl⟩
  · exact .inl hx
theorem mem_setWi {l : List Wi} {p v c : Int} {f : Wy → Wy} {z : Wi} (h : z ∈ setWi l p v c f) : ∃ x ∈ l, z.id = x.id ∧ z.wb = x.wb ∧ z.ab = x.ab ∧ ((keyW p v c x.y = false ∧ z = x) ∨ (keyW p v c x.y = true ∧ z.y = f x.y)) := by
  obtain ⟨x, hx, rfl⟩ := List.mem_map.1 h
  cases e : keyW p v c x.y with
  | true => exact ⟨x, hx, by rw [if_pos rfl], by rw [if_pos rfl], by rw [if_pos rfl], .inr ⟨e, by rw [if_pos rfl]⟩⟩
  | false => exact ⟨x, hx, by rw [if_neg (by simp)], by rw [if_neg (by simp)], by rw [if_neg (by simp)], .inl ⟨e, by rw [if_neg (by simp)]⟩⟩
theorem PnX.key_one (h : PnX w p X XB lo g st n) {q v c : Int} {y z : Wi} (hy : y ∈ g.wi) (hz : z ∈ g.wi) (ky : keyW q v c y.y = true) (kz : keyW q v c z.y = true) : y = z := by
  have hs := h.tab.srt
  have a := keyW_iff.1 ky
  have b := keyW_iff.1 kz
  have hy' : y.ent ∈ g.wi.map Wi.ent := List.mem_map_of_mem hy
  have hz' : z.ent ∈ g.wi.map Wi.ent := List.mem_map_of_mem hz
  have h1 : lookE (g.wi.map Wi.ent) q v c = some y.id := (lookE_some hs).2 (by rw [← a.1, ← a.2.1, ← a.2.2]; exact hy')
  have h2 : lookE (g.wi.map Wi.ent) q v c = some z.id := (lookE_some hs).2 (by rw [← b.1, ← b.2.1, ← b.2.2]; exact hz')
  rw [h1] at h2
  exact h.idi y hy z hz (by simpa using h2)
def setAl (a : Al) (y : Wy) : Wy := { y with al := a }
theorem PnX.passed (h : PnX w p X XB lo g st n) {q v c : Int} {z : Wi} {L9 : List Cx} {X9 : Nat → Prop} {cn9 : Nat → Int} {al9 : Al} (hz : findWi g.wi q v c = some z) (hS : Step (passF g p z.ab) w w1) (hp : Own w1 p (plA g { st with cn := cn9 }) 129)
    (hn : NdP w1 g.nd X9 lo st.rooms L9 (n + 1)) (hX9 : ∀ q, X9 q → g.Xn q ∨ w.heap.size ≤ q) (hL : L9.length = st.L.length) (hf : ∀ a b c, (findC L9 a b c).isSome = (findC st.L a b c).isSome) (hcn : ∀ j, 0 ≤ cn9 j ∧ cn9 j ≤ ((n + 1 : Nat) : Int)) (hab : Own w1 z.ab (alC al9) 254) (ha9 : waits al9 ∧ inByte al9.here) :
    PnX w1 p (fun q => (X q ∧ ¬ g.Xn q) ∨ X9 q) XB lo { g with Xn := X9, wi := setWi g.wi q v c (setAl al9) } { st with L := L9, cn := cn9, W := setW st.W q v c (setAl al9) } (n + 1) := by
  obtain ⟨z1, z2, z3, z4⟩ := findWi_some hz
  have kz : keyW q v c z.y = true := keyW_iff.2 ⟨z2, z3, z4⟩
  have t1 := h.t_p
  have t2 := h.t_tb
  have t3 := h.t_wm
  have t4 := h.t_cm
  have t5 := h.s.t_ab z1
  have hnot : ∀ {k : Nat}, (tyO w k = 130 + 2 ∨ tyO w k = 134 + 2 ∨ tyO w k = 246 + 2 ∨ tyO w k = 144 + 2 ∨ tyO w k = 7) → ¬ passF g p z.ab k := by
    intro k hk
    rintro (e | e | e)
    · have := h.s.t_nd e; omega
    · rw [e] at hk; omega
    · rw [e] at hk; omega
  have hB : ∀ b, XB b → TyB w 5 b → ¬ passF g p z.ab b := fun b _ hb => hnot (by have := tyO_tyB hb; omega)
  have X9n : ∀ q, X q → ¬ g.Xn q → ¬ X9 q := fun q hq hn' h9 => by
    rcases hX9 q h9 with h8 | h8
    · exact hn' h8
    · have := h.lt hq; omega
  have hpi := h.pi.more (Nat.le_succ n)
  have hsame : ∀ x ∈ setWi g.wi q v c (setAl al9), ∃ x' ∈ g.wi, x.id = x'.id ∧ x.wb = x'.wb ∧ x.ab = x'.ab ∧ wyA x.y x.ab = wyA x'.y x'.ab ∧ ((x'.ab ≠ z.ab ∧ x.y.al = x'.y.al) ∨ (x'.ab = z.ab ∧ x.y.al = al9)) := by
    intro x hx
    obtain ⟨x', hx', a, b, c9, d⟩ := mem_setWi hx
    refine ⟨x', hx', a, b, c9, ?_, ?_⟩
    · rcases d with ⟨_, rfl⟩ | ⟨_, d⟩
      · rfl
      · rw [c9]; unfold wyA; rw [d]; rfl
    · rcases d with ⟨d0, rfl⟩ | ⟨d0, d⟩
      · refine .inl ⟨fun e => ?_, rfl⟩
        have := h.s.abi x hx' z z1 e
        rw [this, kz] at d0; cases d0
      · refine .inr ⟨by rw [h.key_one hx' z1 d0 kz], ?_⟩
        rw [d]; rfl
  have hset : ∀ k, PlSet { g with Xn := X9, wi := setWi g.wi q v c (setAl al9) } { st with L := L9, cn := cn9, W := setW st.W q v c (setAl al9) } k → X9 k ∨ (PlSet g st k ∧ ¬ g.Xn k) := by
    intro k hk
    rcases hk with hk | hk | hk | ⟨x, hx, hk⟩
    · exact .inl hk
    · exact .inr ⟨.inr (.inl hk), fun e => by have := h.s.t_nd e; have h9 := h.s.t_lb hk.1; rw [← hk.2] at h9; omega⟩
    · refine .inr ⟨.inr (.inr (.inl hk)), fun e => ?_⟩
      have := h.s.t_nd e
      obtain ⟨i, hi, rfl | rfl⟩ := hk
      · have h8 : tyO w (g.lg i) = 134 + 2 := h.s.t_lg hi
        simp only at this; omega
      · have h8 : tyO w (g.gg i) = 246 + 2 := h.s.t_gg hi
        simp only at this; omega
    · obtain ⟨x', hx', _, b, c9, _⟩ := hsame x hx
      refine .inr ⟨.inr (.inr (.inr ⟨x', hx', by rw [b, c9] at hk; exact hk⟩)), fun e => ?_⟩
      have := h.s.t_nd e
      rcases hk with rfl | rfl
      · have := h.s.t_wb hx'; rw [← b] at this; omega
      · have := h.s.t_ab hx'; rw [← c9] at this; omega
  refine { own := hp, tab := ?_, wmap := h.wmap.step hS ?_, cmap := h.cmap.step hS ?_, s := ?_, W := ?_, ids := fun x hx => ?_, idi := fun x hx x' hx' e => ?_, idl := fun x hx => ?_, Ml := fun id b hb => ?_, nx := by have := h.nx; simp only; omega, ntb := X9n _ h.inp.2.1 h.ntb, nwm := X9n _ h.inp.2.2.1 h.nwm, ncm := X9n _ h.inp.2.2.2 h.ncm, wc := h.wc, inX := fun k hk => ?_, inp := ⟨.inl ⟨h.inp.1, fun e => by have := h.s.t_nd e; omega⟩, .inl ⟨h.inp.2.1, h.ntb⟩, .inl ⟨h.inp.2.2.1, h.nwm⟩, .inl ⟨h.inp.2.2.2, h.ncm⟩⟩, ty := fun k hk => ?_, lw := fun k hk => ?_, xb := fun k hk => ⟨(h.xb k hk).1, (h.xb k hk).2.step hS (hB k hk (h.xb k hk).2)⟩, pi := ?_ }
  · simp only [setWi_ent _ _ _ _ (setAl al9) (fun _ => rfl)]
    refine h.tab.step hS ?_
    rintro (e | e | e)
    · exact h.ntb e
    · rw [e] at t2; omega
    · rw [e] at t2; omega
  · rintro (e | e | e)
    · exact h.nwm e
    · rw [e] at t3; omega
    · rw [e] at t3; omega
  · rintro (e | e | e)
    · exact h.ncm e
    · rw [e] at t4; omega
    · rw [e] at t4; omega
  · refine { node := hn, row := fun h0 => by obtain ⟨a, b⟩ := h.s.row h0; exact ⟨a, b.step hS (hnot (.inl (h.s.t_lb h0)))⟩, lnk := fun i l hl => ?_, lgi := h.s.lgi, ggi := h.s.ggi, way := fun x hx => ?_, wbi := fun x hx x' hx' e => ?_, abi := fun x hx x' hx' e => ?_ }
    · have hi := (List.getElem?_eq_some_iff.1 hl).1
      exact (h.s.lnk i l hl).step hS (hnot (.inr (.inl (h.s.t_lg hi)))) (hnot (.inr (.inr (.inl (h.s.t_gg hi))))) hB
    · obtain ⟨x', hx', _, b, c9, d, e⟩ := hsame x hx
      refine ⟨?_, ?_⟩
      · rw [b, d]; exact (h.s.way x' hx').1.step hS (hnot (by have := h.s.t_wb hx'; omega))
      · rw [c9]
        rcases e with ⟨e1, e2⟩ | ⟨e1, e2⟩
        · rw [e2]
          refine (h.s.way x' hx').2.step hS ?_
          have t6 := h.s.t_ab hx'
          rintro (e | e | e)
          · have := h.s.t_nd e; omega
          · rw [e] at t6; omega
          · exact e1 e
        · rw [e2, e1]; exact hab
    · obtain ⟨y', hy', a1, b1, _⟩ := hsame x hx
      obtain ⟨y2, hy2, a2, b2, _⟩ := hsame x' hx'
      have he := h.s.wbi y' hy' y2 hy2 (by rw [← b1, ← b2]; exact e)
      subst he
      have : x.id = x'.id := a1.trans a2.symm
      obtain ⟨u, hu, rfl⟩ := List.mem_map.1 hx
      obtain ⟨u', hu', rfl⟩ := List.mem_map.1 hx'
      have e1 : u.id = u'.id := by
        have k1 : (if keyW q v c u.y = true then { u with y := setAl al9 u.y } else u).id = u.id := by split <;> rfl
        have k2 : (if keyW q v c u'.y = true then { u' with y := setAl al9 u'.y } else u').id = u'.id := by split <;> rfl
        rw [← k1, ← k2]; exact this
      rw [h.idi u hu u' hu' e1]
    · obtain ⟨y', hy', a1, _, b1, _⟩ := hsame x hx
      obtain ⟨y2, hy2, a2, _, b2, _⟩ := hsame x' hx'
      have he := h.s.abi y' hy' y2 hy2 (by rw [← b1, ← b2]; exact e)
      subst he
      have : x.id = x'.id := a1.trans a2.symm
      obtain ⟨u, hu, rfl⟩ := List.mem_map.1 hx
      obtain ⟨u', hu', rfl⟩ := List.mem_map.1 hx'
      have e1 : u.id = u'.id := by
        have k1 : (if keyW q v c u.y = true then { u with y := setAl al9 u.y } else u).id = u.id := by split <;> rfl
        have k2 : (if keyW q v c u'.y = true then { u' with y := setAl al9 u'.y } else u').id = u'.id := by split <;> rfl
        rw [← k1, ← k2]; exact this
      rw [h.idi u hu u' hu' e1]
  · simp only [setWi_y, h.W]
  · obtain ⟨x', hx', a, b, _⟩ := hsame x hx
    simp only; rw [a, b]; exact h.ids x' hx'
  · obtain ⟨u, hu, rfl⟩ := List.mem_map.1 hx
    obtain ⟨u', hu', rfl⟩ := List.mem_map.1 hx'
    have e1 : u.id = u'.id := by
      have k1 : (if keyW q v c u.y = true then { u with y := setAl al9 u.y } else u).id = u.id := by split <;> rfl
      have k2 : (if keyW q v c u'.y = true then { u' with y := setAl al9 u'.y } else u').id = u'.id := by split <;> rfl
      rw [← k1, ← k2]; exact e
    rw [h.idi u hu u' hu' e1]
  · obtain ⟨x', hx', a, b, _⟩ := hsame x hx
    have := h.idl x' hx'; simp only; omega
  · obtain ⟨x, hx, a, b9⟩ := h.Ml id b hb
    refine ⟨_, List.mem_map_of_mem hx, ?_, ?_⟩
    · show (if keyW q v c x.y = true then { x with y := setAl al9 x.y } else x).id = id
      split <;> exact a
    · show (if keyW q v c x.y = true then { x with y := setAl al9 x.y } else x).wb = b
      split <;> exact b9
  · rcases hset k hk with h8 | ⟨h8, h9⟩
    · exact .inr h8
    · exact .inl ⟨h.inX k h8, h9⟩
  · rcases hk with ⟨hq, hqn⟩ | hq
    · by_cases e : passF g p z.ab k
      · rcases e with e | e | e
        · exact absurd e hqn
        · rw [e]; exact PTy.own hp (by unfold PT0; omega)
        · rw [e]; exact PTy.own hab (by unfold PT0; omega)
      · exact (h.ty k hq).step hS e
    · exact .of_NT (hn.nt hq)
  · rcases hk with ⟨hq, _⟩ | hq
    · exact h.lw k hq
    · exact hn.low hq
  · refine { hpi with len := ?_, out := fun y hy => ?_, one := ?_, inn := fun y hy => ?_, srt := ?_, als := fun y hy => ?_, cn := hcn }
    · simp only [hL]; unfold setW; rw [List.length_map]; exact hpi.len
    · simp only [hf]
      rcases mem_setW hy with hy | ⟨x, hx, _, rfl⟩
      · exact hpi.out y hy
      · exact hpi.out x hx
    · simp only [setW]
      rw [List.pairwise_map]
      refine hpi.one.imp ?_
      intro a b hab9
      have ea : ∀ u : Wy, (if keyW q v c u = true then setAl al9 u else u).op = u.op ∧ (if keyW q v c u = true then setAl al9 u else u).ov = u.ov ∧ (if keyW q v c u = true then setAl al9 u else u).oc = u.oc := fun u => by split <;> exact ⟨rfl, rfl, rfl⟩
      rw [(ea a).1, (ea a).2.1, (ea a).2.2, (ea b).1, (ea b).2.1, (ea b).2.2]
      exact hab9
    · rcases mem_setW hy with hy | ⟨x, hx, _, rfl⟩
      · exact hpi.inn y hy
      · exact hpi.inn x hx
    · simp only [setW_e0 _ _ _ _ (setAl al9) (fun _ => rfl)]; exact hpi.srt
    · rcases mem_setW hy with hy | ⟨x, hx, _, rfl⟩
      · exact hpi.als y hy
      · exact ha9
theorem findC_setC {L : List Cx} (h : OneK L) {q v c : Int} {f : Cx → Cx} (hf : ∀ x, (f x).p = x.p ∧ (f x).v = x.v ∧ (f x).c = x.c) (a b d : Int) : (findC (setC L q v c f) a b d).isSome = (findC L a b d).isSome := by
  have key : ∀ x, keyX a b d (if keyX q v c x = true then f x else x) = keyX a b d x := fun x => by
    split
    · unfold keyX; rw [(hf x).1, (hf x).2.1, (hf x).2.2]
    · rfl
  unfold findC setC
  clear h
  induction L with
  | nil => rfl
  | cons x L ih =>
    rw [List.map_cons, List.find?_cons, List.find?_cons, key]
    split
    · rfl
    · exact ih
theorem PnX.out_ok (h : PnX w p X XB lo g st n) {z : Wi} (hz : z ∈ g.wi) : (0 ≤ z.y.op ∧ z.y.op < st.lk.length) ∧ (0 ≤ z.y.ov ∧ z.y.ov < 256) ∧ (0 ≤ z.y.oc ∧ z.y.oc < 65536) ∧ (findC st.L z.y.op z.y.ov z.y.oc).isSome = true := by
  have hy : z.y ∈ st.W := by rw [h.W]; exact List.mem_map_of_mem hz
  have ho := h.pi.out _ hy
  have hi := h.pi.inn _ hy
  cases e : findC st.L z.y.op z.y.ov z.y.oc with
  | none => rw [e] at ho; cases ho
  | some x =>
    obtain ⟨x1, x2, x3, x4⟩ := findC_some e
    obtain ⟨⟨k1, k2⟩, k3, k4, _⟩ := h.s.node.li.key x x1
    rw [h.pi.nr] at k2
    rw [x2] at k1 k2
    unfold rightB at k3
    have k5 := of_decide_eq_true k3
    rw [x2, x3, x4] at k5
    rw [x4] at k4
    refine ⟨⟨k1, k2⟩, ?_, ?_, rfl⟩ <;> omega
theorem PnX.out_hd (h : PnX w p X XB lo g st n) {z : Wi} (hz : z ∈ g.wi) {hh : Hd} (hk : hdOk hh = true) {l : Int} (hl : l = 0 ∨ l = 1) : hdOk ⟨0, z.y.ov, z.y.oc, hh.p, l⟩ = true := by
  obtain ⟨_, a, b, _⟩ := h.out_ok hz
  have hh := hdOk_iff.1 hk
  rw [hdOk_iff]
  simp only
  omega
def parF (g : PlG) (p i k : Nat) : Prop := k = p ∨ k = g.lg i
theorem parF_no {w2 : World} {i : Nat} (h : Step (parF g p i) w w1) (hs : Step No w1 w2) : Step (parF g p i) w w2 := Step.trans h hs.weak
theorem parF_X (h : PnX w p X XB lo g st n) {i : Nat} (hi : i < st.lk.length) (k : Nat) (hk : parF g p i k) : X k := by
  rcases hk with rfl | rfl
  · exact h.inp.1
  · exact h.inX _ (.inr (.inr (.inl ⟨i, hi, .inl rfl⟩)))
theorem PnX.parsed (h : PnX w p X XB lo g st n) {i : Nat} {l : Lk} {t r d : Int} {b : List Int} (hl : st.lk[i]? = some l) (hS : Step (parF g p i) w w1) (ht : 0 ≤ t ∧ t ≤ 1152921504606846976) (hp : Own w1 p (plA g { st with now := t }) 129) (ho : Own w1 (g.lg i) #[.int .i64 r, .int .i64 d, .bool (parseC l.cf b), .pointer (some ⟨g.gg i, 0, none⟩), .bool l.dn] 134) : PnX w1 p X XB lo g (recvS st i t b) n := by
  have hi := (List.getElem?_eq_some_iff.1 hl).1
  have hlen : (recvS st i t b).lk.length = st.lk.length := by unfold recvS; simp
  have t1 := h.t_p
  have t2 := h.t_tb
  have t3 := h.t_wm
  have t4 := h.t_cm
  have t5 := h.s.t_lg hi
  have hnot : ∀ {k : Nat}, tyO w k ≠ 129 + 2 → tyO w k ≠ 134 + 2 → ¬ parF g p i k := by
    intro k h1 h2
    rintro (e | e)
    · rw [e] at h1; omega
    · rw [e] at h2; omega
  have hB : ∀ b, XB b → TyB w 5 b → ¬ parF g p i b := fun b _ hb => hnot (by have := tyO_tyB hb; omega) (by have := tyO_tyB hb; omega)
  have hset : ∀ k, PlSet g (recvS st i t b) k ↔ PlSet g st k := fun k => by unfold PlSet; rw [hlen]
  refine { own := hp.cast (by unfold plA; rw [hlen]; rfl), tab := h.tab.step hS ?_, wmap := h.wmap.step hS ?_, cmap := h.cmap.step hS ?_, s := ?_, W := h.W, ids := h.ids, idi := h.idi, idl := h.idl, Ml := h.Ml, nx := h.nx, ntb := h.ntb, nwm := h.nwm, ncm := h.ncm, wc := h.wc, inX := fun k hk => h.inX k ((hset k).1 hk), inp := h.inp, ty := fun k hk => ?_, lw := h.lw, xb := fun k hk => ⟨(h.xb k hk).1, (h.xb k hk).2.step hS (hB k hk (h.xb k hk).2)⟩, pi := h.pi.recv hl ht }
  · exact hnot (by omega) (by omega)
  · exact hnot (by omega) (by omega)
  · exact hnot (by omega) (by omega)
  · refine { node := h.s.node.step hS fun k hk => ?_, row := fun h0 => ?_, lnk := fun j l' hl' => ?_, lgi := fun a b ha hb => h.s.lgi a b (hlen ▸ ha) (hlen ▸ hb), ggi := fun a b ha hb => h.s.ggi a b (hlen ▸ ha) (hlen ▸ hb), way := fun z hz => ?_, wbi := h.s.wbi, abi := h.s.abi }
    · have := h.s.t_nd hk; exact hnot (by omega) (by omega)
    · rw [hlen] at h0 ⊢
      obtain ⟨a, b⟩ := h.s.row h0
      have := h.s.t_lb h0
      exact ⟨a, b.step hS (hnot (by omega) (by omega))⟩
    · have hj : j < st.lk.length := by have := (List.getElem?_eq_some_iff.1 hl').1; rwa [hlen] at this
      have t6 := h.s.t_gg hj
      by_cases e : j = i
      · subst e
        have hl9 : l' = { l with cf := parseC l.cf b } := by
          unfold recvS at hl'
          simp only [lkAt_some hl] at hl'
          rw [List.getElem?_set_self hj] at hl'
          simpa using hl'.symm
        rw [hl9]
        obtain ⟨_, A, c, ha, hv, hc⟩ := h.s.lnk j l hl
        exact ⟨⟨r, d, ho⟩, A, c, ha.step hS (hnot (by omega) (by omega)), hv.keep hS hB, hc⟩
      · have hl9 : st.lk[j]? = some l' := by
          unfold recvS at hl'
          simp only at hl'
          rwa [List.getElem?_set_ne (fun h9 => e h9.symm)] at hl'
        refine (h.s.lnk j l' hl9).step hS ?_ (hnot (by omega) (by omega)) hB
        have t7 := h.s.t_lg hj
        rintro (e9 | e9)
        · rw [e9] at t7; omega
        · exact e (h.s.lgi j i hj hi e9)
    · have t6 := h.s.t_wb hz
      have t7 := h.s.t_ab hz
      exact ⟨(h.s.way z hz).1.step hS (hnot (by omega) (by omega)), (h.s.way z hz).2.step hS (hnot (by omega) (by omega))⟩
  · by_cases e : parF g p i k
    · rcases e with e | e
      · rw [e]; exact PTy.own hp (by unfold PT0; omega)
      · rw [e]; exact PTy.own ho (by unfold PT0; omega)
    · exact (h.ty k hk).step hS e
end
end Go.Proofs.YtcablikikkmfjaaGreat
end

section
/- The calculus: ranges over functions that themselves range: what is handed on lies beside an iterator's own blocks. -/
set_option linter.unusedVariables false
set_option linter.unusedSimpArgs false
namespace Go.Vc
open Go.RowKit
section
variable {r : Option Nat} {n : Nat} {ds : List Deferred} {P : Program} {ops : Array Oper} {Q : Exit → Act → World → Prop} {l : List (Nat × Value)} {w : World} {i : Nat}
end
section
variable {r : Option Nat} {n : Nat} {ds : List Deferred} {P : Program} {Q : Exit → Act → World → Prop} {l : List (Nat × Value)} {w : World}
theorem VQ_retM0 {fn : Func} {S : Value → World → Prop} (Ds : List Nat) {e : Exit} (he : e = .normal ∨ e = .ret) (hr : fn.results = #[]) (hm : Marks Ds w) (hS : ∀ w', Step (fun i => i ∈ Ds) w w' → S (.tuple #[]) w') :
    VQ n (Ds.map markOf) (bodyPostM (Fx none) 0 P fn (PostV S)) e l w := by
  intro a ha
  have : LeavesInM (Fx none) 0 P fn a.tmps (PostV S) a.defers .returning w := by
    rw [ha.defers]
    exact leavesM Ds w hm fun w' hs => ⟨_, results_none hr _ _ _, _, rfl, hS w' hs⟩
  rcases he with rfl | rfl <;> exact this
end
end Go.Vc
end

section
/- The calculus: a load in a drawn region's chain; what lies beyond a world's end plays no part. -/
set_option linter.unusedVariables false
set_option linter.unusedSimpArgs false
namespace Go.Vc
open Go.RowKit
theorem Step.cut {X : Nat → Prop} {s : Nat} {w w' : World} (h : Step (fun k => X k ∨ s ≤ k) w w') (hs : w.heap.size ≤ s) : Step X w w' :=
  ⟨h.os, h.tape, h.output, h.size, fun k hk hX => h.block k hk (fun e => e.elim hX (fun h1 => by omega))⟩
section
variable {r : Option Nat} {n : Nat} {ds : List Deferred} {P : Program} {ops : Array Oper} {Q : Exit → Act → World → Prop} {tbl : List (List Nat)} {m : Nat} {l : List (Nat × Value)} {R : World → World → Prop} {ch : List Nat} {w : World}
end
end Go.Vc
end

section
/- Layer 22: comes, linked, find; a way opened. -/
set_option linter.unusedVariables false
set_option linter.unusedSimpArgs false
set_option maxRecDepth 100000
set_option maxHeartbeats 4000000
namespace Go.Proofs.YtcablikikkmfjaaGreat
open Go.Vc Go.RowKit
theorem TPl3aa {P : Prop} (h : P := by first | (rw [lkOk_iff]; omega) | (rw [Bool.eq_false_iff, ne_eq, lkOk_iff]; omega) | (simp [lkOk, *]; done) | (unfold lkOk; congr 1; simp; omega)) : P := h

theorem linked_raw (p : Nat) (g : PlG) (st : PS) (q : Int) (w : World) (hp : Own w p (plA g st) 129)  :
  CV Tryz.prog 55 #[Pt p 0, I6 q] w (fun x w1 => x = Bo (lkOk st q) ∧ Step No w w1) := by
 have hS : Step No w w := Step.refl _ _
 refine VCe Tryz.func55 (Vrp (Vs (Vr (VL_pure 7 [0, 1, 11] [(0, Pt p 0), (1, I6 q), (11, Bo (decide (q ≥ 0)))] (by kernel_rfl) rfl (VL_dec (q ≥ 0) (fun bV => [(0, Pt p 0), (1, I6 q), (11, Bo bV)]) rfl (fun hg1 => ?_) (fun hg1 => ?_))))))
 ·refine Vl 11 hp (Ve (Vn (VC_ret (Vr1 (Bo (decide (q < ((st.lk.length : Nat) : Int)))) ?_))))
  exact ⟨congrArg Value.bool (Eq.symm TPl3aa), hS⟩
 ·refine Ve (Vn (VC_ret (Vr1 (Bo false) ?_)))
  exact ⟨congrArg Value.bool (Eq.symm TPl3aa), hS⟩

theorem linked_any (p lo : Nat) (X XB : Nat → Prop) (g : PlG) (st : PS) (n : Nat) (w : World) (q : Int) (h : PnX w p X XB lo g st n)  :
  CV Tryz.prog 55 #[Pt p 0, I6 q] w (fun x w1 => x = Bo (lkOk st q) ∧ Step No w w1) := by
 have hS : Step No w w := Step.refl _ _
 have hp := h.own
 refine VCe Tryz.func55 (Vrp (Vs (Vr (VL_pure 7 [0, 1, 11] [(0, Pt p 0), (1, I6 q), (11, Bo (decide (q ≥ 0)))] (by kernel_rfl) rfl (VL_dec (q ≥ 0) (fun bV => [(0, Pt p 0), (1, I6 q), (11, Bo bV)]) rfl (fun hg1 => ?_) (fun hg1 => ?_))))))
 ·refine Vl 11 hp (Ve (Vn (VC_ret (Vr1 (Bo (decide (q < ((st.lk.length : Nat) : Int)))) ?_))))
  exact ⟨congrArg Value.bool (Eq.symm TPl3aa), hS⟩
 ·refine Ve (Vn (VC_ret (Vr1 (Bo false) ?_)))
  exact ⟨congrArg Value.bool (Eq.symm TPl3aa), hS⟩

theorem tget_yes {w : World} {b : Nat} {room : Int} {L : List Ent} {q v c i : Int} (h : Tb w b room L) (hl : lookE L q v c = some i) : CV Tryz.prog 111 #[.pointer (some ⟨b, 0, none⟩), .agg #[.int .i64 q, .int .i64 v, .int .i64 c]] w fun x w1 => x = .tuple #[.int .i64 i, .bool true] ∧ Step No w w1 := by
  refine (tget q v c h).mono ?_
  rintro x w1 ⟨rfl, hs⟩
  rw [hl]; exact ⟨rfl, hs⟩
theorem tget_no {w : World} {b : Nat} {room : Int} {L : List Ent} {q v c : Int} (h : Tb w b room L) (hl : lookE L q v c = none) : CV Tryz.prog 111 #[.pointer (some ⟨b, 0, none⟩), .agg #[.int .i64 q, .int .i64 v, .int .i64 c]] w fun x w1 => x = .tuple #[.int .i64 0, .bool false] ∧ Step No w w1 := by
  refine (tget q v c h).mono ?_
  rintro x w1 ⟨rfl, hs⟩
  rw [hl]; exact ⟨rfl, hs⟩
theorem find_yes (p lo : Nat) (X XB : Nat → Prop) (g : PlG) (st : PS) (n : Nat) (w : World) (q v c : Int) (y : Wy) (hf : findW st.W q v c = some y) (h : PnX w p X XB lo g st n)  :
  CV Tryz.prog 57 #[Pt p 0, .agg #[I6 q, I6 v, I6 c]] w (fun x w1 => ∃ z, findWi g.wi q v c = some z ∧ z.y = y ∧ x = .tuple #[Pt z.wb 0, Bo true] ∧ Step No w w1) := by
 have hS : Step No w w := Step.refl _ _
 have hp := h.own
 have hwm := h.wmap
 obtain ⟨z, hz, hzy, hlk, hM⟩ := h.look_yes hf
 refine VCe Tryz.func57 (Vs (Vr ?_))
 refine Vx 0 34 #[I6 q, I6 v, I6 c] ?_
 intro b1 w1 hn1
 replace hS := Step.trans hS (hn1.step No)
 replace hp := hp.no (hn1.step No)
 replace hwm := MapL.no hwm (hn1.step No)
 have ho1 := hn1.own
 refine Ve (Vn (Vs (Vrp (Vf (VC_skip (Vn (Vs (Vd 10 [(3, Pt g.tb 0), (4, .agg #[I6 q, I6 v, I6 c]), (5, .tuple #[I6 z.id, Bo true])] [3, 4, 5] ?_ ?_))))))))
 ·intro w2 hs1
  replace hS := Step.trans hS hs1
  replace hp := hp.no hs1
  replace ho1 := ho1.no hs1
  exact ⟨Dl hp, Dl ho1, Dc Tryz.call111 (tget_yes (h.tab.no hS) hlk), trivial⟩
 intro w2 hs1
 replace hS := Step.trans hS hs1
 replace hp := hp.no hs1
 replace hwm := MapL.no hwm hs1
 refine Ve (Vn (Vs (Vr (Vl 3 hp (Vp 5 (VL_lookup (ek := ei) (u := wpV) (d := 24) (m := g.wm) (kt := 3) (z := .pointer none) (k := z.id) (ok := false) (by kernel_rfl) (by kernel_rfl) keyTi hwm (Pt z.wb 0) (by rw [hM]; rfl) (Ve (Vn (VC_ret (Vr2 (Pt z.wb 0) (Bo true) ?_))))))))))
 exact ⟨z, hz, hzy, rfl, hS⟩

theorem open_bad0 (p lo : Nat) (X XB : Nat → Prop) (g : PlG) (st : PS) (n : Nat) (w : World) (ip iv ic op ov oc : Int) (k : Con)  (h0 : lkOk st ip = false) (h : PnX w p X XB lo g st n)  :
  CV Tryz.prog 17 #[Pt p 0, .agg #[I6 ip, I6 iv, I6 ic], .agg #[I6 op, I6 ov, I6 oc], .agg #[I6 k.kind, I6 k.peak, I6 k.early, I6 k.whole, I6 k.burst, I6 k.least]] w (fun x w1 => x = I6 3 ∧ Step No w w1) := by
 have hS : Step No w w := Step.refl _ _
 refine VCe Tryz.func17 (Vs (Vr ?_))
 refine Vx 0 34 #[I6 ip, I6 iv, I6 ic] ?_
 intro b1 w1 hn1
 replace hS := Step.trans hS (hn1.step No)
 have ho1 := hn1.own
 refine Vx 1 34 #[I6 op, I6 ov, I6 oc] ?_
 intro b2 w2 hn2
 replace hS := Step.trans hS (hn2.step No)
 replace ho1 := ho1.no (hn2.step No)
 refine Vx 2 23 #[I6 k.kind, I6 k.peak, I6 k.early, I6 k.whole, I6 k.burst, I6 k.least] ?_
 intro b3 w3 hn3
 replace hS := Step.trans hS (hn3.step No)
 replace ho1 := ho1.no (hn3.step No)
 refine Ve (Vn (Vs (Vs (Vr (Vl 2 ho1 ?_)))))
 refine Vc 3 Tryz.call55 (linked_any p lo X XB g st n _ ip (h.no hS)) ?_
 rintro _ w4 ⟨rfl, hc1⟩
 replace hS := Step.trans hS hc1
 refine VL_pure 6 [0, 5, 6, 7, 18] [(0, Pt p 0), (5, Pt b1 0), (6, Pt b2 0), (7, Pt b3 0), (18, Bo (!(lkOk st ip)))] (by kernel_rfl) rfl (VL_known (lkOk st ip) (fun bV => [(0, Pt p 0), (5, Pt b1 0), (6, Pt b2 0), (7, Pt b3 0), (18, Bo (!bV))]) false rfl h0 (Ve (Vn (Vt (Vrp (VC_ret (VQ_then_ret (Vr1 (I6 3) ?_))))))))
 exact ⟨rfl, hS⟩

theorem open_bad1 (p lo : Nat) (X XB : Nat → Prop) (g : PlG) (st : PS) (n : Nat) (w : World) (ip iv ic op ov oc : Int) (k : Con)  (h0 : lkOk st ip = true) (h1 : rightB ip iv ic = false) (h : PnX w p X XB lo g st n)  :
  CV Tryz.prog 17 #[Pt p 0, .agg #[I6 ip, I6 iv, I6 ic], .agg #[I6 op, I6 ov, I6 oc], .agg #[I6 k.kind, I6 k.peak, I6 k.early, I6 k.whole, I6 k.burst, I6 k.least]] w (fun x w1 => x = I6 3 ∧ Step No w w1) := by
 have hS : Step No w w := Step.refl _ _
 refine VCe Tryz.func17 (Vs (Vr ?_))
 refine Vx 0 34 #[I6 ip, I6 iv, I6 ic] ?_
 intro b1 w1 hn1
 replace hS := Step.trans hS (hn1.step No)
 have ho1 := hn1.own
 refine Vx 1 34 #[I6 op, I6 ov, I6 oc] ?_
 intro b2 w2 hn2
 replace hS := Step.trans hS (hn2.step No)
 replace ho1 := ho1.no (hn2.step No)
 refine Vx 2 23 #[I6 k.kind, I6 k.peak, I6 k.early, I6 k.whole, I6 k.burst, I6 k.least] ?_
 intro b3 w3 hn3
 replace hS := Step.trans hS (hn3.step No)
 replace ho1 := ho1.no (hn3.step No)
 refine Ve (Vn (Vs (Vs (Vr (Vl 2 ho1 ?_)))))
 refine Vc 3 Tryz.call55 (linked_any p lo X XB g st n _ ip (h.no hS)) ?_
 rintro _ w4 ⟨rfl, hc1⟩
 replace hS := Step.trans hS hc1
 replace ho1 := ho1.no hc1
 refine VL_pure 6 [0, 5, 6, 7, 18] [(0, Pt p 0), (5, Pt b1 0), (6, Pt b2 0), (7, Pt b3 0), (18, Bo (!(lkOk st ip)))] (by kernel_rfl) rfl (VL_known (lkOk st ip) (fun bV => [(0, Pt p 0), (5, Pt b1 0), (6, Pt b2 0), (7, Pt b3 0), (18, Bo (!bV))]) true rfl h0 (Vl 6 ho1 ?_))
 refine Vc 7 Tryz.call56 (right_any ip iv ic _) ?_
 rintro _ w5 ⟨rfl, hc2⟩
 replace hS := Step.trans hS hc2
 refine VL_pure 11 [0, 5, 6, 7, 23] [(0, Pt p 0), (5, Pt b1 0), (6, Pt b2 0), (7, Pt b3 0), (23, Bo (!(rightB ip iv ic)))] (by kernel_rfl) rfl (VL_known (rightB ip iv ic) (fun bV => [(0, Pt p 0), (5, Pt b1 0), (6, Pt b2 0), (7, Pt b3 0), (23, Bo (!bV))]) false rfl h1 (Ve (Vn (Vt (Vrp (VC_ret (VQ_then_ret (Vr1 (I6 3) ?_))))))))
 exact ⟨rfl, hS⟩

theorem open_bad2 (p lo : Nat) (X XB : Nat → Prop) (g : PlG) (st : PS) (n : Nat) (w : World) (ip iv ic op ov oc : Int) (k : Con)  (h0 : lkOk st ip = true) (h1 : rightB ip iv ic = true) (h2 : decide (ic < 32) = true) (h : PnX w p X XB lo g st n)  :
  CV Tryz.prog 17 #[Pt p 0, .agg #[I6 ip, I6 iv, I6 ic], .agg #[I6 op, I6 ov, I6 oc], .agg #[I6 k.kind, I6 k.peak, I6 k.early, I6 k.whole, I6 k.burst, I6 k.least]] w (fun x w1 => x = I6 3 ∧ Step No w w1) := by
 have hS : Step No w w := Step.refl _ _
 refine VCe Tryz.func17 (Vs (Vr ?_))
 refine Vx 0 34 #[I6 ip, I6 iv, I6 ic] ?_
 intro b1 w1 hn1
 replace hS := Step.trans hS (hn1.step No)
 have ho1 := hn1.own
 refine Vx 1 34 #[I6 op, I6 ov, I6 oc] ?_
 intro b2 w2 hn2
 replace hS := Step.trans hS (hn2.step No)
 replace ho1 := ho1.no (hn2.step No)
 refine Vx 2 23 #[I6 k.kind, I6 k.peak, I6 k.early, I6 k.whole, I6 k.burst, I6 k.least] ?_
 intro b3 w3 hn3
 replace hS := Step.trans hS (hn3.step No)
 replace ho1 := ho1.no (hn3.step No)
 refine Ve (Vn (Vs (Vs (Vr (Vl 2 ho1 ?_)))))
 refine Vc 3 Tryz.call55 (linked_any p lo X XB g st n _ ip (h.no hS)) ?_
 rintro _ w4 ⟨rfl, hc1⟩
 replace hS := Step.trans hS hc1
 replace ho1 := ho1.no hc1
 refine VL_pure 6 [0, 5, 6, 7, 18] [(0, Pt p 0), (5, Pt b1 0), (6, Pt b2 0), (7, Pt b3 0), (18, Bo (!(lkOk st ip)))] (by kernel_rfl) rfl (VL_known (lkOk st ip) (fun bV => [(0, Pt p 0), (5, Pt b1 0), (6, Pt b2 0), (7, Pt b3 0), (18, Bo (!bV))]) true rfl h0 (Vl 6 ho1 ?_))
 refine Vc 7 Tryz.call56 (right_any ip iv ic _) ?_
 rintro _ w5 ⟨rfl, hc2⟩
 replace hS := Step.trans hS hc2
 replace ho1 := ho1.no hc2
 refine VL_pure 11 [0, 5, 6, 7, 23] [(0, Pt p 0), (5, Pt b1 0), (6, Pt b2 0), (7, Pt b3 0), (23, Bo (!(rightB ip iv ic)))] (by kernel_rfl) rfl (VL_known (rightB ip iv ic) (fun bV => [(0, Pt p 0), (5, Pt b1 0), (6, Pt b2 0), (7, Pt b3 0), (23, Bo (!bV))]) true rfl h1 (Vl 12 ho1 (Vp 16 (Vkn 28 (decide (ic < 32)) true h2 (Ve (Vn (Vt (Vrp (VC_ret (VQ_then_ret (Vr1 (I6 3) ?_)))))))))))
 exact ⟨rfl, hS⟩

theorem open_bad3 (p lo : Nat) (X XB : Nat → Prop) (g : PlG) (st : PS) (n : Nat) (w : World) (ip iv ic op ov oc : Int) (k : Con)  (h0 : lkOk st ip = true) (h1 : rightB ip iv ic = true) (h2 : decide (ic < 32) = false) (h3 : decide ((imax iv ov) > 255) = true) (h : PnX w p X XB lo g st n)  :
  CV Tryz.prog 17 #[Pt p 0, .agg #[I6 ip, I6 iv, I6 ic], .agg #[I6 op, I6 ov, I6 oc], .agg #[I6 k.kind, I6 k.peak, I6 k.early, I6 k.whole, I6 k.burst, I6 k.least]] w (fun x w1 => x = I6 3 ∧ Step No w w1) := by
 have hS : Step No w w := Step.refl _ _
 refine VCe Tryz.func17 (Vs (Vr ?_))
 refine Vx 0 34 #[I6 ip, I6 iv, I6 ic] ?_
 intro b1 w1 hn1
 replace hS := Step.trans hS (hn1.step No)
 have ho1 := hn1.own
 refine Vx 1 34 #[I6 op, I6 ov, I6 oc] ?_
 intro b2 w2 hn2
 replace hS := Step.trans hS (hn2.step No)
 replace ho1 := ho1.no (hn2.step No)
 have ho2 := hn2.own
 refine Vx 2 23 #[I6 k.kind, I6 k.peak, I6 k.early, I6 k.whole, I6 k.burst, I6 k.least] ?_
 intro b3 w3 hn3
 replace hS := Step.trans hS (hn3.step No)
 replace ho1 := ho1.no (hn3.step No)
 replace ho2 := ho2.no (hn3.step No)
 refine Ve (Vn (Vs (Vs (Vr (Vl 2 ho1 ?_)))))
 refine Vc 3 Tryz.call55 (linked_any p lo X XB g st n _ ip (h.no hS)) ?_
 rintro _ w4 ⟨rfl, hc1⟩
 replace hS := Step.trans hS hc1
 replace ho1 := ho1.no hc1
 replace ho2 := ho2.no hc1
 refine VL_pure 6 [0, 5, 6, 7, 18] [(0, Pt p 0), (5, Pt b1 0), (6, Pt b2 0), (7, Pt b3 0), (18, Bo (!(lkOk st ip)))] (by kernel_rfl) rfl (VL_known (lkOk st ip) (fun bV => [(0, Pt p 0), (5, Pt b1 0), (6, Pt b2 0), (7, Pt b3 0), (18, Bo (!bV))]) true rfl h0 (Vl 6 ho1 ?_))
 refine Vc 7 Tryz.call56 (right_any ip iv ic _) ?_
 rintro _ w5 ⟨rfl, hc2⟩
 replace hS := Step.trans hS hc2
 replace ho1 := ho1.no hc2
 replace ho2 := ho2.no hc2
 refine VL_pure 11 [0, 5, 6, 7, 23] [(0, Pt p 0), (5, Pt b1 0), (6, Pt b2 0), (7, Pt b3 0), (23, Bo (!(rightB ip iv ic)))] (by kernel_rfl) rfl (VL_known (rightB ip iv ic) (fun bV => [(0, Pt p 0), (5, Pt b1 0), (6, Pt b2 0), (7, Pt b3 0), (23, Bo (!bV))]) true rfl h1 (Vl 12 ho1 (Vp 16 (Vkn 28 (decide (ic < 32)) false h2 (Vl 17 ho1 (Vl 19 ho2 (Ve (Vn (Vit (b := decide ((imax iv ov) > 255)) h3 (Vrp (VC_ret (VQ_then_ret (Vr1 (I6 3) ?_)))))))))))))
 exact ⟨rfl, hS⟩

theorem open_no35 (p lo : Nat) (X XB : Nat → Prop) (g : PlG) (st : PS) (n : Nat) (w : World) (ip iv ic op ov oc : Int) (k : Con)  (h0 : lkOk st ip = true) (h1 : rightB ip iv ic = true) (h2 : decide (ic < 32) = false) (h3 : decide ((imax iv ov) > 255) = false) (y : Wy) (hf : findW st.W ip iv ic = some y) (h : PnX w p X XB lo g st n)  :
  CV Tryz.prog 17 #[Pt p 0, .agg #[I6 ip, I6 iv, I6 ic], .agg #[I6 op, I6 ov, I6 oc], .agg #[I6 k.kind, I6 k.peak, I6 k.early, I6 k.whole, I6 k.burst, I6 k.least]] w (fun x w1 => x = I6 35 ∧ Step No w w1) := by
 have hS : Step No w w := Step.refl _ _
 refine VCe Tryz.func17 (Vs (Vr ?_))
 refine Vx 0 34 #[I6 ip, I6 iv, I6 ic] ?_
 intro b1 w1 hn1
 replace hS := Step.trans hS (hn1.step No)
 have ho1 := hn1.own
 refine Vx 1 34 #[I6 op, I6 ov, I6 oc] ?_
 intro b2 w2 hn2
 replace hS := Step.trans hS (hn2.step No)
 replace ho1 := ho1.no (hn2.step No)
 have ho2 := hn2.own
 refine Vx 2 23 #[I6 k.kind, I6 k.peak, I6 k.early, I6 k.whole, I6 k.burst, I6 k.least] ?_
 intro b3 w3 hn3
 replace hS := Step.trans hS (hn3.step No)
 replace ho1 := ho1.no (hn3.step No)
 replace ho2 := ho2.no (hn3.step No)
 refine Ve (Vn (Vs (Vs (Vr (Vl 2 ho1 ?_)))))
 refine Vc 3 Tryz.call55 (linked_any p lo X XB g st n _ ip (h.no hS)) ?_
 rintro _ w4 ⟨rfl, hc1⟩
 replace hS := Step.trans hS hc1
 replace ho1 := ho1.no hc1
 replace ho2 := ho2.no hc1
 refine VL_pure 6 [0, 5, 6, 7, 18] [(0, Pt p 0), (5, Pt b1 0), (6, Pt b2 0), (7, Pt b3 0), (18, Bo (!(lkOk st ip)))] (by kernel_rfl) rfl (VL_known (lkOk st ip) (fun bV => [(0, Pt p 0), (5, Pt b1 0), (6, Pt b2 0), (7, Pt b3 0), (18, Bo (!bV))]) true rfl h0 (Vl 6 ho1 ?_))
 refine Vc 7 Tryz.call56 (right_any ip iv ic _) ?_
 rintro _ w5 ⟨rfl, hc2⟩
 replace hS := Step.trans hS hc2
 replace ho1 := ho1.no hc2
 replace ho2 := ho2.no hc2
 refine VL_pure 11 [0, 5, 6, 7, 23] [(0, Pt p 0), (5, Pt b1 0), (6, Pt b2 0), (7, Pt b3 0), (23, Bo (!(rightB ip iv ic)))] (by kernel_rfl) rfl (VL_known (rightB ip iv ic) (fun bV => [(0, Pt p 0), (5, Pt b1 0), (6, Pt b2 0), (7, Pt b3 0), (23, Bo (!bV))]) true rfl h1 (Vl 12 ho1 (Vp 16 (Vkn 28 (decide (ic < 32)) false h2 (Vl 17 ho1 (Vl 19 ho2 (Ve (Vn (Viz (b := decide ((imax iv ov) > 255)) h3 (VC_skip (Vn (Vs (Vs (Vr (Vl 1 ho1 ?_)))))))))))))))
 refine Vc 2 Tryz.call57 (find_yes p lo X XB g st n _ ip iv ic y hf (h.no hS)) ?_
 rintro _ w6 ⟨z9, _, _, rfl, hc3⟩
 replace hS := Step.trans hS hc3
 refine Ve (Vn (Vrp (Vt (Vrp (VC_ret (VQ_then_ret (Vr1 (I6 35) ?_)))))))
 exact ⟨rfl, hS⟩

theorem find_raw (p : Nat) (g : PlG) (st : PS) (q v c : Int) (w : World) (hp : Own w p (plA g st) 129) (ht : Tb w g.tb 64 (g.wi.map Wi.ent)) (hwm : MapL w g.wm ei wpV g.M) (hlk : (lookE (g.wi.map Wi.ent) q v c) = none) {vN : Value} (hvN : ((getM g.M 0).map wpV).getD (Value.pointer none) = vN)  :
  CV Tryz.prog 57 #[Pt p 0, .agg #[I6 q, I6 v, I6 c]] w (fun x w1 => x = .tuple #[vN, Bo false] ∧ Step No w w1) := by
 have hS : Step No w w := Step.refl _ _
 refine VCe Tryz.func57 (Vs (Vr ?_))
 refine Vx 0 34 #[I6 q, I6 v, I6 c] ?_
 intro b1 w1 hn1
 replace hS := Step.trans hS (hn1.step No)
 replace hp := hp.no (hn1.step No)
 replace ht := Tb.no ht (hn1.step No)
 replace hwm := MapL.no hwm (hn1.step No)
 have ho1 := hn1.own
 refine Ve (Vn (Vs (Vrp (Vf (VC_skip (Vn (Vs (Vd 10 [(3, Pt g.tb 0), (4, .agg #[I6 q, I6 v, I6 c]), (5, .tuple #[I6 0, Bo false])] [3, 4, 5] ?_ ?_))))))))
 ·intro w2 hs1
  replace hp := hp.no hs1
  replace ht := Tb.no ht hs1
  replace ho1 := ho1.no hs1
  exact ⟨Dl hp, Dl ho1, Dc Tryz.call111 (tget_no ht hlk), trivial⟩
 intro w2 hs1
 replace hS := Step.trans hS hs1
 replace hp := hp.no hs1
 replace hwm := MapL.no hwm hs1
 refine Ve (Vn (Vs (Vr (Vl 3 hp (Vp 5 (VL_lookup (ek := ei) (u := wpV) (d := 24) (m := g.wm) (kt := 3) (z := .pointer none) (k := 0) (ok := false) (by kernel_rfl) (by kernel_rfl) keyTi hwm (vN) (hvN) (Ve (Vn (VC_ret (Vr2 vN (Bo false) ?_))))))))))
 exact ⟨rfl, hS⟩

theorem open_nope (p lo : Nat) (X XB : Nat → Prop) (g : PlG) (st : PS) (n : Nat) (w : World) (ip iv ic op ov oc : Int) (k : Con)  (h0 : lkOk st ip = true) (h1 : rightB ip iv ic = true) (h2 : decide (ic < 32) = false) (h3 : decide ((imax iv ov) > 255) = false) (hf : findW st.W ip iv ic = none) (hc : chkN st.rooms st.L op ov oc k ≠ 0) (hn : n < 1152921504606846976) (h : PnX w p X XB lo g st n)  :
  CV Tryz.prog 17 #[Pt p 0, .agg #[I6 ip, I6 iv, I6 ic], .agg #[I6 op, I6 ov, I6 oc], .agg #[I6 k.kind, I6 k.peak, I6 k.early, I6 k.whole, I6 k.burst, I6 k.least]] w (fun x w1 => x = I6 (chkN st.rooms st.L op ov oc k) ∧ ∃ X9, NdP w1 g.nd X9 lo st.rooms (takeN st.rooms st.L op ov oc k) (n + 1) ∧ (∀ q, X9 q → g.Xn q ∨ w.heap.size ≤ q) ∧ Own w1 p (plA g st) 129 ∧ Tb w1 g.tb 64 (g.wi.map Wi.ent) ∧ MapL w1 g.wm ei wpV g.M ∧ Step (openF g p) w w1) := by
 have hS : Step (openF g p) w w := Step.refl _ _
 have hp := h.own
 have hn0 := h.s.node
 have ht := h.tab
 have hwm := h.wmap
 have hNp : ¬ g.Xn p := fun e => h.n_p (.inl e)
 obtain ⟨hlk, hfi⟩ := h.look_no hf
 obtain ⟨vN, hvN⟩ : ∃ v, ((getM g.M 0).map wpV).getD (Value.pointer none) = v := ⟨_, rfl⟩
 refine VCe Tryz.func17 (Vs (Vr ?_))
 refine Vx 0 34 #[I6 ip, I6 iv, I6 ic] ?_
 intro b1 w1 hn1
 replace hS := openF_no hS (hn1.step No)
 replace hp := hp.no (hn1.step No)
 replace hn0 := NdP.no hn0 (hn1.step No)
 replace ht := Tb.no ht (hn1.step No)
 replace hwm := MapL.no hwm (hn1.step No)
 have ho1 := hn1.own
 have hzhn1 := hn1.size
 have hqhn1 := hn1.eqb
 refine Vx 1 34 #[I6 op, I6 ov, I6 oc] ?_
 intro b2 w2 hn2
 replace hS := openF_no hS (hn2.step No)
 replace hp := hp.no (hn2.step No)
 replace hn0 := NdP.no hn0 (hn2.step No)
 replace ht := Tb.no ht (hn2.step No)
 replace hwm := MapL.no hwm (hn2.step No)
 replace ho1 := ho1.no (hn2.step No)
 have ho2 := hn2.own
 have hzhn2 := hn2.size
 have hqhn2 := hn2.eqb
 refine Vx 2 23 #[I6 k.kind, I6 k.peak, I6 k.early, I6 k.whole, I6 k.burst, I6 k.least] ?_
 intro b3 w3 hn3
 replace hS := openF_no hS (hn3.step No)
 replace hp := hp.no (hn3.step No)
 replace hn0 := NdP.no hn0 (hn3.step No)
 replace ht := Tb.no ht (hn3.step No)
 replace hwm := MapL.no hwm (hn3.step No)
 replace ho1 := ho1.no (hn3.step No)
 replace ho2 := ho2.no (hn3.step No)
 have ho3 := hn3.own
 have hzhn3 := hn3.size
 have hqhn3 := hn3.eqb
 refine Ve (Vn (Vs (Vs (Vr (Vl 2 ho1 ?_)))))
 refine Vc 3 Tryz.call55 (linked_raw p g st ip _ hp) ?_
 rintro _ w4 ⟨rfl, hc1⟩
 replace hS := openF_no hS hc1
 replace hp := hp.no hc1
 replace hn0 := NdP.no hn0 hc1
 replace ht := Tb.no ht hc1
 replace hwm := MapL.no hwm hc1
 replace ho1 := ho1.no hc1
 replace ho2 := ho2.no hc1
 replace ho3 := ho3.no hc1
 refine VL_pure 6 [0, 5, 6, 7, 18] [(0, Pt p 0), (5, Pt b1 0), (6, Pt b2 0), (7, Pt b3 0), (18, Bo (!(lkOk st ip)))] (by kernel_rfl) rfl (VL_known (lkOk st ip) (fun bV => [(0, Pt p 0), (5, Pt b1 0), (6, Pt b2 0), (7, Pt b3 0), (18, Bo (!bV))]) true rfl h0 (Vl 6 ho1 ?_))
 refine Vc 7 Tryz.call56 (right_any ip iv ic _) ?_
 rintro _ w5 ⟨rfl, hc2⟩
 replace hS := openF_no hS hc2
 replace hp := hp.no hc2
 replace hn0 := NdP.no hn0 hc2
 replace ht := Tb.no ht hc2
 replace hwm := MapL.no hwm hc2
 replace ho1 := ho1.no hc2
 replace ho2 := ho2.no hc2
 replace ho3 := ho3.no hc2
 refine VL_pure 11 [0, 5, 6, 7, 23] [(0, Pt p 0), (5, Pt b1 0), (6, Pt b2 0), (7, Pt b3 0), (23, Bo (!(rightB ip iv ic)))] (by kernel_rfl) rfl (VL_known (rightB ip iv ic) (fun bV => [(0, Pt p 0), (5, Pt b1 0), (6, Pt b2 0), (7, Pt b3 0), (23, Bo (!bV))]) true rfl h1 (Vl 12 ho1 (Vp 16 (Vkn 28 (decide (ic < 32)) false h2 (Vl 17 ho1 (Vl 19 ho2 (Ve (Vn (Viz (b := decide ((imax iv ov) > 255)) h3 (VC_skip (Vn (Vs (Vs (Vr (Vl 1 ho1 ?_)))))))))))))))
 refine Vc 2 Tryz.call57 (find_raw p g st ip iv ic _ hp ht hwm hlk hvN) ?_
 rintro _ w6 ⟨rfl, hc3⟩
 replace hS := openF_no hS hc3
 replace hp := hp.no hc3
 replace hn0 := NdP.no hn0 hc3
 replace ht := Tb.no ht hc3
 replace hwm := MapL.no hwm hc3
 replace ho2 := ho2.no hc3
 replace ho3 := ho3.no hc3
 refine Ve (Vn (Vrp (Vf (VC_skip (Vn (Vs (Vs ?_)))))))
 have hs1 := drew_step w6
 have hs1z : w6.heap.size = w6.drew.heap.size := rfl
 refine Tx 6 (fun k => w6.heap.size ≤ k) [] [0, 1, 2, 3, 4, 5] ?_
 have hzl37 := hp.lt
 have hzl43 := ho3.lt
 generalize w6.drew = w7 at hs1 hs1z ⊢
 replace hS := openF_no hS hs1
 replace hp := hp.no hs1
 replace hn0 := NdP.no hn0 hs1
 replace ht := Tb.no ht hs1
 replace hwm := MapL.no hwm hs1
 replace ho2 := ho2.no hs1
 replace ho3 := ho3.no hs1
 refine Tp 3 (Tl (fun w8 hr1 => hp.step hr1 (by (try simp only); omega)) (Tl (fun w9 hr2 => ho2.step hr2 (by (try simp only); omega)) (Tl (fun w10 hr3 => ho3.step hr3 (by (try simp only); omega)) (VT_end ?_))))
 intro w11 hs2
 replace hS := openF_no hS hs2
 replace hp := hp.no hs2
 replace hn0 := NdP.no hn0 hs2
 replace ht := Tb.no ht hs2
 replace hwm := MapL.no hwm hs2
 replace ho3 := ho3.no hs2
 refine VL_keep [0, 5, 6, 46, 47, 48] [(0, Pt p 0), (5, Pt b1 0), (6, Pt b2 0), (46, Pt g.nd 0), (47, .agg #[I6 op, I6 ov, I6 oc]), (48, .agg #[I6 k.kind, I6 k.peak, I6 k.early, I6 k.whole, I6 k.burst, I6 k.least])] (by kernel_rfl) ?_
 have hzl50 := ho3.lt
 refine VL_call (d := 49) (f := 58) (args := #[Pt g.nd 0, .agg #[I6 op, I6 ov, I6 oc], .agg #[I6 k.kind, I6 k.peak, I6 k.early, I6 k.whole, I6 k.burst, I6 k.least]]) (by kernel_rfl) (by kernel_rfl) (by kernel_rfl) Tryz.call58 (ntake hn0 (by omega) op ov oc k) ?_
 rintro _ w12 ⟨rfl, X9, hn1, hX9, hc4⟩
 replace hS := Step.trans hS (Step.mono hc4 (fun i9 h9 => .inl h9))
 replace hp := hp.step hc4 hNp
 replace ht := Tb.step ht hc4 h.ntb
 replace hwm := MapL.step hwm hc4 h.nwm
 refine Ve (Vn (Vrp (Vit (b := (chkN st.rooms st.L op ov oc k) != 0) (bne_iff_ne.2 hc) (Vrp (VC_ret (VQ_then_ret (Vr1 (I6 (chkN st.rooms st.L op ov oc k)) ?_)))))))
 exact ⟨rfl, X9, hn1, fun q hq => (hX9 q hq).imp id (fun h9 => by omega), hp, ht, hwm, hS⟩

theorem open_fine (p lo : Nat) (X XB : Nat → Prop) (g : PlG) (st : PS) (n : Nat) (w : World) (i : Nat) (iv ic op ov oc : Int) (k : Con)  (h0 : lkOk st ((i : Nat) : Int) = true) (h1 : rightB ((i : Nat) : Int) iv ic = true) (h2 : decide (ic < 32) = false) (h3 : decide ((imax iv ov) > 255) = false) (hf : findW st.W ((i : Nat) : Int) iv ic = none) (hc : chkN st.rooms st.L op ov oc k = 0) (hi : i < st.lk.length) (hn : n < 1152921504606846976) (h : PnX w p X XB lo g st n)  :
  CV Tryz.prog 17 #[Pt p 0, .agg #[I6 ((i : Nat) : Int), I6 iv, I6 ic], .agg #[I6 op, I6 ov, I6 oc], .agg #[I6 k.kind, I6 k.peak, I6 k.early, I6 k.whole, I6 k.burst, I6 k.least]] w (fun x w1 => x = I6 0 ∧ ∃ wb ab X9, Own w1 p (plA { g with next := g.next + 1 } st) 129 ∧ Tb w1 g.tb 64 (putE (g.wi.map Wi.ent) 64 ((i : Nat) : Int) iv ic (g.next : Nat)) ∧ MapL w1 g.wm ei wpV (putM g.M ((g.next : Nat) : Int) wb) ∧ NdP w1 g.nd X9 lo st.rooms (takeN st.rooms st.L op ov oc k) (n + 1) ∧ (∀ q, X9 q → g.Xn q ∨ w.heap.size ≤ q) ∧ Own w1 wb (wyA (newW st ((i : Nat) : Int) iv ic op ov oc) ab) 144 ∧ Own w1 ab (alC (newW st ((i : Nat) : Int) iv ic op ov oc).al) 254 ∧ w.heap.size ≤ wb ∧ w.heap.size ≤ ab ∧ Step (openF g p) w w1) := by
 have hS : Step (openF g p) w w := Step.refl _ _
 have hp := h.own
 have hn0 := h.s.node
 have ht := h.tab
 have hwm := h.wmap
 have hNX : ∀ k, g.Xn k → k < w.heap.size := fun k hk => hn0.ltX hk
 have hNp : ¬ g.Xn p := fun e => h.n_p (.inl e)
 have hml := hwm.lt
 have hne1 : g.wm ≠ g.tb := fun e => by have h1 := h.t_tb; have h2 := h.t_wm; rw [e] at h2; omega
 have hne2 : p ≠ g.tb := fun e => by have h1 := h.t_tb; have h2 := h.t_p; rw [e] at h2; omega
 have hne3 : p ≠ g.wm := fun e => by have h1 := h.t_wm; have h2 := h.t_p; rw [e] at h2; omega
 obtain ⟨hlk, hfi⟩ := h.look_no hf
 obtain ⟨vN, hvN⟩ : ∃ v, ((getM g.M 0).map wpV).getD (Value.pointer none) = v := ⟨_, rfl⟩
 have hnx := h.nx
 refine VCe Tryz.func17 (Vs (Vr ?_))
 refine Vx 0 34 #[I6 ((i : Nat) : Int), I6 iv, I6 ic] ?_
 intro b1 w1 hn1
 replace hS := openF_no hS (hn1.step No)
 replace hp := hp.no (hn1.step No)
 replace hn0 := NdP.no hn0 (hn1.step No)
 replace ht := Tb.no ht (hn1.step No)
 replace hwm := MapL.no hwm (hn1.step No)
 have ho1 := hn1.own
 have hzhn1 := hn1.size
 have hqhn1 := hn1.eqb
 refine Vx 1 34 #[I6 op, I6 ov, I6 oc] ?_
 intro b2 w2 hn2
 replace hS := openF_no hS (hn2.step No)
 replace hp := hp.no (hn2.step No)
 replace hn0 := NdP.no hn0 (hn2.step No)
 replace ht := Tb.no ht (hn2.step No)
 replace hwm := MapL.no hwm (hn2.step No)
 replace ho1 := ho1.no (hn2.step No)
 have ho2 := hn2.own
 have hzhn2 := hn2.size
 have hqhn2 := hn2.eqb
 refine Vx 2 23 #[I6 k.kind, I6 k.peak, I6 k.early, I6 k.whole, I6 k.burst, I6 k.least] ?_
 intro b3 w3 hn3
 replace hS := openF_no hS (hn3.step No)
 replace hp := hp.no (hn3.step No)
 replace hn0 := NdP.no hn0 (hn3.step No)
 replace ht := Tb.no ht (hn3.step No)
 replace hwm := MapL.no hwm (hn3.step No)
 replace ho1 := ho1.no (hn3.step No)
 replace ho2 := ho2.no (hn3.step No)
 have ho3 := hn3.own
 have hzhn3 := hn3.size
 have hqhn3 := hn3.eqb
 refine Ve (Vn (Vs (Vs (Vr (Vl 2 ho1 ?_)))))
 refine Vc 3 Tryz.call55 (linked_raw p g st ((i : Nat) : Int) _ hp) ?_
 rintro _ w4 ⟨rfl, hc1⟩
 replace hS := openF_no hS hc1
 replace hp := hp.no hc1
 replace hn0 := NdP.no hn0 hc1
 replace ht := Tb.no ht hc1
 replace hwm := MapL.no hwm hc1
 replace ho1 := ho1.no hc1
 replace ho2 := ho2.no hc1
 replace ho3 := ho3.no hc1
 refine VL_pure 6 [0, 5, 6, 7, 18] [(0, Pt p 0), (5, Pt b1 0), (6, Pt b2 0), (7, Pt b3 0), (18, Bo (!(lkOk st ((i : Nat) : Int))))] (by kernel_rfl) rfl (VL_known (lkOk st ((i : Nat) : Int)) (fun bV => [(0, Pt p 0), (5, Pt b1 0), (6, Pt b2 0), (7, Pt b3 0), (18, Bo (!bV))]) true rfl h0 (Vl 6 ho1 ?_))
 refine Vc 7 Tryz.call56 (right_any ((i : Nat) : Int) iv ic _) ?_
 rintro _ w5 ⟨rfl, hc2⟩
 replace hS := openF_no hS hc2
 replace hp := hp.no hc2
 replace hn0 := NdP.no hn0 hc2
 replace ht := Tb.no ht hc2
 replace hwm := MapL.no hwm hc2
 replace ho1 := ho1.no hc2
 replace ho2 := ho2.no hc2
 replace ho3 := ho3.no hc2
 refine VL_pure 11 [0, 5, 6, 7, 23] [(0, Pt p 0), (5, Pt b1 0), (6, Pt b2 0), (7, Pt b3 0), (23, Bo (!(rightB ((i : Nat) : Int) iv ic)))] (by kernel_rfl) rfl (VL_known (rightB ((i : Nat) : Int) iv ic) (fun bV => [(0, Pt p 0), (5, Pt b1 0), (6, Pt b2 0), (7, Pt b3 0), (23, Bo (!bV))]) true rfl h1 (Vl 12 ho1 (Vp 16 (Vkn 28 (decide (ic < 32)) false h2 (Vl 17 ho1 (Vl 19 ho2 (Ve (Vn (Viz (b := decide ((imax iv ov) > 255)) h3 (VC_skip (Vn (Vs (Vs (Vr (Vl 1 ho1 ?_)))))))))))))))
 refine Vc 2 Tryz.call57 (find_raw p g st ((i : Nat) : Int) iv ic _ hp ht hwm hlk hvN) ?_
 rintro _ w6 ⟨rfl, hc3⟩
 replace hS := openF_no hS hc3
 replace hp := hp.no hc3
 replace hn0 := NdP.no hn0 hc3
 replace ht := Tb.no ht hc3
 replace hwm := MapL.no hwm hc3
 replace ho1 := ho1.no hc3
 replace ho2 := ho2.no hc3
 replace ho3 := ho3.no hc3
 refine Ve (Vn (Vrp (Vf (VC_skip (Vn (Vs (Vs ?_)))))))
 have hs1 := drew_step w6
 have hs1z : w6.heap.size = w6.drew.heap.size := rfl
 refine Tx 6 (fun k => w6.heap.size ≤ k) [] [0, 1, 2, 3, 4, 5] ?_
 have hzl37 := hp.lt
 have hzl43 := ho3.lt
 generalize w6.drew = w7 at hs1 hs1z ⊢
 replace hS := openF_no hS hs1
 replace hp := hp.no hs1
 replace hn0 := NdP.no hn0 hs1
 replace ht := Tb.no ht hs1
 replace hwm := MapL.no hwm hs1
 replace ho1 := ho1.no hs1
 replace ho2 := ho2.no hs1
 replace ho3 := ho3.no hs1
 refine Tp 3 (Tl (fun w8 hr1 => hp.step hr1 (by (try simp only); omega)) (Tl (fun w9 hr2 => ho2.step hr2 (by (try simp only); omega)) (Tl (fun w10 hr3 => ho3.step hr3 (by (try simp only); omega)) (VT_end ?_))))
 intro w11 hs2
 replace hS := openF_no hS hs2
 replace hp := hp.no hs2
 replace hn0 := NdP.no hn0 hs2
 replace ht := Tb.no ht hs2
 replace hwm := MapL.no hwm hs2
 replace ho1 := ho1.no hs2
 replace ho2 := ho2.no hs2
 replace ho3 := ho3.no hs2
 refine VL_keep [0, 5, 6, 46, 47, 48] [(0, Pt p 0), (5, Pt b1 0), (6, Pt b2 0), (46, Pt g.nd 0), (47, .agg #[I6 op, I6 ov, I6 oc]), (48, .agg #[I6 k.kind, I6 k.peak, I6 k.early, I6 k.whole, I6 k.burst, I6 k.least])] (by kernel_rfl) ?_
 have hzl46 := Tb.lt ht
 have hzl47 := MapL.lt hwm
 have hzl50 := ho3.lt
 refine VL_call (d := 49) (f := 58) (args := #[Pt g.nd 0, .agg #[I6 op, I6 ov, I6 oc], .agg #[I6 k.kind, I6 k.peak, I6 k.early, I6 k.whole, I6 k.burst, I6 k.least]]) (by kernel_rfl) (by kernel_rfl) (by kernel_rfl) Tryz.call58 (ntake hn0 (by omega) op ov oc k) ?_
 rintro _ w12 ⟨rfl, X9, hn1, hX9, hc4⟩
 replace hS := Step.trans hS (Step.mono hc4 (fun i9 h9 => .inl h9))
 replace hp := hp.step hc4 hNp
 replace ht := Tb.step ht hc4 h.ntb
 replace hwm := MapL.step hwm hc4 h.nwm
 replace ho1 := ho1.step hc4 (fun h8 => by have h7 := hNX _ h8; omega)
 replace ho2 := ho2.step hc4 (fun h8 => by have h7 := hNX _ h8; omega)
 replace ho3 := ho3.step hc4 (fun h8 => by have h7 := hNX _ h8; omega)
 have hNgtb : ¬ X9 g.tb := fun e => by rcases hX9 _ e with h8 | h8; exact h.ntb h8; have := h.tab.lt; omega
 have hNgwm : ¬ X9 g.wm := fun e => by rcases hX9 _ e with h8 | h8; exact h.nwm h8; have := h.wmap.lt; omega
 refine Ve (Vn (Vrp (Viz (b := (chkN st.rooms st.L op ov oc k) != 0) (bne_eq_false_iff_eq.2 hc) (VC_skip (Vn (Vs ?_))))))
 have hs3 := drew_step w12
 have hs3z : w12.heap.size = w12.drew.heap.size := rfl
 refine Tx 11 (fun k => w12.heap.size ≤ k) [10] [0, 1, 2, 3, 4, 5, 6, 7, 8, 9, 10] ?_
 have hzl51 := hp.lt
 have hzl56 := ho3.lt
 generalize w12.drew = w13 at hs3 hs3z ⊢
 replace hS := openF_no hS hs3
 replace hp := hp.no hs3
 replace ht := Tb.no ht hs3
 replace hwm := MapL.no hwm hs3
 replace ho1 := ho1.no hs3
 replace ho2 := ho2.no hs3
 replace ho3 := ho3.no hs3
 replace hn1 := NdP.no hn1 hs3
 refine Tl (fun w14 hr4 => ho1.step hr4 (by (try simp only); omega)) (Tl (fun w15 hr5 => ho2.step hr5 (by (try simp only); omega)) (Tp 1 (Tl (fun w16 hr6 => ho1.step hr6 (by (try simp only); omega)) (Tp 5 (Tl (fun w17 hr7 => hp.step hr7 (by (try simp only); omega)) (Th ?_))))))
 intro w18 hs4
 replace hS := openF_no hS hs4
 replace hp := hp.no hs4
 replace ht := Tb.no ht hs4
 replace hwm := MapL.no hwm hs4
 replace ho1 := ho1.no hs4
 replace ho3 := ho3.no hs4
 replace hn1 := NdP.no hn1 hs4
 have hzl58 := hp.lt
 have hzl59 := Tb.lt ht
 have hzl63 := ho3.lt
 refine VTc_call (d := 63) (f := 59) (by kernel_rfl) (by kernel_rfl) (by kernel_rfl) Tryz.call59 (alnew_any (hereP ((i : Nat) : Int)) st.wait _) ?_ ?_
 ·rintro _ w19 ⟨ab, rfl, hab0, hab, hc5⟩
  exact Step.mono hc5 (by intro i hi; first | exact hi.elim | exact .inl hi | ((try simp only at hi ⊢); omega))
 rintro _ w19 ⟨ab, rfl, hab0, hab, hc5⟩
 replace hS := openF_no hS hc5
 replace hp := hp.no hc5
 replace ht := Tb.no ht hc5
 replace hwm := MapL.no hwm hc5
 replace ho1 := ho1.no hc5
 replace ho3 := ho3.no hc5
 replace hn1 := NdP.no hn1 hc5
 have habw : w.heap.size ≤ ab := by omega
 refine VT_end ?_
 intro w20 hs5
 replace hS := openF_no hS hs5
 replace hp := hp.no hs5
 replace ht := Tb.no ht hs5
 replace hwm := MapL.no hwm hs5
 replace ho1 := ho1.no hs5
 replace ho3 := ho3.no hs5
 replace hn1 := NdP.no hn1 hs5
 replace hab := hab.no hs5
 refine Vp 12 ?_
 have hzl65 := hp.lt
 have hzl66 := Tb.lt ht
 have hzl67 := MapL.lt hwm
 have hzl70 := ho3.lt
 have hzl72 := hab.lt
 refine Vx 12 144 #[I6 ((i : Nat) : Int), I6 iv, I6 ic, I6 op, I6 ov, I6 oc, Pt ab 0, Bo false] ?_
 intro b4 w21 hn4
 replace hS := openF_no hS (hn4.step No)
 replace hp := hp.no (hn4.step No)
 replace ht := Tb.no ht (hn4.step No)
 replace hwm := MapL.no hwm (hn4.step No)
 replace ho1 := ho1.no (hn4.step No)
 replace ho3 := ho3.no (hn4.step No)
 replace hn1 := NdP.no hn1 (hn4.step No)
 replace hab := hab.no (hn4.step No)
 have ho4 := hn4.own
 have hzhn4 := hn4.size
 have hqhn4 := hn4.eqb
 refine Ve (Vn (Vs ?_))
 obtain ⟨l9, r9, d9, hl9, hlk9, hla9, hrw9⟩ := h.lk_open hS hi
 unfold plA at hp
 rw [hla9] at hp
 have hs6 := drew_step w21
 have hs6z : w21.heap.size = w21.drew.heap.size := rfl
 refine Tx 15 (fun k => w21.heap.size ≤ k) [] [0, 1, 2, 3, 4, 5, 6, 7, 8, 9, 10, 11, 12, 13, 14] ?_
 have hzl82 := hlk9.lt
 have hzl83 := RowE.lt hrw9
 generalize w21.drew = w22 at hs6 hs6z ⊢
 replace hS := openF_no hS hs6
 replace hp := hp.no hs6
 replace ht := Tb.no ht hs6
 replace hwm := MapL.no hwm hs6
 replace ho1 := ho1.no hs6
 replace ho3 := ho3.no hs6
 replace hn1 := NdP.no hn1 hs6
 replace hab := hab.no hs6
 replace ho4 := ho4.no hs6
 replace hlk9 := hlk9.no hs6
 replace hrw9 := RowE.no hrw9 hs6
 refine Tp 3 (Tl (fun w23 hr8 => ho4.step hr8 (by (try simp only); omega)) (Tp 3 (Tl (fun w24 hr9 => hp.step hr9 (by (try simp only); omega)) (Tp 1 (Tl (fun w25 hr10 => ho1.step hr10 (by (try simp only); omega)) (VT_index (d := 76) (b := g.lb) (o := 0) (len := st.lk.length) (sz := 1) (mm := ((i : Nat) : Int)) (by kernel_rfl) (by kernel_rfl) i (by rfl) (by omega) i (by omega) (VT_load (d := 77) (t := 130) (a := ⟨g.lb, i, none⟩) (v := .pointer (some ⟨(g.lg i), 0, none⟩)) (by kernel_rfl) (by kernel_rfl) ?_ ?_)))))))
 ·intro w26 hr11
  replace hrw9 := RowE.step hrw9 hr11 (by (try simp only); omega)
  exact (RowE.ldp hrw9 (by kernel_rfl) hi)
 refine Tp 2 (Tl (fun w27 hr12 => hlk9.step hr12 (by (try simp only); omega)) (VT_end ?_))
 intro w28 hs7
 replace hS := openF_no hS hs7
 replace hp := hp.no hs7
 replace ht := Tb.no ht hs7
 replace hwm := MapL.no hwm hs7
 replace ho1 := ho1.no hs7
 replace ho3 := ho3.no hs7
 replace hn1 := NdP.no hn1 hs7
 replace hab := hab.no hs7
 replace ho4 := ho4.no hs7
 refine VL_keep [0, 5, 12, 69, 80] [(0, Pt p 0), (5, Pt b1 0), (12, Pt b4 0), (69, Pt ab 0), (80, Bo l9.dn)] (by kernel_rfl) ?_
 refine VL_call (d := 81) (f := 60) (by kernel_rfl) (by kernel_rfl) (by kernel_rfl) Tryz.call60 (down_any ab (newA (hereP ((i : Nat) : Int)) st.wait) _ hab l9.dn) ?_
 rintro _ w29 ⟨rfl, hab2, hc6⟩
 replace hS := Step.transNew hS hc6 (fun i9 hi9 hF9 => by have hF8 : i9 = ab := hF9; omega)
 replace hp := hp.step hc6 (show ¬ p = ab by omega)
 replace ht := Tb.step ht hc6 (show ¬ g.tb = ab by omega)
 replace hwm := MapL.step hwm hc6 (show ¬ g.wm = ab by omega)
 replace ho1 := ho1.step hc6 (show ¬ b1 = ab by omega)
 replace ho3 := ho3.step hc6 (show ¬ b3 = ab by omega)
 replace hn1 := NdP.blk hn1 hab (by decide) hc6
 replace ho4 := ho4.step hc6 (show ¬ b4 = ab by omega)
 refine Ve (Vn (Vs ?_))
 have hs8 := drew_step w29
 have hs8z : w29.heap.size = w29.drew.heap.size := rfl
 refine Tx 9 (fun k => w29.heap.size ≤ k) [] [0, 1, 2, 3, 4, 5, 6, 7, 8] ?_
 have hzl95 := hp.lt
 have hzl100 := ho3.lt
 generalize w29.drew = w30 at hs8 hs8z ⊢
 replace hS := openF_no hS hs8
 replace hp := hp.no hs8
 replace ht := Tb.no ht hs8
 replace hwm := MapL.no hwm hs8
 replace ho1 := ho1.no hs8
 replace hn1 := NdP.no hn1 hs8
 replace ho4 := ho4.no hs8
 replace hab2 := hab2.no hs8
 refine Tp 3 (Tl (fun w31 hr13 => hp.step hr13 (by (try simp only); omega)) (Tl (fun w32 hr14 => ho1.step hr14 (by (try simp only); omega)) (Tp 3 (Tl (fun w33 hr15 => hp.step hr15 (by (try simp only); omega)) (VT_end ?_)))))
 intro w34 hs9
 replace hS := openF_no hS hs9
 replace hp := hp.no hs9
 replace ht := Tb.no ht hs9
 replace hwm := MapL.no hwm hs9
 replace hn1 := NdP.no hn1 hs9
 replace ho4 := ho4.no hs9
 replace hab2 := hab2.no hs9
 refine VL_keep [0, 12, 85, 86, 90] [(0, Pt p 0), (12, Pt b4 0), (85, Pt g.tb 0), (86, .agg #[I6 ((i : Nat) : Int), I6 iv, I6 ic]), (90, I6 ((g.next : Nat) : Int))] (by kernel_rfl) ?_
 refine VL_call (d := 91) (f := 61) (args := #[Pt g.tb 0, .agg #[I6 ((i : Nat) : Int), I6 iv, I6 ic], I6 ((g.next : Nat) : Int)]) (by kernel_rfl) (by kernel_rfl) (by kernel_rfl) Tryz.call61 (tput ((i : Nat) : Int) iv ic ((g.next : Nat) : Int) ht) ?_
 rintro _ w35 ⟨rfl, ht2, hc7⟩
 replace hS := Step.trans hS (Step.mono hc7 (fun i9 h9 => .inr (.inr (.inl h9))))
 replace hp := hp.step hc7 (show ¬ p = g.tb by omega)
 replace hwm := MapL.step hwm hc7 (show ¬ g.wm = g.tb by omega)
 replace hn1 := NdP.step hn1 hc7 (fun k9 hk9 hF9 => by have hF8 : k9 = g.tb := hF9; subst hF8; exact absurd hk9 hNgtb)
 replace ho4 := ho4.step hc7 (show ¬ b4 = g.tb by omega)
 replace hab2 := hab2.step hc7 (show ¬ ab = g.tb by omega)
 refine Ve (Vn (Vs ?_))
 have hs10 := drew_step w35
 have hs10z : w35.heap.size = w35.drew.heap.size := rfl
 refine Tx 9 (fun k => k = g.wm ∨ w35.heap.size ≤ k) [] [0, 1, 2, 3, 4, 5, 6, 7, 8] ?_
 have hzl113 := hp.lt
 generalize w35.drew = w36 at hs10 hs10z ⊢
 replace hS := openF_no hS hs10
 replace hp := hp.no hs10
 replace hwm := MapL.no hwm hs10
 replace hn1 := NdP.no hn1 hs10
 replace ho4 := ho4.no hs10
 replace hab2 := hab2.no hs10
 replace ht2 := Tb.no ht2 hs10
 refine Tp 3 (Tl (fun w37 hr16 => hp.step hr16 (by (try simp only); omega)) (Tp 3 (Tl (fun w38 hr17 => hp.step hr17 (by (try simp only); omega)) (Tp 1 (VT_end ?_)))))
 intro w39 hs11
 replace hS := openF_no hS hs11
 replace hp := hp.no hs11
 replace hwm := MapL.no hwm hs11
 replace hn1 := NdP.no hn1 hs11
 replace ho4 := ho4.no hs11
 replace hab2 := hab2.no hs11
 replace ht2 := Tb.no ht2 hs11
 refine VL_upd (ek := ei) (u := wpV) (m := g.wm) (kt := 3) (k := ((g.next : Nat) : Int)) (v := b4) (by kernel_rfl) (by kernel_rfl) keyTi hwm ?_
 intro w40 hw1
 replace hS := Step.trans hS (Step.mono hw1.step (fun i9 h9 => .inr (.inr (.inr h9))))
 replace hp := hp.step hw1.step (show ¬ p = g.wm by omega)
 replace hn1 := NdP.step hn1 hw1.step (fun k9 hk9 hF9 => by have hF8 : k9 = g.wm := hF9; subst hF8; exact absurd hk9 hNgwm)
 replace ho4 := ho4.step hw1.step (show ¬ b4 = g.wm by omega)
 replace hab2 := hab2.step hw1.step (show ¬ ab = g.wm by omega)
 replace ht2 := Tb.step ht2 hw1.step (show ¬ g.tb = g.wm by omega)
 have hM1 := hw1.map
 refine Ve (Vn (Vs (Vr (Vl 3 hp (Vp 5 ?_)))))
 have he1 : IntKind.wrap .i64 (((g.next : Nat) : Int) + 1) = ((g.next + 1 : Nat) : Int) := (by rw [wrap_i64 _ (by omega) (by omega)]; omega)
 refine Vq 105 (I6 (IntKind.wrap .i64 (((g.next : Nat) : Int) + 1))) (I6 ((g.next + 1 : Nat) : Int)) (by rw [he1]) (Vst 7 (o := 9) [I6 ((g.next + 1 : Nat) : Int)] hp #[Pt g.nd 0, .slice (some ⟨g.lb, 0, none⟩) st.lk.length g.lc, Pt g.tb 0, .map (some g.wm), .map (some g.cm), I6 st.tm.s, I6 st.tm.c, I6 st.tm.r, I6 st.wait, I6 ((g.next + 1 : Nat) : Int), I6 st.now, I6 (st.cn 0), I6 (st.cn 1), I6 (st.cn 2), I6 (st.cn 3), I6 (st.cn 4), I6 (st.cn 5), I6 (st.cn 6), I6 (st.cn 7), I6 (st.cn 8)] ?_)
 intro w41 hw2
 replace hS := Step.trans hS (Step.mono hw2.step (fun i9 h9 => .inr (.inl h9)))
 replace hn1 := NdP.blk hn1 hp (by decide) hw2.step
 replace ho4 := ho4.step hw2.step (show ¬ b4 = p by omega)
 replace hab2 := hab2.step hw2.step (show ¬ ab = p by omega)
 replace ht2 := Tb.step ht2 hw2.step (show ¬ g.tb = p by omega)
 replace hM1 := MapL.step hM1 hw2.step (show ¬ g.wm = p by omega)
 have ho5 := hw2.own
 refine Ve (Vn (Vrp (VC_ret (Vr1 (I6 0) ?_))))
 exact ⟨rfl, b4, ab, X9, Own.cast ho5 (by unfold plA; simp only [hla9]), ht2, hM1, hn1, fun q hq => (hX9 q hq).imp id (fun h9 => by omega), ho4, Own.cast hab2 (by rw [newW_al hl9]), by omega, habw, hS⟩

theorem popen {p lo : Nat} {X XB : Nat → Prop} {st : PS} {n : Nat} {w : World} (h : PlP w p X XB lo st n) (hn : n < 1152921504606846976) (ip iv ic op ov oc : Int) (k : Con) : CV Tryz.prog 17 #[.pointer (some ⟨p, 0, none⟩), KV ip iv ic, KV op ov oc, CVv k] w fun x w1 => x = .int .i64 (openK st ip iv ic op ov oc k) ∧ PNext w p X XB lo (openS st ip iv ic op ov oc k) (n + 1) w1 := by
  have hh := h
  obtain ⟨g, h⟩ := h
  have hlo : lo ≤ w.heap.size := by have := h.lw p h.inp.1; have := h.own.lt; omega
  have no : ∀ {e : Int} {x : Value} {w1 : World}, openK st ip iv ic op ov oc k = e → e ≠ 0 → (x = .int .i64 e ∧ Step No w w1) → (x = .int .i64 (openK st ip iv ic op ov oc k) ∧ PNext w p X XB lo (openS st ip iv ic op ov oc k) (n + 1) w1) := by
    rintro e x w1 he h0 ⟨rfl, hs⟩
    have hS : openS st ip iv ic op ov oc k = st := by unfold openS; rw [if_neg (by rw [he]; exact h0)]
    rw [hS]
    exact ⟨by rw [he], PNext.of_no (hh.more (Nat.le_succ n)) hs⟩
  cases e0 : lkOk st ip with
  | false => exact (open_bad0 p lo X XB g st n w ip iv ic op ov oc k e0 h).mono fun x w1 h9 => no (by unfold openK okIn; rw [e0]; rfl) (by decide) h9
  | true =>
    cases e1 : rightB ip iv ic with
    | false => exact (open_bad1 p lo X XB g st n w ip iv ic op ov oc k e0 e1 h).mono fun x w1 h9 => no (by unfold openK okIn; rw [e0, e1]; rfl) (by decide) h9
    | true =>
      cases e2 : decide (ic < 32) with
      | true => exact (open_bad2 p lo X XB g st n w ip iv ic op ov oc k e0 e1 e2 h).mono fun x w1 h9 => no (by unfold openK; rw [if_neg]; rw [okIn_iff]; have := of_decide_eq_true e2; omega) (by decide) h9
      | false =>
        cases e3 : decide (imax iv ov > 255) with
        | true => exact (open_bad3 p lo X XB g st n w ip iv ic op ov oc k e0 e1 e2 e3 h).mono fun x w1 h9 => no (by unfold openK; rw [if_neg]; rw [okIn_iff]; have := of_decide_eq_true e3; rw [imax_eq] at this; omega) (by decide) h9
        | false =>
          have hok : okIn st ip iv ic ov = true := by rw [okIn_iff]; have h2 := of_decide_eq_false e2; have h3 := of_decide_eq_false e3; rw [imax_eq] at h3; exact ⟨lkOk_iff.1 e0, e1, by omega, by omega, by omega⟩
          cases ef : findW st.W ip iv ic with
          | some y => exact (open_no35 p lo X XB g st n w ip iv ic op ov oc k e0 e1 e2 e3 y ef h).mono fun x w1 h9 => no (by unfold openK; rw [if_pos hok, ef]; rfl) (by decide) h9
          | none =>
            have hK : openK st ip iv ic op ov oc k = chkN st.rooms st.L op ov oc k := by unfold openK; rw [if_pos hok, ef]; rfl
            by_cases hc : chkN st.rooms st.L op ov oc k = 0
            · obtain ⟨i, hi, rfl⟩ : ∃ i : Nat, i < st.lk.length ∧ ip = (i : Int) := ⟨ip.toNat, by have := lkOk_iff.1 e0; omega, by have := lkOk_iff.1 e0; omega⟩
              refine (open_fine p lo X XB g st n w i iv ic op ov oc k e0 e1 e2 e3 ef hc hi hn h).mono ?_
              rintro x w1 ⟨rfl, wb, ab, X9, a1, a2, a3, a4, a5, a6, a7, a8, a9, hS⟩
              have := h.opened (hK.trans hc) hS a1 a2 a3 a4 a5 a6 a7 a8 a9 hlo
              refine ⟨by rw [hK, hc], _, XB, ⟨_, this⟩, fun q hq => ?_, fun q hq => .inl hq, Step.mono hS (openF_X h)⟩
              rcases hq with ⟨hq, _⟩ | hq | rfl | rfl
              · exact .inl hq
              · exact (a5 q hq).imp (fun h9 => h.inX q (.inl h9)) id
              · exact .inr a8
              · exact .inr a9
            · refine (open_nope p lo X XB g st n w ip iv ic op ov oc k e0 e1 e2 e3 ef hc hn h).mono ?_
              rintro x w1 ⟨rfl, X9, a4, a5, a1, a2, a3, hS⟩
              have hL : takeN st.rooms st.L op ov oc k = st.L := by unfold takeN; rw [if_neg hc]
              rw [hL] at a4
              have := h.noded hS a1 a2 a3 a4 a5 rfl (fun _ _ _ => rfl)
              have hO : openS st ip iv ic op ov oc k = st := by unfold openS; rw [if_neg (by rw [hK]; exact hc)]
              rw [hO]
              refine ⟨by rw [hK], _, XB, ⟨_, this⟩, fun q hq => ?_, fun q hq => .inl hq, Step.mono hS (openF_X h)⟩
              rcases hq with ⟨hq, _⟩ | hq
              · exact .inl hq
              · exact (a5 q hq).imp (fun h9 => h.inX q (.inl h9)) id
end Go.Proofs.YtcablikikkmfjaaGreat
end

section
/- The calculus: shifts by a variable in a region walked in one order. -/
set_option linter.unusedVariables false
set_option linter.unusedSimpArgs false
namespace Go.Vc
open Go.RowKit
section
variable {r : Option Nat} {n : Nat} {ds : List Deferred} {P : Program} {ops : Array Oper} {Q : Exit → Act → World → Prop} {tbl : List (List Nat)} {m : Nat} {l : List (Nat × Value)} {R : World → World → Prop} {ch : List Nat} {w : World}
theorem VT_shr {k d : Nat} {kd : IntKind} {x y : Int} {is : List Nat} {kn : List (Nat × Value)} (h : shrOp n ops (lkn ops tbl m l kn k) k = some (d, kd, x, y)) (hd : dstOf ops k = some d) (j : Nat) (hy : y = (j : Nat)) (hj : j ≤ kd.bits) (next : VT r n ds P ops Q tbl m l R ch is ((k, .int kd (x.fdiv (2 ^ j))) :: kn) w) : VT r n ds P ops Q tbl m l R ch (k :: is) kn w :=
  VT_float _ (fun w' hR => V1_shr h j hy hj ⟨⟨d, hd, look_head⟩, Step.refl _ _⟩) next
end
end Go.Vc
end
