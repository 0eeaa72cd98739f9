import Derived.Test.YthchmlidobgkoaaGreatProg
import Derived.Test.YthchmlidobgkoaaGreatMb3
section
/- Layer 20: new policers. -/
set_option linter.unusedVariables false
set_option linter.unusedSimpArgs false
set_option maxRecDepth 100000
set_option maxHeartbeats 4000000
namespace Go.Proofs.YthchmlidobgkoaaGreat
open Go.Vc Go.RowKit
theorem TAd7aa {P : Prop} (h : P := by simp only [flat_append, flat_one, List.append_assoc, List.nil_append, List.append_nil, show flat rlc [] = [] from rfl]) : P := h
theorem TAd7ab {P : Prop} (h : P := by simp only [flat_append, flat_one, List.append_assoc, List.nil_append, List.append_nil, show flat r4 [] = [] from rfl]) : P := h
theorem TAd7ac {P : Prop} (h : P := by intro i hi; first | exact hi.elim | exact .inl hi | ((try simp only at hi ⊢); omega)) : P := h
theorem TAd7ad {P : Prop} (h : P := by first | exact Nat.le_refl _ | omega) : P := h
theorem TAd7ae {P : Prop} (h : P := by first | rfl | simp [flat]) : P := h
theorem TAd7af {P : Prop} (h : P := by simp only [maxLen]; omega) : P := h

def r4 (r : Rl) : List Value := [.int .i64 r.step, .int .i64 r.early, .bool r.zero, .bool r.tag]
theorem r4_len (r : Rl) : (r4 r).length = 4 := rfl
theorem r4_one (r : Rl) : ∀ u ∈ r4 r, oneC u = true := by
  intro u hu
  simp only [r4, List.mem_cons, List.not_mem_nil, or_false] at hu
  rcases hu with rfl | rfl | rfl | rfl <;> rfl
theorem rules_one {c : Con} (h : rightC c = 0) (h2 : ¬ c.kind = 2) (h3 : ¬ c.kind = 3) (h4 : ¬ c.kind = 4) : [rlNew c.peak c.early false false] = rulesC c := by unfold rulesC; rw [if_pos h, if_neg h2, if_neg h3, if_neg h4]
theorem rules_v1 {c : Con} (h : rightC c = 0) (h2 : c.kind = 2) : [rlNew c.peak c.early false false, rlNew c.whole (c.burst + c.early) false false] = rulesC c := by unfold rulesC; rw [if_pos h, if_pos h2]
theorem rules_v2 {c : Con} (h : rightC c = 0) (h2 : c.kind = 3) : [rlNew c.peak c.early false false, rlNew c.whole (c.burst + c.early) true false] = rulesC c := by unfold rulesC; rw [if_pos h, if_neg (by omega), if_pos h2]
theorem rules_v3 {c : Con} (h : rightC c = 0) (h2 : c.kind = 4) : [rlNew c.peak c.early false false, rlNew c.whole (c.burst + c.early) true true] = rulesC c := by unfold rulesC; rw [if_pos h, if_neg (by omega), if_neg (by omega), if_pos h2]
theorem bur_early {c : Con} (h : rightC c = 0) (hk : c.kind = 2 ∨ c.kind = 3 ∨ c.kind = 4) : IntKind.wrap .i64 (c.burst + c.early) = c.burst + c.early := by
  obtain ⟨h1, h2, h3, h4⟩ := vbr_of h hk
  exact wrap_i64 _ (by omega) (by omega)
theorem rules_v1_any (c : Con) (hr : rightC c = 0) (hk : c.kind = 2) (w : World) :
  CV Tryz.prog 72 #[.agg #[I6 c.kind, I6 c.peak, I6 c.early, I6 c.whole, I6 c.burst, I6 c.least]] w (fun x w1 => ∃ A n cc, x = .slice A n cc ∧ (rulesC c).length = n ∧ RwS w1 4 w.heap.size 104 A n cc (flat r4 (rulesC c)) ∧ Step No w w1) := by
 have hS : Step No w w := Step.refl _ _
 refine VCe Tryz.func72 (Vs (Vr ?_))
 refine Vx 0 32 #[I6 c.kind, I6 c.peak, I6 c.early, I6 c.whole, I6 c.burst, I6 c.least] ?_
 intro b1 w1 hn1
 replace hS := Step.trans hS (hn1.step No)
 have ho1 := hn1.own
 have hzhn1 := hn1.size
 have hqhn1 := hn1.eqb
 refine Ve (Vn (Vs (Vs (Vr (Vl 0 ho1 ?_)))))
 refine Vc 1 Tryz.call52 ((cright_any c _).mono (fun x w1 h9 => ⟨h9.1.trans (by rw [hr]), h9.2⟩ : ∀ x w1, _ → x = I6 0 ∧ Step No _ w1)) ?_
 rintro _ w2 ⟨rfl, hc1⟩
 replace hS := Step.trans hS hc1
 replace ho1 := ho1.no hc1
 refine Ve (Vn (Vf (VC_skip (Vn (Vs (Vr (Vl 1 ho1 (Vl 3 ho1 (Vp 5 ?_)))))))))
 have hzl2 := ho1.lt
 refine VL_bs (d := 13) (e := 104) (c := #[I6 c.peak, I6 c.early, Bo false, Bo false]) (len := 1) (by kernel_rfl) (by kernel_rfl) ?_
 intro b2 w3 hn2
 replace hS := Step.trans hS (hn2.step No)
 replace ho1 := ho1.no (hn2.step No)
 have ho2 := hn2.own
 have hzhn2 := hn2.size
 have hqhn2 := hn2.eqb
 refine Ve (Vn (Vs (Vr (Vl 1 ho1 (Vl 3 ho1 (Vl 5 ho1 (Vp 7 (Vq 20 (I6 (IntKind.wrap .i64 (c.burst + c.early))) (I6 (c.burst + c.early)) (by rw [bur_early hr (by omega)]) (Vp 8 ?_)))))))))
 refine Vx 8 104 #[I6 0, I6 0, Bo false, Bo false] ?_
 intro b3 w4 hn3
 replace hS := Step.trans hS (hn3.step No)
 replace ho1 := ho1.no (hn3.step No)
 replace ho2 := ho2.no (hn3.step No)
 have ho3 := hn3.own
 have hzhn3 := hn3.size
 have hqhn3 := hn3.eqb
 refine Vst 9 (o := 0) [I6 c.whole, I6 (c.burst + c.early), Bo false, Bo false] ho3 #[I6 c.whole, I6 (c.burst + c.early), Bo false, Bo false] ?_
 intro w5 hw1
 replace hS := Step.transNew hS hw1.step (fun _ _ _ => by omega)
 replace ho1 := ho1.step hw1.step (show ¬ b1 = b3 by omega)
 replace ho2 := ho2.step hw1.step (show ¬ b2 = b3 by omega)
 have ho4 := hw1.own
 have hzhw1 := hw1.same
 refine Ve (Vn (Vs (Vs (Vr (Vl 1 ho1 (Ve (Vn (VC_block (Vs (VC_block (Vs (VC_block (Vs (VC_block (Vs (Vs (Vrp (Viz (b := c.kind == 4) (by rw [hk]; rfl) (VC_skip (Vn (Vs ?_)))))))))))))))))))))
 refine Vrp (Viz (b := c.kind == 3) (by rw [hk]; rfl) (VC_skip (Vn (Vrp (Vit (b := c.kind == 2) (by rw [hk]; rfl) (VC_exit (VQ_then_exit (VQ_block_miss (by kernel_rfl) (VQ_then_exit (VQ_block_miss (by kernel_rfl) (VQ_then_exit (VQ_block_hit (Vn (Vs (Vr (Vl 1 ho4 ?_))))))))))))))))
 refine VL_bs (d := 34) (e := 104) (c := #[I6 c.whole, I6 (c.burst + c.early), Bo false, Bo false]) (len := 1) (by kernel_rfl) (by kernel_rfl) ?_
 intro b4 w6 hn4
 replace hS := Step.trans hS (hn4.step No)
 replace ho2 := ho2.no (hn4.step No)
 have ho5 := hn4.own
 have hzhn4 := hn4.size
 have hqhn4 := hn4.eqb
 have hbase1 := Nat.le_of_lt ho2.lt
 have hrowhbase1 := RwS.cast (ys := flat r4 [(rlNew c.peak c.early false false)]) (RwS.of_new (n := 1) (sz := 4) (base := b2) ho2 (Nat.le_refl _) (by simp [maxLen]) (by rfl)) rfl (by rfl)
 refine VL_appendZ (d := 35) (e := 104) (A := (some ⟨b2, 0, none⟩)) (m := 1) (c := 1) (A2 := (some ⟨b4, 0, none⟩)) (m2 := 1) (c2 := 1) (sz := 4) (bytes := 24) (by kernel_rfl) (by kernel_rfl) (by kernel_rfl) b2 w6.heap.size (flat r4 ([(rlNew c.peak c.early false false)])) (flat r4 [(rlNew c.whole (c.burst + c.early) false false)]) hrowhbase1 (by rw [flat_one, r4_len]) (Sl.mono (Sl.cast (Own.sl ho5 ho5.lt) TAd7ae) TAd7ad) (flat_one' r4_one _) 2 (by omega) TAd7af (by omega) (by omega) ?_
 intro A1 c1 w7 hr1 hg1
 replace hr1 : RwS w7 4 b2 104 A1 2 c1 (flat r4 (([(rlNew c.peak c.early false false)]) ++ ([(rlNew c.whole (c.burst + c.early) false false)]))) := RwS.cast hr1 rfl TAd7ab
 replace hg1 := Step.mono (G := fun k => k = b2) hg1 (fun i hi => by obtain ⟨a9, ha9, hi9⟩ := hi; cases ha9; exact hi9.symm)
 replace hS := Step.transNew hS hg1 (fun i hi hG => by (try simp only at hG); omega)
 refine Ve (Vn (VC_exit (VQ_block_hit (Vn (Vrp (VC_ret (Vr1 (.slice A1 2 c1) ?_)))))))
 have hR := rules_v1 hr (by assumption)
 rw [← hR]
 exact ⟨A1, _, _, rfl, rfl, RwS.low (RwS.cast hr1 rfl (by rfl)) (by omega), hS⟩

theorem rules_v2_any (c : Con) (hr : rightC c = 0) (hk : c.kind = 3) (w : World) :
  CV Tryz.prog 72 #[.agg #[I6 c.kind, I6 c.peak, I6 c.early, I6 c.whole, I6 c.burst, I6 c.least]] w (fun x w1 => ∃ A n cc, x = .slice A n cc ∧ (rulesC c).length = n ∧ RwS w1 4 w.heap.size 104 A n cc (flat r4 (rulesC c)) ∧ Step No w w1) := by
 have hS : Step No w w := Step.refl _ _
 refine VCe Tryz.func72 (Vs (Vr ?_))
 refine Vx 0 32 #[I6 c.kind, I6 c.peak, I6 c.early, I6 c.whole, I6 c.burst, I6 c.least] ?_
 intro b1 w1 hn1
 replace hS := Step.trans hS (hn1.step No)
 have ho1 := hn1.own
 have hzhn1 := hn1.size
 have hqhn1 := hn1.eqb
 refine Ve (Vn (Vs (Vs (Vr (Vl 0 ho1 ?_)))))
 refine Vc 1 Tryz.call52 ((cright_any c _).mono (fun x w1 h9 => ⟨h9.1.trans (by rw [hr]), h9.2⟩ : ∀ x w1, _ → x = I6 0 ∧ Step No _ w1)) ?_
 rintro _ w2 ⟨rfl, hc1⟩
 replace hS := Step.trans hS hc1
 replace ho1 := ho1.no hc1
 refine Ve (Vn (Vf (VC_skip (Vn (Vs (Vr (Vl 1 ho1 (Vl 3 ho1 (Vp 5 ?_)))))))))
 have hzl2 := ho1.lt
 refine VL_bs (d := 13) (e := 104) (c := #[I6 c.peak, I6 c.early, Bo false, Bo false]) (len := 1) (by kernel_rfl) (by kernel_rfl) ?_
 intro b2 w3 hn2
 replace hS := Step.trans hS (hn2.step No)
 replace ho1 := ho1.no (hn2.step No)
 have ho2 := hn2.own
 have hzhn2 := hn2.size
 have hqhn2 := hn2.eqb
 refine Ve (Vn (Vs (Vr (Vl 1 ho1 (Vl 3 ho1 (Vl 5 ho1 (Vp 7 (Vq 20 (I6 (IntKind.wrap .i64 (c.burst + c.early))) (I6 (c.burst + c.early)) (by rw [bur_early hr (by omega)]) (Vp 8 ?_)))))))))
 refine Vx 8 104 #[I6 0, I6 0, Bo false, Bo false] ?_
 intro b3 w4 hn3
 replace hS := Step.trans hS (hn3.step No)
 replace ho1 := ho1.no (hn3.step No)
 replace ho2 := ho2.no (hn3.step No)
 have ho3 := hn3.own
 have hzhn3 := hn3.size
 have hqhn3 := hn3.eqb
 refine Vst 9 (o := 0) [I6 c.whole, I6 (c.burst + c.early), Bo false, Bo false] ho3 #[I6 c.whole, I6 (c.burst + c.early), Bo false, Bo false] ?_
 intro w5 hw1
 replace hS := Step.transNew hS hw1.step (fun _ _ _ => by omega)
 replace ho1 := ho1.step hw1.step (show ¬ b1 = b3 by omega)
 replace ho2 := ho2.step hw1.step (show ¬ b2 = b3 by omega)
 have ho4 := hw1.own
 have hzhw1 := hw1.same
 refine Ve (Vn (Vs (Vs (Vr (Vl 1 ho1 (Ve (Vn (VC_block (Vs (VC_block (Vs (VC_block (Vs (VC_block (Vs (Vs (Vrp (Viz (b := c.kind == 4) (by rw [hk]; rfl) (VC_skip (Vn (Vs ?_)))))))))))))))))))))
 refine Vrp (Vit (b := c.kind == 3) (by rw [hk]; rfl) (VC_exit (VQ_then_exit (VQ_then_exit (VQ_block_miss (by kernel_rfl) (VQ_then_exit (VQ_block_hit (Vn (Vr (Vst 1 (o := 2) [Bo true] ho4 #[I6 c.whole, I6 (c.burst + c.early), Bo true, Bo false] ?_))))))))))
 intro w6 hw2
 replace hS := Step.transNew hS hw2.step (fun _ _ _ => by omega)
 replace ho2 := ho2.step hw2.step (show ¬ b2 = b3 by omega)
 have ho5 := hw2.own
 have hzhw2 := hw2.same
 refine Ve (VQ_block_normal (Vn (Vs (Vr (Vl 1 ho5 ?_)))))
 refine VL_bs (d := 34) (e := 104) (c := #[I6 c.whole, I6 (c.burst + c.early), Bo true, Bo false]) (len := 1) (by kernel_rfl) (by kernel_rfl) ?_
 intro b4 w7 hn4
 replace hS := Step.trans hS (hn4.step No)
 replace ho2 := ho2.no (hn4.step No)
 have ho6 := hn4.own
 have hzhn4 := hn4.size
 have hqhn4 := hn4.eqb
 have hbase1 := Nat.le_of_lt ho2.lt
 have hrowhbase1 := RwS.cast (ys := flat r4 [(rlNew c.peak c.early false false)]) (RwS.of_new (n := 1) (sz := 4) (base := b2) ho2 (Nat.le_refl _) (by simp [maxLen]) (by rfl)) rfl (by rfl)
 refine VL_appendZ (d := 35) (e := 104) (A := (some ⟨b2, 0, none⟩)) (m := 1) (c := 1) (A2 := (some ⟨b4, 0, none⟩)) (m2 := 1) (c2 := 1) (sz := 4) (bytes := 24) (by kernel_rfl) (by kernel_rfl) (by kernel_rfl) b2 w7.heap.size (flat r4 ([(rlNew c.peak c.early false false)])) (flat r4 [(rlNew c.whole (c.burst + c.early) true false)]) hrowhbase1 (by rw [flat_one, r4_len]) (Sl.mono (Sl.cast (Own.sl ho6 ho6.lt) TAd7ae) TAd7ad) (flat_one' r4_one _) 2 (by omega) TAd7af (by omega) (by omega) ?_
 intro A1 c1 w8 hr1 hg1
 replace hr1 : RwS w8 4 b2 104 A1 2 c1 (flat r4 (([(rlNew c.peak c.early false false)]) ++ ([(rlNew c.whole (c.burst + c.early) true false)]))) := RwS.cast hr1 rfl TAd7ab
 replace hg1 := Step.mono (G := fun k => k = b2) hg1 (fun i hi => by obtain ⟨a9, ha9, hi9⟩ := hi; cases ha9; exact hi9.symm)
 replace hS := Step.transNew hS hg1 (fun i hi hG => by (try simp only at hG); omega)
 refine Ve (Vn (VC_exit (VQ_block_hit (Vn (Vrp (VC_ret (Vr1 (.slice A1 2 c1) ?_)))))))
 have hR := rules_v2 hr (by assumption)
 rw [← hR]
 exact ⟨A1, _, _, rfl, rfl, RwS.low (RwS.cast hr1 rfl (by rfl)) (by omega), hS⟩

theorem rules_v3_any (c : Con) (hr : rightC c = 0) (hk : c.kind = 4) (w : World) :
  CV Tryz.prog 72 #[.agg #[I6 c.kind, I6 c.peak, I6 c.early, I6 c.whole, I6 c.burst, I6 c.least]] w (fun x w1 => ∃ A n cc, x = .slice A n cc ∧ (rulesC c).length = n ∧ RwS w1 4 w.heap.size 104 A n cc (flat r4 (rulesC c)) ∧ Step No w w1) := by
 have hS : Step No w w := Step.refl _ _
 refine VCe Tryz.func72 (Vs (Vr ?_))
 refine Vx 0 32 #[I6 c.kind, I6 c.peak, I6 c.early, I6 c.whole, I6 c.burst, I6 c.least] ?_
 intro b1 w1 hn1
 replace hS := Step.trans hS (hn1.step No)
 have ho1 := hn1.own
 have hzhn1 := hn1.size
 have hqhn1 := hn1.eqb
 refine Ve (Vn (Vs (Vs (Vr (Vl 0 ho1 ?_)))))
 refine Vc 1 Tryz.call52 ((cright_any c _).mono (fun x w1 h9 => ⟨h9.1.trans (by rw [hr]), h9.2⟩ : ∀ x w1, _ → x = I6 0 ∧ Step No _ w1)) ?_
 rintro _ w2 ⟨rfl, hc1⟩
 replace hS := Step.trans hS hc1
 replace ho1 := ho1.no hc1
 refine Ve (Vn (Vf (VC_skip (Vn (Vs (Vr (Vl 1 ho1 (Vl 3 ho1 (Vp 5 ?_)))))))))
 have hzl2 := ho1.lt
 refine VL_bs (d := 13) (e := 104) (c := #[I6 c.peak, I6 c.early, Bo false, Bo false]) (len := 1) (by kernel_rfl) (by kernel_rfl) ?_
 intro b2 w3 hn2
 replace hS := Step.trans hS (hn2.step No)
 replace ho1 := ho1.no (hn2.step No)
 have ho2 := hn2.own
 have hzhn2 := hn2.size
 have hqhn2 := hn2.eqb
 refine Ve (Vn (Vs (Vr (Vl 1 ho1 (Vl 3 ho1 (Vl 5 ho1 (Vp 7 (Vq 20 (I6 (IntKind.wrap .i64 (c.burst + c.early))) (I6 (c.burst + c.early)) (by rw [bur_early hr (by omega)]) (Vp 8 ?_)))))))))
 refine Vx 8 104 #[I6 0, I6 0, Bo false, Bo false] ?_
 intro b3 w4 hn3
 replace hS := Step.trans hS (hn3.step No)
 replace ho1 := ho1.no (hn3.step No)
 replace ho2 := ho2.no (hn3.step No)
 have ho3 := hn3.own
 have hzhn3 := hn3.size
 have hqhn3 := hn3.eqb
 refine Vst 9 (o := 0) [I6 c.whole, I6 (c.burst + c.early), Bo false, Bo false] ho3 #[I6 c.whole, I6 (c.burst + c.early), Bo false, Bo false] ?_
 intro w5 hw1
 replace hS := Step.transNew hS hw1.step (fun _ _ _ => by omega)
 replace ho1 := ho1.step hw1.step (show ¬ b1 = b3 by omega)
 replace ho2 := ho2.step hw1.step (show ¬ b2 = b3 by omega)
 have ho4 := hw1.own
 have hzhw1 := hw1.same
 refine Ve (Vn (Vs (Vs (Vr (Vl 1 ho1 (Ve (Vn (VC_block (Vs (VC_block (Vs (VC_block (Vs (VC_block (Vs (Vs (Vrp (Vit (b := c.kind == 4) (by rw [hk]; rfl) (VC_exit (VQ_then_exit (VQ_then_exit ?_)))))))))))))))))))))
 refine VQ_block_hit (Vn (Vr (Vst 1 (o := 3) [Bo true] ho4 #[I6 c.whole, I6 (c.burst + c.early), Bo false, Bo true] ?_)))
 intro w6 hw2
 replace hS := Step.transNew hS hw2.step (fun _ _ _ => by omega)
 replace ho2 := ho2.step hw2.step (show ¬ b2 = b3 by omega)
 have ho5 := hw2.own
 have hzhw2 := hw2.same
 refine Ve (VQ_block_normal (Vn (Vr (Vst 1 (o := 2) [Bo true] ho5 #[I6 c.whole, I6 (c.burst + c.early), Bo true, Bo true] ?_))))
 intro w7 hw3
 replace hS := Step.transNew hS hw3.step (fun _ _ _ => by omega)
 replace ho2 := ho2.step hw3.step (show ¬ b2 = b3 by omega)
 have ho6 := hw3.own
 have hzhw3 := hw3.same
 refine Ve (VQ_block_normal (Vn (Vs (Vr (Vl 1 ho6 ?_)))))
 refine VL_bs (d := 34) (e := 104) (c := #[I6 c.whole, I6 (c.burst + c.early), Bo true, Bo true]) (len := 1) (by kernel_rfl) (by kernel_rfl) ?_
 intro b4 w8 hn4
 replace hS := Step.trans hS (hn4.step No)
 replace ho2 := ho2.no (hn4.step No)
 have ho7 := hn4.own
 have hzhn4 := hn4.size
 have hqhn4 := hn4.eqb
 have hbase1 := Nat.le_of_lt ho2.lt
 have hrowhbase1 := RwS.cast (ys := flat r4 [(rlNew c.peak c.early false false)]) (RwS.of_new (n := 1) (sz := 4) (base := b2) ho2 (Nat.le_refl _) (by simp [maxLen]) (by rfl)) rfl (by rfl)
 refine VL_appendZ (d := 35) (e := 104) (A := (some ⟨b2, 0, none⟩)) (m := 1) (c := 1) (A2 := (some ⟨b4, 0, none⟩)) (m2 := 1) (c2 := 1) (sz := 4) (bytes := 24) (by kernel_rfl) (by kernel_rfl) (by kernel_rfl) b2 w8.heap.size (flat r4 ([(rlNew c.peak c.early false false)])) (flat r4 [(rlNew c.whole (c.burst + c.early) true true)]) hrowhbase1 (by rw [flat_one, r4_len]) (Sl.mono (Sl.cast (Own.sl ho7 ho7.lt) TAd7ae) TAd7ad) (flat_one' r4_one _) 2 (by omega) TAd7af (by omega) (by omega) ?_
 intro A1 c1 w9 hr1 hg1
 replace hr1 : RwS w9 4 b2 104 A1 2 c1 (flat r4 (([(rlNew c.peak c.early false false)]) ++ ([(rlNew c.whole (c.burst + c.early) true true)]))) := RwS.cast hr1 rfl TAd7ab
 replace hg1 := Step.mono (G := fun k => k = b2) hg1 (fun i hi => by obtain ⟨a9, ha9, hi9⟩ := hi; cases ha9; exact hi9.symm)
 replace hS := Step.transNew hS hg1 (fun i hi hG => by (try simp only at hG); omega)
 refine Ve (Vn (VC_exit (VQ_block_hit (Vn (Vrp (VC_ret (Vr1 (.slice A1 2 c1) ?_)))))))
 have hR := rules_v3 hr (by assumption)
 rw [← hR]
 exact ⟨A1, _, _, rfl, rfl, RwS.low (RwS.cast hr1 rfl (by rfl)) (by omega), hS⟩

theorem rules_v0_any (c : Con) (hr : rightC c = 0) (h2 : ¬ c.kind = 2) (h3 : ¬ c.kind = 3) (h4 : ¬ c.kind = 4) (w : World) :
  CV Tryz.prog 72 #[.agg #[I6 c.kind, I6 c.peak, I6 c.early, I6 c.whole, I6 c.burst, I6 c.least]] w (fun x w1 => ∃ A n cc, x = .slice A n cc ∧ (rulesC c).length = n ∧ RwS w1 4 w.heap.size 104 A n cc (flat r4 (rulesC c)) ∧ Step No w w1) := by
 have hS : Step No w w := Step.refl _ _
 refine VCe Tryz.func72 (Vs (Vr ?_))
 refine Vx 0 32 #[I6 c.kind, I6 c.peak, I6 c.early, I6 c.whole, I6 c.burst, I6 c.least] ?_
 intro b1 w1 hn1
 replace hS := Step.trans hS (hn1.step No)
 have ho1 := hn1.own
 have hzhn1 := hn1.size
 have hqhn1 := hn1.eqb
 refine Ve (Vn (Vs (Vs (Vr (Vl 0 ho1 ?_)))))
 refine Vc 1 Tryz.call52 ((cright_any c _).mono (fun x w1 h9 => ⟨h9.1.trans (by rw [hr]), h9.2⟩ : ∀ x w1, _ → x = I6 0 ∧ Step No _ w1)) ?_
 rintro _ w2 ⟨rfl, hc1⟩
 replace hS := Step.trans hS hc1
 replace ho1 := ho1.no hc1
 refine Ve (Vn (Vf (VC_skip (Vn (Vs (Vr (Vl 1 ho1 (Vl 3 ho1 (Vp 5 ?_)))))))))
 have hzl2 := ho1.lt
 refine VL_bs (d := 13) (e := 104) (c := #[I6 c.peak, I6 c.early, Bo false, Bo false]) (len := 1) (by kernel_rfl) (by kernel_rfl) ?_
 intro b2 w3 hn2
 replace hS := Step.trans hS (hn2.step No)
 replace ho1 := ho1.no (hn2.step No)
 have ho2 := hn2.own
 have hzhn2 := hn2.size
 have hqhn2 := hn2.eqb
 refine Ve (Vn (Vs (Vr (Vl 1 ho1 (Vl 3 ho1 (Vl 5 ho1 (Vp 8 ?_)))))))
 refine Vx 8 104 #[I6 0, I6 0, Bo false, Bo false] ?_
 intro b3 w4 hn3
 replace hS := Step.trans hS (hn3.step No)
 replace ho1 := ho1.no (hn3.step No)
 replace ho2 := ho2.no (hn3.step No)
 have ho3 := hn3.own
 have hzhn3 := hn3.size
 have hqhn3 := hn3.eqb
 refine Vst 9 (o := 0) [I6 c.whole, I6 (IntKind.wrap .i64 (c.burst + c.early)), Bo false, Bo false] ho3 #[I6 c.whole, I6 (IntKind.wrap .i64 (c.burst + c.early)), Bo false, Bo false] ?_
 intro w5 hw1
 replace hS := Step.transNew hS hw1.step (fun _ _ _ => by omega)
 replace ho1 := ho1.step hw1.step (show ¬ b1 = b3 by omega)
 replace ho2 := ho2.step hw1.step (show ¬ b2 = b3 by omega)
 have hzhw1 := hw1.same
 refine Ve (Vn (Vs (Vs (Vr (Vl 1 ho1 (Ve (Vn (VC_block (Vs (VC_block (Vs (VC_block (Vs (VC_block (Vs (Vs (Vrp (Viz (b := c.kind == 4) (beq_eq_false_iff_ne.2 (by assumption)) (VC_skip (Vn (Vs ?_)))))))))))))))))))))
 refine Vrp (Viz (b := c.kind == 3) (beq_eq_false_iff_ne.2 (by assumption)) (VC_skip (Vn (Vrp (Viz (b := c.kind == 2) (beq_eq_false_iff_ne.2 (by assumption)) (VC_skip (Vn (VC_exit (VQ_block_miss (by kernel_rfl) (VQ_then_exit (VQ_block_miss (by kernel_rfl) (VQ_then_exit (VQ_block_miss (by kernel_rfl) (VQ_then_exit (VQ_block_hit (Vn (Vs (Vr ?_))))))))))))))))))
 refine Ve (Vn (VC_ret (Vr1 (.slice (some ⟨b2, 0, none⟩) 1 1) ?_)))
 have hR := rules_one hr (by assumption) (by assumption) (by assumption)
 rw [← hR]
 exact ⟨_, _, _, rfl, rfl, RwS.cast (RwS.of_new (n := 1) (sz := 4) (base := w.heap.size) ho2 (by omega) (by simp [maxLen]) (by rfl)) rfl (by rfl), hS⟩

theorem rules_any (c : Con) (hr : rightC c = 0) (w : World) : CV Tryz.prog 72 #[.agg #[.int .i64 c.kind, .int .i64 c.peak, .int .i64 c.early, .int .i64 c.whole, .int .i64 c.burst, .int .i64 c.least]] w (fun x w1 => ∃ A n cc, x = .slice A n cc ∧ (rulesC c).length = n ∧ RwS w1 4 w.heap.size 104 A n cc (flat r4 (rulesC c)) ∧ Step No w w1) := by
  by_cases h2 : c.kind = 2
  · exact rules_v1_any c hr h2 w
  · by_cases h3 : c.kind = 3
    · exact rules_v2_any c hr h3 w
    · by_cases h4 : c.kind = 4
      · exact rules_v3_any c hr h4 w
      · exact rules_v0_any c hr h2 h3 h4 w
theorem pl_mk {w w1 : World} {p base c : Nat} {A : Option Addr} {a : Bool} {l : List Rb} {rs : List Rl} (hl : rs = l.map (·.1)) (hI : RlsI rs) (h0 : 0 < l.length) (ho : Own w1 p #[.bool a, .slice A l.length c, .int .i64 0, .int .i64 0, .int .i64 0, .int .i64 0] 112) (hr : RwS w1 5 base 108 A l.length c (flat rlc l)) (hb : BksW w1 l) (hnd : (l.map (·.2)).Nodup)
    (hp : w.heap.size ≤ p) (hbase : w.heap.size ≤ base) (hq : ∀ q ∈ l, w.heap.size ≤ q.2) : ∃ Y : Nat → Prop, (∀ k, Y k → w.heap.size ≤ k) ∧ Pl w1 p Y a rs := by
  obtain ⟨rb, rfl, h1, hrow⟩ := RowE.of_rw hr h0
  refine ⟨fun k => k = p ∨ k = rb ∨ ∃ q ∈ l, k = q.2, ?_, hI, l, rb, c, 0, 0, 0, 0, hl, ⟨ho, hrow, hb, hnd, .inl rfl, .inr (.inl rfl), fun q hq => .inr (.inr ⟨q, hq, rfl⟩), ?_, h0⟩⟩
  · rintro k (rfl | rfl | ⟨q, hq', rfl⟩)
    · exact hp
    · omega
    · exact hq q hq'
  · rintro k (rfl | rfl | ⟨q, hq', rfl⟩)
    · exact .inl ho.tyB
    · exact .inr (.inl hrow.ty)
    · exact .inr (.inr (hb q hq').tyB)
theorem rules_l1 {c : Con} (hr : rightC c = 0) (s1 e1 : Int) (z1 t1 : Bool) (hR : rulesC c = [(rlNew s1 e1 z1 t1)]) (w : World) : CV Tryz.prog 72 #[.agg #[.int .i64 c.kind, .int .i64 c.peak, .int .i64 c.early, .int .i64 c.whole, .int .i64 c.burst, .int .i64 c.least]] w fun x w1 => ∃ A cc, x = .slice A 1 cc ∧ RwS w1 4 w.heap.size 104 A 1 cc (flat r4 [(rlNew s1 e1 z1 t1)]) ∧ Step No w w1 := by
  refine (rules_any c hr w).mono ?_
  rintro x w1 ⟨A, n, cc, rfl, hn, hrw, hs⟩
  rw [hR] at hn hrw
  subst hn
  exact ⟨A, cc, rfl, hrw, hs⟩
theorem pnew_1 (c : Con) (hr : rightC c = 0) (s1 e1 : Int) (z1 t1 : Bool) (hR : rulesC c = [(rlNew s1 e1 z1 t1)]) (w : World) :
  CV Tryz.prog 60 #[.agg #[I6 c.kind, I6 c.peak, I6 c.early, I6 c.whole, I6 c.burst, I6 c.least]] w (fun x w1 => ∃ pp Y, x = .tuple #[Pt pp 0, I6 0] ∧ (∀ k, Y k → w.heap.size ≤ k) ∧ Pl w1 pp Y (alwaysC c) (rulesC c) ∧ Step No w w1) := by
 have hS : Step No w w := Step.refl _ _
 refine VCe Tryz.func60 (Vs (Vr ?_))
 refine Vx 0 32 #[I6 c.kind, I6 c.peak, I6 c.early, I6 c.whole, I6 c.burst, I6 c.least] ?_
 intro b1 w1 hn1
 replace hS := Step.trans hS (hn1.step No)
 have ho1 := hn1.own
 have hzhn1 := hn1.size
 have hqhn1 := hn1.eqb
 refine Ve (Vn (Vs (Vs (Vr (Vl 0 ho1 ?_)))))
 refine Vc 1 Tryz.call52 ((cright_any c _).mono (fun x w1 h9 => ⟨h9.1.trans (by rw [hr]), h9.2⟩ : ∀ x w1, _ → x = I6 0 ∧ Step No _ w1)) ?_
 rintro _ w2 ⟨rfl, hc1⟩
 replace hS := Step.trans hS hc1
 replace ho1 := ho1.no hc1
 refine Ve (Vn (Vrp (Vf (VC_skip (Vn (Vs (Vr (Vl 0 ho1 ?_))))))))
 refine Vc 1 Tryz.call71 (always_any c _) ?_
 rintro _ w3 ⟨rfl, hc2⟩
 replace hS := Step.trans hS hc2
 replace ho1 := ho1.no hc2
 refine Vp 3 ?_
 have hzl3 := ho1.lt
 refine Vx 3 112 #[Bo (alwaysC c), .slice none 0 0, I6 0, I6 0, I6 0, I6 0] ?_
 intro b2 w4 hn2
 replace hS := Step.trans hS (hn2.step No)
 replace ho1 := ho1.no (hn2.step No)
 have ho2 := hn2.own
 have hzhn2 := hn2.size
 have hqhn2 := hn2.eqb
 refine Ve (Vn (Vs (Vs (Vr (Vl 0 ho1 ?_)))))
 refine Vc 1 Tryz.call72 (rules_l1 hr s1 e1 z1 t1 hR _) ?_
 rintro _ w5 ⟨AR, ccR, rfl, hrR, hc3⟩
 replace hS := Step.trans hS hc3
 replace ho1 := ho1.no hc3
 replace ho2 := ho2.no hc3
 obtain ⟨lo9, hlo9E⟩ : ∃ x, x = w4.heap.size := ⟨_, rfl⟩
 rw [← hlo9E] at hrR
 have hlo9 : lo9 ≤ w5.heap.size := by have h9 := (hc3).size; omega
 refine Ve (Vn (VC_block (VC_rounds (VCL_round (Vrp (Vs (Vt (VC_skip (Vn (Vs (VC_block (Vs (Vr ?_)))))))))))))
 obtain ⟨g1, cur1, rfl, hgbg1, hglg1, -⟩ := RwS.open hrR (Nat.le_of_ble_eq_true (by kernel_rfl))
 refine VL_index (d := 22) (b := g1) (o := 0) (len := 1) (sz := 4) (m := 0) (by kernel_rfl) (by kernel_rfl) 0 (by rfl) (by omega) 0 (by omega) (Vla 1 (t := 104) (a := ⟨g1, 0, none⟩) (v := .agg #[I6 s1, I6 e1, Bo z1, Bo t1]) (Sl.flatAgg (sz := 4) (RwS.sl2 hrR).sl r4_len (show ([(rlNew s1 e1 z1 t1)] : List Rl)[0]? = some (rlNew s1 e1 z1 t1) from rfl) 0 4 (by kernel_rfl) (by decide) _ (by rfl)) ?_)
 have hzl6 := ho1.lt
 have hzl7 := ho2.lt
 have hzk2 := hglg1
 refine Vx 2 104 #[I6 0, I6 0, Bo false, Bo false] ?_
 intro b3 w6 hn3
 replace hS := Step.trans hS (hn3.step No)
 replace ho1 := ho1.no (hn3.step No)
 replace ho2 := ho2.no (hn3.step No)
 replace hlo9 := Nat.le_trans hlo9 (hn3.step No).size
 have ho3 := hn3.own
 have hzhn3 := hn3.size
 have hqhn3 := hn3.eqb
 refine Vst 3 (o := 0) [I6 s1, I6 e1, Bo z1, Bo t1] ho3 #[I6 s1, I6 e1, Bo z1, Bo t1] ?_
 intro w7 hw1
 replace hS := Step.transNew hS hw1.step (fun _ _ _ => by omega)
 replace ho1 := ho1.step hw1.step (show ¬ b1 = b3 by omega)
 replace ho2 := ho2.step hw1.step (show ¬ b2 = b3 by omega)
 replace hlo9 := Nat.le_trans hlo9 (hw1.step).size
 have ho4 := hw1.own
 have hzhw1 := hw1.same
 refine Ve (Vn ?_)
 have hs1 := drew_step w7
 have hs1z : w7.heap.size = w7.drew.heap.size := rfl
 refine Tx 15 (fun k => w7.heap.size ≤ k) [10, 13, 14] [0, 1, 2, 3, 4, 5, 6, 7, 8, 9, 10, 11, 12, 13, 14] ?_
 generalize w7.drew = w8 at hs1 hs1z ⊢
 replace hS := Step.trans hS hs1
 replace ho1 := ho1.no hs1
 replace ho2 := ho2.no hs1
 replace hlo9 := Nat.le_trans hlo9 (hs1).size
 replace ho4 := ho4.no hs1
 refine Tp 4 (Tl (fun w9 hr1 => ho2.step hr1 (by (try simp only); omega)) (Tl (fun w10 hr2 => ho4.step hr2 (by (try simp only); omega)) (Tp 1 (Tl (fun w11 hr3 => ho4.step hr3 (by (try simp only); omega)) (Tp 1 (Tl (fun w12 hr4 => ho4.step hr4 (by (try simp only); omega)) (Th ?_)))))))
 intro w13 hs2
 have hzhs2 := hs2.size
 replace hS := Step.trans hS hs2
 replace ho1 := ho1.no hs2
 replace ho2 := ho2.no hs2
 replace hlo9 := Nat.le_trans hlo9 (hs2).size
 have hzl11 := ho1.lt
 have hzl12 := ho2.lt
 refine Tc Tryz.call73 (bnew_any s1 e1 _) ?_ ?_
 ·rintro _ w14 ⟨bk1, rfl, bk1E, bk1Z, hbk1, hc4⟩
  exact Step.mono hc4 TAd7ac
 rintro _ w14 ⟨bk1, rfl, bk1E, bk1Z, hbk1, hc4⟩
 replace hS := Step.trans hS hc4
 replace ho1 := ho1.no hc4
 replace ho2 := ho2.no hc4
 replace hlo9 := Nat.le_trans hlo9 (hc4).size
 refine Tp 2 (Th ?_)
 intro w15 hs3
 have hzhs3 := hs3.size
 replace hS := Step.trans hS hs3
 replace ho1 := ho1.no hs3
 replace ho2 := ho2.no hs3
 replace hlo9 := Nat.le_trans hlo9 (hs3).size
 replace hbk1 := hbk1.no hs3
 refine VTc_bs (d := 37) (e := 108) (c := #[I6 s1, I6 e1, Bo z1, Bo t1, .iface 123 (Pt bk1 0)]) (len := 1) (by kernel_rfl) (by kernel_rfl) (fun b w1 hn => hn.step _) ?_
 intro b4 w16 hn4
 replace hS := Step.trans hS (hn4.step No)
 replace ho1 := ho1.no (hn4.step No)
 replace ho2 := ho2.no (hn4.step No)
 replace hlo9 := Nat.le_trans hlo9 (hn4.step No).size
 replace hbk1 := hbk1.no (hn4.step No)
 have ho5 := hn4.own
 have hzhn4 := hn4.size
 have hqhn4 := hn4.eqb
 refine Th ?_
 intro w17 hs4
 have hzhs4 := hs4.size
 replace hS := Step.trans hS hs4
 replace ho1 := ho1.no hs4
 replace ho2 := ho2.no hs4
 replace hlo9 := Nat.le_trans hlo9 (hs4).size
 replace hbk1 := hbk1.no hs4
 replace ho5 := ho5.no hs4
 have hzl22 := ho1.lt
 have hzl23 := ho2.lt
 have hzl25 := hbk1.lt
 obtain ⟨base1, hbase1E⟩ : ∃ x, x = w17.heap.size := ⟨_, rfl⟩
 have hbase1 : base1 ≤ w17.heap.size := Nat.le_of_eq hbase1E
 have hzk11 := hbase1
 refine VTc_appendZ (d := 38) (e := 108) (A := none) (mm := 0) (c := 0) (A2 := (some ⟨b4, 0, none⟩)) (m2 := 1) (c2 := 1) (sz := 5) (bytes := 40) (by kernel_rfl) (by kernel_rfl) (by kernel_rfl) base1 w17.heap.size (flat rlc ([])) (flat rlc [(rlNew s1 e1 z1 t1, bk1)]) (RwS.nil w17 5 base1 108) (by rw [flat_one, rlc_len]) (Sl.mono (Sl.cast (Own.sl ho5 ho5.lt) TAd7ae) TAd7ad) (flat_one' rlc_one _) 1 (by omega) TAd7af (by omega) (by omega) ?_ ?_
 ·intro w1 hs1; exact Step.mono hs1 (fun i hi => by have hi1 := (RwS.lt (RwS.nil w17 5 base1 108) i hi).1; (try simp only); omega)
 intro A1 c1 w18 hr5 hg1
 replace hr5 : RwS w18 5 base1 108 A1 1 c1 (flat rlc ([(rlNew s1 e1 z1 t1, bk1)])) := RwS.cast hr5 rfl TAd7aa
 replace hg1 := Step.mono (G := fun k => base1 ≤ k) hg1 (fun i hi => (RwS.lt (RwS.nil w17 5 base1 108) i hi).1)
 replace hS := Step.transNew hS hg1 (fun i hi hG => by (try simp only at hG); omega)
 replace ho2 := ho2.step hg1 (by (try simp only); omega)
 replace hbk1 := hbk1.step hg1 (by (try simp only); omega)
 refine VT_end ?_
 intro w19 hs5
 replace hS := Step.trans hS hs5
 replace ho2 := ho2.no hs5
 replace hbk1 := hbk1.no hs5
 replace hr5 := hr5.no hs5
 refine Vst 17 (o := 1) [.slice A1 1 c1] ho2 #[Bo (alwaysC c), .slice A1 1 c1, I6 0, I6 0, I6 0, I6 0] ?_
 intro w20 hw2
 replace hS := Step.transNew hS hw2.step (fun _ _ _ => by omega)
 replace hbk1 := hbk1.step hw2.step (show ¬ bk1 = b2 by omega)
 replace hr5 := hr5.step hw2.step (fun k hk (hF : k = b2) => by omega)
 have ho6 := hw2.own
 refine Ve (VQ_block_normal (Vn (Vr (Ve (VQ_round (VCL_round (Vrp (Vs (Vf (VC_exit (VQ_then_exit (VQ_then_exit (VQ_block_hit (Vn (Vrp (VC_ret (Vr2 (Pt b2 0) (I6 0) ?_)))))))))))))))))
 obtain ⟨Y, hY, hPl⟩ := pl_mk (w := w) (p := b2) (base := base1) (l := [((rlNew s1 e1 z1 t1), bk1)]) hR (RlsI.rules c) (Nat.le_of_ble_eq_true (by kernel_rfl)) ho6 (RwS.cast hr5 rfl (by rfl)) (by intro q9 hq9; simp only [List.mem_cons, List.not_mem_nil, or_false] at hq9; subst hq9; exact hbk1) (by simp only [List.map_cons, List.map_nil, List.nodup_cons, List.mem_cons, List.not_mem_nil, or_false, not_false_eq_true, List.nodup_nil, and_true]) (by omega) (by omega) (by intro q9 hq9; simp only [List.mem_cons, List.not_mem_nil, or_false] at hq9; subst hq9; simp only; omega)
 exact ⟨b2, Y, rfl, hY, hPl, hS⟩

theorem rules_l2 {c : Con} (hr : rightC c = 0) (s1 e1 : Int) (z1 t1 : Bool) (s2 e2 : Int) (z2 t2 : Bool) (hR : rulesC c = [(rlNew s1 e1 z1 t1), (rlNew s2 e2 z2 t2)]) (w : World) : CV Tryz.prog 72 #[.agg #[.int .i64 c.kind, .int .i64 c.peak, .int .i64 c.early, .int .i64 c.whole, .int .i64 c.burst, .int .i64 c.least]] w fun x w1 => ∃ A cc, x = .slice A 2 cc ∧ RwS w1 4 w.heap.size 104 A 2 cc (flat r4 [(rlNew s1 e1 z1 t1), (rlNew s2 e2 z2 t2)]) ∧ Step No w w1 := by
  refine (rules_any c hr w).mono ?_
  rintro x w1 ⟨A, n, cc, rfl, hn, hrw, hs⟩
  rw [hR] at hn hrw
  subst hn
  exact ⟨A, cc, rfl, hrw, hs⟩
theorem pnew_2 (c : Con) (hr : rightC c = 0) (s1 e1 : Int) (z1 t1 : Bool) (s2 e2 : Int) (z2 t2 : Bool) (hR : rulesC c = [(rlNew s1 e1 z1 t1), (rlNew s2 e2 z2 t2)]) (w : World) :
  CV Tryz.prog 60 #[.agg #[I6 c.kind, I6 c.peak, I6 c.early, I6 c.whole, I6 c.burst, I6 c.least]] w (fun x w1 => ∃ pp Y, x = .tuple #[Pt pp 0, I6 0] ∧ (∀ k, Y k → w.heap.size ≤ k) ∧ Pl w1 pp Y (alwaysC c) (rulesC c) ∧ Step No w w1) := by
 have hS : Step No w w := Step.refl _ _
 refine VCe Tryz.func60 (Vs (Vr ?_))
 refine Vx 0 32 #[I6 c.kind, I6 c.peak, I6 c.early, I6 c.whole, I6 c.burst, I6 c.least] ?_
 intro b1 w1 hn1
 replace hS := Step.trans hS (hn1.step No)
 have ho1 := hn1.own
 have hzhn1 := hn1.size
 have hqhn1 := hn1.eqb
 refine Ve (Vn (Vs (Vs (Vr (Vl 0 ho1 ?_)))))
 refine Vc 1 Tryz.call52 ((cright_any c _).mono (fun x w1 h9 => ⟨h9.1.trans (by rw [hr]), h9.2⟩ : ∀ x w1, _ → x = I6 0 ∧ Step No _ w1)) ?_
 rintro _ w2 ⟨rfl, hc1⟩
 replace hS := Step.trans hS hc1
 replace ho1 := ho1.no hc1
 refine Ve (Vn (Vrp (Vf (VC_skip (Vn (Vs (Vr (Vl 0 ho1 ?_))))))))
 refine Vc 1 Tryz.call71 (always_any c _) ?_
 rintro _ w3 ⟨rfl, hc2⟩
 replace hS := Step.trans hS hc2
 replace ho1 := ho1.no hc2
 refine Vp 3 ?_
 have hzl3 := ho1.lt
 refine Vx 3 112 #[Bo (alwaysC c), .slice none 0 0, I6 0, I6 0, I6 0, I6 0] ?_
 intro b2 w4 hn2
 replace hS := Step.trans hS (hn2.step No)
 replace ho1 := ho1.no (hn2.step No)
 have ho2 := hn2.own
 have hzhn2 := hn2.size
 have hqhn2 := hn2.eqb
 refine Ve (Vn (Vs (Vs (Vr (Vl 0 ho1 ?_)))))
 refine Vc 1 Tryz.call72 (rules_l2 hr s1 e1 z1 t1 s2 e2 z2 t2 hR _) ?_
 rintro _ w5 ⟨AR, ccR, rfl, hrR, hc3⟩
 replace hS := Step.trans hS hc3
 replace ho1 := ho1.no hc3
 replace ho2 := ho2.no hc3
 obtain ⟨lo9, hlo9E⟩ : ∃ x, x = w4.heap.size := ⟨_, rfl⟩
 rw [← hlo9E] at hrR
 have hlo9 : lo9 ≤ w5.heap.size := by have h9 := (hc3).size; omega
 refine Ve (Vn (VC_block (VC_rounds (VCL_round (Vrp (Vs (Vt (VC_skip (Vn (Vs (VC_block (Vs (Vr ?_)))))))))))))
 obtain ⟨g1, cur1, rfl, hgbg1, hglg1, -⟩ := RwS.open hrR (Nat.le_of_ble_eq_true (by kernel_rfl))
 refine VL_index (d := 22) (b := g1) (o := 0) (len := 2) (sz := 4) (m := 0) (by kernel_rfl) (by kernel_rfl) 0 (by rfl) (by omega) 0 (by omega) (Vla 1 (t := 104) (a := ⟨g1, 0, none⟩) (v := .agg #[I6 s1, I6 e1, Bo z1, Bo t1]) (Sl.flatAgg (sz := 4) (RwS.sl2 hrR).sl r4_len (show ([(rlNew s1 e1 z1 t1), (rlNew s2 e2 z2 t2)] : List Rl)[0]? = some (rlNew s1 e1 z1 t1) from rfl) 0 4 (by kernel_rfl) (by decide) _ (by rfl)) ?_)
 have hzl6 := ho1.lt
 have hzl7 := ho2.lt
 have hzk2 := hglg1
 refine Vx 2 104 #[I6 0, I6 0, Bo false, Bo false] ?_
 intro b3 w6 hn3
 replace hS := Step.trans hS (hn3.step No)
 replace ho1 := ho1.no (hn3.step No)
 replace ho2 := ho2.no (hn3.step No)
 replace hrR := hrR.no (hn3.step No)
 replace hlo9 := Nat.le_trans hlo9 (hn3.step No).size
 replace hglg1 := Nat.lt_of_lt_of_le hglg1 (hn3.step No).size
 have ho3 := hn3.own
 have hzhn3 := hn3.size
 have hqhn3 := hn3.eqb
 refine Vst 3 (o := 0) [I6 s1, I6 e1, Bo z1, Bo t1] ho3 #[I6 s1, I6 e1, Bo z1, Bo t1] ?_
 intro w7 hw1
 replace hS := Step.transNew hS hw1.step (fun _ _ _ => by omega)
 replace ho1 := ho1.step hw1.step (show ¬ b1 = b3 by omega)
 replace ho2 := ho2.step hw1.step (show ¬ b2 = b3 by omega)
 replace hrR := hrR.keepG hw1.step (show ¬ g1 = b3 by omega)
 replace hlo9 := Nat.le_trans hlo9 (hw1.step).size
 replace hglg1 := Nat.lt_of_lt_of_le hglg1 (hw1.step).size
 have ho4 := hw1.own
 have hzhw1 := hw1.same
 refine Ve (Vn ?_)
 have hs1 := drew_step w7
 have hs1z : w7.heap.size = w7.drew.heap.size := rfl
 refine Tx 15 (fun k => w7.heap.size ≤ k) [10, 13, 14] [0, 1, 2, 3, 4, 5, 6, 7, 8, 9, 10, 11, 12, 13, 14] ?_
 generalize w7.drew = w8 at hs1 hs1z ⊢
 replace hS := Step.trans hS hs1
 replace ho1 := ho1.no hs1
 replace ho2 := ho2.no hs1
 replace hrR := hrR.no hs1
 replace hlo9 := Nat.le_trans hlo9 (hs1).size
 replace hglg1 := Nat.lt_of_lt_of_le hglg1 (hs1).size
 replace ho4 := ho4.no hs1
 refine Tp 4 (Tl (fun w9 hr1 => ho2.step hr1 (by (try simp only); omega)) (Tl (fun w10 hr2 => ho4.step hr2 (by (try simp only); omega)) (Tp 1 (Tl (fun w11 hr3 => ho4.step hr3 (by (try simp only); omega)) (Tp 1 (Tl (fun w12 hr4 => ho4.step hr4 (by (try simp only); omega)) (Th ?_)))))))
 intro w13 hs2
 have hzhs2 := hs2.size
 replace hS := Step.trans hS hs2
 replace ho1 := ho1.no hs2
 replace ho2 := ho2.no hs2
 replace hrR := hrR.no hs2
 replace hlo9 := Nat.le_trans hlo9 (hs2).size
 replace hglg1 := Nat.lt_of_lt_of_le hglg1 (hs2).size
 have hzl11 := ho1.lt
 have hzl12 := ho2.lt
 refine Tc Tryz.call73 (bnew_any s1 e1 _) ?_ ?_
 ·rintro _ w14 ⟨bk1, rfl, bk1E, bk1Z, hbk1, hc4⟩
  exact Step.mono hc4 TAd7ac
 rintro _ w14 ⟨bk1, rfl, bk1E, bk1Z, hbk1, hc4⟩
 replace hS := Step.trans hS hc4
 replace ho1 := ho1.no hc4
 replace ho2 := ho2.no hc4
 replace hrR := hrR.no hc4
 replace hlo9 := Nat.le_trans hlo9 (hc4).size
 replace hglg1 := Nat.lt_of_lt_of_le hglg1 (hc4).size
 refine Tp 2 (Th ?_)
 intro w15 hs3
 have hzhs3 := hs3.size
 replace hS := Step.trans hS hs3
 replace ho1 := ho1.no hs3
 replace ho2 := ho2.no hs3
 replace hrR := hrR.no hs3
 replace hlo9 := Nat.le_trans hlo9 (hs3).size
 replace hglg1 := Nat.lt_of_lt_of_le hglg1 (hs3).size
 replace hbk1 := hbk1.no hs3
 refine VTc_bs (d := 37) (e := 108) (c := #[I6 s1, I6 e1, Bo z1, Bo t1, .iface 123 (Pt bk1 0)]) (len := 1) (by kernel_rfl) (by kernel_rfl) (fun b w1 hn => hn.step _) ?_
 intro b4 w16 hn4
 replace hS := Step.trans hS (hn4.step No)
 replace ho1 := ho1.no (hn4.step No)
 replace ho2 := ho2.no (hn4.step No)
 replace hrR := hrR.no (hn4.step No)
 replace hlo9 := Nat.le_trans hlo9 (hn4.step No).size
 replace hglg1 := Nat.lt_of_lt_of_le hglg1 (hn4.step No).size
 replace hbk1 := hbk1.no (hn4.step No)
 have ho5 := hn4.own
 have hzhn4 := hn4.size
 have hqhn4 := hn4.eqb
 refine Th ?_
 intro w17 hs4
 have hzhs4 := hs4.size
 replace hS := Step.trans hS hs4
 replace ho1 := ho1.no hs4
 replace ho2 := ho2.no hs4
 replace hrR := hrR.no hs4
 replace hlo9 := Nat.le_trans hlo9 (hs4).size
 replace hglg1 := Nat.lt_of_lt_of_le hglg1 (hs4).size
 replace hbk1 := hbk1.no hs4
 replace ho5 := ho5.no hs4
 have hzl22 := ho1.lt
 have hzl23 := ho2.lt
 have hzl25 := hbk1.lt
 obtain ⟨base1, hbase1E⟩ : ∃ x, x = w17.heap.size := ⟨_, rfl⟩
 have hbase1 : base1 ≤ w17.heap.size := Nat.le_of_eq hbase1E
 have hzk11 := hbase1
 refine VTc_appendZ (d := 38) (e := 108) (A := none) (mm := 0) (c := 0) (A2 := (some ⟨b4, 0, none⟩)) (m2 := 1) (c2 := 1) (sz := 5) (bytes := 40) (by kernel_rfl) (by kernel_rfl) (by kernel_rfl) base1 w17.heap.size (flat rlc ([])) (flat rlc [(rlNew s1 e1 z1 t1, bk1)]) (RwS.nil w17 5 base1 108) (by rw [flat_one, rlc_len]) (Sl.mono (Sl.cast (Own.sl ho5 ho5.lt) TAd7ae) TAd7ad) (flat_one' rlc_one _) 1 (by omega) TAd7af (by omega) (by omega) ?_ ?_
 ·intro w1 hs1; exact Step.mono hs1 (fun i hi => by have hi1 := (RwS.lt (RwS.nil w17 5 base1 108) i hi).1; (try simp only); omega)
 intro A1 c1 w18 hr5 hg1
 replace hr5 : RwS w18 5 base1 108 A1 1 c1 (flat rlc ([(rlNew s1 e1 z1 t1, bk1)])) := RwS.cast hr5 rfl TAd7aa
 replace hg1 := Step.mono (G := fun k => base1 ≤ k) hg1 (fun i hi => (RwS.lt (RwS.nil w17 5 base1 108) i hi).1)
 replace hS := Step.transNew hS hg1 (fun i hi hG => by (try simp only at hG); omega)
 replace ho1 := ho1.step hg1 (by (try simp only); omega)
 replace ho2 := ho2.step hg1 (by (try simp only); omega)
 replace hrR := hrR.keepG hg1 (by (try simp only); omega)
 replace hlo9 := Nat.le_trans hlo9 (hg1).size
 replace hbk1 := hbk1.step hg1 (by (try simp only); omega)
 replace hbase1 := Nat.le_trans hbase1 (hg1).size
 refine VT_end ?_
 intro w19 hs5
 replace hS := Step.trans hS hs5
 replace ho1 := ho1.no hs5
 replace ho2 := ho2.no hs5
 replace hrR := hrR.no hs5
 replace hlo9 := Nat.le_trans hlo9 (hs5).size
 replace hbk1 := hbk1.no hs5
 replace hbase1 := Nat.le_trans hbase1 (hs5).size
 replace hr5 := hr5.no hs5
 refine Vst 17 (o := 1) [.slice A1 1 c1] ho2 #[Bo (alwaysC c), .slice A1 1 c1, I6 0, I6 0, I6 0, I6 0] ?_
 intro w20 hw2
 replace hS := Step.transNew hS hw2.step (fun _ _ _ => by omega)
 replace ho1 := ho1.step hw2.step (show ¬ b1 = b2 by omega)
 replace hrR := hrR.keepG hw2.step (show ¬ g1 = b2 by omega)
 replace hlo9 := Nat.le_trans hlo9 (hw2.step).size
 replace hbk1 := hbk1.step hw2.step (show ¬ bk1 = b2 by omega)
 replace hbase1 := Nat.le_trans hbase1 (hw2.step).size
 replace hr5 := hr5.step hw2.step (fun k hk (hF : k = b2) => by omega)
 have ho6 := hw2.own
 have hzhw2 := hw2.same
 refine Ve (VQ_block_normal (Vn (Vr (Ve (VQ_round (VCL_round (Vrp (Vs (Vt (VC_skip (Vn (Vs (VC_block (Vs ?_))))))))))))))
 obtain ⟨g2, cur2, rfl, hgbg2, hglg2, -⟩ := RwS.open hr5 (by omega)
 refine Vr (VL_index (d := 22) (b := g1) (o := 0) (len := 2) (sz := 4) (m := 1) (by kernel_rfl) (by kernel_rfl) 1 (by rfl) (by omega) 4 (by omega) (Vla 1 (t := 104) (a := ⟨g1, 4, none⟩) (v := .agg #[I6 s2, I6 e2, Bo z2, Bo t2]) (Sl.flatAgg (sz := 4) (RwS.sl2 hrR).sl r4_len (show ([(rlNew s1 e1 z1 t1), (rlNew s2 e2 z2 t2)] : List Rl)[1]? = some (rlNew s2 e2 z2 t2) from rfl) 0 4 (by kernel_rfl) (by decide) _ (by rfl)) ?_))
 have hzl32 := ho1.lt
 have hzk12 := hlo9
 have hzl34 := hbk1.lt
 have hzk15 := hglg2
 refine Vx 2 104 #[I6 0, I6 0, Bo false, Bo false] ?_
 intro b5 w21 hn5
 replace hS := Step.trans hS (hn5.step No)
 replace ho1 := ho1.no (hn5.step No)
 replace hbk1 := hbk1.no (hn5.step No)
 replace hbase1 := Nat.le_trans hbase1 (hn5.step No).size
 replace hr5 := hr5.no (hn5.step No)
 replace ho6 := ho6.no (hn5.step No)
 have ho7 := hn5.own
 have hzhn5 := hn5.size
 have hqhn5 := hn5.eqb
 refine Vst 3 (o := 0) [I6 s2, I6 e2, Bo z2, Bo t2] ho7 #[I6 s2, I6 e2, Bo z2, Bo t2] ?_
 intro w22 hw3
 replace hS := Step.transNew hS hw3.step (fun _ _ _ => by omega)
 replace ho1 := ho1.step hw3.step (show ¬ b1 = b5 by omega)
 replace hbk1 := hbk1.step hw3.step (show ¬ bk1 = b5 by omega)
 replace hbase1 := Nat.le_trans hbase1 (hw3.step).size
 replace hr5 := hr5.keepG hw3.step (show ¬ g2 = b5 by omega)
 replace ho6 := ho6.step hw3.step (show ¬ b2 = b5 by omega)
 have ho8 := hw3.own
 have hzhw3 := hw3.same
 refine Ve (Vn ?_)
 have hs6 := drew_step w22
 have hs6z : w22.heap.size = w22.drew.heap.size := rfl
 refine Tx 15 (fun k => k = g2 ∨ w22.heap.size ≤ k) [10, 13, 14] [0, 1, 2, 3, 4, 5, 6, 7, 8, 9, 10, 11, 12, 13, 14] ?_
 generalize w22.drew = w23 at hs6 hs6z ⊢
 replace hS := Step.trans hS hs6
 replace ho1 := ho1.no hs6
 replace hbk1 := hbk1.no hs6
 replace hbase1 := Nat.le_trans hbase1 (hs6).size
 replace hr5 := hr5.no hs6
 replace ho6 := ho6.no hs6
 replace ho8 := ho8.no hs6
 refine Tp 4 (Tl (fun w24 hr6 => ho6.step hr6 (by (try simp only); omega)) (Tl (fun w25 hr7 => ho8.step hr7 (by (try simp only); omega)) (Tp 1 (Tl (fun w26 hr8 => ho8.step hr8 (by (try simp only); omega)) (Tp 1 (Tl (fun w27 hr9 => ho8.step hr9 (by (try simp only); omega)) (Th ?_)))))))
 intro w28 hs7
 have hzhs7 := hs7.size
 replace hS := Step.trans hS hs7
 replace ho1 := ho1.no hs7
 replace hbk1 := hbk1.no hs7
 replace hbase1 := Nat.le_trans hbase1 (hs7).size
 replace hr5 := hr5.no hs7
 replace ho6 := ho6.no hs7
 have hzl41 := ho1.lt
 have hzl43 := hbk1.lt
 have hzl44 := ho6.lt
 refine Tc Tryz.call73 (bnew_any s2 e2 _) ?_ ?_
 ·rintro _ w29 ⟨bk2, rfl, bk2E, bk2Z, hbk2, hc5⟩
  exact Step.mono hc5 TAd7ac
 rintro _ w29 ⟨bk2, rfl, bk2E, bk2Z, hbk2, hc5⟩
 replace hS := Step.trans hS hc5
 replace hbk1 := hbk1.no hc5
 replace hbase1 := Nat.le_trans hbase1 (hc5).size
 replace hr5 := hr5.no hc5
 replace ho6 := ho6.no hc5
 refine Tp 2 (Th ?_)
 intro w30 hs8
 replace hS := Step.trans hS hs8
 replace hbk1 := hbk1.no hs8
 replace hbase1 := Nat.le_trans hbase1 (hs8).size
 replace hr5 := hr5.no hs8
 replace ho6 := ho6.no hs8
 replace hbk2 := hbk2.no hs8
 refine VTc_bs (d := 37) (e := 108) (c := #[I6 s2, I6 e2, Bo z2, Bo t2, .iface 123 (Pt bk2 0)]) (len := 1) (by kernel_rfl) (by kernel_rfl) (fun b w1 hn => hn.step _) ?_
 intro b6 w31 hn6
 replace hS := Step.trans hS (hn6.step No)
 replace hbk1 := hbk1.no (hn6.step No)
 replace hbase1 := Nat.le_trans hbase1 (hn6.step No).size
 replace hr5 := hr5.no (hn6.step No)
 replace ho6 := ho6.no (hn6.step No)
 replace hbk2 := hbk2.no (hn6.step No)
 have ho9 := hn6.own
 refine Th ?_
 intro w32 hs9
 replace hS := Step.trans hS hs9
 replace hbk1 := hbk1.no hs9
 replace hbase1 := Nat.le_trans hbase1 (hs9).size
 replace hr5 := hr5.no hs9
 replace ho6 := ho6.no hs9
 replace hbk2 := hbk2.no hs9
 replace ho9 := ho9.no hs9
 have hzk26 := hbase1
 refine VTc_appendZ (d := 38) (e := 108) (A := (some ⟨g2, 0, none⟩)) (mm := 1) (c := c1) (A2 := (some ⟨b6, 0, none⟩)) (m2 := 1) (c2 := 1) (sz := 5) (bytes := 40) (by kernel_rfl) (by kernel_rfl) (by kernel_rfl) base1 w32.heap.size (flat rlc ([(rlNew s1 e1 z1 t1, bk1)])) (flat rlc [(rlNew s2 e2 z2 t2, bk2)]) hr5 (by rw [flat_one, rlc_len]) (Sl.mono (Sl.cast (Own.sl ho9 ho9.lt) TAd7ae) TAd7ad) (flat_one' rlc_one _) 2 (by omega) TAd7af (by omega) (by omega) ?_ ?_
 ·intro w1 hs1; exact Step.mono hs1 (fun i hi => by obtain ⟨a9, ha9, hi9⟩ := hi; cases ha9; have hi8 : g2 = i := hi9; (try simp only); omega)
 intro A2 c2 w33 hr10 hg2
 replace hr10 : RwS w33 5 base1 108 A2 2 c2 (flat rlc (([(rlNew s1 e1 z1 t1, bk1)]) ++ ([(rlNew s2 e2 z2 t2, bk2)]))) := RwS.cast hr10 rfl TAd7aa
 replace hg2 := Step.mono (G := fun k => k = g2) hg2 (fun i hi => by obtain ⟨a9, ha9, hi9⟩ := hi; cases ha9; exact hi9.symm)
 replace hS := Step.transNew hS hg2 (fun i hi hG => by (try simp only at hG); omega)
 replace hbk1 := hbk1.step hg2 (by (try simp only); omega)
 replace ho6 := ho6.step hg2 (by (try simp only); omega)
 replace hbk2 := hbk2.step hg2 (by (try simp only); omega)
 refine VT_end ?_
 intro w34 hs10
 replace hS := Step.trans hS hs10
 replace hbk1 := hbk1.no hs10
 replace ho6 := ho6.no hs10
 replace hbk2 := hbk2.no hs10
 replace hr10 := hr10.no hs10
 refine Vst 17 (o := 1) [.slice A2 2 c2] ho6 #[Bo (alwaysC c), .slice A2 2 c2, I6 0, I6 0, I6 0, I6 0] ?_
 intro w35 hw4
 replace hS := Step.transNew hS hw4.step (fun _ _ _ => by omega)
 replace hbk1 := hbk1.step hw4.step (show ¬ bk1 = b2 by omega)
 replace hbk2 := hbk2.step hw4.step (show ¬ bk2 = b2 by omega)
 replace hr10 := hr10.step hw4.step (fun k hk (hF : k = b2) => by omega)
 have ho10 := hw4.own
 refine Ve (VQ_block_normal (Vn (Vr (Ve (VQ_round (VCL_round (Vrp (Vs (Vf (VC_exit (VQ_then_exit (VQ_then_exit (VQ_block_hit (Vn (Vrp (VC_ret (Vr2 (Pt b2 0) (I6 0) ?_)))))))))))))))))
 obtain ⟨Y, hY, hPl⟩ := pl_mk (w := w) (p := b2) (base := base1) (l := [((rlNew s1 e1 z1 t1), bk1), ((rlNew s2 e2 z2 t2), bk2)]) hR (RlsI.rules c) (Nat.le_of_ble_eq_true (by kernel_rfl)) ho10 (RwS.cast hr10 rfl (by rfl)) (by intro q9 hq9; simp only [List.mem_cons, List.not_mem_nil, or_false] at hq9; rcases hq9 with rfl | rfl; exact hbk1; exact hbk2) (by simp only [List.map_cons, List.map_nil, List.nodup_cons, List.mem_cons, List.not_mem_nil, or_false, not_false_eq_true, List.nodup_nil, and_true]; omega) (by omega) (by omega) (by intro q9 hq9; simp only [List.mem_cons, List.not_mem_nil, or_false] at hq9; rcases hq9 with rfl | rfl <;> (simp only; omega))
 exact ⟨b2, Y, rfl, hY, hPl, hS⟩

theorem pnew_any (c : Con) (hr : rightC c = 0) (w : World) : CV Tryz.prog 60 #[.agg #[.int .i64 c.kind, .int .i64 c.peak, .int .i64 c.early, .int .i64 c.whole, .int .i64 c.burst, .int .i64 c.least]] w (fun x w1 => ∃ pp Y, x = .tuple #[.pointer (some ⟨pp, 0, none⟩), .int .i64 0] ∧ (∀ k, Y k → w.heap.size ≤ k) ∧ Pl w1 pp Y (alwaysC c) (rulesC c) ∧ Step No w w1) := by
  by_cases h2 : c.kind = 2
  · exact pnew_2 c hr _ _ _ _ _ _ _ _ (rules_v1 hr h2).symm w
  · by_cases h3 : c.kind = 3
    · exact pnew_2 c hr _ _ _ _ _ _ _ _ (rules_v2 hr h3).symm w
    · by_cases h4 : c.kind = 4
      · exact pnew_2 c hr _ _ _ _ _ _ _ _ (rules_v3 hr h4).symm w
      · exact pnew_1 c hr _ _ _ _ (rules_one hr h2 h3 h4).symm w
end Go.Proofs.YthchmlidobgkoaaGreat
end

section
/- Layer 20: a node in memory. -/
set_option linter.unusedVariables false
set_option linter.unusedSimpArgs false
namespace Go.Proofs.YthchmlidobgkoaaGreat
open Go.Vc Go.RowKit

abbrev lgc (a : Nat) : List Value := [.pointer (some ⟨a, 0, none⟩)]
abbrev uc (x : Con × Nat) : Value := .agg #[.int .i64 x.1.kind, .int .i64 x.1.peak, .int .i64 x.1.early, .int .i64 x.1.whole, .int .i64 x.1.burst, .int .i64 x.1.least, .pointer (some ⟨x.2, 0, none⟩)]
structure Ci where
  x : Cx
  id : Int
  pp : Nat
  Y : Nat → Prop
def Ci.ent (y : Ci) : Ent := ⟨y.x.p, y.x.v, y.x.c, y.id⟩
/-- What is told of a node beside its list. -/
structure NdG where
  ci : List Ci
  la : Option Addr
  lb : Nat
  lc : Nat
  lg : Nat → Nat
  lm : Nat → Nat
  N : Nat → List (Int × Int)
  tb : Nat
  cm : Nat
  M : List (Int × (Con × Nat))
  next : Nat
def NdG.L (g : NdG) : List Cx := g.ci.map Ci.x

/-- A block's type, two more; 0: a map; 1: another thing. -/
def tyO (w : World) (k : Nat) : Nat := match w.heap[k]? with | some (.cells _ T _) => T + 2 | some (.map _ _) => 0 | _ => 1
section
variable {w w1 : World} {F : Nat → Prop}
theorem tyO_tyB {T k : Nat} (h : TyB w T k) : tyO w k = T + 2 := by obtain ⟨c, fr, h⟩ := h; unfold tyO; rw [h]
theorem tyO_own {b T : Nat} {cs : Array Value} (h : Own w b cs T) : tyO w b = T + 2 := tyO_tyB h.tyB
theorem tyO_map {κ ν : Type} {m : Nat} {ek : κ → Value} {u : ν → Value} {L : List (κ × ν)} (h : MapL w m ek u L) : tyO w m = 0 := by obtain ⟨⟨es, ck, h, _⟩, _⟩ := h; unfold tyO; rw [h]
theorem tyO_step {k : Nat} (hk : k < w.heap.size) (hs : Step F w w1) (hF : ¬ F k) : tyO w1 k = tyO w k := by unfold tyO; rw [hs.block k hk hF]
def NT (w : World) (k : Nat) : Prop := k < w.heap.size ∧ (tyO w k = 0 ∨ tyO w k = 50 + 2 ∨ tyO w k = 51 + 2 ∨ tyO w k = 85 + 2 ∨ tyO w k = 82 + 2 ∨ tyO w k = 112 + 2 ∨ tyO w k = 108 + 2 ∨ tyO w k = 135 + 2)
theorem tyO_PT {k : Nat} (h : PT w k) : k < w.heap.size ∧ (tyO w k = 112 + 2 ∨ tyO w k = 108 + 2 ∨ tyO w k = 135 + 2) := by
  refine ⟨h.lt, ?_⟩
  rcases h with h | h | h
  · exact .inl (tyO_tyB h)
  · exact .inr (.inl (tyO_tyB h))
  · exact .inr (.inr (tyO_tyB h))
theorem NT.of_PT {k : Nat} (h : PT w k) : NT w k := by
  obtain ⟨h1, h2⟩ := tyO_PT h
  exact ⟨h1, by omega⟩
/-- A block of another type is not a node's. -/
theorem NT.not {k T : Nat} {cs : Array Value} (ho : Own w k cs T) (hT : T ≠ 50 ∧ T ≠ 51 ∧ T ≠ 85 ∧ T ≠ 82 ∧ T ≠ 112 ∧ T ≠ 108 ∧ T ≠ 135) : ¬ NT w k := by
  rintro ⟨_, h⟩
  rw [tyO_own ho] at h
  omega
end

structure NdX (w : World) (nd : Nat) (X : Nat → Prop) (lo : Nat) (rooms : List Int) (g : NdG) : Prop where
  own : Own w nd #[.slice g.la rooms.length g.lc, .pointer (some ⟨g.tb, 0, none⟩), .map (some g.cm), .int .i64 ((g.next : Nat) : Int)] 50
  links : 0 < rooms.length → g.la = some ⟨g.lb, 0, none⟩ ∧ RowE w g.lb 51 (flat lgc ((List.range rooms.length).map g.lg)) ∧ X g.lb
  led : ∀ (i : Nat) (r : Int), rooms[i]? = some r → Ld w (g.lg i) (g.lm i) r (usdL g.L i) (g.N i)
  ledX : ∀ i, i < rooms.length → X (g.lg i) ∧ X (g.lm i)
  lgi : ∀ i j, i < rooms.length → j < rooms.length → g.lg i = g.lg j → i = j
  lmi : ∀ i j, i < rooms.length → j < rooms.length → g.lm i = g.lm j → i = j
  lmc : ∀ i, i < rooms.length → g.lm i ≠ g.cm
  tab : Tb w g.tb 64 (g.ci.map Ci.ent)
  cmap : MapL w g.cm ei uc g.M
  pol : ∀ y ∈ g.ci, getM g.M y.id = some (y.x.k, y.pp) ∧ Pl w y.pp y.Y (alwaysC y.x.k) y.x.rs
  polX : ∀ y ∈ g.ci, ∀ k, y.Y k → X k
  apart : ∀ y ∈ g.ci, ∀ z ∈ g.ci, y.id ≠ z.id → ∀ k, y.Y k → ¬ z.Y k
  ids : ∀ y ∈ g.ci, ∀ z ∈ g.ci, y.id = z.id → y = z
  idlt : ∀ y ∈ g.ci, 0 ≤ y.id ∧ y.id < g.next
  need : ∀ (i : Nat), i < rooms.length → ∀ y ∈ g.ci, y.x.p = (i : Int) → getM (g.N i) y.id = some (needC y.x.k)
  nlt : ∀ i, i < rooms.length → ∀ id n, getM (g.N i) id = some n → id < g.next
  li : LI rooms g.L
  inX : X nd ∧ X g.tb ∧ X g.cm
  ty : ∀ k, X k → NT w k
  lo : ∀ k, X k → lo ≤ k

section
variable {w w1 : World} {F : Nat → Prop} {nd lo : Nat} {X : Nat → Prop} {rooms : List Int} {g : NdG}
theorem NdX.lt (h : NdX w nd X lo rooms g) {k : Nat} (hk : X k) : k < w.heap.size := (h.ty k hk).1
theorem NT.step {k : Nat} (h : NT w k) (hs : Step F w w1) (hF : ¬ F k) : NT w1 k := by
  unfold NT
  rw [tyO_step h.1 hs hF]
  exact ⟨Nat.lt_of_lt_of_le h.1 hs.size, h.2⟩
theorem NdX.step (h : NdX w nd X lo rooms g) (hs : Step F w w1) (hF : ∀ k, X k → ¬ F k) : NdX w1 nd X lo rooms g where
  own := h.own.step hs (hF _ h.inX.1)
  links h0 := by obtain ⟨h1, h2, h3⟩ := h.links h0; exact ⟨h1, h2.step hs (hF _ h3), h3⟩
  led i r hi := by have hl := (List.getElem?_eq_some_iff.1 hi).1; exact (h.led i r hi).step hs (hF _ (h.ledX i hl).1) (hF _ (h.ledX i hl).2)
  ledX := h.ledX
  lgi := h.lgi
  lmi := h.lmi
  lmc := h.lmc
  tab := h.tab.step hs (hF _ h.inX.2.1)
  cmap := h.cmap.step hs (hF _ h.inX.2.2)
  pol y hy := ⟨(h.pol y hy).1, (h.pol y hy).2.step hs fun k hk => hF k (h.polX y hy k hk)⟩
  polX := h.polX
  apart := h.apart
  ids := h.ids
  idlt := h.idlt
  need := h.need
  nlt := h.nlt
  li := h.li
  inX := h.inX
  ty k hk := (h.ty k hk).step hs (hF k hk)
  lo := h.lo
theorem NdX.no (h : NdX w nd X lo rooms g) (hs : Step No w w1) : NdX w1 nd X lo rooms g := h.step hs fun _ _ => id
theorem NdX.room (h : NdX w nd X lo rooms g) {i : Nat} (hi : i < rooms.length) : ∃ r, rooms[i]? = some r ∧ Ld w (g.lg i) (g.lm i) r (usdL g.L i) (g.N i) := ⟨_, List.getElem?_eq_getElem hi, h.led i _ (List.getElem?_eq_getElem hi)⟩
theorem NdX.t_nd (h : NdX w nd X lo rooms g) : tyO w nd = 50 + 2 := tyO_own h.own
theorem NdX.t_tb (h : NdX w nd X lo rooms g) : tyO w g.tb = 82 + 2 := by obtain ⟨s, len, h1, _⟩ := h.tab; exact tyO_own h1
theorem NdX.t_cm (h : NdX w nd X lo rooms g) : tyO w g.cm = 0 := tyO_map h.cmap
theorem NdX.t_lg (h : NdX w nd X lo rooms g) {i : Nat} (hi : i < rooms.length) : tyO w (g.lg i) = 85 + 2 := by obtain ⟨r, _, h1⟩ := h.room hi; exact tyO_own h1.own
theorem NdX.t_lm (h : NdX w nd X lo rooms g) {i : Nat} (hi : i < rooms.length) : tyO w (g.lm i) = 0 := by obtain ⟨r, _, h1⟩ := h.room hi; exact tyO_map h1.map
theorem NdX.t_lb (h : NdX w nd X lo rooms g) (h0 : 0 < rooms.length) : tyO w g.lb = 51 + 2 := tyO_tyB (h.links h0).2.1.ty
theorem NdX.t_pol (h : NdX w nd X lo rooms g) {y : Ci} (hy : y ∈ g.ci) {k : Nat} (hk : y.Y k) : tyO w k = 112 + 2 ∨ tyO w k = 108 + 2 ∨ tyO w k = 135 + 2 := (tyO_PT ((h.pol y hy).2.ty hk)).2
/-- The blocks that an operation on a link turns. -/
def fiveF (nd : Nat) (g : NdG) (i k : Nat) : Prop := k = nd ∨ k = g.tb ∨ k = g.cm ∨ k = g.lg i ∨ k = g.lm i
theorem NdX.rest (h : NdX w nd X lo rooms g) {i : Nat} (hi : i < rooms.length) (hT : Step (fiveF nd g i) w w1) :
    (0 < rooms.length → g.la = some ⟨g.lb, 0, none⟩ ∧ RowE w1 g.lb 51 (flat lgc ((List.range rooms.length).map g.lg)) ∧ X g.lb) ∧
    (∀ (j : Nat) (r : Int), j ≠ i → rooms[j]? = some r → Ld w1 (g.lg j) (g.lm j) r (usdL g.L j) (g.N j)) ∧ (∀ y ∈ g.ci, Pl w1 y.pp y.Y (alwaysC y.x.k) y.x.rs) := by
  have t1 := h.t_nd
  have t2 := h.t_tb
  have t3 := h.t_cm
  have t4 := h.t_lg hi
  have t5 := h.t_lm hi
  refine ⟨fun h0 => ?_, fun j r hj hr => ?_, fun y hy => ?_⟩
  · obtain ⟨h1, h2, h3⟩ := h.links h0
    have t6 := h.t_lb h0
    refine ⟨h1, h2.step hT ?_, h3⟩
    rintro (e | e | e | e | e) <;> rw [e] at t6 <;> omega
  · have hl := (List.getElem?_eq_some_iff.1 hr).1
    have t6 := h.t_lg hl
    have t7 := h.t_lm hl
    refine (h.led j r hr).step hT ?_ ?_
    · rintro (e | e | e | e | e)
      · rw [e] at t6; omega
      · rw [e] at t6; omega
      · rw [e] at t6; omega
      · exact hj (h.lgi _ _ hl hi e)
      · rw [e] at t6; omega
    · rintro (e | e | e | e | e)
      · rw [e] at t7; omega
      · rw [e] at t7; omega
      · exact h.lmc j hl e
      · rw [e] at t7; omega
      · exact hj (h.lmi _ _ hl hi e)
  · refine (h.pol y hy).2.step hT fun k hk => ?_
    have t6 := h.t_pol hy hk
    rintro (e | e | e | e | e) <;> rw [e] at t6 <;> omega
/-- All of a node's blocks are of a node's types still. -/
theorem NdX.typed (h : NdX w nd X lo rooms g) {i : Nat} (hi : i < rooms.length) (hT : Step (fiveF nd g i) w w1) (h1 : tyO w1 nd = 50 + 2) (h2 : tyO w1 g.tb = 82 + 2) (h3 : tyO w1 g.cm = 0) (h4 : tyO w1 (g.lg i) = 85 + 2) (h5 : tyO w1 (g.lm i) = 0) : ∀ k, X k → NT w1 k := by
  intro k hk
  have hz := Nat.lt_of_lt_of_le (h.lt hk) hT.size
  by_cases e : fiveF nd g i k
  · rcases e with e | e | e | e | e
    · rw [e] at hz ⊢; exact ⟨hz, by omega⟩
    · rw [e] at hz ⊢; exact ⟨hz, by omega⟩
    · rw [e] at hz ⊢; exact ⟨hz, by omega⟩
    · rw [e] at hz ⊢; exact ⟨hz, by omega⟩
    · rw [e] at hz ⊢; exact ⟨hz, by omega⟩
  · exact (h.ty k hk).step hT e
theorem tyO_tb {b : Nat} {room : Int} {L : List Ent} (h : Tb w b room L) : tyO w b = 82 + 2 := by obtain ⟨s, len, h1, _⟩ := h; exact tyO_own h1

/-! ### The lists -/
def findI (l : List Ci) (p v c : Int) : Option Ci := l.find? fun y => keyX p v c y.x
theorem findI_map (l : List Ci) (p v c : Int) : findC (l.map Ci.x) p v c = (findI l p v c).map Ci.x := by
  unfold findC findI
  rw [List.find?_map]; rfl
theorem lookE_map (l : List Ci) (p v c : Int) : lookE (l.map Ci.ent) p v c = (findI l p v c).map Ci.id := by
  unfold lookE findI
  rw [List.find?_map, Option.map_map]
  rfl
theorem lookE_isSome (g : NdG) (p v c : Int) : (lookE (g.ci.map Ci.ent) p v c).isSome = (findC g.L p v c).isSome := by
  unfold NdG.L
  rw [lookE_map, findI_map, Option.isSome_map, Option.isSome_map]
theorem ahead_map (l : List Ci) (p v c : Int) : aheadE (l.map Ci.ent) p v c = aheadC (l.map Ci.x) p v c := by
  unfold aheadC
  induction l with
  | nil => rfl
  | cons y l ih => simp only [List.map_cons, aheadE, ih, Ci.ent, Cx.e0]
def insI (l : List Ci) (y : Ci) : List Ci := l.take (aheadC (l.map Ci.x) y.x.p y.x.v y.x.c) ++ y :: l.drop (aheadC (l.map Ci.x) y.x.p y.x.v y.x.c)
theorem insI_x (l : List Ci) (y : Ci) : (insI l y).map Ci.x = insC (l.map Ci.x) y.x := by
  unfold insI insC; simp only [List.map_append, List.map_cons, List.map_take, List.map_drop]
theorem insI_ent (l : List Ci) (y : Ci) : (insI l y).map Ci.ent = insE (l.map Ci.ent) y.ent := by
  unfold insI insE
  simp only [List.map_append, List.map_cons, List.map_take, List.map_drop, show y.ent.p = y.x.p from rfl, show y.ent.v = y.x.v from rfl, show y.ent.c = y.x.c from rfl, ahead_map]
theorem mem_insI {l : List Ci} {x y : Ci} : y ∈ insI l x ↔ y = x ∨ y ∈ l := by
  unfold insI
  rw [List.mem_append, List.mem_cons]
  have h : y ∈ l ↔ y ∈ l.take (aheadC (l.map Ci.x) x.x.p x.x.v x.x.c) ∨ y ∈ l.drop (aheadC (l.map Ci.x) x.x.p x.x.v x.x.c) := by rw [← List.mem_append, List.take_append_drop]
  rw [h]
  exact ⟨fun h => by rcases h with h | h | h; exact .inr (.inl h); exact .inl h; exact .inr (.inr h), fun h => by rcases h with h | h | h; exact .inr (.inl h); exact .inl h; exact .inr (.inr h)⟩
def delI (l : List Ci) (p v c : Int) : List Ci := l.filter fun y => !keyX p v c y.x
theorem delI_x (l : List Ci) (p v c : Int) : (delI l p v c).map Ci.x = delC (l.map Ci.x) p v c := by
  unfold delI delC; rw [List.filter_map]; rfl
theorem delI_ent (l : List Ci) (p v c : Int) : (delI l p v c).map Ci.ent = delE (l.map Ci.ent) p v c := by
  unfold delI delE; rw [List.filter_map]; rfl
def setI (l : List Ci) (p v c : Int) (f : Ci → Ci) : List Ci := l.map fun y => if keyX p v c y.x = true then f y else y
theorem setI_x (l : List Ci) (p v c : Int) (f : Ci → Ci) (h : Cx → Cx) (hf : ∀ y, (f y).x = h y.x) : (setI l p v c f).map Ci.x = setC (l.map Ci.x) p v c h := by
  unfold setI setC
  rw [List.map_map, List.map_map]
  apply List.map_congr_left
  intro y _
  simp only [Function.comp]
  split
  · exact hf y
  · rfl
theorem setI_ent (l : List Ci) (p v c : Int) (f : Ci → Ci) (hf : ∀ y, (f y).ent = y.ent) : (setI l p v c f).map Ci.ent = l.map Ci.ent := by
  unfold setI
  rw [List.map_map]
  apply List.map_congr_left
  intro y _
  simp only [Function.comp]
  split
  · exact hf y
  · rfl
theorem mem_setI {l : List Ci} {p v c : Int} {f : Ci → Ci} {z : Ci} (h : z ∈ setI l p v c f) : (z ∈ l ∧ keyX p v c z.x = false) ∨ ∃ y ∈ l, keyX p v c y.x = true ∧ z = f y := by
  obtain ⟨y, hy, rfl⟩ := List.mem_map.1 h
  cases e : keyX p v c y.x with
  | true => exact .inr ⟨y, hy, e, by rw [if_pos rfl]⟩
  | false => exact .inl ⟨by rw [if_neg (by simp)]; exact hy, by rw [if_neg (by simp)]; exact e⟩
theorem findI_some {l : List Ci} {p v c : Int} {y : Ci} (h : findI l p v c = some y) : y ∈ l ∧ y.x.p = p ∧ y.x.v = v ∧ y.x.c = c := by
  unfold findI at h
  exact ⟨List.mem_of_find?_eq_some h, keyX_iff.1 (List.find?_some (p := fun y : Ci => keyX p v c y.x) h)⟩
/-- One of a key. -/
theorem NdX.key_one (h : NdX w nd X lo rooms g) {p v c : Int} {y z : Ci} (hy : y ∈ g.ci) (hz : z ∈ g.ci) (ky : keyX p v c y.x = true) (kz : keyX p v c z.x = true) : y = z := by
  have hs := h.tab.srt
  have a := keyX_iff.1 ky
  have b := keyX_iff.1 kz
  have hy' : y.ent ∈ g.ci.map Ci.ent := List.mem_map_of_mem hy
  have hz' : z.ent ∈ g.ci.map Ci.ent := List.mem_map_of_mem hz
  have h1 : lookE (g.ci.map Ci.ent) p v c = some y.id := (lookE_some hs).2 (by rw [← a.1, ← a.2.1, ← a.2.2]; exact hy')
  have h2 : lookE (g.ci.map Ci.ent) p v c = some z.id := (lookE_some hs).2 (by rw [← b.1, ← b.2.1, ← b.2.2]; exact hz')
  rw [h1] at h2
  exact h.ids y hy z hz (by simpa using h2)
end
end Go.Proofs.YthchmlidobgkoaaGreat
end

section
/- Layer 20: a node in memory, behind what is done with it. -/
set_option linter.unusedVariables false
set_option linter.unusedSimpArgs false
namespace Go.Proofs.YthchmlidobgkoaaGreat
open Go.Vc Go.RowKit
section
variable {w w1 : World} {F : Nat → Prop} {nd lo : Nat} {X : Nat → Prop} {rooms : List Int} {g : NdG}
theorem putK_zero {g : NdG} (h : NdX w nd X lo rooms g) {p v c : Int} {k : Con} (hc : chkN rooms g.L p v c k = 0) : putK (g.ci.map Ci.ent) 64 p v c = 0 := by
  obtain ⟨h1, h2, h3, h4⟩ := chkN_zero hc
  obtain ⟨a1, a2, a3, a4⟩ := wrongN_zero h1
  refine putK_ok.2 ⟨a2, ?_, ?_⟩
  · rw [lookE_map]
    unfold NdG.L at h2
    rw [findI_map] at h2
    simpa using h2
  · rw [List.length_map]
    unfold NdG.L at h3
    rw [List.length_map] at h3
    omega
theorem NdX.took (h : NdX w nd X lo rooms g) {p v c : Int} {k : Con} {i : Nat} {r : Int} {pp : Nat} {Y : Nat → Prop} (hi : rooms[i]? = some r) (hp : p = (i : Int)) (hc : chkN rooms g.L p v c k = 0) (hT : Step (fiveF nd g i) w w1)
    (hnd : Own w1 nd #[.slice g.la rooms.length g.lc, .pointer (some ⟨g.tb, 0, none⟩), .map (some g.cm), .int .i64 ((g.next + 1 : Nat) : Int)] 50)
    (htb : Tb w1 g.tb 64 (putE (g.ci.map Ci.ent) 64 p v c (g.next : Nat))) (hld : Ld w1 (g.lg i) (g.lm i) r (usdL g.L i + needC k) (putM (g.N i) (g.next : Nat) (needC k))) (hcm : MapL w1 g.cm ei uc (putM g.M (g.next : Nat) (k, pp)))
    (hpl : Pl w1 pp Y (alwaysC k) (rulesC k)) (hY : ∀ q, Y q → w.heap.size ≤ q) (hlo : lo ≤ w.heap.size) :
    NdX w1 nd (fun q => X q ∨ Y q) lo rooms { g with ci := insI g.ci ⟨⟨p, v, c, k, rulesC k⟩, (g.next : Nat), pp, Y⟩, N := fun j => if j = i then putM (g.N i) (g.next : Nat) (needC k) else g.N j, M := putM g.M (g.next : Nat) (k, pp), next := g.next + 1 } := by
  have hil := (List.getElem?_eq_some_iff.1 hi).1
  obtain ⟨r1, r2, r3⟩ := h.rest hil hT
  have hL : ({ g with ci := insI g.ci ⟨⟨p, v, c, k, rulesC k⟩, (g.next : Nat), pp, Y⟩, N := fun j => if j = i then putM (g.N i) (g.next : Nat) (needC k) else g.N j, M := putM g.M (g.next : Nat) (k, pp), next := g.next + 1 } : NdG).L = insC g.L ⟨p, v, c, k, rulesC k⟩ := insI_x _ _
  have hpz := putK_zero h hc
  have hnew : ∀ y ∈ g.ci, y.id ≠ ((g.next : Nat) : Int) := fun y hy e => by have := (h.idlt y hy).2; omega
  have hty := h.typed hil hT (tyO_own hnd) (tyO_tb htb) (tyO_map hcm) (tyO_own hld.own) (tyO_map hld.map)
  have hYX : ∀ q, Y q → ¬ X q := fun q hq hx => by have := h.lt hx; have := hY q hq; omega
  refine { own := hnd, links := fun h0 => ?_, led := fun j r' hj => ?_, ledX := fun j hj => ⟨.inl (h.ledX j hj).1, .inl (h.ledX j hj).2⟩, lgi := h.lgi, lmi := h.lmi, lmc := h.lmc, tab := ?_, cmap := hcm, pol := fun y hy => ?_, polX := fun y hy q hq => ?_, apart := fun y hy z hz hne q hq => ?_, ids := fun y hy z hz he => ?_, idlt := fun y hy => ?_, need := fun j hj y hy he => ?_, nlt := fun j hj id n hn => ?_, li := ?_, inX := ⟨.inl h.inX.1, .inl h.inX.2.1, .inl h.inX.2.2⟩, ty := fun q hq => ?_, lo := fun q hq => ?_ }
  · obtain ⟨a, b, c'⟩ := r1 h0; exact ⟨a, b, .inl c'⟩
  · rw [hL, usdL_ins]
    by_cases e : j = i
    · subst e
      rw [hi] at hj
      simp only [Option.some.injEq] at hj
      subst hj
      simp only [if_true, hp]
      exact hld
    · have := r2 j r' e hj
      simp only [e, if_false, hp]
      rw [if_neg (by omega), Int.add_zero]
      exact this
  · simp only [insI_ent]
    have hh := htb
    unfold putE at hh
    rw [if_pos hpz] at hh
    exact hh
  · have my := mem_insI.1 hy; clear hy; rcases my with rfl | hy
    · exact ⟨by rw [getM_put, if_pos rfl], hpl⟩
    · refine ⟨?_, r3 y hy⟩
      rw [getM_put, if_neg (fun e => hnew y hy e.symm)]
      exact (h.pol y hy).1
  · have my := mem_insI.1 hy; clear hy; rcases my with rfl | hy
    · exact .inr hq
    · exact .inl (h.polX y hy q hq)
  · have my := mem_insI.1 hy; clear hy; rcases my with rfl | hy
    · have mz := mem_insI.1 hz; clear hz; rcases mz with rfl | hz
      · exact absurd rfl hne
      · exact fun hz' => hYX q hq (h.polX z hz q hz')
    · have mz := mem_insI.1 hz; clear hz; rcases mz with rfl | hz
      · exact fun hz' => hYX q hz' (h.polX y hy q hq)
      · exact h.apart y hy z hz hne q hq
  · have my := mem_insI.1 hy; clear hy; rcases my with rfl | hy
    · have mz := mem_insI.1 hz; clear hz; rcases mz with rfl | hz
      · rfl
      · exact absurd he.symm (hnew z hz)
    · have mz := mem_insI.1 hz; clear hz; rcases mz with rfl | hz
      · exact absurd he (hnew y hy)
      · exact h.ids y hy z hz he
  · have my := mem_insI.1 hy; clear hy; rcases my with rfl | hy
    · simp only; omega
    · have := h.idlt y hy; simp only; omega
  · simp only
    have my := mem_insI.1 hy; clear hy; rcases my with rfl | hy
    · simp only at he ⊢
      have : j = i := by omega
      subst this
      rw [if_pos rfl, getM_put, if_pos rfl]
    · by_cases e : j = i
      · subst e
        rw [if_pos rfl, getM_put, if_neg (fun e => hnew y hy e.symm)]
        exact h.need j hj y hy he
      · rw [if_neg e]
        exact h.need j hj y hy he
  · simp only at hn ⊢
    by_cases e : j = i
    · subst e
      rw [if_pos rfl, getM_put] at hn
      split at hn
      · omega
      · have := h.nlt j hj id n hn; omega
    · rw [if_neg e] at hn
      have := h.nlt j hj id n hn; omega
  · rw [hL]
    have := h.li.take p v c k
    unfold takeN at this
    rwa [if_pos hc] at this
  · rcases hq with hq | hq
    · exact hty q hq
    · exact .of_PT (hpl.ty hq)
  · rcases hq with hq | hq
    · exact h.lo q hq
    · have := hY q hq; omega

/-- Another contract in the place of one. -/
theorem NdX.changed (h : NdX w nd X lo rooms g) {p v c : Int} {k : Con} {i : Nat} {r : Int} {pp : Nat} {Y : Nat → Prop} {y0 : Ci} (hi : rooms[i]? = some r) (hp : p = (i : Int)) (hc : chgK rooms g.L p v c k = 0) (hf : findI g.ci p v c = some y0) (hT : Step (fiveF nd g i) w w1)
    (hnd : Own w1 nd #[.slice g.la rooms.length g.lc, .pointer (some ⟨g.tb, 0, none⟩), .map (some g.cm), .int .i64 ((g.next : Nat) : Int)] 50)
    (htb : Tb w1 g.tb 64 (g.ci.map Ci.ent)) (hld : Ld w1 (g.lg i) (g.lm i) r (usdL g.L i + (needC k - needC y0.x.k)) (putM (g.N i) y0.id (needC k))) (hcm : MapL w1 g.cm ei uc (putM g.M y0.id (k, pp)))
    (hpl : Pl w1 pp Y (alwaysC k) (rulesC k)) (hY : ∀ q, Y q → w.heap.size ≤ q) (hlo : lo ≤ w.heap.size) :
    NdX w1 nd (fun q => X q ∨ Y q) lo rooms { g with ci := setI g.ci p v c (fun y => ⟨newK k y.x, y.id, pp, Y⟩), N := fun j => if j = i then putM (g.N i) y0.id (needC k) else g.N j, M := putM g.M y0.id (k, pp) } := by
  have hil := (List.getElem?_eq_some_iff.1 hi).1
  obtain ⟨r1, r2, r3⟩ := h.rest hil hT
  have hL : ({ g with ci := setI g.ci p v c (fun y => ⟨newK k y.x, y.id, pp, Y⟩), N := fun j => if j = i then putM (g.N i) y0.id (needC k) else g.N j, M := putM g.M y0.id (k, pp) } : NdG).L = setC g.L p v c (newK k) := setI_x _ _ _ _ _ _ (fun y => rfl)
  obtain ⟨b1, b2, b3, b4⟩ := findI_some hf
  have hk0 : keyX p v c y0.x = true := keyX_iff.2 ⟨b2, b3, b4⟩
  have hfC : findC g.L p v c = some y0.x := by unfold NdG.L; rw [findI_map, hf]; rfl
  have hty := h.typed hil hT (tyO_own hnd) (tyO_tb htb) (tyO_map hcm) (tyO_own hld.own) (tyO_map hld.map)
  have hYX : ∀ q, Y q → ¬ X q := fun q hq hx => by have := h.lt hx; have := hY q hq; omega
  have hone : ∀ y ∈ g.ci, keyX p v c y.x = true → y = y0 := fun y hy hk => h.key_one hy b1 hk hk0
  have hoth : ∀ y ∈ g.ci, keyX p v c y.x = false → y.id ≠ y0.id := fun y hy hk e => by
    have := h.ids y hy y0 b1 e; subst this; rw [hk] at hk0; cases hk0
  refine { own := hnd, links := fun h0 => ?_, led := fun j r' hj => ?_, ledX := fun j hj => ⟨.inl (h.ledX j hj).1, .inl (h.ledX j hj).2⟩, lgi := h.lgi, lmi := h.lmi, lmc := h.lmc, tab := ?_, cmap := hcm, pol := fun y hy => ?_, polX := fun y hy q hq => ?_, apart := fun y hy z hz hne q hq => ?_, ids := fun y hy z hz he => ?_, idlt := fun y hy => ?_, need := fun j hj y hy he => ?_, nlt := fun j hj id n hn => ?_, li := ?_, inX := ⟨.inl h.inX.1, .inl h.inX.2.1, .inl h.inX.2.2⟩, ty := fun q hq => ?_, lo := fun q hq => ?_ }
  · obtain ⟨a, b, c'⟩ := r1 h0; exact ⟨a, b, .inl c'⟩
  · rw [hL, usdL_set h.li.one _ _ _ _ (newK k) (fun x => rfl), hfC]
    by_cases e : j = i
    · subst e
      rw [hi] at hj
      simp only [Option.some.injEq] at hj
      subst hj
      simp only [if_true, newK]
      rw [if_pos (by omega)]
      exact hld
    · have := r2 j r' e hj
      simp only [e, if_false]
      rw [if_neg (by omega), Int.add_zero]
      exact this
  · simp only
    rw [setI_ent _ _ _ _ (fun y => ⟨newK k y.x, y.id, pp, Y⟩) (fun y => rfl)]
    exact htb
  · have my := mem_setI hy; clear hy; rcases my with ⟨hy, hk⟩ | ⟨z, hz, hk, rfl⟩
    · refine ⟨?_, r3 y hy⟩
      simp only
      rw [getM_put, if_neg (fun e => hoth y hy hk e.symm)]
      exact (h.pol y hy).1
    · have := hone z hz hk
      subst this
      exact ⟨by simp only; rw [getM_put, if_pos rfl]; rfl, hpl⟩
  · have my := mem_setI hy; clear hy; rcases my with ⟨hy, hk⟩ | ⟨z, hz, hk, rfl⟩
    · exact .inl (h.polX y hy q hq)
    · exact .inr hq
  · have my := mem_setI hy; clear hy; rcases my with ⟨hy, hk⟩ | ⟨y', hy', hk, rfl⟩
    · have mz := mem_setI hz; clear hz; rcases mz with ⟨hz, hk'⟩ | ⟨z', hz', hk', rfl⟩
      · exact h.apart y hy z hz hne q hq
      · exact fun hq' => hYX q hq' (h.polX y hy q hq)
    · have mz := mem_setI hz; clear hz; rcases mz with ⟨hz, hk'⟩ | ⟨z', hz', hk', rfl⟩
      · exact fun hq' => hYX q hq (h.polX z hz q hq')
      · exfalso
        rw [hone y' hy' hk, hone z' hz' hk'] at hne
        exact hne rfl
  · have my := mem_setI hy; clear hy; rcases my with ⟨hy, hk⟩ | ⟨y', hy', hk, rfl⟩
    · have mz := mem_setI hz; clear hz; rcases mz with ⟨hz, hk'⟩ | ⟨z', hz', hk', rfl⟩
      · exact h.ids y hy z hz he
      · have := hone z' hz' hk'
        subst this
        exact absurd he (hoth y hy hk)
    · have mz := mem_setI hz; clear hz; rcases mz with ⟨hz, hk'⟩ | ⟨z', hz', hk', rfl⟩
      · have := hone y' hy' hk
        subst this
        exact absurd he.symm (hoth z hz hk')
      · rw [hone y' hy' hk, hone z' hz' hk']
  · have my := mem_setI hy; clear hy; rcases my with ⟨hy, hk⟩ | ⟨y', hy', hk, rfl⟩
    · exact h.idlt y hy
    · exact h.idlt y' hy'
  · simp only
    have my := mem_setI hy; clear hy; rcases my with ⟨hy, hk⟩ | ⟨y', hy', hk, rfl⟩
    · by_cases e : j = i
      · subst e
        rw [if_pos rfl, getM_put, if_neg (fun e => hoth y hy hk e.symm)]
        exact h.need j hj y hy he
      · rw [if_neg e]
        exact h.need j hj y hy he
    · have := hone y' hy' hk
      subst this
      simp only [newK] at he ⊢
      have : j = i := by omega
      subst this
      rw [if_pos rfl, getM_put, if_pos rfl]
  · simp only at hn ⊢
    by_cases e : j = i
    · subst e
      rw [if_pos rfl, getM_put] at hn
      split at hn
      · rename_i e2
        have := h.idlt y0 b1; omega
      · exact h.nlt j hj id n hn
    · rw [if_neg e] at hn
      exact h.nlt j hj id n hn
  · rw [hL]
    have := h.li.change p v c k
    unfold chgN at this
    rwa [if_pos hc] at this
  · rcases hq with hq | hq
    · exact hty q hq
    · exact .of_PT (hpl.ty hq)
  · rcases hq with hq | hq
    · exact h.lo q hq
    · have := hY q hq; omega

/-- One is gone. -/
theorem NdX.dropped (h : NdX w nd X lo rooms g) {p v c : Int} {i : Nat} {r : Int} {y0 : Ci} (hi : rooms[i]? = some r) (hp : p = (i : Int)) (hf : findI g.ci p v c = some y0) (hT : Step (fiveF nd g i) w w1)
    (hnd : Own w1 nd #[.slice g.la rooms.length g.lc, .pointer (some ⟨g.tb, 0, none⟩), .map (some g.cm), .int .i64 ((g.next : Nat) : Int)] 50)
    (htb : Tb w1 g.tb 64 (delE (g.ci.map Ci.ent) p v c)) (hld : Ld w1 (g.lg i) (g.lm i) r (usdL g.L i - needC y0.x.k) (delM (g.N i) y0.id)) (hcm : MapL w1 g.cm ei uc (delM g.M y0.id)) :
    NdX w1 nd X lo rooms { g with ci := delI g.ci p v c, N := fun j => if j = i then delM (g.N i) y0.id else g.N j, M := delM g.M y0.id } := by
  have hil := (List.getElem?_eq_some_iff.1 hi).1
  obtain ⟨r1, r2, r3⟩ := h.rest hil hT
  have hL : ({ g with ci := delI g.ci p v c, N := fun j => if j = i then delM (g.N i) y0.id else g.N j, M := delM g.M y0.id } : NdG).L = delC g.L p v c := delI_x _ _ _ _
  obtain ⟨b1, b2, b3, b4⟩ := findI_some hf
  have hk0 : keyX p v c y0.x = true := keyX_iff.2 ⟨b2, b3, b4⟩
  have hfC : findC g.L p v c = some y0.x := by unfold NdG.L; rw [findI_map, hf]; rfl
  have hty := h.typed hil hT (tyO_own hnd) (tyO_tb htb) (tyO_map hcm) (tyO_own hld.own) (tyO_map hld.map)
  have hmem : ∀ y ∈ delI g.ci p v c, y ∈ g.ci ∧ keyX p v c y.x = false := fun y hy => by
    have := List.mem_filter.1 hy
    exact ⟨this.1, by simpa using this.2⟩
  have hoth : ∀ y ∈ g.ci, keyX p v c y.x = false → y.id ≠ y0.id := fun y hy hk e => by
    have := h.ids y hy y0 b1 e; subst this; rw [hk] at hk0; cases hk0
  obtain ⟨r', hr', hl'⟩ := h.room hil
  have hkeys := hl'.map.keys
  have hkm := h.cmap.keys
  refine { own := hnd, links := r1, led := fun j r' hj => ?_, ledX := h.ledX, lgi := h.lgi, lmi := h.lmi, lmc := h.lmc, tab := ?_, cmap := hcm, pol := fun y hy => ?_, polX := fun y hy q hq => h.polX y (hmem y hy).1 q hq, apart := fun y hy z hz hne q hq => h.apart y (hmem y hy).1 z (hmem z hz).1 hne q hq, ids := fun y hy z hz he => h.ids y (hmem y hy).1 z (hmem z hz).1 he, idlt := fun y hy => h.idlt y (hmem y hy).1, need := fun j hj y hy he => ?_, nlt := fun j hj id n hn => ?_, li := ?_, inX := h.inX, ty := hty, lo := h.lo }
  · rw [hL, usdL_del h.li.one, hfC]
    by_cases e : j = i
    · subst e
      rw [hi] at hj
      simp only [Option.some.injEq] at hj
      subst hj
      simp only [if_true]
      rw [if_pos (by omega)]
      exact hld
    · have := r2 j r' e hj
      simp only [e, if_false]
      rw [if_neg (by omega), Int.sub_zero]
      exact this
  · simp only
    rw [delI_ent]
    exact htb
  · obtain ⟨hy1, hy2⟩ := hmem y hy
    refine ⟨?_, r3 y hy1⟩
    simp only
    rw [getM_del hkm, if_neg (fun e => hoth y hy1 hy2 e.symm)]
    exact (h.pol y hy1).1
  · obtain ⟨hy1, hy2⟩ := hmem y hy
    simp only
    by_cases e : j = i
    · subst e
      rw [if_pos rfl, getM_del hkeys, if_neg (fun e => hoth y hy1 hy2 e.symm)]
      exact h.need j hj y hy1 he
    · rw [if_neg e]
      exact h.need j hj y hy1 he
  · simp only at hn ⊢
    by_cases e : j = i
    · subst e
      rw [if_pos rfl, getM_del hkeys] at hn
      split at hn
      · cases hn
      · exact h.nlt j hj id n hn
    · rw [if_neg e] at hn
      exact h.nlt j hj id n hn
  · rw [hL]; exact h.li.drop p v c

/-- A cell of one was policed. -/
theorem NdX.judged (h : NdX w nd X lo rooms g) {p v c t clp : Int} {y0 : Ci} (hf : findI g.ci p v c = some y0) (hT : Step y0.Y w w1) (hpl : Pl w1 y0.pp y0.Y (alwaysC y0.x.k) (rulesT t clp y0.x.rs)) :
    NdX w1 nd X lo rooms { g with ci := setI g.ci p v c (fun y => ⟨newR t clp y.x, y.id, y.pp, y.Y⟩) } := by
  have hL : ({ g with ci := setI g.ci p v c (fun y => ⟨newR t clp y.x, y.id, y.pp, y.Y⟩) } : NdG).L = setC g.L p v c (newR t clp) := setI_x _ _ _ _ _ _ (fun y => rfl)
  obtain ⟨b1, b2, b3, b4⟩ := findI_some hf
  have hk0 : keyX p v c y0.x = true := keyX_iff.2 ⟨b2, b3, b4⟩
  have hone : ∀ y ∈ g.ci, keyX p v c y.x = true → y = y0 := fun y hy hk => h.key_one hy b1 hk hk0
  have hoth : ∀ y ∈ g.ci, keyX p v c y.x = false → y.id ≠ y0.id := fun y hy hk e => by
    have := h.ids y hy y0 b1 e; subst this; rw [hk] at hk0; cases hk0
  have no : ∀ q, tyO w q ≠ 112 + 2 → tyO w q ≠ 108 + 2 → tyO w q ≠ 135 + 2 → ¬ y0.Y q := fun q h1 h2 h3 hq => by
    have := h.t_pol b1 hq; omega
  have src : ∀ y ∈ setI g.ci p v c (fun y => ⟨newR t clp y.x, y.id, y.pp, y.Y⟩), ∃ z ∈ g.ci, z.id = y.id ∧ z.pp = y.pp ∧ z.Y = y.Y ∧ z.x.p = y.x.p ∧ z.x.k = y.x.k := fun y hy => by
    have my := mem_setI hy; clear hy; rcases my with ⟨hy, hk⟩ | ⟨z, hz, hk, rfl⟩
    · exact ⟨y, hy, rfl, rfl, rfl, rfl, rfl⟩
    · exact ⟨z, hz, rfl, rfl, rfl, rfl, rfl⟩
  have t1 := h.t_nd
  have t2 := h.t_tb
  have t3 := h.t_cm
  refine { own := h.own.step hT (no _ (by omega) (by omega) (by omega)), links := fun h0 => ?_, led := fun j r' hj => ?_, ledX := h.ledX, lgi := h.lgi, lmi := h.lmi, lmc := h.lmc, tab := ?_, cmap := h.cmap.step hT (no _ (by omega) (by omega) (by omega)), pol := fun y hy => ?_, polX := fun y hy q hq => ?_, apart := fun y hy z hz hne q hq => ?_, ids := fun y hy z hz he => ?_, idlt := fun y hy => ?_, need := fun j hj y hy he => ?_, nlt := h.nlt, li := ?_, inX := h.inX, ty := fun q hq => ?_, lo := h.lo }
  · obtain ⟨a, b, c'⟩ := h.links h0
    have t6 := h.t_lb h0
    exact ⟨a, b.step hT (no _ (by omega) (by omega) (by omega)), c'⟩
  · have hl := (List.getElem?_eq_some_iff.1 hj).1
    have t6 := h.t_lg hl
    have t7 := h.t_lm hl
    rw [hL, usdL_same _ _ _ _ (newR t clp) (fun x => ⟨rfl, rfl⟩)]
    exact (h.led j r' hj).step hT (no _ (by omega) (by omega) (by omega)) (no _ (by omega) (by omega) (by omega))
  · simp only
    rw [setI_ent _ _ _ _ (fun y => ⟨newR t clp y.x, y.id, y.pp, y.Y⟩) (fun y => rfl)]
    exact h.tab.step hT (no _ (by omega) (by omega) (by omega))
  · have my := mem_setI hy; clear hy; rcases my with ⟨hy, hk⟩ | ⟨z, hz, hk, rfl⟩
    · exact ⟨(h.pol y hy).1, (h.pol y hy).2.step hT (fun q hq => h.apart y hy y0 b1 (hoth y hy hk) q hq)⟩
    · have := hone z hz hk
      subst this
      exact ⟨(h.pol z hz).1, hpl⟩
  · obtain ⟨z, hz, e1, e2, e3, e4, e5⟩ := src y hy
    exact h.polX z hz q (by rw [e3]; exact hq)
  · obtain ⟨y', hy', e1, e2, e3, e4, e5⟩ := src y hy
    obtain ⟨z', hz', f1, f2, f3, f4, f5⟩ := src z hz
    have := h.apart y' hy' z' hz' (by rw [e1, f1]; exact hne) q (by rw [e3]; exact hq)
    rwa [f3] at this
  · have my := mem_setI hy; clear hy; rcases my with ⟨hy, hk⟩ | ⟨y', hy', hk, rfl⟩
    · have mz := mem_setI hz; clear hz; rcases mz with ⟨hz, hk'⟩ | ⟨z', hz', hk', rfl⟩
      · exact h.ids y hy z hz he
      · have := hone z' hz' hk'
        subst this
        exact absurd he (hoth y hy hk)
    · have mz := mem_setI hz; clear hz; rcases mz with ⟨hz, hk'⟩ | ⟨z', hz', hk', rfl⟩
      · have := hone y' hy' hk
        subst this
        exact absurd he.symm (hoth z hz hk')
      · rw [hone y' hy' hk, hone z' hz' hk']
  · obtain ⟨z, hz, e1, e2, e3, e4, e5⟩ := src y hy
    have := h.idlt z hz
    rwa [e1] at this
  · obtain ⟨z, hz, e1, e2, e3, e4, e5⟩ := src y hy
    have := h.need j hj z hz (by rw [e4]; exact he)
    rwa [e1, e5] at this
  · rw [hL]; exact h.li.verdict p v c t clp
  · by_cases e : y0.Y q
    · exact .of_PT (hpl.ty e)
    · exact (h.ty q hq).step hT e
end
end Go.Proofs.YthchmlidobgkoaaGreat
end

section
/- Layer 20: what the walks of a node's functions need. -/
set_option linter.unusedVariables false
set_option linter.unusedSimpArgs false
namespace Go.Proofs.YthchmlidobgkoaaGreat
open Go.Vc Go.RowKit
section
variable {w w1 : World} {F : Nat → Prop} {nd lo : Nat} {X : Nat → Prop} {rooms : List Int} {g : NdG}
theorem NdX.five (h : NdX w nd X lo rooms g) {i : Nat} (hi : i < rooms.length) : nd ≠ g.tb ∧ nd ≠ g.cm ∧ nd ≠ g.lg i ∧ nd ≠ g.lm i ∧ g.tb ≠ g.cm ∧ g.tb ≠ g.lg i ∧ g.tb ≠ g.lm i ∧ g.cm ≠ g.lg i ∧ g.cm ≠ g.lm i ∧ g.lg i ≠ g.lm i := by
  have t1 := h.t_nd
  have t2 := h.t_tb
  have t3 := h.t_cm
  have t4 := h.t_lg hi
  have t5 := h.t_lm hi
  refine ⟨?_, ?_, ?_, ?_, ?_, ?_, ?_, ?_, fun e => h.lmc i hi e.symm, ?_⟩ <;> intro e
  · rw [e] at t1; omega
  · rw [e] at t1; omega
  · rw [e] at t1; omega
  · rw [e] at t1; omega
  · rw [e] at t2; omega
  · rw [e] at t2; omega
  · rw [e] at t2; omega
  · rw [e] at t3; omega
  · rw [e] at t4; omega
theorem fiveF_X (h : NdX w nd X lo rooms g) {i : Nat} (hi : i < rooms.length) : ∀ k, fiveF nd g i k → X k := by
  rintro k (rfl | rfl | rfl | rfl | rfl)
  · exact h.inX.1
  · exact h.inX.2.1
  · exact h.inX.2.2
  · exact (h.ledX i hi).1
  · exact (h.ledX i hi).2
theorem stepG_no {i : Nat} {w2 : World} (h : Step (fiveF nd g i) w w1) (k : Step No w1 w2) : Step (fiveF nd g i) w w2 := Step.trans h k.weak
theorem NdX.row (h : NdX w nd X lo rooms g) {i : Nat} (hi : i < rooms.length) : ((List.range rooms.length).map g.lg)[i]? = some (g.lg i) := by simp [hi]
theorem lgc_len (a : Nat) : (lgc a).length = 1 := rfl
theorem lgc_one (a : Nat) : ∀ u ∈ lgc a, oneC u = true := by intro u hu; simp only [lgc, List.mem_singleton] at hu; subst hu; rfl
/-- A node with so many connections; so many numbers were given at most. -/
def NdP (w : World) (nd : Nat) (X : Nat → Prop) (lo : Nat) (rooms : List Int) (L : List Cx) (n : Nat) : Prop := ∃ g, NdX w nd X lo rooms g ∧ g.L = L ∧ g.next ≤ n
theorem wrong_out {rooms : List Int} {p v c : Int} {k : Con} (h : ¬ (0 ≤ p ∧ p < rooms.length)) : 3 = wrongN rooms p v c k := by unfold wrongN; rw [if_neg (fun e => h e.1)]
theorem wrong_r {rooms : List Int} {p v c : Int} {k : Con} (h : rightB p v c = false) : 3 = wrongN rooms p v c k := by unfold wrongN; rw [if_neg (fun e => by rw [e.2.1] at h; cases h)]
theorem wrong_c {rooms : List Int} {p v c : Int} {k : Con} (h : c < 32) : 3 = wrongN rooms p v c k := by unfold wrongN; rw [if_neg (fun e => by have := e.2.2; omega)]
theorem wrong_k {rooms : List Int} {p v c : Int} {k : Con} {i : Nat} (hp : p = (i : Int)) (hi : i < rooms.length) (h1 : rightB p v c = true) (h2 : ¬ c < 32) (h3 : ¬ rightC k = 0) : 73 = wrongN rooms p v c k := by unfold wrongN; rw [if_pos ⟨⟨by omega, by omega⟩, h1, by omega⟩, if_neg h3]
theorem wrong_0 {rooms : List Int} {p v c : Int} {k : Con} {i : Nat} (hp : p = (i : Int)) (hi : i < rooms.length) (h1 : rightB p v c = true) (h2 : ¬ c < 32) (h3 : rightC k = 0) : 0 = wrongN rooms p v c k := by unfold wrongN; rw [if_pos ⟨⟨by omega, by omega⟩, h1, by omega⟩, if_pos h3]
theorem chk_w {rooms : List Int} {L : List Cx} {p v c : Int} {k : Con} (h : ¬ wrongN rooms p v c k = 0) : wrongN rooms p v c k = chkN rooms L p v c k := by unfold chkN; rw [if_neg h]
theorem chk_35 {rooms : List Int} {p v c : Int} {k : Con} (h : wrongN rooms p v c k = 0) (h1 : (lookE (g.ci.map Ci.ent) p v c).isSome = true) : 35 = chkN rooms g.L p v c k := by unfold chkN; rw [if_pos h, if_pos (by rw [← lookE_isSome]; exact h1)]
theorem chk_47 {rooms : List Int} {p v c : Int} {k : Con} (h : wrongN rooms p v c k = 0) (h1 : (lookE (g.ci.map Ci.ent) p v c).isSome = false) (h2 : (((g.ci.map Ci.ent).length : Nat) : Int) ≥ 64) : 47 = chkN rooms g.L p v c k := by
  unfold chkN; rw [if_pos h, if_neg (by rw [← lookE_isSome, h1]; decide), if_pos (by unfold NdG.L; simp only [List.length_map] at h2 ⊢; omega)]
theorem left_at {rooms : List Int} {L : List Cx} {p : Int} {i : Nat} {r : Int} (hp : p = (i : Int)) (hi : rooms[i]? = some r) : leftN rooms L p = r - usdL L (i : Int) := by rw [hp]; exact leftN_at hi
theorem chk_37 {rooms : List Int} {p v c : Int} {k : Con} {i : Nat} {r : Int} (hp : p = (i : Int)) (hi : rooms[i]? = some r) (h : wrongN rooms p v c k = 0) (h1 : (lookE (g.ci.map Ci.ent) p v c).isSome = false) (h2 : ¬ (((g.ci.map Ci.ent).length : Nat) : Int) ≥ 64) (h3 : needC k > r - usdL g.L (i : Int)) : 37 = chkN rooms g.L p v c k := by
  unfold chkN; rw [if_pos h, if_neg (by rw [← lookE_isSome, h1]; decide), if_neg (by unfold NdG.L; simp only [List.length_map] at h2 ⊢; omega), if_pos (by rw [left_at hp hi]; exact h3)]
theorem chk_0 {rooms : List Int} {p v c : Int} {k : Con} {i : Nat} {r : Int} (hp : p = (i : Int)) (hi : rooms[i]? = some r) (h : wrongN rooms p v c k = 0) (h1 : (lookE (g.ci.map Ci.ent) p v c).isSome = false) (h2 : ¬ (((g.ci.map Ci.ent).length : Nat) : Int) ≥ 64) (h3 : ¬ needC k > r - usdL g.L (i : Int)) : 0 = chkN rooms g.L p v c k := by
  unfold chkN; rw [if_pos h, if_neg (by rw [← lookE_isSome, h1]; decide), if_neg (by unfold NdG.L; simp only [List.length_map] at h2 ⊢; omega), if_neg (by rw [left_at hp hi]; exact h3)]
theorem chg_w {rooms : List Int} {L : List Cx} {p v c : Int} {k : Con} (h : ¬ wrongN rooms p v c k = 0) : wrongN rooms p v c k = chgK rooms L p v c k := by unfold chgK; rw [if_neg h]
theorem chg_81 {rooms : List Int} {p v c : Int} {k : Con} (h : wrongN rooms p v c k = 0) (h1 : (lookE (g.ci.map Ci.ent) p v c).isSome = false) : 81 = chgK rooms g.L p v c k := by
  unfold chgK; rw [if_pos h]
  rw [lookE_isSome] at h1
  cases e : findC g.L p v c with
  | none => rfl
  | some x => rw [e] at h1; cases h1
/-- What lies at a key that is there. -/
theorem NdX.there (h : NdX w nd X lo rooms g) {p v c : Int} (h1 : (lookE (g.ci.map Ci.ent) p v c).isSome = true) : ∃ (y : Ci) (i : Nat) (r : Int), findI g.ci p v c = some y ∧ y ∈ g.ci ∧ lookE (g.ci.map Ci.ent) p v c = some y.id ∧ p = (i : Int) ∧ i < rooms.length ∧ rooms[i]? = some r ∧ Ld w (g.lg i) (g.lm i) r (usdL g.L i) (g.N i) ∧ getM (g.N i) y.id = some (needC y.x.k) ∧ getM g.M y.id = some (y.x.k, y.pp) ∧ Pl w y.pp y.Y (alwaysC y.x.k) y.x.rs ∧ findC g.L p v c = some y.x ∧ 0 ≤ usdL g.L i ∧ usdL g.L i ≤ r ∧ r ≤ 1152921504606846976 ∧ needC y.x.k ≤ usdL g.L i := by
  rw [lookE_map] at h1
  cases e : findI g.ci p v c with
  | none => rw [e] at h1; cases h1
  | some y =>
    obtain ⟨b1, b2, b3, b4⟩ := findI_some e
    have hx : y.x ∈ g.L := List.mem_map_of_mem b1
    obtain ⟨k1, k2, k3, k4⟩ := h.li.key y.x hx
    obtain ⟨i, r, e1, e2, e3⟩ := port_nat k1
    have hp : p = (i : Int) := by omega
    refine ⟨y, i, r, rfl, b1, by rw [lookE_map, e]; rfl, hp, e2, e3, h.led i r e3, h.need i e2 y b1 (by omega), (h.pol y b1).1, (h.pol y b1).2, by unfold NdG.L; rw [findI_map, e]; rfl, usdL_nonneg _ _, h.li.fit i r e3, (h.li.rooms r (List.mem_of_getElem? e3)).2, ?_⟩
    have := usdL_mem hx
    rw [e1] at this
    exact this
theorem NdX.gone (h : NdX w nd X lo rooms g) {p v c : Int} (h1 : (lookE (g.ci.map Ci.ent) p v c).isSome = false) : findC g.L p v c = none := by
  rw [lookE_isSome] at h1
  cases e : findC g.L p v c with
  | none => rfl
  | some x => rw [e] at h1; cases h1
theorem setC_none {L : List Cx} {p v c : Int} {f : Cx → Cx} (h : findC L p v c = none) : setC L p v c f = L := by
  unfold setC
  conv => rhs; rw [← List.map_id L]
  apply List.map_congr_left
  intro x hx
  rw [if_neg (fun e => findC_none.1 h x hx (keyX_iff.1 e))]; rfl
theorem delC_none {L : List Cx} {p v c : Int} (h : findC L p v c = none) : delC L p v c = L := by
  unfold delC
  refine List.filter_eq_self.2 fun x hx => ?_
  cases e : keyX p v c x with
  | true => exact absurd (keyX_iff.1 e) (findC_none.1 h x hx)
  | false => rfl
end
end Go.Proofs.YthchmlidobgkoaaGreat
end

section
/- Layer 20: a node is asked, turned. -/
set_option linter.unusedVariables false
set_option linter.unusedSimpArgs false
set_option maxRecDepth 100000
set_option maxHeartbeats 4000000
namespace Go.Proofs.YthchmlidobgkoaaGreat
open Go.Vc Go.RowKit
theorem TAdcaa {P : Prop} (h : P := by first | exact chk_w (by assumption) | exact chk_35 (by assumption) (by assumption) | exact chk_47 (by assumption) (by assumption) (by assumption) | exact chk_37 hp hir (by assumption) (by assumption) (by assumption) (by assumption) | exact chk_0 hp hir (by assumption) (by assumption) (by assumption) (by assumption)) : P := h
theorem TAdcab {P : Prop} (h : P := by first | exact wrong_r (by assumption) | exact wrong_c (by assumption) | exact wrong_k hp hil (by assumption) (by assumption) (by assumption) | exact wrong_0 hp hil (by assumption) (by assumption) (by assumption)) : P := h

theorem link_raw (nd : Nat) (rooms : List Int) (g : NdG) (x1 x2 x3 : Value) (p : Int) (i : Nat) (hp : p = (i : Int)) (hi : i < rooms.length) (w : World) (hnd : Own w nd #[.slice (some ⟨g.lb, 0, none⟩) rooms.length g.lc, x1, x2, x3] 50) (hrw : RowE w g.lb 51 (flat lgc ((List.range rooms.length).map g.lg))) :
  CV Tryz.prog 28 #[Pt nd 0, I6 p] w (fun x w1 => x = Pt (g.lg i) 0 ∧ Step No w w1) := by
 have hS : Step No w w := Step.refl _ _
 have hrow := hrw.sl
 have hgi : ((List.range rooms.length).map g.lg)[i]? = some (g.lg i) := by simp [hi]
 refine VCe Tryz.func28 (Vrp (Vs (Vs (Vr (Vp 7 (Vkn 11 (decide (p < 0)) false (decide_eq_false (by omega)) (Vl 11 hnd (Ve (Vn (Viz (b := decide (p ≥ ((rooms.length : Nat) : Int))) (decide_eq_false (by omega)) (VC_skip (Vn (Vs (Vr (Vl 3 hnd (Vp 5 (VL_index (d := 25) (b := g.lb) (o := 0) (len := rooms.length) (sz := 1) (m := p) (by kernel_rfl) (by kernel_rfl) i hp (by omega) i (by omega) (Vla 6 (t := 51) (a := ⟨g.lb, i, none⟩) (v := .pointer (some ⟨(g.lg i), 0, none⟩)) (Sl.flatOne (sz := 1) (Sl2.sl hrow) lgc_len hgi 0 (by rfl) (by decide) (by kernel_rfl) _ (by first | rfl | omega)) (Ve (Vn (VC_ret ?_)))))))))))))))))))))
 refine Vr1 (.pointer (some ⟨(g.lg i), 0, none⟩)) ?_
 exact ⟨rfl, hS⟩

theorem link_in (nd lo : Nat) (X : Nat → Prop) (rooms : List Int) (g : NdG) (p : Int) (i : Nat) (hp : p = (i : Int)) (hi : i < rooms.length) (w : World) (h : NdX w nd X lo rooms g) : CV Tryz.prog 28 #[.pointer (some ⟨nd, 0, none⟩), .int .i64 p] w fun x w1 => x = .pointer (some ⟨g.lg i, 0, none⟩) ∧ Step No w w1 := by
  obtain ⟨hla, hrw, _⟩ := h.links (by omega)
  have hnd := h.own
  rw [hla] at hnd
  exact link_raw nd rooms g _ _ _ p i hp hi w hnd hrw
theorem link_out (nd lo : Nat) (X : Nat → Prop) (rooms : List Int) (g : NdG) (p : Int) (hp : ¬ (0 ≤ p ∧ p < rooms.length)) (w : World) (h : NdX w nd X lo rooms g)  :
  CV Tryz.prog 28 #[Pt nd 0, I6 p] w (fun x w1 => x = .pointer none ∧ Step No w w1) := by
 have hS : Step No w w := Step.refl _ _
 have hnd := h.own
 refine VCe Tryz.func28 (Vrp (Vs (Vs (Vr (VL_pure 7 [0, 1, 11] [(0, Pt nd 0), (1, I6 p), (11, Bo (decide (p < 0)))] (by kernel_rfl) rfl (VL_dec (p < 0) (fun bV => [(0, Pt nd 0), (1, I6 p), (11, Bo bV)]) rfl (fun hg1 => ?_) (fun hg1 => ?_)))))))
 ·refine Ve (Vn (Vt (Vrp (VC_ret (VQ_then_ret (Vr1 (.pointer none) ?_))))))
  exact ⟨rfl, hS⟩
 ·refine Vl 11 hnd (Ve (Vn (Vit (b := decide (p ≥ ((rooms.length : Nat) : Int))) (decide_eq_true (by omega)) (Vrp (VC_ret (VQ_then_ret (Vr1 (.pointer none) ?_)))))))
  exact ⟨rfl, hS⟩

theorem wrong_in (nd lo : Nat) (X : Nat → Prop) (rooms : List Int) (g : NdG) (p v c : Int) (k : Con) (i : Nat) (hp : p = (i : Int)) (hil : i < rooms.length) (w : World) (h : NdX w nd X lo rooms g)  :
  CV Tryz.prog 24 #[Pt nd 0, .agg #[I6 p, I6 v, I6 c], .agg #[I6 k.kind, I6 k.peak, I6 k.early, I6 k.whole, I6 k.burst, I6 k.least]] w (fun x w1 => x = I6 (wrongN rooms p v c k) ∧ Step No w w1) := by
 have hS : Step No w w := Step.refl _ _
 have hSn : Step No w w := Step.refl _ _
 refine VCe Tryz.func24 (Vs (Vr ?_))
 refine Vx 0 30 #[I6 p, I6 v, I6 c] ?_
 intro b1 w1 hn1
 replace hS := Step.trans hS (hn1.step No)
 replace hSn := Step.trans hSn (hn1.step No)
 have ho1 := hn1.own
 refine Vx 1 32 #[I6 k.kind, I6 k.peak, I6 k.early, I6 k.whole, I6 k.burst, I6 k.least] ?_
 intro b2 w2 hn2
 replace hS := Step.trans hS (hn2.step No)
 replace hSn := Step.trans hSn (hn2.step No)
 replace ho1 := ho1.no (hn2.step No)
 have ho2 := hn2.own
 refine Ve (Vn (Vs (VC_block (Vs (Vr (Vl 2 ho1 ?_))))))
 refine Vc 3 Tryz.call28 (link_in nd lo X rooms g p i hp hil _ (h.no hSn)) ?_
 rintro _ w3 ⟨rfl, hc1⟩
 replace hS := Step.trans hS hc1
 replace ho1 := ho1.no hc1
 replace ho2 := ho2.no hc1
 refine Vl 6 ho1 ?_
 refine Vc 7 Tryz.call51 (right_any p v c _) ?_
 rintro _ w4 ⟨rfl, hc2⟩
 replace hS := Step.trans hS hc2
 replace ho1 := ho1.no hc2
 replace ho2 := ho2.no hc2
 refine VL_pure 11 [4, 5, 18] [(4, Pt b1 0), (5, Pt b2 0), (18, Bo (!(rightB p v c)))] (by kernel_rfl) rfl (VL_bool (rightB p v c) (fun bV => [(4, Pt b1 0), (5, Pt b2 0), (18, Bo (!bV))]) rfl (fun hg1 => ?_) (fun hg1 => ?_))
 ·refine Vl 12 ho1 (Ve (Vn (Vid (c < 32) (fun h1 => ?_) (fun h1 => ?_))))
  ·refine Vrp (VC_ret (VQ_block_ret (VQ_then_ret (Vr1 (I6 3) ?_))))
   exact ⟨congrArg (Value.int .i64) TAdcab, hS⟩
  ·refine Vs (Vr (Vl 0 ho2 ?_))
   refine Vc 1 Tryz.call52 (cright_any k _) ?_
   rintro _ w5 ⟨rfl, hc3⟩
   replace hS := Step.trans hS hc3
   refine Ve (Vn (Viu (rightC k) 0 (fun h2 => ?_) (fun h2 => ?_)))
   ·refine Vrp (VC_ret (VQ_block_ret (VQ_then_ret (Vr1 (I6 73) ?_))))
    exact ⟨congrArg (Value.int .i64) TAdcab, hS⟩
   ·refine VC_skip (VQ_block_normal (Vn (Vrp (VC_ret (Vr1 (I6 0) ?_)))))
    exact ⟨congrArg (Value.int .i64) TAdcab, hS⟩
 ·refine Ve (Vn (Vt (Vrp (VC_ret (VQ_block_ret (VQ_then_ret (Vr1 (I6 3) ?_)))))))
  exact ⟨congrArg (Value.int .i64) TAdcab, hS⟩

theorem wrong_ou (nd lo : Nat) (X : Nat → Prop) (rooms : List Int) (g : NdG) (p v c : Int) (k : Con) (hp : ¬ (0 ≤ p ∧ p < rooms.length)) (w : World) (h : NdX w nd X lo rooms g)  :
  CV Tryz.prog 24 #[Pt nd 0, .agg #[I6 p, I6 v, I6 c], .agg #[I6 k.kind, I6 k.peak, I6 k.early, I6 k.whole, I6 k.burst, I6 k.least]] w (fun x w1 => x = I6 (wrongN rooms p v c k) ∧ Step No w w1) := by
 have hS : Step No w w := Step.refl _ _
 have hSn : Step No w w := Step.refl _ _
 refine VCe Tryz.func24 (Vs (Vr ?_))
 refine Vx 0 30 #[I6 p, I6 v, I6 c] ?_
 intro b1 w1 hn1
 replace hS := Step.trans hS (hn1.step No)
 replace hSn := Step.trans hSn (hn1.step No)
 have ho1 := hn1.own
 refine Vx 1 32 #[I6 k.kind, I6 k.peak, I6 k.early, I6 k.whole, I6 k.burst, I6 k.least] ?_
 intro b2 w2 hn2
 replace hS := Step.trans hS (hn2.step No)
 replace hSn := Step.trans hSn (hn2.step No)
 replace ho1 := ho1.no (hn2.step No)
 refine Ve (Vn (Vs (VC_block (Vs (Vr (Vl 2 ho1 ?_))))))
 refine Vc 3 Tryz.call28 (link_out nd lo X rooms g p hp _ (h.no hSn)) ?_
 rintro _ w3 ⟨rfl, hc1⟩
 replace hS := Step.trans hS hc1
 refine Ve (Vn (Vt (Vrp (VC_ret (VQ_block_ret (VQ_then_ret (Vr1 (I6 3) ?_)))))))
 exact ⟨congrArg (Value.int .i64) (wrong_out hp), hS⟩

theorem wrong_any (nd lo : Nat) (X : Nat → Prop) (rooms : List Int) (g : NdG) (p v c : Int) (k : Con) (w : World) (h : NdX w nd X lo rooms g) : CV Tryz.prog 24 #[.pointer (some ⟨nd, 0, none⟩), .agg #[.int .i64 p, .int .i64 v, .int .i64 c], .agg #[.int .i64 k.kind, .int .i64 k.peak, .int .i64 k.early, .int .i64 k.whole, .int .i64 k.burst, .int .i64 k.least]] w fun x w1 => x = .int .i64 (wrongN rooms p v c k) ∧ Step No w w1 := by
  by_cases hp : 0 ≤ p ∧ p < rooms.length
  · obtain ⟨i, r, e, hil, hir⟩ := port_nat hp
    exact wrong_in nd lo X rooms g p v c k i e hil w h
  · exact wrong_ou nd lo X rooms g p v c k hp w h
theorem check_any (nd lo : Nat) (X : Nat → Prop) (rooms : List Int) (g : NdG) (p v c : Int) (k : Con) (w : World) (h : NdX w nd X lo rooms g)  :
  CV Tryz.prog 8 #[Pt nd 0, .agg #[I6 p, I6 v, I6 c], .agg #[I6 k.kind, I6 k.peak, I6 k.early, I6 k.whole, I6 k.burst, I6 k.least]] w (fun x w1 => x = I6 (chkN rooms g.L p v c k) ∧ Step No w w1) := by
 have hS : Step No w w := Step.refl _ _
 have hSn : Step No w w := Step.refl _ _
 have hnd := h.own
 have htab := h.tab
 refine VCe Tryz.func8 (Vs (Vr ?_))
 refine Vx 0 30 #[I6 p, I6 v, I6 c] ?_
 intro b1 w1 hn1
 replace hS := Step.trans hS (hn1.step No)
 replace hSn := Step.trans hSn (hn1.step No)
 replace hnd := hnd.no (hn1.step No)
 replace htab := Tb.no htab (hn1.step No)
 have ho1 := hn1.own
 have hzhn1 := hn1.size
 have hqhn1 := hn1.eqb
 refine Vx 1 32 #[I6 k.kind, I6 k.peak, I6 k.early, I6 k.whole, I6 k.burst, I6 k.least] ?_
 intro b2 w2 hn2
 replace hS := Step.trans hS (hn2.step No)
 replace hSn := Step.trans hSn (hn2.step No)
 replace hnd := hnd.no (hn2.step No)
 replace htab := Tb.no htab (hn2.step No)
 replace ho1 := ho1.no (hn2.step No)
 have ho2 := hn2.own
 have hzhn2 := hn2.size
 have hqhn2 := hn2.eqb
 refine Ve (Vn (Vs (Vs (Vr (Vl 1 ho1 (Vl 2 ho2 ?_))))))
 refine Vc 3 Tryz.call24 (wrong_any nd lo X rooms g p v c k _ (h.no hSn)) ?_
 rintro _ w3 ⟨rfl, hc1⟩
 replace hS := Step.trans hS hc1
 replace hSn := Step.trans hSn hc1
 replace hnd := hnd.no hc1
 replace htab := Tb.no htab hc1
 replace ho1 := ho1.no hc1
 replace ho2 := ho2.no hc1
 refine Ve (Vn (Vrp (Viu (wrongN rooms p v c k) 0 (fun h1 => ?_) (fun h1 => ?_))))
 ·refine Vrp (VC_ret (VQ_then_ret (Vr1 (I6 (wrongN rooms p v c k)) ?_)))
  exact ⟨congrArg (Value.int .i64) TAdcaa, hS⟩
 ·refine VC_skip (Vn (Vs (Vs (Vd 10 [(3, Pt g.tb 0), (4, .agg #[I6 p, I6 v, I6 c]), (5, .tuple #[I6 ((lookE (g.ci.map Ci.ent) p v c).getD 0), Bo ((lookE (g.ci.map Ci.ent) p v c).isSome)])] [3, 4, 5] ?_ ?_))))
  ·intro w4 hs1
   replace hnd := hnd.no hs1
   replace htab := Tb.no htab hs1
   replace ho1 := ho1.no hs1
   exact ⟨Dl hnd, Dl ho1, Dc Tryz.call25 (tget p v c htab), trivial⟩
  intro w4 hs1
  replace hS := Step.trans hS hs1
  replace hSn := Step.trans hSn hs1
  replace hnd := hnd.no hs1
  replace htab := Tb.no htab hs1
  replace ho1 := ho1.no hs1
  replace ho2 := ho2.no hs1
  refine Ve (Vn (Vrp (Vif ((lookE (g.ci.map Ci.ent) p v c).isSome) (fun h2 => ?_) (fun h2 => ?_))))
  ·try simp only [BB] at h2
   refine Vrp (VC_ret (VQ_then_ret (Vr1 (I6 35) ?_)))
   exact ⟨congrArg (Value.int .i64) TAdcaa, hS⟩
  ·try simp only [BB] at h2
   refine VC_skip (Vn (Vs (VC_block (Vs (Vr (Vl 3 hnd ?_))))))
   refine Vc 4 Tryz.call26 (tlen htab) ?_
   rintro _ w5 ⟨rfl, hc2⟩
   replace hS := Step.trans hS hc2
   replace hSn := Step.trans hSn hc2
   replace ho1 := ho1.no hc2
   replace ho2 := ho2.no hc2
   refine Ve (Vn (Vid ((((g.ci.map Ci.ent).length : Nat) : Int) ≥ 64) (fun h3 => ?_) (fun h3 => ?_)))
   ·refine Vrp (VC_ret (VQ_block_ret (VQ_then_ret (Vr1 (I6 47) ?_))))
    exact ⟨congrArg (Value.int .i64) TAdcaa, hS⟩
   ·refine Vs ?_
    obtain ⟨⟨hp1, hp2⟩, hw2, hw3, hw4⟩ := wrongN_zero (show wrongN rooms p v c k = 0 by assumption)
    obtain ⟨i, r, hp, hil, hir⟩ := port_nat ⟨hp1, hp2⟩
    have hled : Ld w (g.lg i) (g.lm i) r (usdL g.L (i : Int)) (g.N i) := h.led i r hir
    have hu0 := usdL_nonneg g.L (i : Int)
    have hu1 := h.li.fit i r hir
    have hrM := (h.li.rooms r (List.mem_of_getElem? hir)).2
    replace hled := hled.no hSn
    have hs2 := drew_step w5
    have hs2z : w5.heap.size = w5.drew.heap.size := rfl
    refine Tx 5 (fun k => w5.heap.size ≤ k) [1] [0, 2, 3, 4, 1] ?_
    have hzl17 := ho2.lt
    generalize w5.drew = w6 at hs2 hs2z ⊢
    replace hS := Step.trans hS hs2
    replace hSn := Step.trans hSn hs2
    replace ho1 := ho1.no hs2
    replace ho2 := ho2.no hs2
    replace hled := Ld.no hled hs2
    refine Tl (fun w7 hr1 => ho2.step hr1 (by (try simp only); omega)) (Tp 2 (Tl (fun w8 hr2 => ho1.step hr2 (by (try simp only); omega)) (Th ?_)))
    intro w9 hs3
    replace hS := Step.trans hS hs3
    replace hSn := Step.trans hSn hs3
    replace hled := Ld.no hled hs3
    refine Tc Tryz.call27 (need_any k _) ?_ ?_
    ·rintro _ w10 ⟨rfl, hc3⟩
     exact Step.mono hc3 (by intro i hi; first | exact hi.elim | exact .inl hi | ((try simp only at hi ⊢); omega))
    rintro _ w10 ⟨rfl, hc3⟩
    replace hS := Step.trans hS hc3
    replace hSn := Step.trans hSn hc3
    replace hled := Ld.no hled hc3
    refine VT_end ?_
    intro w11 hs4
    replace hS := Step.trans hS hs4
    replace hSn := Step.trans hSn hs4
    replace hled := Ld.no hled hs4
    refine VL_keep [37, 39, 36] [(37, Pt nd 0), (39, I6 p), (36, I6 (needC k))] (by kernel_rfl) ?_
    refine VL_call (d := 40) (f := 28) (args := #[Pt nd 0, I6 p]) (by kernel_rfl) (by kernel_rfl) (by kernel_rfl) Tryz.call28 (link_in nd lo X rooms g p i hp hil _ (h.no hSn)) ?_
    rintro _ w12 ⟨rfl, hc4⟩
    replace hS := Step.trans hS hc4
    replace hled := Ld.no hled hc4
    refine VL_call (d := 41) (f := 29) (args := #[.pointer (some ⟨(g.lg i), 0, none⟩)]) (by kernel_rfl) (by kernel_rfl) (by kernel_rfl) Tryz.call29 (lleft_any (g.lg i) (g.lm i) r (usdL g.L (i : Int)) (g.N i) _ hled hu0 hu1 hrM) ?_
    rintro _ w13 ⟨rfl, hc5⟩
    replace hS := Step.trans hS hc5
    refine Ve (Vn (Vid ((needC k) > (r - usdL g.L (i : Int))) (fun h4 => ?_) (fun h4 => ?_)))
    ·refine Vrp (VC_ret (VQ_block_ret (VQ_then_ret (Vr1 (I6 37) ?_))))
     exact ⟨congrArg (Value.int .i64) TAdcaa, hS⟩
    ·refine VC_skip (VQ_block_normal (Vn (Vrp (VC_ret (Vr1 (I6 0) ?_)))))
     exact ⟨congrArg (Value.int .i64) TAdcaa, hS⟩

theorem nfind_any (nd lo : Nat) (X : Nat → Prop) (rooms : List Int) (g : NdG) (p v c : Int) (w : World) (h : NdX w nd X lo rooms g)  :
  CV Tryz.prog 42 #[Pt nd 0, .agg #[I6 p, I6 v, I6 c]] w (fun x w1 => x = .tuple #[I6 ((lookE (g.ci.map Ci.ent) p v c).getD 0), Bo (lookE (g.ci.map Ci.ent) p v c).isSome] ∧ Step No w w1) := by
 have hS : Step No w w := Step.refl _ _
 have hnd := h.own
 have htab := h.tab
 refine VCe Tryz.func42 (Vs (Vr ?_))
 refine Vx 0 30 #[I6 p, I6 v, I6 c] ?_
 intro b1 w1 hn1
 replace hS := Step.trans hS (hn1.step No)
 replace hnd := hnd.no (hn1.step No)
 replace htab := Tb.no htab (hn1.step No)
 have ho1 := hn1.own
 refine Ve (Vn (Vs (Vrp (Vf (VC_skip (Vn (Vs (Vd 8 [(3, Pt g.tb 0), (4, .agg #[I6 p, I6 v, I6 c]), (5, .tuple #[I6 ((lookE (g.ci.map Ci.ent) p v c).getD 0), Bo ((lookE (g.ci.map Ci.ent) p v c).isSome)])] [3, 4, 5] ?_ ?_))))))))
 ·intro w2 hs1
  replace hnd := hnd.no hs1
  replace htab := Tb.no htab hs1
  replace ho1 := ho1.no hs1
  exact ⟨Dl hnd, Dl ho1, Dc Tryz.call25 (tget p v c htab), trivial⟩
 intro w2 hs1
 replace hS := Step.trans hS hs1
 refine Ve (Vn (VC_ret (Vr2 (I6 ((lookE (g.ci.map Ci.ent) p v c).getD 0)) (Bo ((lookE (g.ci.map Ci.ent) p v c).isSome)) ?_)))
 exact ⟨rfl, hS⟩

theorem nLeft_in (nd lo : Nat) (X : Nat → Prop) (rooms : List Int) (g : NdG) (p : Int) (i : Nat) (r : Int) (hp : p = (i : Int)) (hil : i < rooms.length) (hir : rooms[i]? = some r) (w : World) (h : NdX w nd X lo rooms g)  :
  CV Tryz.prog 21 #[Pt nd 0, I6 p] w (fun x w1 => x = I6 (leftN rooms g.L p) ∧ Step No w w1) := by
 have hS : Step No w w := Step.refl _ _
 have hSn : Step No w w := Step.refl _ _
 have hled : Ld w (g.lg i) (g.lm i) r (usdL g.L (i : Int)) (g.N i) := h.led i r hir
 have hu0 := usdL_nonneg g.L (i : Int)
 have hu1 := h.li.fit i r hir
 have hrM := (h.li.rooms r (List.mem_of_getElem? hir)).2
 refine VCe Tryz.func21 (Vrp (Vs (Vr (Vp 2 ?_))))
 refine Vc 2 Tryz.call28 (link_in nd lo X rooms g p i hp hil _ (h.no hSn)) ?_
 rintro _ w1 ⟨rfl, hc1⟩
 replace hS := Step.trans hS hc1
 replace hled := Ld.no hled hc1
 refine Vc 3 Tryz.call29 (lleft_any (g.lg i) (g.lm i) r (usdL g.L (i : Int)) (g.N i) _ hled hu0 hu1 hrM) ?_
 rintro _ w2 ⟨rfl, hc2⟩
 replace hS := Step.trans hS hc2
 refine Ve (Vn (VC_ret (Vr1 (I6 (r - usdL g.L (i : Int))) ?_)))
 exact ⟨congrArg (Value.int .i64) (by rw [left_at hp hir]), hS⟩

theorem nLeft_ou (nd lo : Nat) (X : Nat → Prop) (rooms : List Int) (g : NdG) (p : Int) (hp : ¬ (0 ≤ p ∧ p < rooms.length)) (w : World) (h : NdX w nd X lo rooms g)  :
  CV Tryz.prog 21 #[Pt nd 0, I6 p] w (fun x w1 => x = I6 (leftN rooms g.L p) ∧ Step No w w1) := by
 have hS : Step No w w := Step.refl _ _
 have hSn : Step No w w := Step.refl _ _
 refine VCe Tryz.func21 (Vrp (Vs (Vr (Vp 2 ?_))))
 refine Vc 2 Tryz.call28 (link_out nd lo X rooms g p hp _ (h.no hSn)) ?_
 rintro _ w1 ⟨rfl, hc1⟩
 replace hS := Step.trans hS hc1
 refine Vc 3 Tryz.call29 (lleft_nil _) ?_
 rintro _ w2 ⟨rfl, hc2⟩
 replace hS := Step.trans hS hc2
 refine Ve (Vn (VC_ret (Vr1 (I6 0) ?_)))
 exact ⟨congrArg (Value.int .i64) (by unfold leftN; rw [if_neg hp]), hS⟩

theorem nLeft_any (nd lo : Nat) (X : Nat → Prop) (rooms : List Int) (g : NdG) (p : Int) (w : World) (h : NdX w nd X lo rooms g) : CV Tryz.prog 21 #[.pointer (some ⟨nd, 0, none⟩), .int .i64 p] w fun x w1 => x = .int .i64 (leftN rooms g.L p) ∧ Step No w w1 := by
  by_cases hp : 0 ≤ p ∧ p < rooms.length
  · obtain ⟨i, r, e, hil, hir⟩ := port_nat hp
    exact nLeft_in nd lo X rooms g p i r e hil hir w h
  · exact nLeft_ou nd lo X rooms g p hp w h
theorem nUsed_in (nd lo : Nat) (X : Nat → Prop) (rooms : List Int) (g : NdG) (p : Int) (i : Nat) (r : Int) (hp : p = (i : Int)) (hil : i < rooms.length) (hir : rooms[i]? = some r) (w : World) (h : NdX w nd X lo rooms g)  :
  CV Tryz.prog 20 #[Pt nd 0, I6 p] w (fun x w1 => x = I6 (usedN rooms g.L p) ∧ Step No w w1) := by
 have hS : Step No w w := Step.refl _ _
 have hSn : Step No w w := Step.refl _ _
 have hled : Ld w (g.lg i) (g.lm i) r (usdL g.L (i : Int)) (g.N i) := h.led i r hir
 have hu0 := usdL_nonneg g.L (i : Int)
 have hu1 := h.li.fit i r hir
 have hrM := (h.li.rooms r (List.mem_of_getElem? hir)).2
 refine VCe Tryz.func20 (Vrp (Vs (Vr (Vp 2 ?_))))
 refine Vc 2 Tryz.call28 (link_in nd lo X rooms g p i hp hil _ (h.no hSn)) ?_
 rintro _ w1 ⟨rfl, hc1⟩
 replace hS := Step.trans hS hc1
 replace hled := Ld.no hled hc1
 refine Vc 3 Tryz.call50 (lused_any (g.lg i) (g.lm i) r (usdL g.L (i : Int)) (g.N i) _ hled hu0 hu1 hrM) ?_
 rintro _ w2 ⟨rfl, hc2⟩
 replace hS := Step.trans hS hc2
 refine Ve (Vn (VC_ret (Vr1 (I6 (usdL g.L (i : Int))) ?_)))
 exact ⟨congrArg (Value.int .i64) (by unfold usedN; rw [if_pos ⟨by omega, by omega⟩, hp]), hS⟩

theorem nUsed_ou (nd lo : Nat) (X : Nat → Prop) (rooms : List Int) (g : NdG) (p : Int) (hp : ¬ (0 ≤ p ∧ p < rooms.length)) (w : World) (h : NdX w nd X lo rooms g)  :
  CV Tryz.prog 20 #[Pt nd 0, I6 p] w (fun x w1 => x = I6 (usedN rooms g.L p) ∧ Step No w w1) := by
 have hS : Step No w w := Step.refl _ _
 have hSn : Step No w w := Step.refl _ _
 refine VCe Tryz.func20 (Vrp (Vs (Vr (Vp 2 ?_))))
 refine Vc 2 Tryz.call28 (link_out nd lo X rooms g p hp _ (h.no hSn)) ?_
 rintro _ w1 ⟨rfl, hc1⟩
 replace hS := Step.trans hS hc1
 refine Vc 3 Tryz.call50 (lused_nil _) ?_
 rintro _ w2 ⟨rfl, hc2⟩
 replace hS := Step.trans hS hc2
 refine Ve (Vn (VC_ret (Vr1 (I6 0) ?_)))
 exact ⟨congrArg (Value.int .i64) (by unfold usedN; rw [if_neg hp]), hS⟩

theorem nUsed_any (nd lo : Nat) (X : Nat → Prop) (rooms : List Int) (g : NdG) (p : Int) (w : World) (h : NdX w nd X lo rooms g) : CV Tryz.prog 20 #[.pointer (some ⟨nd, 0, none⟩), .int .i64 p] w fun x w1 => x = .int .i64 (usedN rooms g.L p) ∧ Step No w w1 := by
  by_cases hp : 0 ≤ p ∧ p < rooms.length
  · obtain ⟨i, r, e, hil, hir⟩ := port_nat hp
    exact nUsed_in nd lo X rooms g p i r e hil hir w h
  · exact nUsed_ou nd lo X rooms g p hp w h
end Go.Proofs.YthchmlidobgkoaaGreat
end

section
/- Layer 20: a node is turned. -/
set_option linter.unusedVariables false
set_option linter.unusedSimpArgs false
set_option maxRecDepth 100000
set_option maxHeartbeats 4000000
namespace Go.Proofs.YthchmlidobgkoaaGreat
open Go.Vc Go.RowKit
theorem TAdeaa {P : Prop} (h : P := by intro i hi; first | exact hi.elim | exact .inl hi | ((try simp only at hi ⊢); omega)) : P := h

theorem nput_any (nd cm : Nat) (x0 x1 x3 : Value) (M : List (Int × (Con × Nat))) (id : Int) (k : Con) (hr : rightC k = 0) (w : World) (hnd : Own w nd #[x0, x1, .map (some cm), x3] 50) (hcm : MapL w cm ei uc M) :
  CV Tryz.prog 37 #[Pt nd 0, I6 id, .agg #[I6 k.kind, I6 k.peak, I6 k.early, I6 k.whole, I6 k.burst, I6 k.least]] w (fun x w1 => ∃ pp Y, x = .tuple #[] ∧ (∀ q, Y q → w.heap.size ≤ q) ∧ Pl w1 pp Y (alwaysC k) (rulesC k) ∧ MapL w1 cm ei uc (putM M id (k, pp)) ∧ Step (Just cm) w w1) := by
 have hS : Step (Just cm) w w := Step.refl _ _
 have hml := hcm.lt
 refine VCe Tryz.func37 (Vs (Vr ?_))
 refine Vx 0 32 #[I6 k.kind, I6 k.peak, I6 k.early, I6 k.whole, I6 k.burst, I6 k.least] ?_
 intro b1 w1 hn1
 replace hS := Step.trans hS (Step.weak (hn1.step No))
 replace hnd := hnd.no (hn1.step No)
 replace hcm := MapL.no hcm (hn1.step No)
 have ho1 := hn1.own
 have hzhn1 := hn1.size
 have hqhn1 := hn1.eqb
 refine Ve (Vn (Vs (Vr (Vl 0 ho1 ?_))))
 refine Vc 1 Tryz.call60 (pnew_any k hr _) ?_
 rintro _ w2 ⟨pp9, Y9, rfl, hY9, hPl, hc1⟩
 replace hS := Step.trans hS (Step.weak hc1)
 replace hnd := hnd.no hc1
 replace hcm := MapL.no hcm hc1
 replace ho1 := ho1.no hc1
 replace hY9 : ∀ q, Y9 q → w.heap.size ≤ q := fun q hq => by have h9 := hY9 q hq; omega
 refine Ve (Vn ?_)
 have hs1 := drew_step w2
 have hs1z : w2.heap.size = w2.drew.heap.size := rfl
 refine Tx 8 (fun k => w2.heap.size ≤ k) [] [0, 1, 2, 3, 4, 5, 6, 7] ?_
 have hzl6 := hnd.lt
 have hzl8 := ho1.lt
 generalize w2.drew = w3 at hs1 hs1z ⊢
 replace hS := Step.trans hS (Step.weak hs1)
 replace hnd := hnd.no hs1
 replace hcm := MapL.no hcm hs1
 replace ho1 := ho1.no hs1
 replace hPl := Pl.no hPl hs1
 refine Tp 3 (Tl (fun w4 hr1 => hnd.step hr1 (by (try simp only); omega)) (Tp 1 (Tl (fun w5 hr2 => ho1.step hr2 (by (try simp only); omega)) (Tp 2 (VT_end ?_)))))
 intro w6 hs2
 replace hS := Step.trans hS (Step.weak hs2)
 replace hcm := MapL.no hcm hs2
 replace hPl := Pl.no hPl hs2
 refine VL_upd (ek := ei) (u := uc) (m := cm) (kt := 3) (k := id) (v := (k, pp9)) (by kernel_rfl) (by kernel_rfl) keyTi hcm ?_
 intro w7 hw1
 replace hS := Step.trans hS (Step.mono hw1.step (by intro i hi; first | exact hi | exact ⟨_, by assumption, hi⟩ | (have hi9 : i = cm := hi; (first | show _ ∨ _ | show _ = _); omega)))
 replace hPl := Pl.step hPl hw1.step (fun q9 hq9 hF9 => by have h9 := hY9 q9 hq9; have hF8 : q9 = cm := hF9; omega)
 have hM1 := hw1.map
 refine Ve (Vr0 ?_)
 exact ⟨pp9, Y9, rfl, hY9, hPl, hM1, hS⟩

theorem take_yes (nd lo : Nat) (X : Nat → Prop) (rooms : List Int) (g : NdG) (p v c : Int) (k : Con) (hnx : g.next < 1152921504606846976) (hc : chkN rooms g.L p v c k = 0) (w : World) (hlo : lo ≤ w.heap.size) (h : NdX w nd X lo rooms g)  :
  CV Tryz.prog 10 #[Pt nd 0, .agg #[I6 p, I6 v, I6 c], .agg #[I6 k.kind, I6 k.peak, I6 k.early, I6 k.whole, I6 k.burst, I6 k.least]] w (fun x w1 => x = I6 0 ∧ ∃ g9 X9, NdX w1 nd X9 lo rooms g9 ∧ g9.L = takeN rooms g.L p v c k ∧ g9.next ≤ g.next + 1 ∧ (∀ q, X9 q → X q ∨ w.heap.size ≤ q) ∧ Step X w w1) := by
 obtain ⟨hw, hfn, hlt, hfit0⟩ := chkN_zero hc
 obtain ⟨⟨hp1, hp2⟩, hw2, hw3, hr⟩ := wrongN_zero hw
 obtain ⟨i, r, hp, hil, hir⟩ := port_nat ⟨hp1, hp2⟩
 have hu0 := usdL_nonneg g.L (i : Int)
 obtain ⟨hla, hrw, hxb⟩ := h.links (by omega)
 have hnd := h.own
 rw [hla] at hnd
 have htab := h.tab
 have hled : Ld w (g.lg i) (g.lm i) r (usdL g.L (i : Int)) (g.N i) := h.led i r hir
 have hu1 := h.li.fit i r hir
 have hrM := (h.li.rooms r (List.mem_of_getElem? hir)).2
 have hcm := h.cmap
 have hS : Step (fiveF nd g i) w w := Step.refl _ _
 have hSn : Step No w w := Step.refl _ _
 obtain ⟨n1, n2, n3, n4, n5, n6, n7, n8, n9, n10⟩ := h.five hil
 have hnl := hnd.lt
 have htl := htab.lt
 have hll := hled.lt
 have hb5 : g.lb ≠ nd ∧ g.lb ≠ g.tb ∧ g.lb ≠ g.cm ∧ g.lb ≠ g.lg i ∧ g.lb ≠ g.lm i := by have t1 := h.t_nd; have t2 := h.t_tb; have t3 := h.t_cm; have t4 := h.t_lg hil; have t5 := h.t_lm hil; have t6 := h.t_lb (by omega); refine ⟨?_, ?_, ?_, ?_, ?_⟩ <;> (intro e; rw [e] at t6; omega)
 have hfit : needC k ≤ r - usdL g.L (i : Int) := by rw [← left_at hp hir]; exact hfit0
 have hnone : getM (g.N i) ((g.next : Nat) : Int) = none := by cases e9 : getM (g.N i) ((g.next : Nat) : Int) with | none => rfl | some n9 => exact absurd (h.nlt i hil _ _ e9) (by omega)
 refine VCe Tryz.func10 (Vs (Vr ?_))
 refine Vx 0 30 #[I6 p, I6 v, I6 c] ?_
 intro b1 w1 hn1
 replace hSn := Step.trans hSn (hn1.step No)
 replace hS := stepG_no hS (hn1.step No)
 replace hnd := hnd.no (hn1.step No)
 replace hrw := RowE.no hrw (hn1.step No)
 replace htab := Tb.no htab (hn1.step No)
 replace hled := Ld.no hled (hn1.step No)
 replace hcm := MapL.no hcm (hn1.step No)
 have ho1 := hn1.own
 have hzhn1 := hn1.size
 have hqhn1 := hn1.eqb
 refine Vx 1 32 #[I6 k.kind, I6 k.peak, I6 k.early, I6 k.whole, I6 k.burst, I6 k.least] ?_
 intro b2 w2 hn2
 replace hSn := Step.trans hSn (hn2.step No)
 replace hS := stepG_no hS (hn2.step No)
 replace hnd := hnd.no (hn2.step No)
 replace hrw := RowE.no hrw (hn2.step No)
 replace htab := Tb.no htab (hn2.step No)
 replace hled := Ld.no hled (hn2.step No)
 replace hcm := MapL.no hcm (hn2.step No)
 replace ho1 := ho1.no (hn2.step No)
 have ho2 := hn2.own
 have hzhn2 := hn2.size
 have hqhn2 := hn2.eqb
 refine Ve (Vn (Vs (Vs (Vr (Vl 1 ho1 (Vl 2 ho2 ?_))))))
 refine Vc 3 Tryz.call8 ((check_any nd lo X rooms g p v c k _ (h.no hSn)).mono (fun x w1 h9 => ⟨h9.1.trans (by rw [hc]), h9.2⟩ : ∀ x w1, _ → x = I6 0 ∧ Step No _ w1)) ?_
 rintro _ w3 ⟨rfl, hc1⟩
 replace hS := stepG_no hS hc1
 replace hnd := hnd.no hc1
 replace hrw := RowE.no hrw hc1
 replace htab := Tb.no htab hc1
 replace hled := Ld.no hled hc1
 replace hcm := MapL.no hcm hc1
 replace ho1 := ho1.no hc1
 replace ho2 := ho2.no hc1
 refine Ve (Vn (Vrp (Vf (VC_skip (Vn (Vs (Vr (Vl 3 hnd (Ve (Vn (Vs (Vr (Vl 3 hnd (Vp 5 ?_))))))))))))))
 have he1 : IntKind.wrap .i64 (((g.next : Nat) : Int) + 1) = ((g.next + 1 : Nat) : Int) := (by rw [wrap_i64 _ (by omega) (by omega)]; omega)
 refine Vq 24 (I6 (IntKind.wrap .i64 (((g.next : Nat) : Int) + 1))) (I6 ((g.next + 1 : Nat) : Int)) (by rw [he1]) (Vst 7 (o := 3) [I6 ((g.next + 1 : Nat) : Int)] hnd #[.slice (some ⟨g.lb, 0, none⟩) rooms.length g.lc, Pt g.tb 0, .map (some g.cm), I6 ((g.next + 1 : Nat) : Int)] ?_)
 intro w4 hw1
 replace hS := Step.trans hS (Step.mono hw1.step (fun i9 h9 => .inl h9))
 replace hrw := RowE.step hrw hw1.step (show ¬ g.lb = nd by omega)
 replace htab := Tb.step htab hw1.step (show ¬ g.tb = nd by omega)
 replace hled := Ld.step hled hw1.step (show ¬ g.lg i = nd by omega) (show ¬ g.lm i = nd by omega)
 replace hcm := MapL.step hcm hw1.step (show ¬ g.cm = nd by omega)
 replace ho1 := ho1.step hw1.step (show ¬ b1 = nd by omega)
 replace ho2 := ho2.step hw1.step (show ¬ b2 = nd by omega)
 have ho3 := hw1.own
 have hzhw1 := hw1.same
 refine Ve (Vn (Vs ?_))
 have hs1 := drew_step w4
 have hs1z : w4.heap.size = w4.drew.heap.size := rfl
 refine Tx 6 (fun k => w4.heap.size ≤ k) [] [0, 1, 2, 3, 4, 5] ?_
 have hzl24 := ho2.lt
 have hzl25 := ho3.lt
 generalize w4.drew = w5 at hs1 hs1z ⊢
 replace hS := stepG_no hS hs1
 replace hrw := RowE.no hrw hs1
 replace htab := Tb.no htab hs1
 replace hled := Ld.no hled hs1
 replace hcm := MapL.no hcm hs1
 replace ho1 := ho1.no hs1
 replace ho2 := ho2.no hs1
 replace ho3 := ho3.no hs1
 refine Tp 3 (Tl (fun w6 hr1 => ho3.step hr1 (by (try simp only); omega)) (Tl (fun w7 hr2 => ho1.step hr2 (by (try simp only); omega)) (Tp 1 (VT_end ?_))))
 intro w8 hs2
 replace hS := stepG_no hS hs2
 replace hrw := RowE.no hrw hs2
 replace htab := Tb.no htab hs2
 replace hled := Ld.no hled hs2
 replace hcm := MapL.no hcm hs2
 replace ho1 := ho1.no hs2
 replace ho2 := ho2.no hs2
 replace ho3 := ho3.no hs2
 refine VL_keep [0, 4, 5, 8, 30, 31, 32] [(0, Pt nd 0), (4, Pt b1 0), (5, Pt b2 0), (8, I6 ((g.next : Nat) : Int)), (30, Pt g.tb 0), (31, .agg #[I6 p, I6 v, I6 c]), (32, I6 ((g.next : Nat) : Int))] (by kernel_rfl) ?_
 refine VL_call (d := 33) (f := 35) (args := #[Pt g.tb 0, .agg #[I6 p, I6 v, I6 c], I6 ((g.next : Nat) : Int)]) (by kernel_rfl) (by kernel_rfl) (by kernel_rfl) Tryz.call35 (tput p v c ((g.next : Nat) : Int) htab) ?_
 rintro _ w9 ⟨rfl, hT1, hc2⟩
 replace hS := Step.trans hS (Step.mono hc2 (fun i9 h9 => .inr (.inl h9)))
 replace hrw := RowE.step hrw hc2 (show ¬ g.lb = g.tb by omega)
 replace hled := Ld.step hled hc2 (show ¬ g.lg i = g.tb by omega) (show ¬ g.lm i = g.tb by omega)
 replace hcm := MapL.step hcm hc2 (show ¬ g.cm = g.tb by omega)
 replace ho1 := ho1.step hc2 (show ¬ b1 = g.tb by omega)
 replace ho2 := ho2.step hc2 (show ¬ b2 = g.tb by omega)
 replace ho3 := ho3.step hc2 (show ¬ nd = g.tb by omega)
 refine Ve (Vn (Vs ?_))
 have hs3 := drew_step w9
 have hs3z : w9.heap.size = w9.drew.heap.size := rfl
 refine Tx 7 (fun k => w9.heap.size ≤ k) [3, 6] [0, 1, 2, 4, 5, 3, 6] ?_
 have hzl37 := ho2.lt
 generalize w9.drew = w10 at hs3 hs3z ⊢
 replace hS := stepG_no hS hs3
 replace hrw := RowE.no hrw hs3
 replace hled := Ld.no hled hs3
 replace hcm := MapL.no hcm hs3
 replace ho1 := ho1.no hs3
 replace ho2 := ho2.no hs3
 replace ho3 := ho3.no hs3
 replace hT1 := Tb.no hT1 hs3
 refine Tp 2 (Tl (fun w11 hr3 => ho1.step hr3 (by (try simp only); omega)) (Tp 1 (Tl (fun w12 hr4 => ho2.step hr4 (by (try simp only); omega)) (Th ?_))))
 intro w13 hs4
 replace hS := stepG_no hS hs4
 replace hrw := RowE.no hrw hs4
 replace hled := Ld.no hled hs4
 replace hcm := MapL.no hcm hs4
 replace ho2 := ho2.no hs4
 replace ho3 := ho3.no hs4
 replace hT1 := Tb.no hT1 hs4
 refine Tc Tryz.call28 (link_raw nd rooms g _ _ _ p i hp hil _ ho3 hrw) ?_ ?_
 ·rintro _ w14 ⟨rfl, hc3⟩
  exact Step.mono hc3 TAdeaa
 rintro _ w14 ⟨rfl, hc3⟩
 replace hS := stepG_no hS hc3
 replace hled := Ld.no hled hc3
 replace hcm := MapL.no hcm hc3
 replace ho2 := ho2.no hc3
 replace ho3 := ho3.no hc3
 replace hT1 := Tb.no hT1 hc3
 refine Th ?_
 intro w15 hs5
 replace hS := stepG_no hS hs5
 replace hled := Ld.no hled hs5
 replace hcm := MapL.no hcm hs5
 replace ho2 := ho2.no hs5
 replace ho3 := ho3.no hs5
 replace hT1 := Tb.no hT1 hs5
 refine Tc Tryz.call27 (need_any k _) ?_ ?_
 ·rintro _ w16 ⟨rfl, hc4⟩
  exact Step.mono hc4 TAdeaa
 rintro _ w16 ⟨rfl, hc4⟩
 replace hS := stepG_no hS hc4
 replace hled := Ld.no hled hc4
 replace hcm := MapL.no hcm hc4
 replace ho2 := ho2.no hc4
 replace ho3 := ho3.no hc4
 replace hT1 := Tb.no hT1 hc4
 refine VT_end ?_
 intro w17 hs6
 replace hS := stepG_no hS hs6
 replace hled := Ld.no hled hs6
 replace hcm := MapL.no hcm hs6
 replace ho2 := ho2.no hs6
 replace ho3 := ho3.no hs6
 replace hT1 := Tb.no hT1 hs6
 refine VL_keep [0, 5, 8, 38, 37, 40] [(0, Pt nd 0), (5, Pt b2 0), (8, I6 ((g.next : Nat) : Int)), (38, I6 ((g.next : Nat) : Int)), (37, .pointer (some ⟨(g.lg i), 0, none⟩)), (40, I6 (needC k))] (by kernel_rfl) ?_
 refine VL_call (d := 41) (f := 36) (args := #[.pointer (some ⟨(g.lg i), 0, none⟩), I6 ((g.next : Nat) : Int), I6 (needC k)]) (by kernel_rfl) (by kernel_rfl) (by kernel_rfl) Tryz.call36 (lbook_any (g.lg i) (g.lm i) r (usdL g.L (i : Int)) (g.N i) ((g.next : Nat) : Int) (needC k) _ hled hu0 hu1 hrM (by first | exact hnone | assumption) (needC_le k).1 hfit) ?_
 rintro _ w18 ⟨rfl, hL1, hc5⟩
 replace hS := Step.trans hS (Step.mono hc5 (fun i9 h9 => by rcases h9 with h9 | h9; exact .inr (.inr (.inr (.inl h9))); exact .inr (.inr (.inr (.inr h9)))))
 replace hcm := MapL.step hcm hc5 (by (try simp only); omega)
 replace ho2 := ho2.step hc5 (by (try simp only); omega)
 replace ho3 := ho3.step hc5 (by (try simp only); omega)
 replace hT1 := Tb.step hT1 hc5 (by (try simp only); omega)
 refine Ve (Vn (Vs (Vr (Vl 2 ho2 ?_))))
 have hzl64 := ho2.lt
 refine Vc 3 Tryz.call37 (nput_any nd g.cm _ _ _ g.M ((g.next : Nat) : Int) k hr _ ho3 hcm) ?_
 rintro _ w19 ⟨pp9, Y9, rfl, hY9, hPl, hM1, hc6⟩
 replace hS := Step.trans hS (Step.mono hc6 (fun i9 h9 => .inr (.inr (.inl h9))))
 replace ho3 := ho3.step hc6 (show ¬ nd = g.cm by omega)
 replace hT1 := Tb.step hT1 hc6 (show ¬ g.tb = g.cm by omega)
 replace hL1 := Ld.step hL1 hc6 (show ¬ g.lg i = g.cm by omega) (show ¬ g.lm i = g.cm by omega)
 replace hY9 : ∀ q, Y9 q → w.heap.size ≤ q := fun q hq => by have h9 := hY9 q hq; omega
 refine Ve (Vn (Vrp (VC_ret (Vr1 (I6 0) ?_))))
 have hX9 := h.took hir hp hc hS (Own.cast ho3 (by rw [hla])) hT1 hL1 hM1 hPl hY9 hlo
 exact ⟨rfl, _, _, hX9, by unfold takeN; rw [if_pos hc]; exact insI_x _ _, Nat.le_refl _, fun q hq => hq.elim .inl (fun h9 => .inr (hY9 q h9)), Step.mono hS (fiveF_X h hil)⟩

theorem take_any (nd lo : Nat) (X : Nat → Prop) (rooms : List Int) (g : NdG) (p v c : Int) (k : Con) (hnx : g.next < 1152921504606846976) (w : World) (hlo : lo ≤ w.heap.size) (h : NdX w nd X lo rooms g) (hno : ¬ chkN rooms g.L p v c k = 0 → CV Tryz.prog 10 #[.pointer (some ⟨nd, 0, none⟩), .agg #[.int .i64 p, .int .i64 v, .int .i64 c], .agg #[.int .i64 k.kind, .int .i64 k.peak, .int .i64 k.early, .int .i64 k.whole, .int .i64 k.burst, .int .i64 k.least]] w fun x w1 => x = .int .i64 (chkN rooms g.L p v c k) ∧ Step No w w1) : CV Tryz.prog 10 #[.pointer (some ⟨nd, 0, none⟩), .agg #[.int .i64 p, .int .i64 v, .int .i64 c], .agg #[.int .i64 k.kind, .int .i64 k.peak, .int .i64 k.early, .int .i64 k.whole, .int .i64 k.burst, .int .i64 k.least]] w (fun x w1 => x = .int .i64 (chkN rooms g.L p v c k) ∧ ∃ g9 X9, NdX w1 nd X9 lo rooms g9 ∧ g9.L = takeN rooms g.L p v c k ∧ g9.next ≤ g.next + 1 ∧ (∀ q, X9 q → X q ∨ w.heap.size ≤ q) ∧ Step X w w1) := by
  by_cases hc : chkN rooms g.L p v c k = 0
  · have := take_yes nd lo X rooms g p v c k hnx hc w hlo h
    rw [hc]; exact this
  · refine (hno hc).mono ?_
    rintro x w1 ⟨rfl, hs⟩
    exact ⟨rfl, g, X, h.no hs, by unfold takeN; rw [if_neg hc], by omega, fun q hq => .inl hq, hs.weak⟩
theorem take_no (nd lo : Nat) (X : Nat → Prop) (rooms : List Int) (g : NdG) (p v c : Int) (k : Con) (hc : ¬ chkN rooms g.L p v c k = 0) (w : World) (h : NdX w nd X lo rooms g)  :
  CV Tryz.prog 10 #[Pt nd 0, .agg #[I6 p, I6 v, I6 c], .agg #[I6 k.kind, I6 k.peak, I6 k.early, I6 k.whole, I6 k.burst, I6 k.least]] w (fun x w1 => x = I6 (chkN rooms g.L p v c k) ∧ Step No w w1) := by
 have hS : Step No w w := Step.refl _ _
 have hSn : Step No w w := Step.refl _ _
 refine VCe Tryz.func10 (Vs (Vr ?_))
 refine Vx 0 30 #[I6 p, I6 v, I6 c] ?_
 intro b1 w1 hn1
 replace hS := Step.trans hS (hn1.step No)
 replace hSn := Step.trans hSn (hn1.step No)
 have ho1 := hn1.own
 refine Vx 1 32 #[I6 k.kind, I6 k.peak, I6 k.early, I6 k.whole, I6 k.burst, I6 k.least] ?_
 intro b2 w2 hn2
 replace hS := Step.trans hS (hn2.step No)
 replace hSn := Step.trans hSn (hn2.step No)
 replace ho1 := ho1.no (hn2.step No)
 have ho2 := hn2.own
 refine Ve (Vn (Vs (Vs (Vr (Vl 1 ho1 (Vl 2 ho2 ?_))))))
 refine Vc 3 Tryz.call8 (check_any nd lo X rooms g p v c k _ (h.no hSn)) ?_
 rintro _ w3 ⟨rfl, hc1⟩
 replace hS := Step.trans hS hc1
 refine Ve (Vn (Vrp (Vit (b := (chkN rooms g.L p v c k) != 0) (by first | exact bne_iff_ne.2 hc | exact beq_eq_false_iff_ne.2 hc) (Vrp (VC_ret (VQ_then_ret (Vr1 (I6 (chkN rooms g.L p v c k)) ?_)))))))
 exact ⟨rfl, hS⟩

theorem change_no (nd lo : Nat) (X : Nat → Prop) (rooms : List Int) (g : NdG) (p v c : Int) (k : Con) (hc : ¬ chgK rooms g.L p v c k = 0) (w : World) (h : NdX w nd X lo rooms g)  :
  CV Tryz.prog 12 #[Pt nd 0, .agg #[I6 p, I6 v, I6 c], .agg #[I6 k.kind, I6 k.peak, I6 k.early, I6 k.whole, I6 k.burst, I6 k.least]] w (fun x w1 => x = I6 (chgK rooms g.L p v c k) ∧ Step No w w1) := by
 have hS : Step No w w := Step.refl _ _
 have hSn : Step No w w := Step.refl _ _
 have hnd := h.own
 have htab := h.tab
 refine VCe Tryz.func12 (Vs (Vr ?_))
 refine Vx 0 30 #[I6 p, I6 v, I6 c] ?_
 intro b1 w1 hn1
 replace hS := Step.trans hS (hn1.step No)
 replace hSn := Step.trans hSn (hn1.step No)
 replace hnd := hnd.no (hn1.step No)
 replace htab := Tb.no htab (hn1.step No)
 have ho1 := hn1.own
 have hzhn1 := hn1.size
 have hqhn1 := hn1.eqb
 refine Vx 1 32 #[I6 k.kind, I6 k.peak, I6 k.early, I6 k.whole, I6 k.burst, I6 k.least] ?_
 intro b2 w2 hn2
 replace hS := Step.trans hS (hn2.step No)
 replace hSn := Step.trans hSn (hn2.step No)
 replace hnd := hnd.no (hn2.step No)
 replace htab := Tb.no htab (hn2.step No)
 replace ho1 := ho1.no (hn2.step No)
 have ho2 := hn2.own
 have hzhn2 := hn2.size
 have hqhn2 := hn2.eqb
 refine Ve (Vn (Vs (Vs (Vr (Vl 1 ho1 (Vl 2 ho2 ?_))))))
 refine Vc 3 Tryz.call24 (wrong_any nd lo X rooms g p v c k _ (h.no hSn)) ?_
 rintro _ w3 ⟨rfl, hc1⟩
 replace hS := Step.trans hS hc1
 replace hSn := Step.trans hSn hc1
 replace hnd := hnd.no hc1
 replace htab := Tb.no htab hc1
 replace ho1 := ho1.no hc1
 replace ho2 := ho2.no hc1
 refine Ve (Vn (Vrp (Viu (wrongN rooms p v c k) 0 (fun h1 => ?_) (fun h1 => ?_))))
 ·refine Vrp (VC_ret (VQ_then_ret (Vr1 (I6 (wrongN rooms p v c k)) ?_)))
  exact ⟨congrArg (Value.int .i64) (by exact chg_w (by assumption)), hS⟩
 ·refine VC_skip (Vn (Vs (Vd 10 [(3, Pt g.tb 0), (4, .agg #[I6 p, I6 v, I6 c]), (5, .tuple #[I6 ((lookE (g.ci.map Ci.ent) p v c).getD 0), Bo ((lookE (g.ci.map Ci.ent) p v c).isSome)])] [3, 4, 5] ?_ ?_)))
  ·intro w4 hs1
   replace hnd := hnd.no hs1
   replace htab := Tb.no htab hs1
   replace ho1 := ho1.no hs1
   exact ⟨Dl hnd, Dl ho1, Dc Tryz.call25 (tget p v c htab), trivial⟩
  intro w4 hs1
  replace hS := Step.trans hS hs1
  replace hSn := Step.trans hSn hs1
  replace ho1 := ho1.no hs1
  replace ho2 := ho2.no hs1
  refine Ve (Vn (Vs (VC_block (Vrp (Vif (!((lookE (g.ci.map Ci.ent) p v c).isSome)) (fun h2 => ?_) (fun h2 => ?_))))))
  ·try simp only [BB] at h2
   refine Vrp (VC_ret (VQ_block_ret (VQ_then_ret (Vr1 (I6 81) ?_))))
   exact ⟨congrArg (Value.int .i64) (by exact chg_81 (by assumption) (by assumption)), hS⟩
  ·try simp only [BB] at h2
   refine Vs ?_
   obtain ⟨y, i, r, hfI, hym, hlk, hp, hil, hir, hled0, hnn, hmm, hpl0, hfc, hu0, hu1, hrM, hnu⟩ := h.there (by assumption)
   have hw0 : wrongN rooms p v c k = 0 := by assumption
   have hbig : needC k > r - usdL g.L (i : Int) + needC y.x.k := Decidable.byContradiction (fun h9 => hc (by unfold chgK; rw [if_pos hw0, hfc]; simp only; rw [if_neg (by rw [left_at hp hir]; exact h9)]))
   have hled := hled0.no hSn
   have hs2 := drew_step w4
   have hs2z : w4.heap.size = w4.drew.heap.size := rfl
   refine Tx 7 (fun k => w4.heap.size ≤ k) [3, 6] [0, 1, 2, 4, 5, 3, 6] ?_
   have hzl13 := ho2.lt
   generalize w4.drew = w5 at hs2 hs2z ⊢
   replace hS := Step.trans hS hs2
   replace hSn := Step.trans hSn hs2
   replace ho1 := ho1.no hs2
   replace ho2 := ho2.no hs2
   replace hled := Ld.no hled hs2
   refine Tp 2 (Tl (fun w6 hr1 => ho1.step hr1 (by (try simp only); omega)) (Tp 1 (Tl (fun w7 hr2 => ho2.step hr2 (by (try simp only); omega)) (Th ?_))))
   intro w8 hs3
   replace hS := Step.trans hS hs3
   replace hSn := Step.trans hSn hs3
   replace hled := Ld.no hled hs3
   refine Tc Tryz.call28 (link_in nd lo X rooms g p i hp hil _ (h.no hSn)) ?_ ?_
   ·rintro _ w9 ⟨rfl, hc2⟩
    exact Step.mono hc2 TAdeaa
   rintro _ w9 ⟨rfl, hc2⟩
   replace hS := Step.trans hS hc2
   replace hled := Ld.no hled hc2
   refine Th ?_
   intro w10 hs4
   replace hS := Step.trans hS hs4
   replace hled := Ld.no hled hs4
   refine Tc Tryz.call27 (need_any k _) ?_ ?_
   ·rintro _ w11 ⟨rfl, hc3⟩
    exact Step.mono hc3 TAdeaa
   rintro _ w11 ⟨rfl, hc3⟩
   replace hS := Step.trans hS hc3
   replace hled := Ld.no hled hc3
   refine VT_end ?_
   intro w12 hs5
   replace hS := Step.trans hS hs5
   replace hled := Ld.no hled hs5
   refine VL_keep [0, 5, 8, 34, 33, 36] [(0, Pt nd 0), (5, Pt b2 0), (8, I6 ((lookE (g.ci.map Ci.ent) p v c).getD 0)), (34, I6 ((lookE (g.ci.map Ci.ent) p v c).getD 0)), (33, .pointer (some ⟨(g.lg i), 0, none⟩)), (36, I6 (needC k))] (by kernel_rfl) ?_
   refine VL_call (d := 37) (f := 40) (args := #[.pointer (some ⟨(g.lg i), 0, none⟩), I6 ((lookE (g.ci.map Ci.ent) p v c).getD 0), I6 (needC k)]) (by kernel_rfl) (by kernel_rfl) (by kernel_rfl) Tryz.call40 (lchange_no (g.lg i) (g.lm i) r (usdL g.L (i : Int)) (g.N i) ((lookE (g.ci.map Ci.ent) p v c).getD 0) (needC k) (needC y.x.k) _ hled hu0 hu1 hrM (by rw [hlk]; exact hnn) (needC_le k).1 (needC_le k).2 (needC_le y.x.k).1 hnu hbig) ?_
   rintro _ w13 ⟨rfl, hc4⟩
   replace hS := Step.trans hS hc4
   refine Ve (Vn (Vt (Vrp (VC_ret (VQ_block_ret (VQ_then_ret (Vr1 (I6 37) ?_)))))))
   exact ⟨congrArg (Value.int .i64) (by unfold chgK; rw [if_pos hw0, hfc]; simp only; rw [if_pos (by rw [left_at hp hir]; exact hbig)]), hS⟩

theorem change_yes (nd lo : Nat) (X : Nat → Prop) (rooms : List Int) (g : NdG) (p v c : Int) (k : Con) (hc : chgK rooms g.L p v c k = 0) (w : World) (hlo : lo ≤ w.heap.size) (h : NdX w nd X lo rooms g)  :
  CV Tryz.prog 12 #[Pt nd 0, .agg #[I6 p, I6 v, I6 c], .agg #[I6 k.kind, I6 k.peak, I6 k.early, I6 k.whole, I6 k.burst, I6 k.least]] w (fun x w1 => x = I6 0 ∧ ∃ g9 X9, NdX w1 nd X9 lo rooms g9 ∧ g9.L = chgN rooms g.L p v c k ∧ g9.next ≤ g.next + 1 ∧ (∀ q, X9 q → X q ∨ w.heap.size ≤ q) ∧ Step X w w1) := by
 obtain ⟨hw, x9, hf9, hfit9⟩ := chgK_zero hc
 obtain ⟨⟨hp1, hp2⟩, hw2, hw3, hr⟩ := wrongN_zero hw
 obtain ⟨y, i, r, hfI, hym, hlk, hp, hil, hir, hled0, hnn, hmm, hpl0, hfc, hu0, hu1, hrM, hnu⟩ := h.there (by rw [lookE_isSome, hf9]; rfl)
 obtain ⟨hla, hrw, hxb⟩ := h.links (by omega)
 have hnd := h.own
 rw [hla] at hnd
 have htab := h.tab
 have hled : Ld w (g.lg i) (g.lm i) r (usdL g.L (i : Int)) (g.N i) := h.led i r hir
 have hcm := h.cmap
 have hS : Step (fiveF nd g i) w w := Step.refl _ _
 have hSn : Step No w w := Step.refl _ _
 obtain ⟨n1, n2, n3, n4, n5, n6, n7, n8, n9, n10⟩ := h.five hil
 have hll := hled.lt
 have hb5 : g.lb ≠ nd ∧ g.lb ≠ g.tb ∧ g.lb ≠ g.cm ∧ g.lb ≠ g.lg i ∧ g.lb ≠ g.lm i := by have t1 := h.t_nd; have t2 := h.t_tb; have t3 := h.t_cm; have t4 := h.t_lg hil; have t5 := h.t_lm hil; have t6 := h.t_lb (by omega); refine ⟨?_, ?_, ?_, ?_, ?_⟩ <;> (intro e; rw [e] at t6; omega)
 have hfit : needC k ≤ r - usdL g.L (i : Int) + needC y.x.k := by have h8 := hfit9; rw [left_at hp hir] at h8; rw [hf9] at hfc; simp only [Option.some.injEq] at hfc; rw [hfc] at h8; exact h8
 refine VCe Tryz.func12 (Vs (Vr ?_))
 refine Vx 0 30 #[I6 p, I6 v, I6 c] ?_
 intro b1 w1 hn1
 replace hSn := Step.trans hSn (hn1.step No)
 replace hS := stepG_no hS (hn1.step No)
 replace hnd := hnd.no (hn1.step No)
 replace hrw := RowE.no hrw (hn1.step No)
 replace htab := Tb.no htab (hn1.step No)
 replace hled := Ld.no hled (hn1.step No)
 replace hcm := MapL.no hcm (hn1.step No)
 have ho1 := hn1.own
 have hzhn1 := hn1.size
 have hqhn1 := hn1.eqb
 refine Vx 1 32 #[I6 k.kind, I6 k.peak, I6 k.early, I6 k.whole, I6 k.burst, I6 k.least] ?_
 intro b2 w2 hn2
 replace hSn := Step.trans hSn (hn2.step No)
 replace hS := stepG_no hS (hn2.step No)
 replace hnd := hnd.no (hn2.step No)
 replace hrw := RowE.no hrw (hn2.step No)
 replace htab := Tb.no htab (hn2.step No)
 replace hled := Ld.no hled (hn2.step No)
 replace hcm := MapL.no hcm (hn2.step No)
 replace ho1 := ho1.no (hn2.step No)
 have ho2 := hn2.own
 have hzhn2 := hn2.size
 have hqhn2 := hn2.eqb
 refine Ve (Vn (Vs (Vs (Vr (Vl 1 ho1 (Vl 2 ho2 ?_))))))
 refine Vc 3 Tryz.call24 ((wrong_any nd lo X rooms g p v c k _ (h.no hSn)).mono (fun x w1 h9 => ⟨h9.1.trans (by rw [hw]), h9.2⟩ : ∀ x w1, _ → x = I6 0 ∧ Step No _ w1)) ?_
 rintro _ w3 ⟨rfl, hc1⟩
 replace hS := stepG_no hS hc1
 replace hnd := hnd.no hc1
 replace hrw := RowE.no hrw hc1
 replace htab := Tb.no htab hc1
 replace hled := Ld.no hled hc1
 replace hcm := MapL.no hcm hc1
 replace ho1 := ho1.no hc1
 replace ho2 := ho2.no hc1
 refine Ve (Vn (Vrp (Vf (VC_skip (Vn (Vs (Vd 10 [(3, Pt g.tb 0), (4, .agg #[I6 p, I6 v, I6 c]), (5, .tuple #[I6 y.id, Bo true])] [3, 4, 5] ?_ ?_)))))))
 ·intro w4 hs1
  replace hnd := hnd.no hs1
  replace htab := Tb.no htab hs1
  replace ho1 := ho1.no hs1
  exact ⟨Dl hnd, Dl ho1, Dc Tryz.call25 ((tget p v c htab).mono (fun x w1 h9 => ⟨h9.1.trans (by rw [hlk]; rfl), h9.2⟩ : ∀ (x : Value) (w1 : World), _ → x = Value.tuple #[I6 y.id, Bo true] ∧ Step No _ w1)), trivial⟩
 intro w4 hs1
 replace hS := stepG_no hS hs1
 replace hnd := hnd.no hs1
 replace hrw := RowE.no hrw hs1
 replace htab := Tb.no htab hs1
 replace hled := Ld.no hled hs1
 replace hcm := MapL.no hcm hs1
 replace ho1 := ho1.no hs1
 replace ho2 := ho2.no hs1
 refine Ve (Vn (Vs (VC_block (Vrp (Vf (Vs ?_))))))
 have hs2 := drew_step w4
 have hs2z : w4.heap.size = w4.drew.heap.size := rfl
 refine Tx 7 (fun k => w4.heap.size ≤ k) [3, 6] [0, 1, 2, 4, 5, 3, 6] ?_
 have hzl25 := ho2.lt
 generalize w4.drew = w5 at hs2 hs2z ⊢
 replace hS := stepG_no hS hs2
 replace hnd := hnd.no hs2
 replace hrw := RowE.no hrw hs2
 replace htab := Tb.no htab hs2
 replace hled := Ld.no hled hs2
 replace hcm := MapL.no hcm hs2
 replace ho1 := ho1.no hs2
 replace ho2 := ho2.no hs2
 refine Tp 2 (Tl (fun w6 hr1 => ho1.step hr1 (by (try simp only); omega)) (Tp 1 (Tl (fun w7 hr2 => ho2.step hr2 (by (try simp only); omega)) (Th ?_))))
 intro w8 hs3
 replace hS := stepG_no hS hs3
 replace hnd := hnd.no hs3
 replace hrw := RowE.no hrw hs3
 replace htab := Tb.no htab hs3
 replace hled := Ld.no hled hs3
 replace hcm := MapL.no hcm hs3
 replace ho2 := ho2.no hs3
 refine Tc Tryz.call28 (link_raw nd rooms g _ _ _ p i hp hil _ hnd hrw) ?_ ?_
 ·rintro _ w9 ⟨rfl, hc2⟩
  exact Step.mono hc2 TAdeaa
 rintro _ w9 ⟨rfl, hc2⟩
 replace hS := stepG_no hS hc2
 replace hnd := hnd.no hc2
 replace htab := Tb.no htab hc2
 replace hled := Ld.no hled hc2
 replace hcm := MapL.no hcm hc2
 replace ho2 := ho2.no hc2
 refine Th ?_
 intro w10 hs4
 replace hS := stepG_no hS hs4
 replace hnd := hnd.no hs4
 replace htab := Tb.no htab hs4
 replace hled := Ld.no hled hs4
 replace hcm := MapL.no hcm hs4
 replace ho2 := ho2.no hs4
 refine Tc Tryz.call27 (need_any k _) ?_ ?_
 ·rintro _ w11 ⟨rfl, hc3⟩
  exact Step.mono hc3 TAdeaa
 rintro _ w11 ⟨rfl, hc3⟩
 replace hS := stepG_no hS hc3
 replace hnd := hnd.no hc3
 replace htab := Tb.no htab hc3
 replace hled := Ld.no hled hc3
 replace hcm := MapL.no hcm hc3
 replace ho2 := ho2.no hc3
 refine VT_end ?_
 intro w12 hs5
 replace hS := stepG_no hS hs5
 replace hnd := hnd.no hs5
 replace htab := Tb.no htab hs5
 replace hled := Ld.no hled hs5
 replace hcm := MapL.no hcm hs5
 replace ho2 := ho2.no hs5
 refine VL_keep [0, 5, 8, 34, 33, 36] [(0, Pt nd 0), (5, Pt b2 0), (8, I6 y.id), (34, I6 y.id), (33, .pointer (some ⟨(g.lg i), 0, none⟩)), (36, I6 (needC k))] (by kernel_rfl) ?_
 refine VL_call (d := 37) (f := 40) (args := #[.pointer (some ⟨(g.lg i), 0, none⟩), I6 y.id, I6 (needC k)]) (by kernel_rfl) (by kernel_rfl) (by kernel_rfl) Tryz.call40 (lchange_yes y.id (needC k) (needC y.x.k) hled hu0 hu1 hrM hnn (needC_le k).1 (needC_le k).2 (needC_le y.x.k).1 hnu hfit) ?_
 rintro _ w13 ⟨rfl, hL1, hc4⟩
 replace hS := Step.trans hS (Step.mono hc4 (fun i9 h9 => by rcases h9 with h9 | h9; exact .inr (.inr (.inr (.inl h9))); exact .inr (.inr (.inr (.inr h9)))))
 replace hnd := hnd.step hc4 (by (try simp only); omega)
 replace htab := Tb.step htab hc4 (by (try simp only); omega)
 replace hcm := MapL.step hcm hc4 (by (try simp only); omega)
 replace ho2 := ho2.step hc4 (by (try simp only); omega)
 refine Ve (Vn (Vf (VC_skip (VQ_block_normal (Vn (Vs (Vr (Vl 2 ho2 ?_))))))))
 have hzl52 := ho2.lt
 refine Vc 3 Tryz.call37 (nput_any nd g.cm _ _ _ g.M y.id k hr _ hnd hcm) ?_
 rintro _ w14 ⟨pp9, Y9, rfl, hY9, hPl, hM1, hc5⟩
 replace hS := Step.trans hS (Step.mono hc5 (fun i9 h9 => .inr (.inr (.inl h9))))
 replace hnd := hnd.step hc5 (show ¬ nd = g.cm by omega)
 replace htab := Tb.step htab hc5 (show ¬ g.tb = g.cm by omega)
 replace hL1 := Ld.step hL1 hc5 (show ¬ g.lg i = g.cm by omega) (show ¬ g.lm i = g.cm by omega)
 replace hY9 : ∀ q, Y9 q → w.heap.size ≤ q := fun q hq => by have h9 := hY9 q hq; omega
 refine Ve (Vn (Vrp (VC_ret (Vr1 (I6 0) ?_))))
 have hX9 := h.changed hir hp hc hfI hS (Own.cast hnd (by rw [hla])) htab hL1 hM1 hPl hY9 hlo
 exact ⟨rfl, _, _, hX9, by unfold chgN; rw [if_pos hc]; exact setI_x _ _ _ _ _ _ (fun y => rfl), Nat.le_succ _, fun q hq => hq.elim .inl (fun h9 => .inr (hY9 q h9)), Step.mono hS (fiveF_X h hil)⟩

theorem drop_yes (nd lo : Nat) (X : Nat → Prop) (rooms : List Int) (g : NdG) (p v c : Int) (w : World) (h : NdX w nd X lo rooms g) (hth : (lookE (g.ci.map Ci.ent) p v c).isSome = true) :
  CV Tryz.prog 14 #[Pt nd 0, .agg #[I6 p, I6 v, I6 c]] w (fun x w1 => x = Bo true ∧ ∃ g9 X9, NdX w1 nd X9 lo rooms g9 ∧ g9.L = delC g.L p v c ∧ g9.next ≤ g.next + 1 ∧ (∀ q, X9 q → X q ∨ w.heap.size ≤ q) ∧ Step X w w1) := by
 obtain ⟨y, i, r, hfI, hym, hlk, hp, hil, hir, hled0, hnn, hmm, hpl0, hfc, hu0, hu1, hrM, hnu⟩ := h.there hth
 obtain ⟨hla, hrw, hxb⟩ := h.links (by omega)
 have hnd := h.own
 rw [hla] at hnd
 have htab := h.tab
 have hled : Ld w (g.lg i) (g.lm i) r (usdL g.L (i : Int)) (g.N i) := h.led i r hir
 have hcm := h.cmap
 have hS : Step (fiveF nd g i) w w := Step.refl _ _
 have hSn : Step No w w := Step.refl _ _
 obtain ⟨n1, n2, n3, n4, n5, n6, n7, n8, n9, n10⟩ := h.five hil
 have htl := htab.lt
 have hb5 : g.lb ≠ nd ∧ g.lb ≠ g.tb ∧ g.lb ≠ g.cm ∧ g.lb ≠ g.lg i ∧ g.lb ≠ g.lm i := by have t1 := h.t_nd; have t2 := h.t_tb; have t3 := h.t_cm; have t4 := h.t_lg hil; have t5 := h.t_lm hil; have t6 := h.t_lb (by omega); refine ⟨?_, ?_, ?_, ?_, ?_⟩ <;> (intro e; rw [e] at t6; omega)
 refine VCe Tryz.func14 (Vs (Vr ?_))
 refine Vx 0 30 #[I6 p, I6 v, I6 c] ?_
 intro b1 w1 hn1
 replace hSn := Step.trans hSn (hn1.step No)
 replace hS := stepG_no hS (hn1.step No)
 replace hnd := hnd.no (hn1.step No)
 replace hrw := RowE.no hrw (hn1.step No)
 replace htab := Tb.no htab (hn1.step No)
 replace hled := Ld.no hled (hn1.step No)
 replace hcm := MapL.no hcm (hn1.step No)
 have ho1 := hn1.own
 have hzhn1 := hn1.size
 have hqhn1 := hn1.eqb
 refine Ve (Vn (Vs (Vr (Vl 1 ho1 ?_))))
 refine Vc 2 Tryz.call42 ((nfind_any nd lo X rooms g p v c _ (h.no hSn)).mono (fun x w1 h9 => ⟨h9.1.trans (by rw [hlk]; rfl), h9.2⟩ : ∀ (x : Value) (w1 : World), _ → x = Value.tuple #[I6 y.id, Bo true] ∧ Step No _ w1)) ?_
 rintro _ w2 ⟨rfl, hc1⟩
 replace hS := stepG_no hS hc1
 replace hnd := hnd.no hc1
 replace hrw := RowE.no hrw hc1
 replace htab := Tb.no htab hc1
 replace hled := Ld.no hled hc1
 replace hcm := MapL.no hcm hc1
 replace ho1 := ho1.no hc1
 refine Ve (Vn (Vs (Vrp (Vt (Vs ?_)))))
 have hs1 := drew_step w2
 have hs1z : w2.heap.size = w2.drew.heap.size := rfl
 refine Tx 5 (fun k => w2.heap.size ≤ k) [] [0, 1, 2, 3, 4] ?_
 have hzl12 := hnd.lt
 have hzl17 := ho1.lt
 generalize w2.drew = w3 at hs1 hs1z ⊢
 replace hS := stepG_no hS hs1
 replace hnd := hnd.no hs1
 replace hrw := RowE.no hrw hs1
 replace htab := Tb.no htab hs1
 replace hled := Ld.no hled hs1
 replace hcm := MapL.no hcm hs1
 replace ho1 := ho1.no hs1
 refine Tp 3 (Tl (fun w4 hr1 => hnd.step hr1 (by (try simp only); omega)) (Tl (fun w5 hr2 => ho1.step hr2 (by (try simp only); omega)) (VT_end ?_)))
 intro w6 hs2
 replace hS := stepG_no hS hs2
 replace hnd := hnd.no hs2
 replace hrw := RowE.no hrw hs2
 replace htab := Tb.no htab hs2
 replace hled := Ld.no hled hs2
 replace hcm := MapL.no hcm hs2
 replace ho1 := ho1.no hs2
 refine VL_keep [0, 3, 5, 6, 17, 18] [(0, Pt nd 0), (3, Pt b1 0), (5, I6 y.id), (6, Bo true), (17, Pt g.tb 0), (18, .agg #[I6 p, I6 v, I6 c])] (by kernel_rfl) ?_
 refine VL_call (d := 19) (f := 43) (args := #[Pt g.tb 0, .agg #[I6 p, I6 v, I6 c]]) (by kernel_rfl) (by kernel_rfl) (by kernel_rfl) Tryz.call43 (tdrop p v c htab) ?_
 rintro _ w7 ⟨rfl, hT1, hc2⟩
 replace hS := Step.trans hS (Step.mono hc2 (fun i9 h9 => .inr (.inl h9)))
 replace hnd := hnd.step hc2 (show ¬ nd = g.tb by omega)
 replace hrw := RowE.step hrw hc2 (show ¬ g.lb = g.tb by omega)
 replace hled := Ld.step hled hc2 (show ¬ g.lg i = g.tb by omega) (show ¬ g.lm i = g.tb by omega)
 replace hcm := MapL.step hcm hc2 (show ¬ g.cm = g.tb by omega)
 replace ho1 := ho1.step hc2 (show ¬ b1 = g.tb by omega)
 refine Ve (Vn (Vs (Vr (Vl 2 ho1 ?_))))
 refine Vc 3 Tryz.call28 (link_raw nd rooms g _ _ _ p i hp hil _ hnd hrw) ?_
 rintro _ w8 ⟨rfl, hc3⟩
 replace hS := stepG_no hS hc3
 replace hnd := hnd.no hc3
 replace hled := Ld.no hled hc3
 replace hcm := MapL.no hcm hc3
 replace hT1 := Tb.no hT1 hc3
 refine Vp 5 ?_
 refine Vc 5 Tryz.call44 (lfree_any (g.lg i) (g.lm i) r (usdL g.L (i : Int)) (g.N i) y.id (needC y.x.k) _ hled hu0 hu1 hrM hnn (needC_le y.x.k).1 hnu) ?_
 rintro _ w9 ⟨rfl, hL1, hc4⟩
 replace hS := Step.trans hS (Step.mono hc4 (fun i9 h9 => by rcases h9 with h9 | h9; exact .inr (.inr (.inr (.inl h9))); exact .inr (.inr (.inr (.inr h9)))))
 replace hnd := hnd.step hc4 (by (try simp only); omega)
 replace hcm := MapL.step hcm hc4 (by (try simp only); omega)
 replace hT1 := Tb.step hT1 hc4 (by (try simp only); omega)
 refine Ve (Vn (Vr (Vl 3 hnd (Vp 5 (VL_del (ek := ei) (u := uc) (m := g.cm) (kt := 3) (k := y.id) (by kernel_rfl) (by kernel_rfl) keyTi hcm ?_)))))
 intro w10 hw1
 replace hS := Step.trans hS (Step.mono hw1.step (fun i9 h9 => .inr (.inr (.inl h9))))
 replace hnd := hnd.step hw1.step (show ¬ nd = g.cm by omega)
 replace hT1 := Tb.step hT1 hw1.step (show ¬ g.tb = g.cm by omega)
 replace hL1 := Ld.step hL1 hw1.step (show ¬ g.lg i = g.cm by omega) (show ¬ g.lm i = g.cm by omega)
 have hM1 := hw1.map
 refine Ve (Vn (Vrp (VC_ret (Vr1 (Bo true) ?_))))
 have hX9 := h.dropped hir hp hfI hS (Own.cast hnd (by rw [hla])) hT1 hL1 hM1
 exact ⟨rfl, _, _, hX9, delI_x _ _ _ _, Nat.le_succ _, fun q hq => .inl hq, Step.mono hS (fiveF_X h hil)⟩

theorem ndrop_no (nd lo : Nat) (X : Nat → Prop) (rooms : List Int) (g : NdG) (p v c : Int) (w : World) (h : NdX w nd X lo rooms g) (hth : (lookE (g.ci.map Ci.ent) p v c).isSome = false) :
  CV Tryz.prog 14 #[Pt nd 0, .agg #[I6 p, I6 v, I6 c]] w (fun x w1 => x = Bo false ∧ Step No w w1) := by
 have hS : Step No w w := Step.refl _ _
 have hSn : Step No w w := Step.refl _ _
 refine VCe Tryz.func14 (Vs (Vr ?_))
 refine Vx 0 30 #[I6 p, I6 v, I6 c] ?_
 intro b1 w1 hn1
 replace hS := Step.trans hS (hn1.step No)
 replace hSn := Step.trans hSn (hn1.step No)
 have ho1 := hn1.own
 refine Ve (Vn (Vs (Vr (Vl 1 ho1 ?_))))
 refine Vc 2 Tryz.call42 (nfind_any nd lo X rooms g p v c _ (h.no hSn)) ?_
 rintro _ w2 ⟨rfl, hc1⟩
 replace hS := Step.trans hS hc1
 refine Ve (Vn (Vs (Vrp (Viz (b := (lookE (g.ci.map Ci.ent) p v c).isSome) hth (VC_skip (Vn (Vrp (VC_ret (Vr1 (Bo ((lookE (g.ci.map Ci.ent) p v c).isSome)) ?_)))))))))
 exact ⟨congrArg Value.bool (by first | rfl | exact hth), hS⟩

theorem contract_yes (nd lo : Nat) (X : Nat → Prop) (rooms : List Int) (g : NdG) (p v c : Int) (w : World) (h : NdX w nd X lo rooms g) (hth : (lookE (g.ci.map Ci.ent) p v c).isSome = true) :
  CV Tryz.prog 48 #[.pointer (some ⟨nd, 0, none⟩), .agg #[.int .i64 p, .int .i64 v, .int .i64 c]] w (fun x w1 => x = .tuple #[.agg #[.int .i64 (conN g.L p v c).kind, .int .i64 (conN g.L p v c).peak, .int .i64 (conN g.L p v c).early, .int .i64 (conN g.L p v c).whole, .int .i64 (conN g.L p v c).burst, .int .i64 (conN g.L p v c).least], .bool true] ∧ Step No w w1) := by
 have hS : Step No w w := Step.refl _ _
 have hSn : Step No w w := Step.refl _ _
 have hnd := h.own
 obtain ⟨y, i, r, hfI, hym, hlk, hp, hil, hir, hled0, hnn, hmm, hpl0, hfc, hu0, hu1, hrM, hnu⟩ := h.there hth
 have hcm := h.cmap
 have hcn : conN g.L p v c = y.x.k := by unfold conN; rw [hfc]
 refine CV_enter Tryz.f48 _ 24 [(0, .pointer (some ⟨nd, 0, none⟩)), (1, .agg #[.int .i64 p, .int .i64 v, .int .i64 c])] Tryz.func48 rfl rfl (by kernel_rfl) rfl ?_
 refine VC_seq ?_
 refine VC_region ?_
 refine VL_box (d := 3) (t := 30) (c := #[.int .i64 p, .int .i64 v, .int .i64 c]) (by kernel_rfl) (by kernel_rfl) ?_
 intro b1 w1 hn1
 replace hS := Step.trans hS (hn1.step No)
 replace hSn := Step.trans hSn (hn1.step No)
 replace hnd := hnd.no (hn1.step No)
 replace hcm := MapL.no hcm (hn1.step No)
 have ho1 := hn1.own
 have hzhn1 := hn1.size
 have hqhn1 := hn1.eqb
 refine VL_box (d := 4) (t := 32) (c := #[.int .i64 0, .int .i64 0, .int .i64 0, .int .i64 0, .int .i64 0, .int .i64 0]) (by kernel_rfl) (by kernel_rfl) ?_
 intro b2 w2 hn2
 replace hS := Step.trans hS (hn2.step No)
 replace hSn := Step.trans hSn (hn2.step No)
 replace hnd := hnd.no (hn2.step No)
 replace hcm := MapL.no hcm (hn2.step No)
 replace ho1 := ho1.no (hn2.step No)
 have ho2 := hn2.own
 have hzhn2 := hn2.size
 have hqhn2 := hn2.eqb
 refine VL_pure 3 [0, 3, 4] [(0, .pointer (some ⟨nd, 0, none⟩)), (3, .pointer (some ⟨b1, 0, none⟩)), (4, .pointer (some ⟨b2, 0, none⟩))] (by kernel_rfl) rfl ?_
 refine VL_end (by kernel_rfl) ?_
 refine VQ_next ?_
 refine VC_seq ?_
 refine VC_region ?_
 refine VL_pure 1 [0, 3, 4, 9] [(0, .pointer (some ⟨nd, 0, none⟩)), (3, .pointer (some ⟨b1, 0, none⟩)), (4, .pointer (some ⟨b2, 0, none⟩)), (9, .pointer (some ⟨nd, 0, none⟩))] (by kernel_rfl) rfl ?_
 refine VL_load (d := 10) (t := 30) (a := ⟨b1, 0, none⟩) (v := .agg #[.int .i64 p, .int .i64 v, .int .i64 c]) (by kernel_rfl) (by kernel_rfl) (Loads.ownL ho1 (n := 3) (by kernel_rfl) (by kernel_rfl) (by kernel_rfl)) ?_
 refine VL_call (d := 11) (f := 42) (args := #[.pointer (some ⟨nd, 0, none⟩), .agg #[.int .i64 p, .int .i64 v, .int .i64 c]]) (by kernel_rfl) (by kernel_rfl) (by kernel_rfl) Tryz.call42 ((nfind_any nd lo X rooms g p v c _ (h.no hSn)).mono (fun x w1 h9 => ⟨h9.1.trans (by rw [hlk]; rfl), h9.2⟩ : ∀ (x : Value) (w1 : World), _ → x = Value.tuple #[.int .i64 y.id, .bool true] ∧ Step No _ w1)) ?_
 rintro _ w3 ⟨rfl, hc1⟩
 replace hS := Step.trans hS hc1
 replace hnd := hnd.no hc1
 replace hcm := MapL.no hcm hc1
 replace ho2 := ho2.no hc1
 refine VL_pure 8 [0, 4, 6, 7] [(0, .pointer (some ⟨nd, 0, none⟩)), (4, .pointer (some ⟨b2, 0, none⟩)), (6, .int .i64 y.id), (7, .bool true)] (by kernel_rfl) rfl ?_
 refine VL_end (by kernel_rfl) ?_
 refine VQ_next ?_
 refine VC_seq ?_
 refine VC_seq ?_
 refine VC_region ?_
 refine VL_pure 2 [0, 4, 6, 15] [(0, .pointer (some ⟨nd, 0, none⟩)), (4, .pointer (some ⟨b2, 0, none⟩)), (6, .int .i64 y.id), (15, .bool false)] (by kernel_rfl) rfl ?_
 refine VL_end (by kernel_rfl) ?_
 refine VQ_next ?_
 refine VC_false (by kernel_rfl) ?_
 refine VC_skip ?_
 refine VQ_next ?_
 refine VC_seq ?_
 refine VC_region ?_
 refine VL_pure 3 [4, 6, 19] [(4, .pointer (some ⟨b2, 0, none⟩)), (6, .int .i64 y.id), (19, .pointer (some ⟨nd, 2, none⟩))] (by kernel_rfl) rfl ?_
 refine VL_load (d := 20) (t := 47) (a := ⟨nd, 2, none⟩) (v := .map (some g.cm)) (by kernel_rfl) (by kernel_rfl) (Loads.own1 hnd (by kernel_rfl) (by rfl)) ?_
 refine VL_pure 5 [4, 20, 21] [(4, .pointer (some ⟨b2, 0, none⟩)), (20, .map (some g.cm)), (21, .int .i64 y.id)] (by kernel_rfl) rfl ?_
 refine VL_lookup (ek := ei) (u := uc) (d := 22) (m := g.cm) (kt := 3) (z := .agg #[.int .i64 0, .int .i64 0, .int .i64 0, .int .i64 0, .int .i64 0, .int .i64 0, .pointer none]) (k := y.id) (ok := false) (by kernel_rfl) (by kernel_rfl) keyTi hcm (.agg #[.int .i64 y.x.k.kind, .int .i64 y.x.k.peak, .int .i64 y.x.k.early, .int .i64 y.x.k.whole, .int .i64 y.x.k.burst, .int .i64 y.x.k.least, .pointer (some ⟨y.pp, 0, none⟩)]) (by rw [hmm]; rfl) ?_
 refine VL_keep [4, 20, 21, 22] [(4, .pointer (some ⟨b2, 0, none⟩)), (20, .map (some g.cm)), (21, .int .i64 y.id), (22, .agg #[.int .i64 y.x.k.kind, .int .i64 y.x.k.peak, .int .i64 y.x.k.early, .int .i64 y.x.k.whole, .int .i64 y.x.k.burst, .int .i64 y.x.k.least, .pointer (some ⟨y.pp, 0, none⟩)])] (by kernel_rfl) ?_
 refine VL_pure 7 [4, 23] [(4, .pointer (some ⟨b2, 0, none⟩)), (23, .agg #[.int .i64 y.x.k.kind, .int .i64 y.x.k.peak, .int .i64 y.x.k.early, .int .i64 y.x.k.whole, .int .i64 y.x.k.burst, .int .i64 y.x.k.least])] (by kernel_rfl) rfl ?_
 refine VL_store (b := b2) (o := 0) (vs := [.int .i64 y.x.k.kind, .int .i64 y.x.k.peak, .int .i64 y.x.k.early, .int .i64 y.x.k.whole, .int .i64 y.x.k.burst, .int .i64 y.x.k.least]) (by kernel_rfl) (by kernel_rfl) ho2 (Nat.le_of_ble_eq_true (by kernel_rfl)) ?_
 intro w4 hw1
 replace hS := Step.transNew hS hw1.step (fun _ _ _ => by omega)
 have ho3 : Own w4 b2 #[.int .i64 y.x.k.kind, .int .i64 y.x.k.peak, .int .i64 y.x.k.early, .int .i64 y.x.k.whole, .int .i64 y.x.k.burst, .int .i64 y.x.k.least] 32 := Own.cast hw1.own (by kernel_rfl)
 refine VL_pure 9 [4, 5] [(4, .pointer (some ⟨b2, 0, none⟩)), (5, .bool true)] (by kernel_rfl) rfl ?_
 refine VL_end (by kernel_rfl) ?_
 refine VQ_next ?_
 refine VC_ret ?_
 refine VQ_retC1T1 (T := 32) (.agg #[.int .i64 y.x.k.kind, .int .i64 y.x.k.peak, .int .i64 y.x.k.early, .int .i64 y.x.k.whole, .int .i64 y.x.k.burst, .int .i64 y.x.k.least]) (.bool true) (.inr rfl) rfl rfl rfl (Loads.ownL ho3 (n := 6) (by kernel_rfl) (by kernel_rfl) (by kernel_rfl)) ?_
 exact ⟨by rw [hcn], hS⟩

theorem contract_no (nd lo : Nat) (X : Nat → Prop) (rooms : List Int) (g : NdG) (p v c : Int) (w : World) (h : NdX w nd X lo rooms g) (hth : (lookE (g.ci.map Ci.ent) p v c).isSome = false) :
  CV Tryz.prog 48 #[.pointer (some ⟨nd, 0, none⟩), .agg #[.int .i64 p, .int .i64 v, .int .i64 c]] w (fun x w1 => x = .tuple #[.agg #[.int .i64 (conN g.L p v c).kind, .int .i64 (conN g.L p v c).peak, .int .i64 (conN g.L p v c).early, .int .i64 (conN g.L p v c).whole, .int .i64 (conN g.L p v c).burst, .int .i64 (conN g.L p v c).least], .bool false] ∧ Step No w w1) := by
 have hS : Step No w w := Step.refl _ _
 have hSn : Step No w w := Step.refl _ _
 have hcn : conN g.L p v c = conZ := by unfold conN; rw [h.gone hth]
 refine CV_enter Tryz.f48 _ 24 [(0, .pointer (some ⟨nd, 0, none⟩)), (1, .agg #[.int .i64 p, .int .i64 v, .int .i64 c])] Tryz.func48 rfl rfl (by kernel_rfl) rfl ?_
 refine VC_seq ?_
 refine VC_region ?_
 refine VL_box (d := 3) (t := 30) (c := #[.int .i64 p, .int .i64 v, .int .i64 c]) (by kernel_rfl) (by kernel_rfl) ?_
 intro b1 w1 hn1
 replace hS := Step.trans hS (hn1.step No)
 replace hSn := Step.trans hSn (hn1.step No)
 have ho1 := hn1.own
 have hzhn1 := hn1.size
 have hqhn1 := hn1.eqb
 refine VL_box (d := 4) (t := 32) (c := #[.int .i64 0, .int .i64 0, .int .i64 0, .int .i64 0, .int .i64 0, .int .i64 0]) (by kernel_rfl) (by kernel_rfl) ?_
 intro b2 w2 hn2
 replace hS := Step.trans hS (hn2.step No)
 replace hSn := Step.trans hSn (hn2.step No)
 replace ho1 := ho1.no (hn2.step No)
 have ho2 := hn2.own
 have hzhn2 := hn2.size
 have hqhn2 := hn2.eqb
 refine VL_pure 3 [0, 3, 4] [(0, .pointer (some ⟨nd, 0, none⟩)), (3, .pointer (some ⟨b1, 0, none⟩)), (4, .pointer (some ⟨b2, 0, none⟩))] (by kernel_rfl) rfl ?_
 refine VL_end (by kernel_rfl) ?_
 refine VQ_next ?_
 refine VC_seq ?_
 refine VC_region ?_
 refine VL_pure 1 [0, 3, 4, 9] [(0, .pointer (some ⟨nd, 0, none⟩)), (3, .pointer (some ⟨b1, 0, none⟩)), (4, .pointer (some ⟨b2, 0, none⟩)), (9, .pointer (some ⟨nd, 0, none⟩))] (by kernel_rfl) rfl ?_
 refine VL_load (d := 10) (t := 30) (a := ⟨b1, 0, none⟩) (v := .agg #[.int .i64 p, .int .i64 v, .int .i64 c]) (by kernel_rfl) (by kernel_rfl) (Loads.ownL ho1 (n := 3) (by kernel_rfl) (by kernel_rfl) (by kernel_rfl)) ?_
 refine VL_call (d := 11) (f := 42) (args := #[.pointer (some ⟨nd, 0, none⟩), .agg #[.int .i64 p, .int .i64 v, .int .i64 c]]) (by kernel_rfl) (by kernel_rfl) (by kernel_rfl) Tryz.call42 (nfind_any nd lo X rooms g p v c _ (h.no hSn)) ?_
 rintro _ w3 ⟨rfl, hc1⟩
 replace hS := Step.trans hS hc1
 replace ho2 := ho2.no hc1
 refine VL_pure 8 [0, 4, 6, 7] [(0, .pointer (some ⟨nd, 0, none⟩)), (4, .pointer (some ⟨b2, 0, none⟩)), (6, .int .i64 ((lookE (g.ci.map Ci.ent) p v c).getD 0)), (7, .bool ((lookE (g.ci.map Ci.ent) p v c).isSome))] (by kernel_rfl) rfl ?_
 refine VL_end (by kernel_rfl) ?_
 refine VQ_next ?_
 refine VC_seq ?_
 refine VC_seq ?_
 refine VC_region ?_
 refine VL_pure 2 [0, 4, 6, 15] [(0, .pointer (some ⟨nd, 0, none⟩)), (4, .pointer (some ⟨b2, 0, none⟩)), (6, .int .i64 ((lookE (g.ci.map Ci.ent) p v c).getD 0)), (15, .bool (!((lookE (g.ci.map Ci.ent) p v c).isSome)))] (by kernel_rfl) rfl ?_
 refine VL_end (by kernel_rfl) ?_
 refine VQ_next ?_
 refine VC_is (b := !((lookE (g.ci.map Ci.ent) p v c).isSome)) true (by kernel_rfl) (by rw [hth]; rfl) ?_
 refine VC_ite_true ?_
 refine VC_seq ?_
 refine VC_region ?_
 refine VL_pure 1 [4, 16] [(4, .pointer (some ⟨b2, 0, none⟩)), (16, .agg #[.int .i64 0, .int .i64 0, .int .i64 0, .int .i64 0, .int .i64 0, .int .i64 0])] (by kernel_rfl) rfl ?_
 refine VL_store (b := b2) (o := 0) (vs := [.int .i64 0, .int .i64 0, .int .i64 0, .int .i64 0, .int .i64 0, .int .i64 0]) (by kernel_rfl) (by kernel_rfl) ho2 (Nat.le_of_ble_eq_true (by kernel_rfl)) ?_
 intro w4 hw1
 replace hS := Step.transNew hS hw1.step (fun _ _ _ => by omega)
 have ho3 : Own w4 b2 #[.int .i64 0, .int .i64 0, .int .i64 0, .int .i64 0, .int .i64 0, .int .i64 0] 32 := Own.cast hw1.own (by kernel_rfl)
 refine VL_pure 3 [4, 5] [(4, .pointer (some ⟨b2, 0, none⟩)), (5, .bool false)] (by kernel_rfl) rfl ?_
 refine VL_end (by kernel_rfl) ?_
 refine VQ_next ?_
 refine VC_ret ?_
 refine VQ_then_ret ?_
 refine VQ_retC1T1 (T := 32) (.agg #[.int .i64 0, .int .i64 0, .int .i64 0, .int .i64 0, .int .i64 0, .int .i64 0]) (.bool false) (.inr rfl) rfl rfl rfl (Loads.ownL ho3 (n := 6) (by kernel_rfl) (by kernel_rfl) (by kernel_rfl)) ?_
 exact ⟨by rw [hcn]; rfl, hS⟩

theorem stepY9 {Y : Nat → Prop} {w w1 w2 : World} (h : Step Y w w1) (k : Step No w1 w2) : Step Y w w2 := Step.trans h k.weak
theorem verdict_yes (nd lo : Nat) (X : Nat → Prop) (rooms : List Int) (g : NdG) (p v c t clp : Int) (w : World) (h : NdX w nd X lo rooms g) (hth : (lookE (g.ci.map Ci.ent) p v c).isSome = true) :
  CV Tryz.prog 16 #[Pt nd 0, .agg #[I6 p, I6 v, I6 c], I6 t, I6 clp] w (fun x w1 => x = .tuple #[I6 (verV g.L p v c t clp), Bo true] ∧ ∃ g9 X9, NdX w1 nd X9 lo rooms g9 ∧ g9.L = verN g.L p v c t clp ∧ g9.next ≤ g.next + 1 ∧ (∀ q, X9 q → X q ∨ w.heap.size ≤ q) ∧ Step X w w1) := by
 obtain ⟨y, i, r, hfI, hym, hlk, hp, hil, hir, hled0, hnn, hmm, hpl0, hfc, hu0, hu1, hrM, hnu⟩ := h.there hth
 have hS : Step y.Y w w := Step.refl _ _
 have hSn : Step No w w := Step.refl _ _
 have hnd := h.own
 have hcm := h.cmap
 have hvv : verV g.L p v c t clp = polV (alwaysC y.x.k) t clp y.x.rs := by unfold verV; rw [hfc]
 refine VCe Tryz.func16 (Vs (Vr ?_))
 refine Vx 0 30 #[I6 p, I6 v, I6 c] ?_
 intro b1 w1 hn1
 replace hS := stepY9 hS (hn1.step No)
 replace hSn := Step.trans hSn (hn1.step No)
 replace hnd := hnd.no (hn1.step No)
 replace hcm := MapL.no hcm (hn1.step No)
 have ho1 := hn1.own
 refine Ve (Vn (Vs (Vr (Vl 1 ho1 ?_))))
 refine Vc 2 Tryz.call42 ((nfind_any nd lo X rooms g p v c _ (h.no hSn)).mono (fun x w1 h9 => ⟨h9.1.trans (by rw [hlk]; rfl), h9.2⟩ : ∀ (x : Value) (w1 : World), _ → x = Value.tuple #[I6 y.id, Bo true] ∧ Step No _ w1)) ?_
 rintro _ w2 ⟨rfl, hc1⟩
 replace hS := stepY9 hS hc1
 replace hSn := Step.trans hSn hc1
 replace hnd := hnd.no hc1
 replace hcm := MapL.no hcm hc1
 refine Ve (Vn (Vs (Vrp (Vf (VC_skip (Vn (Vs (Vr (Vl 3 hnd (Vp 5 (VL_lookup (ek := ei) (u := uc) (d := 25) (m := g.cm) (kt := 3) (z := .agg #[I6 0, I6 0, I6 0, I6 0, I6 0, I6 0, .pointer none]) (k := y.id) (ok := false) (by kernel_rfl) (by kernel_rfl) keyTi hcm (.agg #[I6 y.x.k.kind, I6 y.x.k.peak, I6 y.x.k.early, I6 y.x.k.whole, I6 y.x.k.burst, I6 y.x.k.least, Pt y.pp 0]) (by rw [hmm]; rfl) (Vp 9 ?_))))))))))))
 refine Vc 9 Tryz.call45 (ptake_any t clp (hpl0.no hSn)) ?_
 rintro _ w3 ⟨rfl, hpl1, hc2⟩
 replace hS := Step.trans hS hc2
 refine Ve (Vn (VC_ret (Vr2 (I6 (polV (alwaysC y.x.k) t clp y.x.rs)) (Bo true) ?_)))
 exact ⟨by rw [hvv], _, _, h.judged hfI hS hpl1, setI_x _ _ _ _ _ _ (fun y => rfl), Nat.le_succ _, fun q hq => .inl hq, Step.mono hS (h.polX y hym)⟩

theorem verdict_no (nd lo : Nat) (X : Nat → Prop) (rooms : List Int) (g : NdG) (p v c t clp : Int) (w : World) (h : NdX w nd X lo rooms g) (hth : (lookE (g.ci.map Ci.ent) p v c).isSome = false) :
  CV Tryz.prog 16 #[Pt nd 0, .agg #[I6 p, I6 v, I6 c], I6 t, I6 clp] w (fun x w1 => x = .tuple #[I6 0, Bo false] ∧ Step No w w1) := by
 have hS : Step No w w := Step.refl _ _
 have hSn : Step No w w := Step.refl _ _
 refine VCe Tryz.func16 (Vs (Vr ?_))
 refine Vx 0 30 #[I6 p, I6 v, I6 c] ?_
 intro b1 w1 hn1
 replace hS := Step.trans hS (hn1.step No)
 replace hSn := Step.trans hSn (hn1.step No)
 have ho1 := hn1.own
 refine Ve (Vn (Vs (Vr (Vl 1 ho1 ?_))))
 refine Vc 2 Tryz.call42 (nfind_any nd lo X rooms g p v c _ (h.no hSn)) ?_
 rintro _ w2 ⟨rfl, hc1⟩
 replace hS := Step.trans hS hc1
 refine Ve (Vn (Vs (Vrp (Vit (b := !((lookE (g.ci.map Ci.ent) p v c).isSome)) (by rw [hth]; rfl) (Vrp (VC_ret (VQ_then_ret (Vr2 (I6 0) (Bo false) ?_))))))))
 exact ⟨rfl, hS⟩

end Go.Proofs.YthchmlidobgkoaaGreat
end

section
/- Layer 20: a new node. -/
set_option linter.unusedVariables false
set_option linter.unusedSimpArgs false
namespace Go.Proofs.YthchmlidobgkoaaGreat
open Go.Vc Go.RowKit
def rmC (r : Int) : Int := imax 0 (imin r 1152921504606846976)
theorem rmC_le (r : Int) : 0 ≤ rmC r ∧ rmC r ≤ 1152921504606846976 := by unfold rmC imax imin; split <;> split <;> omega
def roomsN (rs : List Int) : List Int := (rs.take (min rs.length 8)).map rmC
theorem roomsN_len (rs : List Int) : (roomsN rs).length = min rs.length 8 := by unfold roomsN; rw [List.length_map, List.length_take]; omega
theorem roomsN_ok (rs : List Int) : (roomsN rs).length ≤ 8 ∧ ∀ r ∈ roomsN rs, 0 ≤ r ∧ r ≤ 1152921504606846976 := by
  refine ⟨by rw [roomsN_len]; omega, fun r hr => ?_⟩
  obtain ⟨x, _, rfl⟩ := List.mem_map.1 hr
  exact rmC_le x
theorem roomsN_at {rs : List Int} {n j : Nat} (hn : rs.length = n) (hj : j < min n 8) : (roomsN rs)[j]? = some (imax 0 (imin ((rs.take (min n 8)).getD j 0) 1152921504606846976)) := by
  subst hn
  unfold roomsN
  rw [List.getElem?_map]
  have hl : j < (rs.take (min rs.length 8)).length := by rw [List.length_take]; omega
  rw [List.getElem?_eq_getElem hl]
  simp only [Option.map_some, List.getD, List.getElem?_eq_getElem hl, Option.getD_some]
  rfl
structure Leds (w : World) (lo : Nat) (rs : List Int) (ls ms : List Nat) : Prop where
  len : ls.length = ms.length
  led : ∀ (i lg lm : Nat) (r : Int), ls[i]? = some lg → ms[i]? = some lm → rs[i]? = some r → Ld w lg lm r 0 []
  le : ls.length ≤ rs.length
  n1 : ls.Nodup
  n2 : ms.Nodup
  l1 : ∀ x ∈ ls, lo ≤ x
  l2 : ∀ x ∈ ms, lo ≤ x
section
variable {w w1 : World} {F : Nat → Prop} {lo : Nat} {rs : List Int} {ls ms : List Nat}
theorem Leds.two (h : Leds w lo rs ls ms) {x : Nat} (hx : x ∈ ls ∨ x ∈ ms) : ∃ lg lm r, Ld w lg lm r 0 [] ∧ (x = lg ∨ x = lm) := by
  have hlen := h.len
  have hle := h.le
  rcases hx with hx | hx
  · obtain ⟨i, hi⟩ := List.mem_iff_getElem?.1 hx
    have hl := (List.getElem?_eq_some_iff.1 hi).1
    exact ⟨x, _, _, h.led i x _ _ hi (List.getElem?_eq_getElem (by omega)) (List.getElem?_eq_getElem (by omega)), .inl rfl⟩
  · obtain ⟨i, hi⟩ := List.mem_iff_getElem?.1 hx
    have hl := (List.getElem?_eq_some_iff.1 hi).1
    exact ⟨_, x, _, h.led i _ x _ (List.getElem?_eq_getElem (by omega)) hi (List.getElem?_eq_getElem (by omega)), .inr rfl⟩
theorem Leds.lt (h : Leds w lo rs ls ms) {x : Nat} (hx : x ∈ ls ∨ x ∈ ms) : x < w.heap.size := by
  obtain ⟨lg, lm, r, h1, e | e⟩ := h.two hx
  · rw [e]; exact h1.lt.1
  · rw [e]; exact h1.lt.2
theorem Leds.ty (h : Leds w lo rs ls ms) {x : Nat} (hx : x ∈ ls ∨ x ∈ ms) : tyO w x = 85 + 2 ∨ tyO w x = 0 := by
  obtain ⟨lg, lm, r, h1, e | e⟩ := h.two hx
  · rw [e]; exact .inl (tyO_own h1.own)
  · rw [e]; exact .inr (tyO_map h1.map)
theorem Leds.step (h : Leds w lo rs ls ms) (hs : Step F w w1) (hF : ∀ x, x ∈ ls ∨ x ∈ ms → ¬ F x) : Leds w1 lo rs ls ms :=
  ⟨h.len, fun i lg lm r a b c => (h.led i lg lm r a b c).step hs (hF _ (.inl (List.mem_of_getElem? a))) (hF _ (.inr (List.mem_of_getElem? b))), h.le, h.n1, h.n2, h.l1, h.l2⟩
theorem Leds.no (h : Leds w lo rs ls ms) (hs : Step No w w1) : Leds w1 lo rs ls ms := h.step hs fun _ _ => id
theorem Leds.below (h : Leds w lo rs ls ms) (hs : Step F w w1) (hF : ∀ k, F k → k < lo) : Leds w1 lo rs ls ms := h.step hs fun x hx hf => by
  have := hF x hf
  rcases hx with hx | hx
  · have := h.l1 x hx; omega
  · have := h.l2 x hx; omega
theorem Leds.row {base n c : Nat} {A : Option Addr} {xs : List Value} (h : Leds w lo rs ls ms) (hr : RwS w 1 base 51 A n c xs) (hs : Step (ownB A) w w1) : Leds w1 lo rs ls ms := h.step hs fun x hx hf => by
  have h1 := tyO_tyB (hr.tyB hf)
  rcases h.ty hx with h2 | h2 <;> omega
theorem Leds.push (h : Leds w lo rs ls ms) {lg lm j : Nat} {r : Int} (hj : ls.length = j) (hr : rs[j]? = some r) (hs : Step No w w1) (hn : Ld w1 lg lm r 0 []) (h1 : w.heap.size ≤ lg) (h2 : w.heap.size ≤ lm) (hlo : lo ≤ w.heap.size) : Leds w1 lo rs (ls ++ [lg]) (ms ++ [lm]) := by
  have hl := (List.getElem?_eq_some_iff.1 hr).1
  have hlen := h.len
  refine ⟨by simp [hlen], fun i a b c ha hb hc => ?_, by simp; omega, ?_, ?_, ?_, ?_⟩
  · by_cases e : i < ls.length
    · rw [List.getElem?_append_left e] at ha
      rw [List.getElem?_append_left (by omega)] at hb
      exact (h.led i a b c ha hb hc).no hs
    · have hi : i = j := by
        have := (List.getElem?_eq_some_iff.1 ha).1
        simp at this; omega
      subst hi
      rw [List.getElem?_append_right (by omega), show i - ls.length = 0 by omega] at ha
      rw [List.getElem?_append_right (by omega), show i - ms.length = 0 by omega] at hb
      simp only [List.getElem?_cons_zero, Option.some.injEq] at ha hb
      rw [hr] at hc
      simp only [Option.some.injEq] at hc
      rw [← ha, ← hb, ← hc]; exact hn
  · rw [List.nodup_append]
    refine ⟨h.n1, by simp, fun x hx y hy e => ?_⟩
    simp at hy
    have := h.lt (.inl hx); omega
  · rw [List.nodup_append]
    refine ⟨h.n2, by simp, fun x hx y hy e => ?_⟩
    simp at hy
    have := h.lt (.inr hx); omega
  · intro x hx
    rcases List.mem_append.1 hx with hx | hx
    · exact h.l1 x hx
    · simp at hx; omega
  · intro x hx
    rcases List.mem_append.1 hx with hx | hx
    · exact h.l2 x hx
    · simp at hx; omega
theorem Leds.nil (w : World) (lo : Nat) (rs : List Int) : Leds w lo rs [] [] := ⟨rfl, fun i lg lm r h => by simp at h, Nat.zero_le _, List.nodup_nil, List.nodup_nil, by simp, by simp⟩
theorem range_getD (ls : List Nat) {n : Nat} (hn : ls.length = n) : (List.range n).map (fun i => ls.getD i 0) = ls := by
  subst hn
  apply List.ext_getElem?
  intro i
  rw [List.getElem?_map]
  by_cases h : i < ls.length
  · rw [List.getElem?_range h, List.getElem?_eq_getElem h]; simp [List.getD, h]
  · rw [List.getElem?_eq_none (by simpa using h), List.getElem?_eq_none (by omega)]; rfl
theorem getD_at {ls : List Nat} {i : Nat} (h : i < ls.length) : ls[i]? = some (ls.getD i 0) := by simp [List.getD, h]
theorem nodup_inj {ls : List Nat} (h : ls.Nodup) {i j : Nat} (hi : i < ls.length) (hj : j < ls.length) (he : ls.getD i 0 = ls.getD j 0) : i = j := by
  have a := getD_at hi
  have b := getD_at hj
  rw [he] at a
  exact (List.getElem?_inj hi h).1 (a.trans b.symm)
theorem NdX.fresh {nd tb cm base c : Nat} {A : Option Addr} (hok : rs.length ≤ 8 ∧ ∀ r ∈ rs, 0 ≤ r ∧ r ≤ 1152921504606846976) (hl : ls.length = rs.length) (ho : Own w1 nd #[.slice A rs.length c, .pointer (some ⟨tb, 0, none⟩), .map (some cm), .int .i64 0] 50)
    (hrow : RwS w1 1 base 51 A rs.length c (flat lgc ls)) (htb : Tb w1 tb 64 []) (hcm : MapL w1 cm ei uc ([] : List (Int × (Con × Nat)))) (hled : Leds w1 lo rs ls ms) (h1 : w.heap.size ≤ nd) (h2 : w.heap.size ≤ tb) (h3 : w.heap.size ≤ cm) (h4 : cm < lo) (h5 : w.heap.size ≤ base) (h6 : w.heap.size ≤ lo) :
    ∃ X g, NdX w1 nd X w.heap.size rs g ∧ g.L = [] ∧ g.next = 0 ∧ ∀ q, X q → w.heap.size ≤ q := by
  have hlm : ms.length = rs.length := by rw [← hled.len]; exact hl
  have hX : ∀ q, (q = nd ∨ q = tb ∨ q = cm ∨ ownB A q ∨ q ∈ ls ∨ q ∈ ms) → w.heap.size ≤ q := by
    rintro q (rfl | rfl | rfl | hq | hq | hq)
    · exact h1
    · exact h2
    · exact h3
    · have := (hrow.lt q hq).1; omega
    · have := hled.l1 q hq; omega
    · have := hled.l2 q hq; omega
  have hlb : 0 < rs.length → ∃ lb, A = some ⟨lb, 0, none⟩ ∧ RowE w1 lb 51 (flat lgc ls) := fun h0 => by
    obtain ⟨rb, e, _, hr⟩ := RowE.of_rw hrow h0
    exact ⟨rb, e, hr⟩
  obtain ⟨lb, hlb'⟩ : ∃ lb, 0 < rs.length → A = some ⟨lb, 0, none⟩ ∧ RowE w1 lb 51 (flat lgc ls) := by
    by_cases h0 : 0 < rs.length
    · obtain ⟨lb, h⟩ := hlb h0; exact ⟨lb, fun _ => h⟩
    · exact ⟨0, fun h => absurd h h0⟩
  refine ⟨fun q => q = nd ∨ q = tb ∨ q = cm ∨ ownB A q ∨ q ∈ ls ∨ q ∈ ms, ⟨[], A, lb, c, fun i => ls.getD i 0, fun i => ms.getD i 0, fun _ => [], tb, cm, [], 0⟩, ?_, rfl, rfl, hX⟩
  have hmem : ∀ i, i < rs.length → ls.getD i 0 ∈ ls ∧ ms.getD i 0 ∈ ms := fun i hi => ⟨List.mem_of_getElem? (getD_at (by omega)), List.mem_of_getElem? (getD_at (by omega))⟩
  refine { own := ho, links := fun h0 => ?_, led := fun i r hi => ?_, ledX := fun i hi => ⟨.inr (.inr (.inr (.inr (.inl (hmem i hi).1)))), .inr (.inr (.inr (.inr (.inr (hmem i hi).2))))⟩, lgi := fun i j hi hj he => nodup_inj hled.n1 (by omega) (by omega) he, lmi := fun i j hi hj he => nodup_inj hled.n2 (by omega) (by omega) he, lmc := fun i hi he => ?_, tab := htb, cmap := hcm, pol := fun y hy => (List.not_mem_nil hy).elim, polX := fun y hy => (List.not_mem_nil hy).elim, apart := fun y hy => (List.not_mem_nil hy).elim, ids := fun y hy => (List.not_mem_nil hy).elim, idlt := fun y hy => (List.not_mem_nil hy).elim, need := fun i hi y hy => (List.not_mem_nil hy).elim, nlt := fun i hi id n hn => (Option.some_ne_none n hn.symm).elim, li := LI.nil hok.1 hok.2, inX := ⟨.inl rfl, .inr (.inl rfl), .inr (.inr (.inl rfl))⟩, ty := fun q hq => ?_, lo := hX }
  · obtain ⟨a, b⟩ := hlb' h0
    simp only
    rw [range_getD ls hl]
    exact ⟨a, b, .inr (.inr (.inr (.inl ⟨_, a, rfl⟩)))⟩
  · have hil := (List.getElem?_eq_some_iff.1 hi).1
    exact hled.led i _ _ r (getD_at (by omega)) (getD_at (by omega)) hi
  · have := hled.l2 _ (hmem i hi).2
    simp only at he
    omega
  · rcases hq with rfl | rfl | rfl | hq | hq | hq
    · exact ⟨ho.lt, by have := tyO_own ho; omega⟩
    · exact ⟨htb.lt, by have := tyO_tb htb; omega⟩
    · exact ⟨hcm.lt, by have := tyO_map hcm; omega⟩
    · exact ⟨(hrow.lt q hq).2, by have := tyO_tyB (hrow.tyB hq); omega⟩
    · exact ⟨hled.lt (.inl hq), by have := hled.ty (.inl hq); omega⟩
    · exact ⟨hled.lt (.inr hq), by have := hled.ty (.inr hq); omega⟩
end
end Go.Proofs.YthchmlidobgkoaaGreat
end

section
/- Layer 20: a new node. -/
set_option linter.unusedVariables false
set_option linter.unusedSimpArgs false
set_option maxRecDepth 100000
set_option maxHeartbeats 4000000
namespace Go.Proofs.YthchmlidobgkoaaGreat
open Go.Vc Go.RowKit

theorem nnew_x (A : Option Addr) (n c Bd : Nat) (rs : List Int) (w : World) (hn : rs.length = n) (hA : Sl w Bd A (iL .i64 rs)) (hB : Bd ≤ w.heap.size) (hnc : n ≤ c) :
  CV Tryz.prog 6 #[.slice A n c] w (fun x w1 => ∃ nd X g, x = Pt nd 0 ∧ NdX w1 nd X w.heap.size (roomsN rs) g ∧ g.L = [] ∧ g.next = 0 ∧ (∀ q, X q → w.heap.size ≤ q) ∧ Step No w w1) := by
 have hS : Step No w w := Step.refl _ _
 refine VCe Tryz.func6 (Vrp (Vs (Vr ?_)))
 refine Vc 0 Tryz.call22 (tnew 64 _) ?_
 rintro _ w1 ⟨tb1, rfl, hftb1, hT1, hc1⟩
 replace hS := Step.trans hS hc1
 replace hA := hA.no hc1
 rw [show imax 0 (imin 64 64) = 64 from by decide] at hT1
 have hztb1 := hT1.lt
 refine VL_mkMap (d := 7) (by kernel_rfl) (by kernel_rfl) ?_
 intro mp1 w2 hn1
 replace hS := Step.trans hS (hn1.step No)
 replace hA := hA.no (hn1.step No)
 replace hT1 := Tb.no hT1 (hn1.step No)
 have hM1 := New.map hn1 ei uc
 have hzhn1 := hn1.size
 have hqhn1 := hn1.eqb
 refine Vp 3 ?_
 have hzs2 := hS.size
 refine Vx 3 50 #[.slice none 0 0, Pt tb1 0, .map (some mp1), I6 0] ?_
 intro b1 w3 hn2
 replace hS := Step.trans hS (hn2.step No)
 replace hA := hA.no (hn2.step No)
 replace hT1 := Tb.no hT1 (hn2.step No)
 replace hM1 := MapL.no hM1 (hn2.step No)
 have ho1 := hn2.own
 have hzhn2 := hn2.size
 have hqhn2 := hn2.eqb
 refine Ve (Vn (Vs (Vs ?_)))
 obtain ⟨lo9, hlo9E⟩ : ∃ x, x = w3.heap.size := ⟨_, rfl⟩
 have hlo9 : lo9 ≤ w3.heap.size := Nat.le_of_eq hlo9E
 have hmp9 := MapL.lt hM1
 have hleds := Leds.nil w3 lo9 (roomsN rs)
 have hnb9 : b1 < lo9 ∧ tb1 < lo9 ∧ mp1 < lo9 := by rw [hlo9E]; exact ⟨ho1.lt, hT1.lt, hmp9⟩
 have hnw9 : w.heap.size ≤ b1 ∧ w.heap.size ≤ tb1 ∧ w.heap.size ≤ mp1 ∧ w.heap.size ≤ lo9 := by omega
 refine Vr (Vp 4 (Vq 13 (I6 (imin ((n : Nat) : Int) 8)) (I6 ((min n 8 : Nat) : Int)) (by rw [show imin ((n : Nat) : Int) 8 = ((min n 8 : Nat) : Int) by unfold imin; split <;> omega]) (VL_sliceV (d := 14) (A := A) (sz := 1) (len := n) (cap := c) (lo := none) (hi := (some ((min n 8 : Nat) : Int))) (mx := none) (by kernel_rfl) (by kernel_rfl) (fun h => by first | exact absurd rfl h | exact (fun h => by cases h)) hA 0 (min n 8) c rfl rfl rfl (by omega) (by omega) (by omega) (min n 8) (by omega) c (by omega) _ (iL_takeV rs (min n 8)) ?_)))
 intro A1 hsl1
 refine Ve (Vn (VC_block (VC_loop (σ := Nat × (List Nat) × (List Nat) × (Option Addr) × Nat) (fun σs => [(3, Pt b1 0), (14, .slice A1 (min n 8) c), (15, I6 ((min n 8 : Nat) : Int)), (16, I6 ((σs.1 : Nat) : Int))]) (fun σs wr => σs.1 ≤ min n 8 ∧ σs.2.1.length = σs.1 ∧ Own wr b1 #[.slice σs.2.2.2.1 σs.1 σs.2.2.2.2, Pt tb1 0, .map (some mp1), I6 0] 50 ∧ Leds wr lo9 (roomsN rs) σs.2.1 σs.2.2.1 ∧ RwS wr 1 lo9 51 σs.2.2.2.1 σs.1 σs.2.2.2.2 (flat lgc σs.2.1) ∧ (Step No w wr) ∧ (Sl wr Bd A (iL .i64 rs)) ∧ (Tb wr tb1 64 ([] : List Ent)) ∧ (MapL wr mp1 ei uc ([] : List (Int × Con × Nat))) ∧ (lo9 ≤ wr.heap.size) ∧ (Sl wr Bd A1 (iL .i64 (rs.take (min n 8))))) (fun σs wr => min n 8 - σs.1) ⟨0, [], [], none, 0⟩ Su ?_ ?_)))
 ·exact ⟨Nat.zero_le _, rfl, ho1, hleds, RwS.nil _ _ _ _, hS, hA, hT1, hM1, hlo9, hsl1⟩
 rintro ⟨j, ls, ms, AL, cL⟩ wr ⟨hj0, hlj, hnd9, hleds, hRow, hS, hA, hT1, hM1, hlo9, hsl1⟩
 try dsimp only at hj0 hlj hnd9 hleds hRow hS hA hT1 hM1 hlo9 hsl1 ⊢
 refine Vrp (Vs (Vid (((j : Nat) : Int) < ((min n 8 : Nat) : Int)) (fun h1 => ?_) (fun h1 => ?_)))
 ·refine VC_skip (Vn (Vs (VC_block (Vs (Vr ?_)))))
  obtain ⟨sb1, so1, rfl, hlbsb1⟩ := hsl1.open (by simp only [iL_length, List.length_take]; omega)
  refine VL_index (d := 18) (b := sb1) (o := so1) (len := (min n 8)) (sz := 1) (m := ((j : Nat) : Int)) (by kernel_rfl) (by kernel_rfl) j (by rfl) (by omega) (so1 + j) (by omega) (Vla 1 (t := 3) (a := ⟨sb1, so1 + j, none⟩) (v := I6 ((rs.take (min n 8)).getD j 0)) (Sl.ldI hsl1 (by kernel_rfl) j (by (try simp only [List.length_set, List.length_append, List.length_map, List.length_replicate, List.length_cons, List.length_nil, List.length_take, List.length_drop, List.length_range]) <;> omega)) (Ve (Vn ?_)))
  have hs1 := drew_step wr
  have hs1z : wr.heap.size = wr.drew.heap.size := rfl
  refine Tx 9 (fun k => lo9 ≤ k ∨ wr.heap.size ≤ k) [6, 7, 8] [0, 1, 2, 3, 4, 5, 6, 7, 8] ?_
  have hzl6 := hnd9.lt
  generalize wr.drew = w4 at hs1 hs1z ⊢
  replace hnd9 := hnd9.no hs1
  replace hleds := Leds.no hleds hs1
  replace hRow := hRow.no hs1
  replace hS := Step.trans hS hs1
  replace hA := hA.no hs1
  replace hT1 := Tb.no hT1 hs1
  replace hM1 := MapL.no hM1 hs1
  replace hlo9 := Nat.le_trans hlo9 (hs1).size
  replace hsl1 := hsl1.no hs1
  refine Tp 4 (Tl (fun w5 hr1 => hnd9.step hr1 (by (try simp only); omega)) (Tp 1 (Th ?_)))
  intro w6 hs2
  replace hnd9 := hnd9.no hs2
  replace hleds := Leds.no hleds hs2
  replace hRow := hRow.no hs2
  replace hS := Step.trans hS hs2
  replace hA := hA.no hs2
  replace hT1 := Tb.no hT1 hs2
  replace hM1 := MapL.no hM1 hs2
  replace hlo9 := Nat.le_trans hlo9 (hs2).size
  replace hsl1 := hsl1.no hs2
  have hzl9 := hnd9.lt
  refine Tc Tryz.call23 (lnew_any ((rs.take (min n 8)).getD j 0) _) ?_ ?_
  ·rintro _ w7 ⟨lg9, lm9, rfl, hlg9, hlm9, hL9, hc2⟩
   exact Step.mono hc2 (by intro i hi; first | exact hi.elim | exact .inl hi | ((try simp only at hi ⊢); omega))
  rintro _ w7 ⟨lg9, lm9, rfl, hlg9, hlm9, hL9, hc2⟩
  replace hnd9 := hnd9.no hc2
  replace hRow := hRow.no hc2
  replace hS := Step.trans hS hc2
  replace hA := hA.no hc2
  replace hT1 := Tb.no hT1 hc2
  replace hM1 := MapL.no hM1 hc2
  replace hlo9 := Nat.le_trans hlo9 (hc2).size
  replace hsl1 := hsl1.no hc2
  have hleds2 := Leds.push hleds hlj (show (roomsN rs)[j]? = some (imax 0 (imin ((rs.take (min n 8)).getD j 0) 1152921504606846976)) by exact roomsN_at hn (by omega)) hc2 hL9 hlg9 hlm9 (by omega)
  refine Th ?_
  intro w8 hs3
  replace hnd9 := hnd9.no hs3
  replace hRow := hRow.no hs3
  replace hS := Step.trans hS hs3
  replace hA := hA.no hs3
  replace hT1 := Tb.no hT1 hs3
  replace hM1 := MapL.no hM1 hs3
  replace hlo9 := Nat.le_trans hlo9 (hs3).size
  replace hsl1 := hsl1.no hs3
  replace hleds2 := Leds.no hleds2 hs3
  refine VTc_bs (d := 27) (e := 51) (c := #[Pt lg9 0]) (len := 1) (by kernel_rfl) (by kernel_rfl) (fun b w1 hn => hn.step _) ?_
  intro b2 w9 hn3
  replace hnd9 := hnd9.no (hn3.step No)
  replace hRow := hRow.no (hn3.step No)
  replace hS := Step.trans hS (hn3.step No)
  replace hA := hA.no (hn3.step No)
  replace hT1 := Tb.no hT1 (hn3.step No)
  replace hM1 := MapL.no hM1 (hn3.step No)
  replace hlo9 := Nat.le_trans hlo9 (hn3.step No).size
  replace hsl1 := hsl1.no (hn3.step No)
  replace hleds2 := Leds.no hleds2 (hn3.step No)
  have ho2 := hn3.own
  refine Th ?_
  intro w10 hs4
  replace hnd9 := hnd9.no hs4
  replace hRow := hRow.no hs4
  replace hS := Step.trans hS hs4
  replace hA := hA.no hs4
  replace hT1 := Tb.no hT1 hs4
  replace hM1 := MapL.no hM1 hs4
  replace hlo9 := Nat.le_trans hlo9 (hs4).size
  replace hsl1 := hsl1.no hs4
  replace hleds2 := Leds.no hleds2 hs4
  replace ho2 := ho2.no hs4
  have hzk3 := hlo9
  refine VTc_appendZ (d := 28) (e := 51) (A := AL) (mm := j) (c := cL) (A2 := (some ⟨b2, 0, none⟩)) (m2 := 1) (c2 := 1) (sz := 1) (bytes := 8) (by kernel_rfl) (by kernel_rfl) (by kernel_rfl) lo9 w10.heap.size (flat lgc ls) (flat lgc [lg9]) hRow (by rw [flat_one, lgc_len]) (Sl.mono (Sl.cast (Own.sl ho2 ho2.lt) (by first | rfl | simp [flat])) (by first | exact Nat.le_refl _ | omega)) (flat_one' lgc_one _) (j + 1) (by omega) (by simp only [maxLen]; omega) (by omega) (by omega) ?_ ?_
  ·intro w1 hs1; exact Step.mono hs1 (fun i hi => by have hi1 := (RwS.lt hRow i hi).1; (try simp only); omega)
  intro A2 c1 w11 hr2 hg1
  replace hr2 : RwS w11 1 lo9 51 A2 (j + 1) c1 (flat lgc (ls ++ ([lg9]))) := RwS.cast hr2 rfl (by simp only [flat_append, flat_one, List.append_assoc, List.nil_append, List.append_nil, show flat lgc [] = [] from rfl])
  have hgO := hg1
  replace hg1 := Step.mono (G := fun k => lo9 ≤ k) hg1 (fun i hi => (RwS.lt hRow i hi).1)
  replace hnd9 := hnd9.step hg1 (by (try simp only); omega)
  replace hS := Step.transNew hS hg1 (fun i hi hG => by (try simp only at hG); omega)
  replace hA := hA.step hg1 (fun k hk hG => by (try simp only at hG); omega)
  replace hT1 := Tb.step hT1 hg1 (by (try simp only); omega)
  replace hM1 := MapL.step hM1 hg1 (by (try simp only); omega)
  replace hlo9 := Nat.le_trans hlo9 (hg1).size
  replace hsl1 := hsl1.keepB hg1 (by (try simp only); omega)
  replace hleds2 := Leds.row hleds2 hRow hgO
  have hlhr2 : (ls ++ ([lg9])).length = j + 1 := by have hq9 := RwS.len hr2; rw [flat_len lgc_len] at hq9; omega
  refine VT_end ?_
  intro w12 hs5
  replace hnd9 := hnd9.no hs5
  replace hS := Step.trans hS hs5
  replace hA := hA.no hs5
  replace hT1 := Tb.no hT1 hs5
  replace hM1 := MapL.no hM1 hs5
  replace hlo9 := Nat.le_trans hlo9 (hs5).size
  replace hsl1 := hsl1.no hs5
  replace hleds2 := Leds.no hleds2 hs5
  replace hr2 := hr2.no hs5
  refine Vst 11 (o := 0) [.slice A2 (j + 1) c1] hnd9 #[.slice A2 (j + 1) c1, Pt tb1 0, .map (some mp1), I6 0] ?_
  intro w13 hw1
  replace hS := Step.transNew hS hw1.step (fun _ _ _ => by omega)
  replace hA := hA.step hw1.step (fun k hk (hF : k = b1) => by omega)
  replace hT1 := Tb.step hT1 hw1.step (show ¬ tb1 = b1 by omega)
  replace hM1 := MapL.step hM1 hw1.step (show ¬ mp1 = b1 by omega)
  replace hlo9 := Nat.le_trans hlo9 (hw1.step).size
  replace hsl1 := hsl1.keepB hw1.step (show ¬ sb1 = b1 by omega)
  replace hleds2 := Leds.below hleds2 hw1.step (fun k9 hk9 => by have h8 : k9 = b1 := hk9; omega)
  replace hr2 := hr2.step hw1.step (fun k hk (hF : k = b1) => by omega)
  have ho3 := hw1.own
  refine Ve (VQ_block_normal (Vn (Vr (Vp 1 ?_))))
  have he1 : IntKind.wrap .i64 (((j : Nat) : Int) + 1) = ((j + 1 : Nat) : Int) := (by rw [wrap_i64 _ (by omega) (by omega)]; omega)
  refine Vq 31 (I6 (IntKind.wrap .i64 (((j : Nat) : Int) + 1))) (I6 ((j + 1 : Nat) : Int)) (by rw [he1]) (Ve (VQ_again ⟨j + 1, ls ++ [lg9], ms ++ [lm9], A2, c1⟩ Su ?_ ?_))
  ·exact ⟨(by (try dsimp only); omega), (by (try dsimp only); simp only [List.length_append, List.length_singleton]; omega), ho3, hleds2, hr2, hS, hA, hT1, hM1, hlo9, hsl1⟩
  ·(try dsimp only); omega
 ·refine VC_exit (VQ_then_exit (VQ_then_exit (VQ_block_hit (Vn (Vrp (VC_ret (Vr1 (Pt b1 0) ?_)))))))
  have hjl : (roomsN rs).length = j := by rw [roomsN_len, hn]; omega
  obtain ⟨X9, g9, hX9, hg9, hn9, hq9⟩ := NdX.fresh (w := w) (roomsN_ok rs) (hlj.trans hjl.symm) (by rw [hjl]; exact hnd9) (by rw [hjl]; exact hRow) hT1 hM1 hleds hnw9.1 hnw9.2.1 hnw9.2.2.1 hnb9.2.2 hnw9.2.2.2 hnw9.2.2.2
  exact ⟨_, X9, g9, rfl, hX9, hg9, hn9, hq9, hS⟩

end Go.Proofs.YthchmlidobgkoaaGreat
end

section
/- The calculus: ranges over functions that themselves range: what is handed on lies beside an iterator's own blocks. -/
set_option linter.unusedVariables false
set_option linter.unusedSimpArgs false
namespace Go.Vc
open Go.RowKit
section
variable {r : Option Nat} {n : Nat} {ds : List Deferred} {P : Program} {ops : Array Oper} {Q : Exit → Act → World → Prop} {l : List (Nat × Value)} {w : World} {i : Nat}
/-- A call of yield, in a round or not. -/
theorem V1_yieldR {d L : Nat} {args : Array Value} {S : Value → World → Prop} (h : yieldOp ops l i = some (d, L, args)) (hd : Nat.blt d n = true)
    (hcall : YV P L args w S) {K : List (Nat × Value) → World → Prop} (next : ∀ v w', S v w' → K ((d, v) :: l) w') :
    V1 r n ds P ops Q i l w K := by
  unfold yieldOp at h
  cases ho : ops[i]? with
  | none => rw [ho] at h; cases h
  | some o =>
    rw [ho] at h
    simp only at h
    cases hg : guardOk ops l o with
    | none => rw [hg] at h; simp at h
    | some b =>
      cases b with
      | false => rw [hg] at h; simp at h
      | true =>
        cases hl : listed l o with
        | false => rw [hg, hl] at h; simp at h
        | true =>
          cases hdst : o.dst with
          | none => rw [hg, hl, hdst] at h; simp at h
          | some d' =>
            rw [hg, hl, hdst] at h
            cases hop : o.op <;> simp only [hop, reduceCtorEq] at h
            case call cl =>
              obtain ⟨callee, cargs, ts⟩ := cl
              cases callee <;> (try (simp at h; done))
              case value x =>
                cases hx : evL l x <;> simp only [hx, reduceCtorEq] at h
                case func fn first captured =>
                  cases fn <;> simp only [reduceCtorEq, Option.some.injEq, Prod.mk.injEq] at h
                  case yield L' =>
                    obtain ⟨rfl, rfl, hargs⟩ := h
                    obtain ⟨fn', tmps, assign, body, hy, hR⟩ := hcall
                    refine V1_run ho hg hl fun a ha => ?_
                    have hrun : (execOp (evL l) o).run P w = .ok (.round L' fn' tmps assign body) w := by
                      simp only [execOp, hop, resolve, hx, Deferred.ofValue, Sem.run_bind, Sem.run_pure, Result.andThen_ok, invoke]
                      rw [hargs]; exact hy
                    rw [hrun]
                    refine ⟨(fun hd => by cases hd), ?_⟩
                    refine RoundIn.mono (show RoundIn (Fx r) 0 P L' fn' tmps assign body w _ from hR) ?_
                    rintro e w' ⟨v, rfl, hS⟩
                    exact ⟨_, by rw [hdst]; exact ha.put _ (blt_spec hd) _, next v w' hS⟩
theorem VL_yieldR {d L : Nat} {args : Array Value} {S : Value → World → Prop} (h : yieldOp ops l i = some (d, L, args)) (hd : Nat.blt d n = true) (hi : Nat.blt i ops.size = true)
    (hcall : YV P L args w S) (next : ∀ v w', S v w' → VL r n ds P ops Q (i + 1) ((d, v) :: l) w') :
    VL r n ds P ops Q i l w := VL_of_V1 hi (V1_yieldR h hd hcall next)
end
/-- An iterator's contract, told for a body that never stops: J does not hang on the iterator's own blocks. -/
def IterC2 (P : Program) (gf : Nat) (lb : Array Value) (xs : List (Array Value)) (Rd : Nat → World → Prop) : Prop :=
  ∀ (L : Nat) (W0 : World) (J : Nat → Nat → World → Prop),
    (∀ M k W W', J M k W → Step (fun i => W0.heap.size ≤ i ∧ i < M) W W' → J M k W') → (∀ M k W, J M k W → Rd k W) → Rd 0 W0 →
    (∀ M W, W0.heap.size ≤ M → M ≤ W.heap.size → Step No W0 W → J M 0 W) →
    (∀ M k W args, W0.heap.size ≤ M → M ≤ W.heap.size → xs[k]? = some args → J M k W → YV P L args W fun v W' => Step (fun i => i < W0.heap.size ∨ M ≤ i) W W' ∧ v = .bool true ∧ J M (k + 1) W') →
    CV P gf (#[.func (.yield L) #[] #[]] ++ lb) W0 fun _ W' => ∃ M, W0.heap.size ≤ M ∧ J M xs.length W'
section
variable {r : Option Nat} {n : Nat} {ds : List Deferred} {P : Program} {Q : Exit → Act → World → Prop} {l : List (Nat × Value)} {w : World}
theorem VC_range2 {g : Operand} {ps : Array Tmp} {assign body : Code} {gf : Nat} {lb : Array Value} {xs : List (Array Value)} {Rd : Nat → World → Prop} (hg : opV l g = some (.func (.func gf) #[] lb))
    (eg : ∀ (args : Array Value) (w : World), (callFunc gf args).run P w = .ok (.enter gf args) w) (hc : IterC2 P gf lb xs Rd) (hps : ∀ a ∈ xs, a.size = ps.size) (hpn : ps.toList.all (fun p => Nat.blt p n) = true)
    (Fb : Nat → Nat → Prop) (hFb : ∀ M i, Fb M i → i < w.heap.size ∨ M ≤ i) (J : Nat → Nat → World → Prop)
    (hJ : ∀ M k W W', J M k W → Step (Just (w.heap.size + 1)) W W' → J M k W')
    (hJm : ∀ M k W W', J M k W → Step (fun i => w.heap.size + 2 ≤ i ∧ i < M) W W' → J M k W')
    (hrd : ∀ M k W, J M k W → Rd k W) (hrd0 : ∀ W, Step No w W → Rd 0 W)
    (h0 : ∀ M W, w.heap.size + 2 ≤ M → M ≤ W.heap.size → Step No w W → Dfr W w.heap.size → J M 0 W)
    (hround : ∀ M k W args, w.heap.size + 2 ≤ M → M ≤ W.heap.size → xs[k]? = some args → J M k W → w.heap.size + 1 < W.heap.size →
      VC (some (w.heap.size + 1)) n [] P (AsgQ P (w.heap.size + 1) body (RoundQ (Fb M) (J M (k + 1)) (fun _ _ => False)) W) assign ((ps.toList.zip args.toList).reverse ++ l) W)
    (hdone : ∀ M W, w.heap.size + 2 ≤ M → w.heap.size + 2 ≤ W.heap.size → J M xs.length W → Dfr W w.heap.size → VQ n (markOf w.heap.size :: ds) Q .normal l W) :
    VC none n ds P Q (.rangeFunc g ps assign body) l w := by
  intro a ha
  have hev := opV_spec ha hg
  refine wpIn_rangeFunc ?_
  intro fn hfn
  obtain ⟨rec, hrec⟩ : ∃ rec : LoopState → Option Code → Loop, rec = fun st pe => { state := st, pending := pe, fn, tmps := a.tmps, params := ps, assign, body, defers := w.heap.size } := ⟨_, rfl⟩
  obtain ⟨W1, hW1⟩ : ∃ W1, (w.alloc (.deferred (some []))).alloc (.loop (rec .ready none)) = W1 := ⟨_, rfl⟩
  have hz1 : W1.heap.size = w.heap.size + 2 := by rw [← hW1]; simp
  have hL1 : W1.heap[w.heap.size + 1]? = some (.loop (rec .ready none)) := by
    rw [← hW1]; have := World.alloc_heap_new (w.alloc (.deferred (some []))) (.loop (rec .ready none)); rwa [World.size_alloc] at this
  have hK1 : Dfr W1 w.heap.size := by
    unfold Dfr; rw [← hW1]; exact (Below.heap_alloc _ _ _ (by simp)).trans (World.alloc_heap_new w _)
  have hs1 : Step No w W1 := by
    rw [← hW1]
    exact ⟨rfl, rfl, rfl, by simp; omega, fun k hk _ => (Below.heap_alloc _ _ _ (by simp; omega)).trans (Below.heap_alloc _ _ _ hk)⟩
  refine ⟨w.heap.size + 1, [markOf w.heap.size], W1, { target := .fn (.func gf) lb, args := #[.func (.yield (w.heap.size + 1)) #[] #[]] }, W1, gf,
    #[.func (.yield (w.heap.size + 1)) #[] #[]] ++ lb, W1, ?_, ?_, ?_, ?_, (fun hd => by cases hd), ?_⟩
  · rw [← hW1, hrec]; exact run_enterLoop_outer _ _ _ _ _
  · simp only [resolve, hev]
    simp [go_sem]
  · intro f' _; exact trivial
  · simp [invoke, go_sem, eg]
  · have hstepL : ∀ {W : World} (o : Obj), Step (Just (w.heap.size + 1)) W (W.putObj (w.heap.size + 1) o) := fun o => putObj_step o
    refine callsIn_Fx ?_
    refine Calls.mono (hc (w.heap.size + 1) W1
      (fun M k W => J M k W ∧ W.heap[w.heap.size + 1]? = some (.loop (rec .ready none)) ∧ Dfr W w.heap.size ∧ M ≤ W.heap.size)
      ?_ ?_ ?_ ?_ ?_) ?_
    · rintro M k W W' ⟨hj, hl, hk, hm⟩ hs
      rw [hz1] at hs
      exact ⟨hJm M k W W' hj hs, (hs.block _ (Array.getElem?_eq_some_iff.1 hl).1 (fun h => by omega)).trans hl, hk.step hs (fun h => by omega), Nat.le_trans hm hs.size⟩
    · rintro M k W ⟨hj, _⟩; exact hrd M k W hj
    · exact hrd0 W1 hs1
    · intro M W hM hM2 hs
      rw [hz1] at hM
      exact ⟨h0 M W hM hM2 (hs1.trans hs) (hK1.no hs), (hs.no (by omega)).trans hL1, hK1.no hs, hM2⟩
    · rintro M k W args hM hM2 hx ⟨hj, hl, hk, hm⟩
      rw [hz1] at hM
      have hmem : args ∈ xs := List.mem_of_getElem? hx
      have hy := run_yield (P := P) (args := args) hl (by rw [hrec]; exact hps args hmem)
      rw [hrec] at hy
      have hlt : w.heap.size + 1 < W.heap.size := (Array.getElem?_eq_some_iff.1 hl).1
      refine ⟨fn, _, assign, body, hy, roundIn_of_wpIn hfn ?_⟩
      have hz := zip_foldl (n := n) (ps := ps.toList) (vs := args.toList) (t := a.tmps) (l := l) ha.size ha.get (fun p hp => blt_spec (List.all_eq_true.1 hpn p hp))
      have hfold : ((ps.zip args).foldl (fun tmps (x : Tmp × Value) => tmps.setIfInBounds x.1 x.2) a.tmps) = ((ps.toList.zip args.toList).foldl (fun t (x : Nat × Value) => t.setIfInBounds x.1 x.2) a.tmps) := by
        rw [← Array.foldl_toList, Array.toList_zip]
      refine wpIn_mono (hround M k W args hM hM2 hx hj hlt { tmps := _, defers := [] } ⟨by rw [hfold]; exact hz.1, rfl, fun t v ht => by rw [hfold]; exact hz.2 t v ht⟩) ?_
      rintro e a2 w2 hq
      cases e <;> (try exact hq.elim)
      obtain ⟨hs2, hq⟩ := hq
      have hl2 : w2.heap[w.heap.size + 1]? = some (.loop (rec .ready none)) := (hs2.no hlt).trans hl
      have hlt2 : w.heap.size + 1 < w2.heap.size := (Array.getElem?_eq_some_iff.1 hl2).1
      have hk2 := hk.no hs2
      obtain ⟨W3, hW3⟩ : ∃ W3, w2.putObj (w.heap.size + 1) (.loop { rec .ready none with state := .busy }) = W3 := ⟨_, rfl⟩
      have hs3 : Step (Just (w.heap.size + 1)) w2 W3 := hW3 ▸ putObj_step _
      have hz3 : W3.heap.size = w2.heap.size := by rw [← hW3]; exact putObj_size _
      have hl3 : W3.heap[w.heap.size + 1]? = some (.loop { rec .ready none with state := .busy }) := by rw [← hW3]; exact World.putObj_heap_same hlt2
      have hk3 : Dfr W3 w.heap.size := hk2.step hs3 (by simp)
      refine ⟨W3, by rw [← hW3]; exact run_beginRound hl2 (by rw [hrec]), ?_⟩
      refine wpIn_mono (hq W3 hs3 hz3) ?_
      have hgrow : W.heap.size ≤ W3.heap.size := by have := hs2.size; omega
      have fin : ∀ (jump : Option Code) (W4 : World), Step (Fb M) W3 W4 →
          (Instr.endRound (w.heap.size + 1) jump).run P W4 = .ok (.bool jump.isNone) (W4.putObj (w.heap.size + 1) (.loop (rec (if jump.isNone then .ready else .done) jump))) ∧
          (W4.putObj (w.heap.size + 1) (.loop (rec (if jump.isNone then .ready else .done) jump))).heap[w.heap.size + 1]? = some (.loop (rec (if jump.isNone then .ready else .done) jump)) ∧
          Dfr (W4.putObj (w.heap.size + 1) (.loop (rec (if jump.isNone then .ready else .done) jump))) w.heap.size ∧
          Step (fun i => i < W1.heap.size ∨ M ≤ i) W (W4.putObj (w.heap.size + 1) (.loop (rec (if jump.isNone then .ready else .done) jump))) ∧
          M ≤ (W4.putObj (w.heap.size + 1) (.loop (rec (if jump.isNone then .ready else .done) jump))).heap.size := fun jump W4 hs4 => by
        have hnL : ¬ Fb M (w.heap.size + 1) := fun h => by have := hFb _ _ h; omega
        have hnD : ¬ Fb M w.heap.size := fun h => by have := hFb _ _ h; omega
        have hl4 : W4.heap[w.heap.size + 1]? = some (.loop { rec .ready none with state := .busy }) := (hs4.block _ (by omega) hnL).trans hl3
        have hk4 : Dfr W4 w.heap.size := hk3.step hs4 hnD
        have hr := run_endRound (P := P) jump hl4
        have hlt4 := (Array.getElem?_eq_some_iff.1 hl4).1
        rw [hrec] at hr ⊢
        refine ⟨hr, World.putObj_heap_same hlt4, hk4.step (putObj_step _) (by simp), ?_, by rw [putObj_size]; have := hs4.size; omega⟩
        refine Step.trans (hs2.weak) (Step.trans (hs3.mono fun i hi => .inl (by rw [hz1]; have : i = w.heap.size + 1 := hi; omega)) (Step.trans (hs4.mono fun i hi => ?_) ((putObj_step _).mono fun i hi => .inl (by rw [hz1]; have : i = w.heap.size + 1 := hi; omega))))
        rcases hFb M i hi with h | h
        · exact .inl (by omega)
        · exact .inr h
      rintro e a3 W4 hp
      cases e with
      | normal =>
        obtain ⟨hs4, hj4⟩ := hp
        obtain ⟨hr, hl5, hk5, hs5, hm5⟩ := fin none W4 hs4
        exact ⟨_, _, hr, _, rfl, hs5, rfl, hJ _ _ _ _ hj4 (putObj_step _), hl5, hk5, hm5⟩
      | ret => exact hp.2.elim
      | exit id => exact hp.2.elim
      | goto t => exact hp.elim
      | panic ch => exact hp.elim
      | outgrown => exact hp.elim
    · rintro e W2 ⟨v, rfl, M, hM, hj, hl, hk, hm⟩
      rw [hz1] at hM
      have hlt := (Array.getElem?_eq_some_iff.1 hl).1
      refine ⟨none, _, by have := run_endLoop (P := P) hl (by rw [hrec]; simp); rw [hrec] at this; exact this, ?_⟩
      exact hdone M _ hM (by rw [putObj_size]; omega) (hJ _ _ _ _ hj (putObj_step _)) (hk.step (putObj_step _) (by simp)) _ ⟨ha.size, by simp [ha.defers], ha.get⟩

theorem VQ_retM0 {fn : Func} {S : Value → World → Prop} (Ds : List Nat) {e : Exit} (he : e = .normal ∨ e = .ret) (hr : fn.results = #[]) (hm : Marks Ds w) (hS : ∀ w', Step (fun i => i ∈ Ds) w w' → S (.tuple #[]) w') :
    VQ n (Ds.map markOf) (bodyPostM (Fx none) 0 P fn (PostV S)) e l w := by
  intro a ha
  have : LeavesInM (Fx none) 0 P fn a.tmps (PostV S) a.defers .returning w := by
    rw [ha.defers]
    exact leavesM Ds w hm fun w' hs => ⟨_, results_none hr _ _ _, _, rfl, hS w' hs⟩
  rcases he with rfl | rfl <;> exact this
end
end Go.Vc
end

section
/- Layer 20: all keys of a node. -/
set_option linter.unusedVariables false
set_option linter.unusedSimpArgs false
set_option maxRecDepth 100000
set_option maxHeartbeats 4000000
namespace Go.Proofs.YthchmlidobgkoaaGreat
open Go.Vc Go.RowKit

def keyV (L : List Cx) : List (Array Value) := L.map fun x => #[.agg #[.int .i64 x.p, .int .i64 x.v, .int .i64 x.c]]
theorem keyV_len (L : List Cx) : (keyV L).length = L.length := by unfold keyV; rw [List.length_map]
theorem keyV_sz (L : List Cx) : ∀ a ∈ keyV L, a.size = 1 := by
  intro a ha
  obtain ⟨x, _, rfl⟩ := List.mem_map.1 ha
  rfl
theorem keyV_inv {L : List Cx} {k : Nat} {args : Array Value} (h : (keyV L)[k]? = some args) : ∃ x, L[k]? = some x ∧ args = #[.agg #[.int .i64 x.p, .int .i64 x.v, .int .i64 x.c]] := by
  unfold keyV at h
  rw [List.getElem?_map] at h
  obtain ⟨x, hx, rfl⟩ := Option.map_eq_some_iff.1 h
  exact ⟨x, hx, rfl⟩
theorem keyV_at {g : NdG} {k : Nat} {y : Ent} (h : (g.ci.map Ci.ent)[k]? = some y) : (keyV g.L)[k]? = some #[.agg #[.int .i64 y.p, .int .i64 y.v, .int .i64 y.c]] := by
  rw [List.getElem?_map] at h
  obtain ⟨z, hz, rfl⟩ := Option.map_eq_some_iff.1 h
  unfold keyV NdG.L
  rw [List.getElem?_map, List.getElem?_map, hz]
  rfl
theorem nall_any (nd : Nat) (w : World) :
  CV Tryz.prog 68 #[Pt nd 0] w (fun x w1 => ∃ B, x = .func (.func 78) #[] #[Pt B 0] ∧ w.heap.size ≤ B ∧ Own w1 B #[Pt nd 0] 25 ∧ Step No w w1) := by
 have hS : Step No w w := Step.refl _ _
 refine VCe Tryz.func68 (Vs (Vr ?_))
 refine Vx 0 25 #[Pt nd 0] ?_
 intro b1 w1 hn1
 replace hS := Step.trans hS (hn1.step No)
 have ho1 := hn1.own
 have hzhn1 := hn1.size
 have hqhn1 := hn1.eqb
 refine Ve (Vn (Vrp (VC_ret (Vr1 (.func (.func 78) #[] #[Pt b1 0]) ?_))))
 exact ⟨b1, rfl, by omega, ho1, hS⟩

theorem stepJ_no {F : Nat → Prop} {w w1 w2 : World} (h : Step F w w1) (k : Step No w1 w2) : Step F w w2 := Step.trans h k.weak
theorem nall1_any (Lo B : Nat) (nd lo : Nat) (X : Nat → Prop) (rooms : List Int) (g : NdG) (Jo : Nat → Nat → World → Prop) (w : World) (h : NdX w nd X lo rooms g) (hB : Own w B #[Pt nd 0] 25) (hJm : ∀ M k W W', Jo M k W → Step (fun i => w.heap.size ≤ i ∧ i < M) W W' → Jo M k W') (h0 : ∀ M W, w.heap.size ≤ M → M ≤ W.heap.size → Step No w W → Jo M 0 W) (hy : ∀ M k W args, w.heap.size ≤ M → M ≤ W.heap.size → (keyV g.L)[k]? = some args → Jo M k W → YV Tryz.prog Lo args W fun v W' => Step (fun i => i < w.heap.size ∨ M ≤ i) W W' ∧ v = Bo true ∧ Jo M (k + 1) W') :
  CV Tryz.prog 78 #[.func (.yield Lo) #[] #[], Pt B 0] w (fun _ w1 => ∃ M, w.heap.size ≤ M ∧ Jo M (keyV g.L).length w1) := by
 have hSn : Step No w w := Step.refl _ _
 have hnd := h.own
 have htab := h.tab
 refine VCm Tryz.func78 (Vs (Vr ?_))
 refine Vx 0 36 #[.func (.yield Lo) #[] #[]] ?_
 intro b1 w1 hn1
 replace hSn := Step.trans hSn (hn1.step No)
 replace hnd := hnd.no (hn1.step No)
 replace htab := Tb.no htab (hn1.step No)
 replace hB := hB.no (hn1.step No)
 have ho1 := hn1.own
 have hzhn1 := hn1.size
 have hqhn1 := hn1.eqb
 refine Ve (Vn (Vs (Vs (Vr (Vl 0 hB (Ve (Vn (Vf (VC_skip (Vn (Vs (Vr (Vl 0 hB (Vl 3 hnd ?_))))))))))))))
 refine Vc 4 Tryz.call79 (all_any g.tb _) ?_
 rintro _ w2 ⟨bb1, rfl, hfbb1, hbb1, hc1⟩
 replace hSn := Step.trans hSn hc1
 replace htab := Tb.no htab hc1
 replace ho1 := ho1.no hc1
 have hzbb1 := hbb1.lt
 refine Ve (Vn (VC_block ?_))
 have hzl9 := Tb.lt htab
 have hzl11 := ho1.lt
 refine VC_range (gf := 81) (lb := #[Pt bb1 0]) (xs := (entV (g.ci.map Ci.ent))) (by kernel_rfl) Tryz.call81 (titer bb1 g.tb 64 (g.ci.map Ci.ent)) (fun a ha => by obtain ⟨x, _, rfl⟩ := List.mem_map.1 ha; rfl) (by kernel_rfl) (fun M i => i < w.heap.size ∨ M ≤ i) (fun M i hi => hi.elim (fun h9 => .inl (by omega)) .inr) (fun M k W => w2.heap.size + 2 ≤ M ∧ Jo M k W ∧ Own W b1 #[.func (.yield Lo) #[] #[]] 36 ∧ (k = 0 → Own W bb1 #[Pt g.tb 0] 45 ∧ Tb W g.tb 64 (g.ci.map Ci.ent))) (fun e W => False) (by rintro M k W W' ⟨hM9, hJq, ho1, hk9⟩ hs; exact ⟨hM9, hJm _ _ _ _ hJq (Step.mono hs (fun i hi => by have hi9 : i = w2.heap.size + 1 := hi; omega)), ho1.step hs (show ¬ b1 = w2.heap.size + 1 by omega), fun e9 => ⟨(hk9 e9).1.step hs (show ¬ bb1 = w2.heap.size + 1 by omega), Tb.step (hk9 e9).2 hs (show ¬ g.tb = w2.heap.size + 1 by omega)⟩⟩) (by rintro e W W' h; exact h.elim) (by rintro M k W W' ⟨hM9, hJq, ho1, hk9⟩ hs; exact ⟨hM9, hJm _ _ _ _ hJq hs.weak, ho1.no hs, fun e9 => ⟨(hk9 e9).1.no hs, Tb.no (hk9 e9).2 hs⟩⟩) (by rintro e W W' h; exact h.elim) (by rintro M k W ⟨hM9, hJq, ho1, hk9⟩; exact fun e9 => hk9 e9) (fun W hs _ => ⟨hbb1.no hs, Tb.no htab hs⟩) (fun M W hMm hM2 hs hD => ⟨hMm, h0 M W (by omega) hM2 (Step.trans hSn hs), ho1.no hs, fun _ => ⟨hbb1.no hs, Tb.no htab hs⟩⟩) ?_ ?_ ?_
 ·intro M k w3 args hM hM2 hx hJ0 hsz
  obtain ⟨hM9, hJq, ho1, hk9⟩ := hJ0
  obtain ⟨y, hy9, rfl⟩ := entV_inv hx
  have hSJ : Step (fun i => w.heap.size ≤ i ∧ i < M) w3 w3 := Step.refl _ _
  have hAs : Step No w3 w3 := Step.refl _ _
  have hML : M ≤ w3.heap.size := hM2
  refine VC_keep [2, 11] [(2, Pt b1 0), (11, .agg #[I6 y.p, I6 y.v, I6 y.c])] (by kernel_rfl) (Vr ?_)
  have hzl18 := ho1.lt
  refine Vx 0 30 #[I6 0, I6 0, I6 0] ?_
  intro b2 w4 hn2
  replace ho1 := ho1.no (hn2.step No)
  replace hML := Nat.le_trans hML (hn2.step No).size
  replace hAs := Step.trans hAs (hn2.step No)
  replace hSJ := stepJ_no hSJ (hn2.step No)
  have ho2 := hn2.own
  have hzhn2 := hn2.size
  have hqhn2 := hn2.eqb
  refine Vst 1 (o := 0) [I6 y.p, I6 y.v, I6 y.c] ho2 #[I6 y.p, I6 y.v, I6 y.c] ?_
  intro w5 hw1
  replace ho1 := ho1.step hw1.step (show ¬ b1 = b2 by omega)
  replace hML := Nat.le_trans hML (hw1.step).size
  replace hAs := Step.transNew hAs hw1.step (fun _ _ _ => by omega)
  replace hSJ := Step.transNew hSJ hw1.step (fun i hi9 hF9 => by have hF8 : i = b2 := hF9; omega)
  have ho3 := hw1.own
  have hzhw1 := hw1.same
  refine Ve (VQ_begin hAs ?_)
  intro w6 hb1 hzhb1
  replace ho1 := ho1.step hb1 (show ¬ b1 = (w2.heap.size + 1) by omega)
  replace hML := Nat.le_trans hML (hb1).size
  replace hSJ := Step.trans hSJ (Step.mono hb1 (fun i hi => by have hi9 : i = (w2.heap.size + 1) := hi; omega))
  replace ho3 := ho3.step hb1 (show ¬ b2 = (w2.heap.size + 1) by omega)
  have hR1 : Step ((fun M i => i < w.heap.size ∨ M ≤ i) M) w6 w6 := Step.refl _ _
  refine VC_block (Vs (Vr (Vl 0 ho1 (Vl 1 ho3 ?_))))
  have hJ4 := hJm _ _ _ _ hJq hSJ
  refine VL_yieldR (d := 15) (L := Lo) (args := #[.agg #[I6 y.p, I6 y.v, I6 y.c]]) (by kernel_rfl) (by kernel_rfl) (by kernel_rfl) (hy M k _ _ (by omega) hML (keyV_at hy9) hJ4) ?_
  rintro _ w7 ⟨hshy1, rfl, hy1⟩
  replace ho1 := ho1.step hshy1 (by (try simp only); omega)
  replace hR1 := Step.trans hR1 hshy1
  have hJq2 := hy1
  refine Ve (Vn (Vf (VC_skip (VQ_block_normal ?_))))
  exact VQ_round_end hR1 ⟨hM9, hJq2, ho1, fun e9 => absurd e9 (by omega)⟩
 ·intro M w8 hM hzM hJ0 hD
  obtain ⟨hM9, hJq, ho1, hk9⟩ := hJ0
  have hmk1 := hD
  refine VQ_block_normal ?_
  refine VQ_retM0 [w2.heap.size] (.inl rfl) rfl ⟨hmk1, (by simp), trivial⟩ ?_
  intro w9 hq1
  replace hq1 : Step (Just w2.heap.size) w8 w9 := Step.mono hq1 (fun i hi => by simpa using hi)
  replace hJq := hJm _ _ _ _ hJq (Step.mono hq1 (fun i hi => by have hi9 : i = w2.heap.size := hi; omega))
  have h9 : (entV (g.ci.map Ci.ent)).length = (keyV g.L).length := by rw [entV_len, keyV_len, List.length_map]; unfold NdG.L; rw [List.length_map]
  rw [h9] at hJq
  exact ⟨M, by omega, hJq⟩
 ·intro e W _ hF _; exact hF.elim

end Go.Proofs.YthchmlidobgkoaaGreat
end

section
/- Layer 20: a node by its list; things to be done, as arguments. -/
set_option linter.unusedVariables false
set_option linter.unusedSimpArgs false
namespace Go.Proofs.YthchmlidobgkoaaGreat
open Go.Vc Go.RowKit

theorem sl_of_flat {α : Type} (d0 : α) (enc : α → List Value) {sz : Nat} (hsz : ∀ x, (enc x).length = sz) (h0 : 0 < sz) {ls : List Leaf} (mk : ∀ cs, CellsW cs ls → ∃ a, cs = enc a) {w : World} {A : Option Addr} {n : Nat} (h : FlatSl w A n sz ls) : ∃ xs : List α, xs.length = n ∧ Sl w w.heap.size A (flat enc xs) := by
  by_cases hn : 0 < n
  · obtain ⟨b, o, rfl, hb, hc⟩ := h hn
    have hex : ∀ i, ∃ q : α, i < n → ∀ j, j < sz → w.cell? ⟨b, o + i * sz + j, none⟩ = (enc q)[j]? := by
      intro i
      by_cases hi : i < n
      · obtain ⟨cs, hw, hr⟩ := hc i hi
        obtain ⟨a, rfl⟩ := mk cs hw
        exact ⟨a, fun _ => hr⟩
      · exact ⟨d0, fun h => absurd h hi⟩
    obtain ⟨q, hq⟩ := Classical.axiomOfChoice hex
    refine ⟨(List.range n).map q, by simp, fun _ => ⟨b, o, rfl, hb, fun j u hu => ?_⟩⟩
    have hj : j = j / sz * sz + j % sz := by rw [Nat.mul_comm]; exact (Nat.div_add_mod j sz).symm
    have hm : j % sz < sz := Nat.mod_lt _ h0
    rw [hj, flat_get hsz _ _ _ hm] at hu
    obtain ⟨x, hx, hxu⟩ := Option.bind_eq_some_iff.1 hu
    have hlt : j / sz < n := by
      have := (List.getElem?_eq_some_iff.1 hx).1
      simpa using this
    rw [List.getElem?_map, List.getElem?_range hlt] at hx
    simp only [Option.map_some, Option.some.injEq] at hx
    subst hx
    rw [← hxu, ← hq _ hlt _ hm]
    congr 2
    omega
  · exact ⟨[], by simp; omega, fun h => by simp [flat] at h⟩
theorem ints_of_flat {w : World} {A : Option Addr} {n : Nat} (h : FlatSl w A n 1 [.int .i64]) : ∃ rs : List Int, rs.length = n ∧ Sl w w.heap.size A (iL .i64 rs) := by
  obtain ⟨xs, h1, h2⟩ := sl_of_flat (0 : Int) (fun x => [Value.int .i64 x]) (fun _ => rfl) (by decide) (fun cs hw => by
    have hlen := hw.length
    obtain ⟨c0, rfl⟩ : ∃ c0, cs = [c0] := by
      rcases cs with _ | ⟨c0, _ | ⟨c1, r⟩⟩ <;> first | exact ⟨_, rfl⟩ | (simp at hlen)
    obtain ⟨⟨a0, h0, _⟩, _⟩ := hw
    subst h0
    exact ⟨a0, rfl⟩) h
  refine ⟨xs, h1, ?_⟩
  have : flat (fun x => [Value.int .i64 x]) xs = iL .i64 xs := by
    clear h1 h2
    induction xs with
    | nil => rfl
    | cons x xs ih => rw [flat_cons, ih]; rfl
  rwa [this] at h2

structure OpA where
  d : Int
  p : Int
  v : Int
  c : Int
  k : Con
  t : Int
  clp : Int
def opc (o : OpA) : List Value := [.int .i64 o.d, .int .i64 o.p, .int .i64 o.v, .int .i64 o.c, .int .i64 o.k.kind, .int .i64 o.k.peak, .int .i64 o.k.early, .int .i64 o.k.whole, .int .i64 o.k.burst, .int .i64 o.k.least, .int .i64 o.t, .int .i64 o.clp]
theorem opc_len (o : OpA) : (opc o).length = 12 := rfl
theorem ops_of_flat {w : World} {A : Option Addr} {n : Nat} (h : FlatSl w A n 12 [.int .i64, .int .i64, .int .i64, .int .i64, .int .i64, .int .i64, .int .i64, .int .i64, .int .i64, .int .i64, .int .i64, .int .i64]) : ∃ xs : List OpA, xs.length = n ∧ Sl w w.heap.size A (flat opc xs) := by
  refine sl_of_flat (⟨0, 0, 0, 0, conZ, 0, 0⟩ : OpA) opc opc_len (by decide) (fun cs hw => ?_) h
  have hlen := hw.length
  obtain ⟨c0, c1, c2, c3, c4, c5, c6, c7, c8, c9, c10, c11, rfl⟩ : ∃ c0 c1 c2 c3 c4 c5 c6 c7 c8 c9 c10 c11, cs = [c0, c1, c2, c3, c4, c5, c6, c7, c8, c9, c10, c11] := by
    rcases cs with _ | ⟨c0, _ | ⟨c1, _ | ⟨c2, _ | ⟨c3, _ | ⟨c4, _ | ⟨c5, _ | ⟨c6, _ | ⟨c7, _ | ⟨c8, _ | ⟨c9, _ | ⟨c10, _ | ⟨c11, _ | ⟨c12, r⟩⟩⟩⟩⟩⟩⟩⟩⟩⟩⟩⟩⟩ <;> first | exact ⟨_, _, _, _, _, _, _, _, _, _, _, _, rfl⟩ | (simp at hlen)
  obtain ⟨⟨a0, h0, u0⟩, ⟨a1, h1, u1⟩, ⟨a2, h2, u2⟩, ⟨a3, h3, u3⟩, ⟨a4, h4, u4⟩, ⟨a5, h5, u5⟩, ⟨a6, h6, u6⟩, ⟨a7, h7, u7⟩, ⟨a8, h8, u8⟩, ⟨a9, h9, u9⟩, ⟨a10, h10, u10⟩, ⟨a11, h11, u11⟩, u12⟩ := hw
  clear u0 u1 u2 u3 u4 u5 u6 u7 u8 u9 u10 u11 u12
  subst h0; subst h1; subst h2; subst h3; subst h4; subst h5; subst h6; subst h7; subst h8; subst h9; subst h10; subst h11
  exact ⟨⟨a0, a1, a2, a3, ⟨a4, a5, a6, a7, a8, a9⟩, a10, a11⟩, rfl⟩
/-- What is done to a node's list, and answered. -/
def doL (rooms : List Int) (L : List Cx) (o : OpA) : List Cx :=
  if o.d = 1 then takeN rooms L o.p o.v o.c o.k else if o.d = 2 then chgN rooms L o.p o.v o.c o.k else if o.d = 3 then delC L o.p o.v o.c else if o.d = 4 then verN L o.p o.v o.c o.t o.clp else L
def doV (rooms : List Int) (L : List Cx) (o : OpA) : Int := if o.d = 1 then chkN rooms L o.p o.v o.c o.k else if o.d = 2 then chgK rooms L o.p o.v o.c o.k else 0

section
variable {w w1 : World} {F : Nat → Prop} {nd lo : Nat} {X : Nat → Prop} {rooms : List Int} {L : List Cx} {n : Nat}
theorem NdP.step (h : NdP w nd X lo rooms L n) (hs : Step F w w1) (hF : ∀ k, X k → ¬ F k) : NdP w1 nd X lo rooms L n := by obtain ⟨g, h1, h2, h3⟩ := h; exact ⟨g, h1.step hs hF, h2, h3⟩
theorem NdP.no (h : NdP w nd X lo rooms L n) (hs : Step No w w1) : NdP w1 nd X lo rooms L n := h.step hs fun _ _ => id
theorem NdP.lt (h : NdP w nd X lo rooms L n) : nd < w.heap.size := by obtain ⟨g, h1, h2, h3⟩ := h; exact h1.lt h1.inX.1
theorem NdP.ltX (h : NdP w nd X lo rooms L n) {k : Nat} (hk : X k) : k < w.heap.size := by obtain ⟨g, h1, h2, h3⟩ := h; exact h1.lt hk
theorem NdP.low (h : NdP w nd X lo rooms L n) {k : Nat} (hk : X k) : lo ≤ k := by obtain ⟨g, h1, h2, h3⟩ := h; exact h1.lo k hk
theorem NdP.lo_le (h : NdP w nd X lo rooms L n) : lo ≤ w.heap.size := by obtain ⟨g, h1, h2, h3⟩ := h; have := h1.lo nd h1.inX.1; have := h1.lt h1.inX.1; omega
theorem NdP.nt (h : NdP w nd X lo rooms L n) {k : Nat} (hk : X k) : NT w k := by obtain ⟨g, h1, h2, h3⟩ := h; exact h1.ty k hk
theorem NdP.li (h : NdP w nd X lo rooms L n) : LI rooms L := by obtain ⟨g, h1, h2, h3⟩ := h; rw [← h2]; exact h1.li
theorem NdP.len (h : NdP w nd X lo rooms L n) : L.length ≤ 64 := h.li.len
theorem NdP.more (h : NdP w nd X lo rooms L n) {m : Nat} (hm : n ≤ m) : NdP w nd X lo rooms L m := by obtain ⟨g, h1, h2, h3⟩ := h; exact ⟨g, h1, h2, by omega⟩
/-- A block of another type is none of a node's. -/
theorem NdP.nx (h : NdP w nd X lo rooms L n) {b T : Nat} {cs : Array Value} (ho : Own w b cs T) (hT : T ≠ 50 ∧ T ≠ 51 ∧ T ≠ 85 ∧ T ≠ 82 ∧ T ≠ 112 ∧ T ≠ 108 ∧ T ≠ 135) : ¬ X b := fun hb => NT.not ho hT (h.nt hb)
theorem NdP.blk (h : NdP w nd X lo rooms L n) {b T : Nat} {cs : Array Value} (ho : Own w b cs T) (hT : T ≠ 50 ∧ T ≠ 51 ∧ T ≠ 85 ∧ T ≠ 82 ∧ T ≠ 112 ∧ T ≠ 108 ∧ T ≠ 135) (hs : Step (Just b) w w1) : NdP w1 nd X lo rooms L n := h.step hs fun k hk e => h.nx ho hT (by rw [show k = b from e] at hk; exact hk)
theorem NdP.row {sz base m c T : Nat} {A : Option Addr} {xs : List Value} (h : NdP w nd X lo rooms L n) (hr : RwS w sz base T A m c xs) (hT : T ≠ 50 ∧ T ≠ 51 ∧ T ≠ 85 ∧ T ≠ 82 ∧ T ≠ 112 ∧ T ≠ 108 ∧ T ≠ 135) (hs : Step (ownB A) w w1) : NdP w1 nd X lo rooms L n := h.step hs fun k hk e => by
  have h1 := tyO_tyB (hr.tyB e)
  obtain ⟨_, h2⟩ := h.nt hk
  omega
theorem NdP.mark {b : Nat} (h : NdP w nd X lo rooms L n) (hs : Step (Just b) w w1) (hb : ¬ X b) : NdP w1 nd X lo rooms L n := h.step hs fun k hk e => hb (by rw [show k = b from e] at hk; exact hk)
theorem NdP.dfr {b : Nat} (h : NdP w nd X lo rooms L n) (hd : Dfr w b) : ¬ X b := fun hb => by
  obtain ⟨_, h2⟩ := h.nt hb
  have h1 : tyO w b = 1 := by unfold tyO; unfold Dfr at hd; rw [hd]
  omega
/-- Rows of other types are left as they are by what turns a node. -/
theorem RwS_nd {sz base m c T : Nat} {A : Option Addr} {xs : List Value} (h : NdP w nd X lo rooms L n) (hr : RwS w sz base T A m c xs) (hT : T ≠ 50 ∧ T ≠ 51 ∧ T ≠ 85 ∧ T ≠ 82 ∧ T ≠ 112 ∧ T ≠ 108 ∧ T ≠ 135) (hs : Step X w w1) : RwS w1 sz base T A m c xs := hr.keepO hs fun k hk e => by
  have h1 := tyO_tyB (hr.tyB hk)
  obtain ⟨_, h2⟩ := h.nt e
  omega
abbrev KV (p v c : Int) : Value := .agg #[.int .i64 p, .int .i64 v, .int .i64 c]
abbrev CVv (k : Con) : Value := .agg #[.int .i64 k.kind, .int .i64 k.peak, .int .i64 k.early, .int .i64 k.whole, .int .i64 k.burst, .int .i64 k.least]
/-- What an operation leaves. -/
def Next (w : World) (nd : Nat) (X : Nat → Prop) (lo : Nat) (rooms : List Int) (L : List Cx) (n : Nat) (w1 : World) : Prop := ∃ X9, NdP w1 nd X9 lo rooms L n ∧ (∀ q, X9 q → X q ∨ w.heap.size ≤ q) ∧ Step X w w1
theorem Next.of_no (h : NdP w nd X lo rooms L n) (hs : Step No w w1) : Next w nd X lo rooms L (n + 1) w1 := ⟨X, (h.no hs).more (by omega), fun q hq => .inl hq, hs.weak⟩
theorem ntake (h : NdP w nd X lo rooms L n) (hn : n < 1152921504606846976) (p v c : Int) (k : Con) : CV Tryz.prog 10 #[.pointer (some ⟨nd, 0, none⟩), KV p v c, CVv k] w fun x w1 => x = .int .i64 (chkN rooms L p v c k) ∧ Next w nd X lo rooms (takeN rooms L p v c k) (n + 1) w1 := by
  have hlo := h.lo_le
  obtain ⟨g, h1, rfl, h3⟩ := h
  refine (take_any nd lo X rooms g p v c k (by omega) w hlo h1 (fun hc => take_no nd lo X rooms g p v c k hc w h1)).mono ?_
  rintro x w1 ⟨rfl, g9, X9, a, b, c', d, e⟩
  exact ⟨rfl, X9, ⟨g9, a, b, by omega⟩, d, e⟩
theorem nchange (h : NdP w nd X lo rooms L n) (p v c : Int) (k : Con) : CV Tryz.prog 12 #[.pointer (some ⟨nd, 0, none⟩), KV p v c, CVv k] w fun x w1 => x = .int .i64 (chgK rooms L p v c k) ∧ Next w nd X lo rooms (chgN rooms L p v c k) (n + 1) w1 := by
  have hlo := h.lo_le
  have hh := h
  obtain ⟨g, h1, rfl, h3⟩ := h
  by_cases hc : chgK rooms g.L p v c k = 0
  · refine (change_yes nd lo X rooms g p v c k hc w hlo h1).mono ?_
    rintro x w1 ⟨rfl, g9, X9, a, b, c', d, e⟩
    exact ⟨by rw [hc], X9, ⟨g9, a, b, by omega⟩, d, e⟩
  · refine (change_no nd lo X rooms g p v c k hc w h1).mono ?_
    rintro x w1 ⟨rfl, hs⟩
    exact ⟨rfl, by have := Next.of_no hh hs; unfold chgN; rw [if_neg hc]; exact this⟩
theorem ndrop (h : NdP w nd X lo rooms L n) (p v c : Int) : CV Tryz.prog 14 #[.pointer (some ⟨nd, 0, none⟩), KV p v c] w fun x w1 => x = .bool (findC L p v c).isSome ∧ Next w nd X lo rooms (delC L p v c) (n + 1) w1 := by
  have hh := h
  obtain ⟨g, h1, rfl, h3⟩ := h
  cases hc : (findC g.L p v c).isSome with
  | true =>
    refine (drop_yes nd lo X rooms g p v c w h1 (by rw [lookE_isSome]; exact hc)).mono ?_
    rintro x w1 ⟨rfl, g9, X9, a, b, c', d, e⟩
    exact ⟨rfl, X9, ⟨g9, a, b, by omega⟩, d, e⟩
  | false =>
    have hn : findC g.L p v c = none := by cases e : findC g.L p v c; rfl; rw [e] at hc; cases hc
    refine (ndrop_no nd lo X rooms g p v c w h1 (by rw [lookE_isSome]; exact hc)).mono ?_
    rintro x w1 ⟨rfl, hs⟩
    exact ⟨rfl, by rw [delC_none hn]; exact Next.of_no hh hs⟩
theorem ncontract (h : NdP w nd X lo rooms L n) (p v c : Int) : CV Tryz.prog 48 #[.pointer (some ⟨nd, 0, none⟩), KV p v c] w fun x w1 => x = .tuple #[CVv (conN L p v c), .bool (findC L p v c).isSome] ∧ Step No w w1 := by
  obtain ⟨g, h1, rfl, h3⟩ := h
  cases hc : (findC g.L p v c).isSome with
  | true => exact contract_yes nd lo X rooms g p v c w h1 (by rw [lookE_isSome]; exact hc)
  | false => exact contract_no nd lo X rooms g p v c w h1 (by rw [lookE_isSome]; exact hc)
theorem nverdict (h : NdP w nd X lo rooms L n) (p v c t clp : Int) : CV Tryz.prog 16 #[.pointer (some ⟨nd, 0, none⟩), KV p v c, .int .i64 t, .int .i64 clp] w fun x w1 => x = .tuple #[.int .i64 (verV L p v c t clp), .bool (findC L p v c).isSome] ∧ Next w nd X lo rooms (verN L p v c t clp) (n + 1) w1 := by
  have hh := h
  obtain ⟨g, h1, rfl, h3⟩ := h
  cases hc : (findC g.L p v c).isSome with
  | true =>
    refine (verdict_yes nd lo X rooms g p v c t clp w h1 (by rw [lookE_isSome]; exact hc)).mono ?_
    rintro x w1 ⟨rfl, g9, X9, a, b, c', d, e⟩
    exact ⟨rfl, X9, ⟨g9, a, b, by omega⟩, d, e⟩
  | false =>
    have hn : findC g.L p v c = none := by cases e : findC g.L p v c; rfl; rw [e] at hc; cases hc
    refine (verdict_no nd lo X rooms g p v c t clp w h1 (by rw [lookE_isSome]; exact hc)).mono ?_
    rintro x w1 ⟨rfl, hs⟩
    refine ⟨by unfold verV; rw [hn], ?_⟩
    unfold verN
    rw [setC_none hn]
    exact Next.of_no hh hs
theorem nleft (h : NdP w nd X lo rooms L n) (p : Int) : CV Tryz.prog 21 #[.pointer (some ⟨nd, 0, none⟩), .int .i64 p] w fun x w1 => x = .int .i64 (leftN rooms L p) ∧ Step No w w1 := by
  obtain ⟨g, h1, rfl, h3⟩ := h
  exact nLeft_any nd lo X rooms g p w h1
theorem nused (h : NdP w nd X lo rooms L n) (p : Int) : CV Tryz.prog 20 #[.pointer (some ⟨nd, 0, none⟩), .int .i64 p] w fun x w1 => x = .int .i64 (usedN rooms L p) ∧ Step No w w1 := by
  obtain ⟨g, h1, rfl, h3⟩ := h
  exact nUsed_any nd lo X rooms g p w h1
theorem nnew {A : Option Addr} {m c Bd : Nat} {rs : List Int} (hn : rs.length = m) (hA : Sl w Bd A (iL .i64 rs)) (hB : Bd ≤ w.heap.size) (hnc : m ≤ c) : CV Tryz.prog 6 #[.slice A m c] w fun x w1 => ∃ nd X, x = .pointer (some ⟨nd, 0, none⟩) ∧ NdP w1 nd X w.heap.size (roomsN rs) [] 0 ∧ (∀ q, X q → w.heap.size ≤ q) ∧ Step No w w1 := by
  refine (nnew_x A m c Bd rs w hn hA hB hnc).mono ?_
  rintro x w1 ⟨nd, X, g, rfl, a, b, c', d, e⟩
  exact ⟨nd, X, rfl, ⟨g, a, b, by omega⟩, d, e⟩
theorem niter (B nd lo : Nat) (X : Nat → Prop) (rooms : List Int) (L : List Cx) (n : Nat) : IterC2 Tryz.prog 78 #[.pointer (some ⟨B, 0, none⟩)] (keyV L) (fun k W => k = 0 → Own W B #[.pointer (some ⟨nd, 0, none⟩)] 25 ∧ NdP W nd X lo rooms L n) := by
  intro Lo W0 J hJm hrd hrd0 h0 hy
  obtain ⟨hB, g, h, rfl, h3⟩ := hrd0 rfl
  exact nall1_any Lo B nd lo X rooms g J W0 h hB hJm h0 hy
end
end Go.Proofs.YthchmlidobgkoaaGreat
end

section
/- The calculus: a load in a drawn region's chain; what lies beyond a world's end plays no part. -/
set_option linter.unusedVariables false
set_option linter.unusedSimpArgs false
namespace Go.Vc
open Go.RowKit
theorem Step.cut {X : Nat → Prop} {s : Nat} {w w' : World} (h : Step (fun k => X k ∨ s ≤ k) w w') (hs : w.heap.size ≤ s) : Step X w w' :=
  ⟨h.os, h.tape, h.output, h.size, fun k hk hX => h.block k hk (fun e => e.elim hX (fun h1 => by omega))⟩
section
variable {r : Option Nat} {n : Nat} {ds : List Deferred} {P : Program} {ops : Array Oper} {Q : Exit → Act → World → Prop} {tbl : List (List Nat)} {m : Nat} {l : List (Nat × Value)} {R : World → World → Prop} {ch : List Nat} {w : World}
end
end Go.Vc
end

section
/- Layer 20: do, keys, awake. -/
set_option linter.unusedVariables false
set_option linter.unusedSimpArgs false
set_option maxRecDepth 100000
set_option maxHeartbeats 4000000
namespace Go.Proofs.YthchmlidobgkoaaGreat
open Go.Vc Go.RowKit

def keyc (x : Cx) : List Value := [.int .i64 x.p, .int .i64 x.v, .int .i64 x.c]
theorem keyc_len (x : Cx) : (keyc x).length = 3 := rfl
theorem keyc_one (x : Cx) : ∀ u ∈ keyc x, oneC u = true := by
  intro u hu
  simp only [keyc, List.mem_cons, List.mem_nil_iff, or_false] at hu
  rcases hu with rfl | rfl | rfl <;> rfl
theorem takeC_next {α : Type} {L : List α} {k : Nat} {y : α} (h : L[k]? = some y) : L.take (k + 1) = L.take k ++ [y] := by
  rw [List.take_add_one, h]; rfl
theorem do_any {nd lo : Nat} {X : Nat → Prop} {rooms : List Int} {L : List Cx} {n : Nat} {w : World} (h : NdP w nd X lo rooms L n) (hn : n < 1152921504606846975) (o : OpA)  :
  CV Tryz.prog 19 #[Pt nd 0, .agg #[I6 o.d, I6 o.p, I6 o.v, I6 o.c, I6 o.k.kind, I6 o.k.peak, I6 o.k.early, I6 o.k.whole, I6 o.k.burst, I6 o.k.least, I6 o.t, I6 o.clp]] w (fun x w1 => x = I6 (doV rooms L o) ∧ Next w nd X lo rooms (doL rooms L o) (n + 1) w1) := by
 have hS : Step X w w := Step.refl _ _
 refine VCe Tryz.func19 (Vs (Vr ?_))
 refine Vx 0 34 #[I6 o.d, I6 o.p, I6 o.v, I6 o.c, I6 o.k.kind, I6 o.k.peak, I6 o.k.early, I6 o.k.whole, I6 o.k.burst, I6 o.k.least, I6 o.t, I6 o.clp] ?_
 intro b1 w1 hn1
 replace hS := (fun h9 s9 => Step.trans h9 (Step.weak s9)) hS (hn1.step No)
 replace h := NdP.no h (hn1.step No)
 have ho1 := hn1.own
 have hzhn1 := hn1.size
 have hqhn1 := hn1.eqb
 refine Ve (Vn (Vs (Vs (Vr (Vl 1 ho1 (Ve (Vn (VC_block (Vrp (Vie o.d 1 (fun h1 => ?_) (fun h1 => ?_)))))))))))
 ·refine Vs (Vr (Vl 2 ho1 (Vl 4 ho1 ?_)))
  refine Vc 5 Tryz.call10 (ntake h (by omega) o.p o.v o.c o.k) ?_
  rintro _ w2 ⟨rfl, X1, hN1, hXg1, hc1⟩
  replace hS := Step.trans hS hc1
  refine Ve (Vn (VC_ret (VQ_block_ret (VQ_then_ret (Vr1 (I6 (chkN rooms L o.p o.v o.c o.k)) ?_)))))
  exact ⟨congrArg (Value.int .i64) (by unfold doV; simp [*]), X1, (by rw [show doL rooms L o = takeN rooms L o.p o.v o.c o.k by unfold doL; simp [*]]; exact NdP.more hN1 (by omega)), fun q9 hq9 => (hXg1 q9 hq9).imp id (fun h9 => by omega), hS⟩
 ·refine Vrp (Vie o.d 2 (fun h2 => ?_) (fun h2 => ?_))
  ·refine Vs (Vr (Vl 2 ho1 (Vl 4 ho1 ?_)))
   refine Vc 5 Tryz.call12 (nchange h o.p o.v o.c o.k) ?_
   rintro _ w3 ⟨rfl, X2, hN2, hXg2, hc2⟩
   replace hS := Step.trans hS hc2
   refine Ve (Vn (VC_ret (VQ_block_ret (VQ_then_ret (Vr1 (I6 (chgK rooms L o.p o.v o.c o.k)) ?_)))))
   exact ⟨congrArg (Value.int .i64) (by unfold doV; simp [*]), X2, (by rw [show doL rooms L o = chgN rooms L o.p o.v o.c o.k by unfold doL; simp [*]]; exact NdP.more hN2 (by omega)), fun q9 hq9 => (hXg2 q9 hq9).imp id (fun h9 => by omega), hS⟩
  ·refine Vrp (Vie o.d 3 (fun h3 => ?_) (fun h3 => ?_))
   ·refine Vr (Vl 2 ho1 ?_)
    refine Vc 3 Tryz.call14 (ndrop h o.p o.v o.c) ?_
    rintro _ w4 ⟨rfl, X3, hN3, hXg3, hc3⟩
    replace hS := Step.trans hS hc3
    refine Ve (VQ_block_normal (Vn (Vrp (VC_ret (Vr1 (I6 0) ?_)))))
    exact ⟨congrArg (Value.int .i64) (by unfold doV; simp [*]), X3, (by rw [show doL rooms L o = delC L o.p o.v o.c by unfold doL; simp [*]]; exact NdP.more hN3 (by omega)), fun q9 hq9 => (hXg3 q9 hq9).imp id (fun h9 => by omega), hS⟩
   ·refine Vrp (Vie o.d 4 (fun h4 => ?_) (fun h4 => ?_))
    ·refine Vr (Vl 2 ho1 (Vl 4 ho1 (Vl 6 ho1 ?_)))
     refine Vc 7 Tryz.call16 (nverdict h o.p o.v o.c o.t o.clp) ?_
     rintro _ w5 ⟨rfl, X4, hN4, hXg4, hc4⟩
     replace hS := Step.trans hS hc4
     refine Ve (VQ_block_normal (Vn (Vrp (VC_ret (Vr1 (I6 0) ?_)))))
     exact ⟨congrArg (Value.int .i64) (by unfold doV; simp [*]), X4, (by rw [show doL rooms L o = verN L o.p o.v o.c o.t o.clp by unfold doL; simp [*]]; exact NdP.more hN4 (by omega)), fun q9 hq9 => (hXg4 q9 hq9).imp id (fun h9 => by omega), hS⟩
    ·refine VC_skip (VQ_block_normal (Vn (Vrp (VC_ret (Vr1 (I6 0) ?_)))))
     exact ⟨congrArg (Value.int .i64) (by unfold doV; simp [*]), X, (by rw [show doL rooms L o = L by unfold doL; simp [*]]; exact NdP.more h (by omega)), fun q9 hq9 => .inl hq9, hS⟩

theorem keys_any {nd lo : Nat} {X : Nat → Prop} {rooms : List Int} {L : List Cx} {n : Nat} {w : World} (h : NdP w nd X lo rooms L n)  :
  CV Tryz.prog 47 #[Pt nd 0] w (fun x w1 => ∃ A m c, x = .slice A m c ∧ L.length = m ∧ RwS w1 3 w.heap.size 30 A m c (flat keyc L) ∧ Step No w w1) := by
 have hS : Step No w w := Step.refl _ _
 have hXwnd := fun k9 hk9 => NdP.ltX h (k := k9) hk9
 have hlen := h.len
 refine VCm Tryz.func47 (Vrp (Vs (Vr ?_)))
 refine Vx 0 42 #[.slice none 0 0] ?_
 intro b1 w1 hn1
 replace hS := Step.trans hS (hn1.step No)
 replace h := NdP.no h (hn1.step No)
 have ho1 := hn1.own
 have hzhn1 := hn1.size
 have hqhn1 := hn1.eqb
 refine Ve (Vn (Vs (Vs (Vr (Vp 1 ?_)))))
 refine Vc 1 Tryz.call68 (nall_any nd _) ?_
 rintro _ w2 ⟨bb1, rfl, hfbb1, hbb1, hc1⟩
 replace hS := Step.trans hS hc1
 replace h := NdP.no h hc1
 replace ho1 := ho1.no hc1
 have hzbb1 := hbb1.lt
 refine Ve (Vn (VC_block ?_))
 have hzl5 := ho1.lt
 refine VC_range2 (gf := 78) (lb := #[Pt bb1 0]) (xs := (keyV L)) (by kernel_rfl) Tryz.call78 (niter bb1 nd lo X rooms L n) (keyV_sz L) (by kernel_rfl) (fun M i => i = b1 ∨ M ≤ i) (fun M i hi => by (try simp only at hi); omega) (fun M k W => w2.heap.size + 2 ≤ M ∧ Step No w W ∧ NdP W nd X lo rooms L n ∧ Own W bb1 #[Pt nd 0] 25 ∧ ∃ A m c, Own W b1 #[.slice A m c] 42 ∧ RwS W 3 M 30 A m c (flat keyc (L.take k))) (by rintro M k W W' ⟨hMm, hS, h, hbb1, A, m, c, ho1, hr⟩ hs; exact ⟨hMm, Step.transNew hS hs (fun i hi hG => by have h7 : i = (w2.heap.size + 1) := hG; omega), NdP.step h hs (fun k9 hk9 hF9 => by have h8 := hXwnd k9 hk9; have h7 : k9 = (w2.heap.size + 1) := hF9; omega), hbb1.step hs (fun hG => by have h7 : bb1 = (w2.heap.size + 1) := hG; omega), A, m, c, ho1.step hs (fun hG => by have h7 : b1 = (w2.heap.size + 1) := hG; omega), hr.step hs (fun k hk hG => by have h7 : k = (w2.heap.size + 1) := hG; omega)⟩) (by rintro M k W W' ⟨hMm, hS, h, hbb1, A, m, c, ho1, hr⟩ hs; exact ⟨hMm, Step.transNew hS hs (fun i hi hG => by have h7 := hG.1; have h6 := hG.2; omega), NdP.step h hs (fun k9 hk9 hF9 => by have h8 := hXwnd k9 hk9; have h7 := hF9.1; have h6 := hF9.2; omega), hbb1.step hs (fun hG => by have h7 := hG.1; have h6 := hG.2; omega), A, m, c, ho1.step hs (fun hG => by have h7 := hG.1; have h6 := hG.2; omega), hr.step hs (fun k hk hG => by have h7 := hG.1; have h6 := hG.2; omega)⟩) (by rintro M k W ⟨hMm, hS, h, hbb1, A, m, c, ho1, hr⟩; exact fun _ => ⟨hbb1, h⟩) (fun W hs _ => ⟨hbb1.no hs, h.no hs⟩) (fun M W hMm hM2 hs _ => ⟨hMm, Step.trans hS hs, h.no hs, hbb1.no hs, none, 0, 0, ho1.no hs, RwS.nil _ _ _ _⟩) ?_ ?_
 ·intro M k w3 args hM hM2 hx hJ0 hsz
  obtain ⟨hMm, hS, h, hbb1, A, m, c, ho1, hr⟩ := hJ0
  obtain ⟨y, hy, rfl⟩ := keyV_inv hx
  have hAs : Step No w3 w3 := Step.refl _ _
  have hML : M ≤ w3.heap.size := hM2
  have hky := (List.getElem?_eq_some_iff.1 hy).1
  have hlr : (L.take k).length = m := by have hq9 := RwS.len hr; rw [flat_len keyc_len] at hq9; omega
  have hub9 := hr.ub
  have hlq : m ≤ L.length := by rw [← hlr, List.length_take]; omega
  refine VC_keep [3, 7] [(3, Pt b1 0), (7, .agg #[I6 y.p, I6 y.v, I6 y.c])] (by kernel_rfl) (Vr ?_)
  have hzl11 := hbb1.lt
  have hzl12 := ho1.lt
  refine Vx 0 30 #[I6 0, I6 0, I6 0] ?_
  intro b2 w4 hn2
  replace hS := Step.trans hS (hn2.step No)
  replace h := NdP.no h (hn2.step No)
  replace hbb1 := hbb1.no (hn2.step No)
  replace ho1 := ho1.no (hn2.step No)
  replace hr := hr.no (hn2.step No)
  replace hML := Nat.le_trans hML (hn2.step No).size
  replace hAs := Step.trans hAs (hn2.step No)
  have ho2 := hn2.own
  have hzhn2 := hn2.size
  have hqhn2 := hn2.eqb
  refine Vst 1 (o := 0) [I6 y.p, I6 y.v, I6 y.c] ho2 #[I6 y.p, I6 y.v, I6 y.c] ?_
  intro w5 hw1
  replace hS := Step.transNew hS hw1.step (fun _ _ _ => by omega)
  replace h := NdP.blk h ho2 (by decide) hw1.step
  replace hbb1 := hbb1.step hw1.step (show ¬ bb1 = b2 by omega)
  replace ho1 := ho1.step hw1.step (show ¬ b1 = b2 by omega)
  replace hr := hr.stepU hub9 hw1.step (fun k hk1 hk2 (hF : k = b2) => by omega)
  replace hML := Nat.le_trans hML (hw1.step).size
  replace hAs := Step.transNew hAs hw1.step (fun _ _ _ => by omega)
  have ho3 := hw1.own
  have hzhw1 := hw1.same
  refine Ve (VQ_begin hAs ?_)
  intro w6 hb1 hzhb1
  replace hS := Step.transNew hS hb1 (fun _ _ _ => by omega)
  replace h := NdP.step h hb1 (fun k9 hk9 hF9 => by have h8 := hXwnd k9 hk9; have h7 : k9 = (w2.heap.size + 1) := hF9; omega)
  replace hbb1 := hbb1.step hb1 (show ¬ bb1 = (w2.heap.size + 1) by omega)
  replace ho1 := ho1.step hb1 (show ¬ b1 = (w2.heap.size + 1) by omega)
  replace hr := hr.stepU hub9 hb1 (fun k hk1 hk2 (hF : k = (w2.heap.size + 1)) => by omega)
  replace hML := Nat.le_trans hML (hb1).size
  replace ho3 := ho3.step hb1 (show ¬ b2 = (w2.heap.size + 1) by omega)
  have hR1 : Step ((fun M i => i = b1 ∨ M ≤ i) M) w6 w6 := Step.refl _ _
  refine VC_block (Vr (Vl 0 ho1 (Vl 1 ho3 ?_)))
  refine VL_bs (d := 10) (e := 30) (c := #[I6 y.p, I6 y.v, I6 y.c]) (len := 1) (by kernel_rfl) (by kernel_rfl) ?_
  intro b3 w7 hn3
  replace hS := Step.trans hS (hn3.step No)
  replace h := NdP.no h (hn3.step No)
  replace hbb1 := hbb1.no (hn3.step No)
  replace ho1 := ho1.no (hn3.step No)
  replace hr := hr.no (hn3.step No)
  replace hML := Nat.le_trans hML (hn3.step No).size
  replace hR1 := Step.trans hR1 (Step.weak (hn3.step No))
  have ho4 := hn3.own
  have hzk4 := hML
  refine VL_appendZ (d := 11) (e := 30) (A := A) (m := m) (c := c) (A2 := (some ⟨b3, 0, none⟩)) (m2 := 1) (c2 := 1) (sz := 3) (bytes := 24) (by kernel_rfl) (by kernel_rfl) (by kernel_rfl) M w7.heap.size (flat keyc (L.take k)) (flat keyc [y]) hr (by rw [flat_one, keyc_len]) (Sl.mono (Sl.cast (Own.sl ho4 ho4.lt) (by first | rfl | simp [flat])) (by first | exact Nat.le_refl _ | omega)) (flat_one' keyc_one _) (m + 1) (by omega) (by simp only [maxLen]; omega) (by omega) (by omega) ?_
  intro A1 c1 w8 hr1 hg1
  replace hr1 : RwS w8 3 M 30 A1 (m + 1) c1 (flat keyc ((L.take k) ++ ([y]))) := RwS.cast hr1 rfl (by simp only [flat_append, flat_one, List.append_assoc, List.nil_append, List.append_nil, show flat keyc [] = [] from rfl])
  replace hg1 := Step.mono (G := fun k => M ≤ k) hg1 (fun i hi => (RwS.lt hr i hi).1)
  replace hS := Step.transNew hS hg1 (fun i hi hG => by (try simp only at hG); omega)
  replace h := NdP.step h hg1 (fun k9 hk9 hF9 => by have h8 := hXwnd k9 hk9; (try simp only at hF9); omega)
  replace hbb1 := hbb1.step hg1 (by (try simp only); omega)
  replace ho1 := ho1.step hg1 (by (try simp only); omega)
  replace hR1 := Step.transNew hR1 hg1 (fun i hi hG => by (try simp only at hG); (first | show _ ∨ _ | show _ = _); omega)
  refine Vst 4 (o := 0) [.slice A1 (m + 1) c1] ho1 #[.slice A1 (m + 1) c1] ?_
  intro w9 hw2
  replace hS := Step.transNew hS hw2.step (fun _ _ _ => by omega)
  replace h := NdP.blk h ho1 (by decide) hw2.step
  replace hbb1 := hbb1.step hw2.step (show ¬ bb1 = b1 by omega)
  replace hR1 := Step.trans hR1 (Step.mono hw2.step (by intro i hi; first | exact hi | exact ⟨_, by assumption, hi⟩ | (have hi9 : i = b1 := hi; (first | show _ ∨ _ | show _ = _); omega)))
  replace hr1 := hr1.step hw2.step (fun k hk (hF : k = b1) => by omega)
  have ho5 := hw2.own
  refine Ve (VQ_block_normal ?_)
  exact VQ_round_end hR1 ⟨hMm, hS, h, hbb1, A1, _, _, ho5, RwS.cast hr1 rfl (by rw [takeC_next hy])⟩
 ·intro M w10 hM hzM hJ0 hD
  rw [keyV_len] at hJ0
  obtain ⟨hMm, hS, h, hbb1, A, m, c, ho1, hr⟩ := hJ0
  have hlr : (L.take L.length).length = m := by have hq9 := RwS.len hr; rw [flat_len keyc_len] at hq9; omega
  have hub9 := hr.ub
  have hmk1 := hD
  refine VQ_block_normal (Vn (Vs (Vr (Vl 0 ho1 (Ve (Vn (VC_ret ?_)))))))
  refine VrM (.slice A m c) (Ds := [w2.heap.size]) ⟨hmk1, (by simp), trivial⟩ ?_
  intro w11 hq1
  replace hq1 : Step (Just w2.heap.size) w10 w11 := Step.mono hq1 (fun i hi => by simpa using hi)
  replace hS := Step.transNew hS hq1 (fun _ _ _ => by omega)
  replace hr := hr.stepU hub9 hq1 (fun k hk1 hk2 (hF : k = w2.heap.size) => by omega)
  exact ⟨A, _, _, rfl, (by rw [List.take_length] at hlr; exact hlr), RwS.low (RwS.cast hr rfl (by rw [List.take_length])) (by omega), hS⟩

theorem awake_any (w : World) :
  CV Tryz.prog 5 #[] w (fun x w1 => x = Bo true ∧ Step No w w1) := by
 have hS : Step No w w := Step.refl _ _
 refine VCe Tryz.func5 (Vrp (Vs (Vr ?_)))
 refine VL_bs (d := 3) (e := 3) (c := #[I6 1100]) (len := 1) (by kernel_rfl) (by kernel_rfl) ?_
 intro b1 w1 hn1
 replace hS := Step.trans hS (hn1.step No)
 have ho1 := hn1.own
 have hzhn1 := hn1.size
 have hqhn1 := hn1.eqb
 refine Vc 1 (args := #[.slice (some ⟨b1, 0, none⟩) 1 1]) Tryz.call6 (nnew (rs := [1100]) rfl (ho1.sl (B := b1 + 1) (by omega)) ho1.lt (by omega)) ?_
 rintro _ w2 ⟨nd1, X1, rfl, hN1, hXg1, hc1⟩
 replace hS := Step.trans hS hc1
 replace ho1 := ho1.no hc1
 obtain ⟨lo1, hlo1E⟩ : ∃ x, x = w1.heap.size := ⟨_, rfl⟩
 rw [← hlo1E] at hN1
 refine Ve (Vn (Vs (Vr (Vp 1 ?_))))
 have hzl2 := ho1.lt
 refine Vx 1 32 #[I6 0, I6 0, I6 0, I6 0, I6 0, I6 0] ?_
 intro b2 w3 hn2
 replace hS := Step.trans hS (hn2.step No)
 replace hN1 := NdP.no hN1 (hn2.step No)
 have ho2 := hn2.own
 have hzhn2 := hn2.size
 have hqhn2 := hn2.eqb
 refine Vst 2 (o := 0) [I6 1, I6 1000, I6 0, I6 0, I6 0, I6 0] ho2 #[I6 1, I6 1000, I6 0, I6 0, I6 0, I6 0] ?_
 intro w4 hw1
 replace hS := Step.transNew hS hw1.step (fun _ _ _ => by omega)
 replace hN1 := NdP.blk hN1 ho2 (by decide) hw1.step
 have ho3 := hw1.own
 refine Ve (Vn (Vs (Vr (Vl 5 ho3 ?_))))
 refine Vc 6 (args := #[Pt nd1 0, .agg #[I6 0, I6 0, I6 40], .agg #[I6 1, I6 1000, I6 0, I6 0, I6 0, I6 0]]) Tryz.call10 (ntake hN1 (by omega) 0 0 40 (⟨1, 1000, 0, 0, 0, 0⟩ : Con)) ?_
 rintro _ w5 ⟨rfl, X2, hN2, hXg2, hc2⟩
 replace hS := Step.transNew hS hc2 (fun i9 hi9 hX9 => by have h8 := NdP.low hN1 hX9; omega)
 replace ho3 := ho3.step hc2 (NdP.nx hN1 ho3 (by decide))
 refine Vp 10 (Vkn 15 ((chkN (roomsN [1100]) ([] : List Cx) 0 0 40 (⟨1, 1000, 0, 0, 0, 0⟩ : Con)) == 0) true (by kernel_rfl) (Vl 12 ho3 ?_))
 refine Vc 13 (args := #[Pt nd1 0, .agg #[I6 0, I6 0, I6 41], .agg #[I6 1, I6 1000, I6 0, I6 0, I6 0, I6 0]]) Tryz.call10 (ntake hN2 (by omega) 0 0 41 (⟨1, 1000, 0, 0, 0, 0⟩ : Con)) ?_
 rintro _ w6 ⟨rfl, X3, hN3, hXg3, hc3⟩
 replace hS := Step.transNew hS hc3 (fun i9 hi9 hX9 => by have h8 := NdP.low hN2 hX9; omega)
 refine Vp 17 (Vkn 22 ((chkN (roomsN [1100]) (takeN (roomsN [1100]) ([] : List Cx) 0 0 40 (⟨1, 1000, 0, 0, 0, 0⟩ : Con)) 0 0 41 (⟨1, 1000, 0, 0, 0, 0⟩ : Con)) == 37) true (by kernel_rfl) (Vp 18 ?_))
 refine Vc 18 (args := #[Pt nd1 0, I6 0]) Tryz.call20 (nused hN3 0) ?_
 rintro _ w7 ⟨rfl, hc4⟩
 replace hS := Step.trans hS hc4
 replace hN3 := NdP.no hN3 hc4
 refine Vp 22 (Vkn 27 ((usedN (roomsN [1100]) (takeN (roomsN [1100]) (takeN (roomsN [1100]) ([] : List Cx) 0 0 40 (⟨1, 1000, 0, 0, 0, 0⟩ : Con)) 0 0 41 (⟨1, 1000, 0, 0, 0, 0⟩ : Con)) 0) == 1049) true (by kernel_rfl) (Vp 23 ?_))
 refine Vc 23 (args := #[Pt nd1 0, I6 0]) Tryz.call21 (nleft hN3 0) ?_
 rintro _ w8 ⟨rfl, hc5⟩
 replace hS := Step.trans hS hc5
 refine Ve (Vn (VC_ret (Vr1 (Bo ((leftN (roomsN [1100]) (takeN (roomsN [1100]) (takeN (roomsN [1100]) ([] : List Cx) 0 0 40 (⟨1, 1000, 0, 0, 0, 0⟩ : Con)) 0 0 41 (⟨1, 1000, 0, 0, 0, 0⟩ : Con)) 0) == 51)) ?_)))
 exact ⟨congrArg Value.bool (by kernel_rfl), hS⟩

end Go.Proofs.YthchmlidobgkoaaGreat
end

section
/- Layer 20, the document's side, plain: what is cut off up; a bucket by its level. -/
set_option linter.unusedVariables false
set_option linter.unusedSimpArgs false
namespace Go.Proofs.YthchmlidobgkoaaGreat
open Go.Vc Go.RowKit
def fromB (n a b : Int) : Bool := decide (n ≥ a) && decide (n ≤ b)
theorem from_kind {c : Con} (h : fromB c.kind 1 7 = true) : 1 ≤ c.kind ∧ c.kind ≤ 7 := by
  unfold fromB at h
  simp only [Bool.and_eq_true, decide_eq_true_eq] at h
  exact h
theorem from_none {c : Con} (h : fromB c.kind 1 7 = false) : ¬ (1 ≤ c.kind ∧ c.kind ≤ 7) := by
  rintro ⟨h1, h2⟩
  unfold fromB at h
  rw [decide_eq_true h1, decide_eq_true h2] at h
  cases h
theorem upC_at {n b : Int} (hb : 1 ≤ b) : upC n b = if n % b > 0 then n / b + 1 else n / b := by
  unfold upC
  have h1 := Int.emod_add_mul_ediv n b
  have h2 := Int.emod_nonneg n (show b ≠ 0 by omega)
  have h3 := Int.emod_lt_of_pos n (show 0 < b by omega)
  obtain ⟨q, hq⟩ : ∃ q, q = n / b := ⟨_, rfl⟩
  obtain ⟨r, hr⟩ : ∃ r, r = n % b := ⟨_, rfl⟩
  rw [← hq, ← hr] at h1 ⊢
  rw [← hr] at h2 h3
  split
  · rw [show n + b - 1 = (r - 1) + b * (q + 1) by rw [Int.mul_add]; omega, Int.add_mul_ediv_left _ _ (by omega), Int.ediv_eq_zero_of_lt (by omega) (by omega)]; omega
  · rw [show n + b - 1 = (b - 1) + b * q by omega, Int.add_mul_ediv_left _ _ (by omega), Int.ediv_eq_zero_of_lt (by omega) (by omega)]; omega
theorem per_up {s : Int} (h : ¬ s < 1) : upC 1048576 s = perC s := by
  unfold upC perC
  rw [if_neg h, show (1048576 : Int) + s - 1 = 1048575 + s * 1 by omega, Int.add_mul_ediv_left _ _ (by omega)]; omega
/-- A bucket, and when one was last taken. -/
structure Lv where
  b : Bk
  at_ : Int
def Lv.cells (x : Lv) : List Value := [.int .i64 x.b.step, .int .i64 x.b.early, .int .i64 (x.b.next - x.at_), .int .i64 x.at_, .bool x.b.any]
structure LvI (x : Lv) : Prop extends BkI x.b where
  lo : 0 ≤ x.at_ ∧ x.at_ ≤ 1152921504606846976
  none : x.b.any = false → x.at_ = 0
def Lv.take (x : Lv) (t : Int) : Lv := if fitsB x.b t = true then ⟨takeB x.b t, clT t⟩ else x
theorem Lv.take_b (x : Lv) (t : Int) : (x.take t).b = takeB x.b t := by
  unfold Lv.take; split
  · rfl
  · rename_i h; unfold takeB; rw [if_neg h]
theorem LvI.take {x : Lv} (h : LvI x) (t : Int) : LvI (x.take t) := by
  refine { toBkI := by rw [Lv.take_b]; exact h.toBkI.take t, lo := ?_, none := ?_ }
  · unfold Lv.take; split
    · exact clT_le t
    · exact h.lo
  · intro hn
    unfold Lv.take at hn ⊢
    split
    · rename_i hf; rw [if_pos hf] at hn; unfold takeB at hn; rw [if_pos hf] at hn; cases hn
    · rename_i hf; rw [if_neg hf] at hn; exact h.none hn
theorem LvI.new (s e : Int) : LvI ⟨bkNew s e, 0⟩ := { toBkI := BkI.new s e, lo := by simp, none := fun _ => rfl }
theorem clT_one (s : Int) : imax 1 (clT s) = imax 1 (imin s 1152921504606846976) := by unfold clT imax imin; split <;> split <;> split <;> omega
end Go.Proofs.YthchmlidobgkoaaGreat
end
