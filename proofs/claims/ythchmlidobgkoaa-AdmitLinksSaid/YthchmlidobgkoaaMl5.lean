import Derived.Test.YthchmlidobgkoaaProg
import Derived.Test.YthchmlidobgkoaaMl4
section
/- Layer 20: new policers. -/
set_option linter.unusedVariables false
set_option linter.unusedSimpArgs false
namespace Go.Proofs.Ythchmlidobgkoaa
open Go.Vc Go.RowKit

def r4 (r : Rl) : List Value := [.int .i64 r.step, .int .i64 r.early, .bool r.zero, .bool r.tag]
theorem r4_len (r : Rl) : (r4 r).length = 4 := rfl
theorem r4_one (r : Rl) : ∀ u ∈ r4 r, oneC u = true := by
  intro u hu
  simp only [r4, List.mem_cons, List.not_mem_nil, or_false] at hu
  rcases hu with rfl | rfl | rfl | rfl <;> rfl
theorem rules_one {c : Con} (h : rightC c = 0) (h2 : ¬ c.kind = 2) (h3 : ¬ c.kind = 3) (h4 : ¬ c.kind = 4) : [rlNew c.peak c.early false false] = rulesC c := by unfold rulesC; rw [if_pos h, if_neg h2, if_neg h3, if_neg h4]
theorem rules_v1 {c : Con} (h : rightC c = 0) (h2 : c.kind = 2) : [rlNew c.peak c.early false false, rlNew c.whole (c.burst + c.early) false false] = rulesC c := by unfold rulesC; rw [if_pos h, if_pos h2]
theorem rules_v2 {c : Con} (h : rightC c = 0) (h2 : c.kind = 3) : [rlNew c.peak c.early false false, rlNew c.whole (c.burst + c.early) true false] = rulesC c := by unfold rulesC; rw [if_pos h, if_neg (by omega), if_pos h2]
theorem rules_v3 {c : Con} (h : rightC c = 0) (h2 : c.kind = 4) : [rlNew c.peak c.early false false, rlNew c.whole (c.burst + c.early) true true] = rulesC c := by unfold rulesC; rw [if_pos h, if_neg (by omega), if_neg (by omega), if_pos h2]
theorem bur_early {c : Con} (h : rightC c = 0) (hk : c.kind = 2 ∨ c.kind = 3 ∨ c.kind = 4) : IntKind.wrap .i64 (c.burst + c.early) = c.burst + c.early := by
  obtain ⟨h1, h2, h3, h4⟩ := vbr_of h hk
  exact wrap_i64 _ (by omega) (by omega)
set_option maxRecDepth 100000 in
set_option maxHeartbeats 4000000 in
theorem rules_v1_any (c : Con) (hr : rightC c = 0) (hk : c.kind = 2) (w : World) :
  CV Try.prog 58 #[.agg #[.int .i64 c.kind, .int .i64 c.peak, .int .i64 c.early, .int .i64 c.whole, .int .i64 c.burst, .int .i64 c.least]] w (fun x w1 => ∃ A n cc, x = .slice A n cc ∧ (rulesC c).length = n ∧ RwS w1 4 w.heap.size 94 A n cc (flat r4 (rulesC c)) ∧ Step No w w1) := by
 have hS : Step No w w := Step.refl _ _
 refine CV_enter Try.f58 _ 37 [(0, .agg #[.int .i64 c.kind, .int .i64 c.peak, .int .i64 c.early, .int .i64 c.whole, .int .i64 c.burst, .int .i64 c.least])] Try.func58 rfl rfl (by kernel_rfl) rfl ?_
 refine VC_seq ?_
 refine VC_region ?_
 have hzs1 := hS.size
 refine VL_box (d := 1) (t := 30) (c := #[.int .i64 c.kind, .int .i64 c.peak, .int .i64 c.early, .int .i64 c.whole, .int .i64 c.burst, .int .i64 c.least]) (by kernel_rfl) (by kernel_rfl) ?_
 intro b1 w1 hn1
 replace hS := Step.trans hS (hn1.step No)
 have ho1 := hn1.own
 have hzhn1 := hn1.size
 have hqhn1 := hn1.eqb
 refine VL_pure 2 [1] [(1, .pointer (some ⟨b1, 0, none⟩))] (by kernel_rfl) rfl ?_
 refine VL_end (by kernel_rfl) ?_
 refine VQ_next ?_
 refine VC_seq ?_
 refine VC_seq ?_
 refine VC_region ?_
 refine VL_load (d := 5) (t := 30) (a := ⟨b1, 0, none⟩) (v := .agg #[.int .i64 c.kind, .int .i64 c.peak, .int .i64 c.early, .int .i64 c.whole, .int .i64 c.burst, .int .i64 c.least]) (by kernel_rfl) (by kernel_rfl) (Loads.ownL ho1 (n := 6) (by kernel_rfl) (by kernel_rfl) (by kernel_rfl)) ?_
 have hzs2 := hS.size
 have hzl1 := ho1.lt
 refine VL_call (d := 6) (f := 13) (args := #[.agg #[.int .i64 c.kind, .int .i64 c.peak, .int .i64 c.early, .int .i64 c.whole, .int .i64 c.burst, .int .i64 c.least]]) (by kernel_rfl) (by kernel_rfl) (by kernel_rfl) Try.call13 ((cright_any c _).mono (fun x w1 h9 => ⟨h9.1.trans (by rw [hr]), h9.2⟩ : ∀ x w1, _ → x = .int .i64 0 ∧ Step No _ w1)) ?_
 rintro _ w2 ⟨rfl, hc1⟩
 replace hS := Step.trans hS hc1
 replace ho1 := ho1.no hc1
 refine VL_pure 3 [1, 7] [(1, .pointer (some ⟨b1, 0, none⟩)), (7, .bool false)] (by kernel_rfl) rfl ?_
 refine VL_end (by kernel_rfl) ?_
 refine VQ_next ?_
 refine VC_false (by kernel_rfl) ?_
 refine VC_skip ?_
 refine VQ_next ?_
 refine VC_seq ?_
 refine VC_region ?_
 refine VL_pure 1 [1, 8] [(1, .pointer (some ⟨b1, 0, none⟩)), (8, .pointer (some ⟨b1, 1, none⟩))] (by kernel_rfl) rfl ?_
 refine VL_load (d := 9) (t := 3) (a := ⟨b1, 1, none⟩) (v := .int .i64 c.peak) (by kernel_rfl) (by kernel_rfl) (Loads.own1 ho1 (by kernel_rfl) (by rfl)) ?_
 refine VL_pure 3 [1, 9, 10] [(1, .pointer (some ⟨b1, 0, none⟩)), (9, .int .i64 c.peak), (10, .pointer (some ⟨b1, 2, none⟩))] (by kernel_rfl) rfl ?_
 refine VL_load (d := 11) (t := 3) (a := ⟨b1, 2, none⟩) (v := .int .i64 c.early) (by kernel_rfl) (by kernel_rfl) (Loads.own1 ho1 (by kernel_rfl) (by rfl)) ?_
 refine VL_pure 5 [1, 12] [(1, .pointer (some ⟨b1, 0, none⟩)), (12, .agg #[.int .i64 c.peak, .int .i64 c.early, .bool false, .bool false])] (by kernel_rfl) rfl ?_
 have hzs3 := hS.size
 have hzl2 := ho1.lt
 refine VL_bs (d := 13) (e := 94) (c := #[.int .i64 c.peak, .int .i64 c.early, .bool false, .bool false]) (len := 1) (by kernel_rfl) (by kernel_rfl) ?_
 intro b2 w3 hn2
 replace hS := Step.trans hS (hn2.step No)
 replace ho1 := ho1.no (hn2.step No)
 have ho2 := hn2.own
 have hzhn2 := hn2.size
 have hqhn2 := hn2.eqb
 refine VL_pure 7 [1, 3] [(1, .pointer (some ⟨b1, 0, none⟩)), (3, .slice (some ⟨b2, 0, none⟩) 1 1)] (by kernel_rfl) rfl ?_
 refine VL_end (by kernel_rfl) ?_
 refine VQ_next ?_
 refine VC_seq ?_
 refine VC_region ?_
 refine VL_pure 1 [1, 3, 14] [(1, .pointer (some ⟨b1, 0, none⟩)), (3, .slice (some ⟨b2, 0, none⟩) 1 1), (14, .pointer (some ⟨b1, 3, none⟩))] (by kernel_rfl) rfl ?_
 refine VL_load (d := 15) (t := 3) (a := ⟨b1, 3, none⟩) (v := .int .i64 c.whole) (by kernel_rfl) (by kernel_rfl) (Loads.own1 ho1 (by kernel_rfl) (by rfl)) ?_
 refine VL_pure 3 [1, 3, 15, 16] [(1, .pointer (some ⟨b1, 0, none⟩)), (3, .slice (some ⟨b2, 0, none⟩) 1 1), (15, .int .i64 c.whole), (16, .pointer (some ⟨b1, 4, none⟩))] (by kernel_rfl) rfl ?_
 refine VL_load (d := 17) (t := 3) (a := ⟨b1, 4, none⟩) (v := .int .i64 c.burst) (by kernel_rfl) (by kernel_rfl) (Loads.own1 ho1 (by kernel_rfl) (by rfl)) ?_
 refine VL_pure 5 [1, 3, 15, 17, 18] [(1, .pointer (some ⟨b1, 0, none⟩)), (3, .slice (some ⟨b2, 0, none⟩) 1 1), (15, .int .i64 c.whole), (17, .int .i64 c.burst), (18, .pointer (some ⟨b1, 2, none⟩))] (by kernel_rfl) rfl ?_
 refine VL_load (d := 19) (t := 3) (a := ⟨b1, 2, none⟩) (v := .int .i64 c.early) (by kernel_rfl) (by kernel_rfl) (Loads.own1 ho1 (by kernel_rfl) (by rfl)) ?_
 refine VL_pure 7 [1, 3, 15, 20] [(1, .pointer (some ⟨b1, 0, none⟩)), (3, .slice (some ⟨b2, 0, none⟩) 1 1), (15, .int .i64 c.whole), (20, .int .i64 (IntKind.wrap .i64 (c.burst + c.early)))] (by kernel_rfl) rfl ?_
 refine VL_eq [(1, .pointer (some ⟨b1, 0, none⟩)), (3, .slice (some ⟨b2, 0, none⟩) 1 1), (15, .int .i64 c.whole), (20, .int .i64 (c.burst + c.early))] (by rw [bur_early hr (by omega)]) ?_
 refine VL_pure 8 [1, 3, 21] [(1, .pointer (some ⟨b1, 0, none⟩)), (3, .slice (some ⟨b2, 0, none⟩) 1 1), (21, .agg #[.int .i64 c.whole, .int .i64 (c.burst + c.early), .bool false, .bool false])] (by kernel_rfl) rfl ?_
 have hzs4 := hS.size
 have hzl3 := ho1.lt
 have hzl4 := ho2.lt
 refine VL_box (d := 4) (t := 94) (c := #[.int .i64 0, .int .i64 0, .bool false, .bool false]) (by kernel_rfl) (by kernel_rfl) ?_
 intro b3 w4 hn3
 replace hS := Step.trans hS (hn3.step No)
 replace ho1 := ho1.no (hn3.step No)
 replace ho2 := ho2.no (hn3.step No)
 have ho3 := hn3.own
 have hzhn3 := hn3.size
 have hqhn3 := hn3.eqb
 refine VL_store (b := b3) (o := 0) (vs := [.int .i64 c.whole, .int .i64 (c.burst + c.early), .bool false, .bool false]) (by kernel_rfl) (by kernel_rfl) ho3 (Nat.le_of_ble_eq_true (by kernel_rfl)) ?_
 intro w5 hw1
 replace hS := Step.transNew hS hw1.step (fun _ _ _ => by omega)
 replace ho1 := ho1.step hw1.step (show ¬ b1 = b3 by omega)
 replace ho2 := ho2.step hw1.step (show ¬ b2 = b3 by omega)
 have ho4 : Own w5 b3 #[.int .i64 c.whole, .int .i64 (c.burst + c.early), .bool false, .bool false] 94 := Own.cast hw1.own (by kernel_rfl)
 have hzhw1 := hw1.same
 refine VL_end (by kernel_rfl) ?_
 refine VQ_next ?_
 refine VC_seq ?_
 refine VC_seq ?_
 refine VC_region ?_
 refine VL_pure 1 [3, 4, 22] [(3, .slice (some ⟨b2, 0, none⟩) 1 1), (4, .pointer (some ⟨b3, 0, none⟩)), (22, .pointer (some ⟨b1, 0, none⟩))] (by kernel_rfl) rfl ?_
 refine VL_load (d := 23) (t := 3) (a := ⟨b1, 0, none⟩) (v := .int .i64 c.kind) (by kernel_rfl) (by kernel_rfl) (Loads.own1 ho1 (by kernel_rfl) (by rfl)) ?_
 refine VL_end (by kernel_rfl) ?_
 refine VQ_next ?_
 refine VC_block ?_
 refine VC_seq ?_
 refine VC_block ?_
 refine VC_seq ?_
 refine VC_block ?_
 refine VC_seq ?_
 refine VC_block ?_
 refine VC_seq ?_
 refine VC_seq ?_
 refine VC_seq ?_
 refine VC_region ?_
 refine VL_pure 2 [3, 4, 23, 24] [(3, .slice (some ⟨b2, 0, none⟩) 1 1), (4, .pointer (some ⟨b3, 0, none⟩)), (23, .int .i64 c.kind), (24, .bool (c.kind == 4))] (by kernel_rfl) rfl ?_
 refine VL_end (by kernel_rfl) ?_
 refine VQ_next ?_
 refine VC_is (b := c.kind == 4) false (by kernel_rfl) (by rw [hk]; rfl) ?_
 refine VC_ite_false ?_
 refine VC_skip ?_
 refine VQ_next ?_
 refine VC_seq ?_
 refine VC_seq ?_
 refine VC_region ?_
 refine VL_pure 2 [3, 4, 23, 26] [(3, .slice (some ⟨b2, 0, none⟩) 1 1), (4, .pointer (some ⟨b3, 0, none⟩)), (23, .int .i64 c.kind), (26, .bool (c.kind == 3))] (by kernel_rfl) rfl ?_
 refine VL_end (by kernel_rfl) ?_
 refine VQ_next ?_
 refine VC_is (b := c.kind == 3) false (by kernel_rfl) (by rw [hk]; rfl) ?_
 refine VC_ite_false ?_
 refine VC_skip ?_
 refine VQ_next ?_
 refine VC_seq ?_
 refine VC_region ?_
 refine VL_pure 2 [3, 4, 28] [(3, .slice (some ⟨b2, 0, none⟩) 1 1), (4, .pointer (some ⟨b3, 0, none⟩)), (28, .bool (c.kind == 2))] (by kernel_rfl) rfl ?_
 refine VL_end (by kernel_rfl) ?_
 refine VQ_next ?_
 refine VC_is (b := c.kind == 2) true (by kernel_rfl) (by rw [hk]; rfl) ?_
 refine VC_ite_true ?_
 refine VC_exit ?_
 refine VQ_then_exit ?_
 refine VQ_block_miss (by kernel_rfl) ?_
 refine VQ_then_exit ?_
 refine VQ_block_miss (by kernel_rfl) ?_
 refine VQ_then_exit ?_
 refine VQ_block_hit ?_
 refine VQ_next ?_
 refine VC_seq ?_
 refine VC_region ?_
 refine VL_pure 1 [4, 32] [(4, .pointer (some ⟨b3, 0, none⟩)), (32, .slice (some ⟨b2, 0, none⟩) 1 1)] (by kernel_rfl) rfl ?_
 refine VL_load (d := 33) (t := 94) (a := ⟨b3, 0, none⟩) (v := .agg #[.int .i64 c.whole, .int .i64 (c.burst + c.early), .bool false, .bool false]) (by kernel_rfl) (by kernel_rfl) (Loads.ownL ho4 (n := 4) (by kernel_rfl) (by kernel_rfl) (by kernel_rfl)) ?_
 have hzs5 := hS.size
 have hzl5 := ho1.lt
 have hzl6 := ho2.lt
 have hzl7 := ho4.lt
 refine VL_bs (d := 34) (e := 94) (c := #[.int .i64 c.whole, .int .i64 (c.burst + c.early), .bool false, .bool false]) (len := 1) (by kernel_rfl) (by kernel_rfl) ?_
 intro b4 w6 hn4
 replace hS := Step.trans hS (hn4.step No)
 replace ho1 := ho1.no (hn4.step No)
 replace ho2 := ho2.no (hn4.step No)
 replace ho4 := ho4.no (hn4.step No)
 have ho5 := hn4.own
 have hzhn4 := hn4.size
 have hqhn4 := hn4.eqb
 have hzs6 := hS.size
 have hzl8 := ho1.lt
 have hzl9 := ho2.lt
 have hzl10 := ho4.lt
 have hzl11 := ho5.lt
 have hbase1 := Nat.le_of_lt ho2.lt
 have hrowhbase1 := RwS.cast (ys := flat r4 [(rlNew c.peak c.early false false)]) (RwS.of_new (n := 1) (sz := 4) (base := b2) ho2 (Nat.le_refl _) (by simp [maxLen]) (by rfl)) rfl (by rfl)
 refine VL_appendZ (d := 35) (e := 94) (A := (some ⟨b2, 0, none⟩)) (m := 1) (c := 1) (A2 := (some ⟨b4, 0, none⟩)) (m2 := 1) (c2 := 1) (sz := 4) (bytes := 24) (by kernel_rfl) (by kernel_rfl) (by kernel_rfl) b2 w6.heap.size (flat r4 ([(rlNew c.peak c.early false false)])) (flat r4 [(rlNew c.whole (c.burst + c.early) false false)]) hrowhbase1 (by rw [flat_one, r4_len]) (Sl.mono (Sl.cast (Own.sl ho5 ho5.lt) (by first | rfl | simp [flat])) (by first | exact Nat.le_refl _ | omega)) (flat_one' r4_one _) 2 (by omega) (by simp only [maxLen]; omega) (by omega) (by omega) ?_
 intro A1 c1 w7 hr1 hg1
 replace hr1 : RwS w7 4 b2 94 A1 2 c1 (flat r4 (([(rlNew c.peak c.early false false)]) ++ ([(rlNew c.whole (c.burst + c.early) false false)]))) := RwS.cast hr1 rfl (by simp only [flat_append, flat_one, List.append_assoc, List.nil_append, List.append_nil, show flat r4 [] = [] from rfl])
 replace hg1 := Step.mono (G := fun k => k = b2) hg1 (fun i hi => by obtain ⟨a9, ha9, hi9⟩ := hi; cases ha9; exact hi9.symm)
 have hzhg1 := hg1.size
 replace hS := Step.transNew hS hg1 (fun i hi hG => by (try simp only at hG); omega)
 replace ho1 := ho1.step hg1 (by (try simp only); omega)
 replace ho4 := ho4.step hg1 (by (try simp only); omega)
 replace hbase1 := Nat.le_trans hbase1 (hg1).size
 have hlhr1 : (([(rlNew c.peak c.early false false)]) ++ ([(rlNew c.whole (c.burst + c.early) false false)])).length = 2 := by have hq9 := RwS.len hr1; rw [flat_len r4_len] at hq9; omega
 refine VL_pure 5 [3] [(3, .slice A1 2 c1)] (by kernel_rfl) rfl ?_
 refine VL_end (by kernel_rfl) ?_
 refine VQ_next ?_
 refine VC_exit ?_
 refine VQ_block_hit ?_
 refine VQ_next ?_
 refine VC_seq ?_
 refine VC_region ?_
 refine VL_pure 2 [2] [(2, .slice A1 2 c1)] (by kernel_rfl) rfl ?_
 refine VL_end (by kernel_rfl) ?_
 refine VQ_next ?_
 refine VC_ret ?_
 refine VQ_ret1 (.slice A1 2 c1) (.inr rfl) rfl rfl ?_
 have hR := rules_v1 hr (by assumption)
 rw [← hR]
 exact ⟨A1, _, _, rfl, rfl, RwS.low (RwS.cast hr1 rfl (by rfl)) (by omega), hS⟩

set_option maxRecDepth 100000 in
set_option maxHeartbeats 4000000 in
theorem rules_v2_any (c : Con) (hr : rightC c = 0) (hk : c.kind = 3) (w : World) :
  CV Try.prog 58 #[.agg #[.int .i64 c.kind, .int .i64 c.peak, .int .i64 c.early, .int .i64 c.whole, .int .i64 c.burst, .int .i64 c.least]] w (fun x w1 => ∃ A n cc, x = .slice A n cc ∧ (rulesC c).length = n ∧ RwS w1 4 w.heap.size 94 A n cc (flat r4 (rulesC c)) ∧ Step No w w1) := by
 have hS : Step No w w := Step.refl _ _
 refine CV_enter Try.f58 _ 37 [(0, .agg #[.int .i64 c.kind, .int .i64 c.peak, .int .i64 c.early, .int .i64 c.whole, .int .i64 c.burst, .int .i64 c.least])] Try.func58 rfl rfl (by kernel_rfl) rfl ?_
 refine VC_seq ?_
 refine VC_region ?_
 have hzs1 := hS.size
 refine VL_box (d := 1) (t := 30) (c := #[.int .i64 c.kind, .int .i64 c.peak, .int .i64 c.early, .int .i64 c.whole, .int .i64 c.burst, .int .i64 c.least]) (by kernel_rfl) (by kernel_rfl) ?_
 intro b1 w1 hn1
 replace hS := Step.trans hS (hn1.step No)
 have ho1 := hn1.own
 have hzhn1 := hn1.size
 have hqhn1 := hn1.eqb
 refine VL_pure 2 [1] [(1, .pointer (some ⟨b1, 0, none⟩))] (by kernel_rfl) rfl ?_
 refine VL_end (by kernel_rfl) ?_
 refine VQ_next ?_
 refine VC_seq ?_
 refine VC_seq ?_
 refine VC_region ?_
 refine VL_load (d := 5) (t := 30) (a := ⟨b1, 0, none⟩) (v := .agg #[.int .i64 c.kind, .int .i64 c.peak, .int .i64 c.early, .int .i64 c.whole, .int .i64 c.burst, .int .i64 c.least]) (by kernel_rfl) (by kernel_rfl) (Loads.ownL ho1 (n := 6) (by kernel_rfl) (by kernel_rfl) (by kernel_rfl)) ?_
 have hzs2 := hS.size
 have hzl1 := ho1.lt
 refine VL_call (d := 6) (f := 13) (args := #[.agg #[.int .i64 c.kind, .int .i64 c.peak, .int .i64 c.early, .int .i64 c.whole, .int .i64 c.burst, .int .i64 c.least]]) (by kernel_rfl) (by kernel_rfl) (by kernel_rfl) Try.call13 ((cright_any c _).mono (fun x w1 h9 => ⟨h9.1.trans (by rw [hr]), h9.2⟩ : ∀ x w1, _ → x = .int .i64 0 ∧ Step No _ w1)) ?_
 rintro _ w2 ⟨rfl, hc1⟩
 replace hS := Step.trans hS hc1
 replace ho1 := ho1.no hc1
 refine VL_pure 3 [1, 7] [(1, .pointer (some ⟨b1, 0, none⟩)), (7, .bool false)] (by kernel_rfl) rfl ?_
 refine VL_end (by kernel_rfl) ?_
 refine VQ_next ?_
 refine VC_false (by kernel_rfl) ?_
 refine VC_skip ?_
 refine VQ_next ?_
 refine VC_seq ?_
 refine VC_region ?_
 refine VL_pure 1 [1, 8] [(1, .pointer (some ⟨b1, 0, none⟩)), (8, .pointer (some ⟨b1, 1, none⟩))] (by kernel_rfl) rfl ?_
 refine VL_load (d := 9) (t := 3) (a := ⟨b1, 1, none⟩) (v := .int .i64 c.peak) (by kernel_rfl) (by kernel_rfl) (Loads.own1 ho1 (by kernel_rfl) (by rfl)) ?_
 refine VL_pure 3 [1, 9, 10] [(1, .pointer (some ⟨b1, 0, none⟩)), (9, .int .i64 c.peak), (10, .pointer (some ⟨b1, 2, none⟩))] (by kernel_rfl) rfl ?_
 refine VL_load (d := 11) (t := 3) (a := ⟨b1, 2, none⟩) (v := .int .i64 c.early) (by kernel_rfl) (by kernel_rfl) (Loads.own1 ho1 (by kernel_rfl) (by rfl)) ?_
 refine VL_pure 5 [1, 12] [(1, .pointer (some ⟨b1, 0, none⟩)), (12, .agg #[.int .i64 c.peak, .int .i64 c.early, .bool false, .bool false])] (by kernel_rfl) rfl ?_
 have hzs3 := hS.size
 have hzl2 := ho1.lt
 refine VL_bs (d := 13) (e := 94) (c := #[.int .i64 c.peak, .int .i64 c.early, .bool false, .bool false]) (len := 1) (by kernel_rfl) (by kernel_rfl) ?_
 intro b2 w3 hn2
 replace hS := Step.trans hS (hn2.step No)
 replace ho1 := ho1.no (hn2.step No)
 have ho2 := hn2.own
 have hzhn2 := hn2.size
 have hqhn2 := hn2.eqb
 refine VL_pure 7 [1, 3] [(1, .pointer (some ⟨b1, 0, none⟩)), (3, .slice (some ⟨b2, 0, none⟩) 1 1)] (by kernel_rfl) rfl ?_
 refine VL_end (by kernel_rfl) ?_
 refine VQ_next ?_
 refine VC_seq ?_
 refine VC_region ?_
 refine VL_pure 1 [1, 3, 14] [(1, .pointer (some ⟨b1, 0, none⟩)), (3, .slice (some ⟨b2, 0, none⟩) 1 1), (14, .pointer (some ⟨b1, 3, none⟩))] (by kernel_rfl) rfl ?_
 refine VL_load (d := 15) (t := 3) (a := ⟨b1, 3, none⟩) (v := .int .i64 c.whole) (by kernel_rfl) (by kernel_rfl) (Loads.own1 ho1 (by kernel_rfl) (by rfl)) ?_
 refine VL_pure 3 [1, 3, 15, 16] [(1, .pointer (some ⟨b1, 0, none⟩)), (3, .slice (some ⟨b2, 0, none⟩) 1 1), (15, .int .i64 c.whole), (16, .pointer (some ⟨b1, 4, none⟩))] (by kernel_rfl) rfl ?_
 refine VL_load (d := 17) (t := 3) (a := ⟨b1, 4, none⟩) (v := .int .i64 c.burst) (by kernel_rfl) (by kernel_rfl) (Loads.own1 ho1 (by kernel_rfl) (by rfl)) ?_
 refine VL_pure 5 [1, 3, 15, 17, 18] [(1, .pointer (some ⟨b1, 0, none⟩)), (3, .slice (some ⟨b2, 0, none⟩) 1 1), (15, .int .i64 c.whole), (17, .int .i64 c.burst), (18, .pointer (some ⟨b1, 2, none⟩))] (by kernel_rfl) rfl ?_
 refine VL_load (d := 19) (t := 3) (a := ⟨b1, 2, none⟩) (v := .int .i64 c.early) (by kernel_rfl) (by kernel_rfl) (Loads.own1 ho1 (by kernel_rfl) (by rfl)) ?_
 refine VL_pure 7 [1, 3, 15, 20] [(1, .pointer (some ⟨b1, 0, none⟩)), (3, .slice (some ⟨b2, 0, none⟩) 1 1), (15, .int .i64 c.whole), (20, .int .i64 (IntKind.wrap .i64 (c.burst + c.early)))] (by kernel_rfl) rfl ?_
 refine VL_eq [(1, .pointer (some ⟨b1, 0, none⟩)), (3, .slice (some ⟨b2, 0, none⟩) 1 1), (15, .int .i64 c.whole), (20, .int .i64 (c.burst + c.early))] (by rw [bur_early hr (by omega)]) ?_
 refine VL_pure 8 [1, 3, 21] [(1, .pointer (some ⟨b1, 0, none⟩)), (3, .slice (some ⟨b2, 0, none⟩) 1 1), (21, .agg #[.int .i64 c.whole, .int .i64 (c.burst + c.early), .bool false, .bool false])] (by kernel_rfl) rfl ?_
 have hzs4 := hS.size
 have hzl3 := ho1.lt
 have hzl4 := ho2.lt
 refine VL_box (d := 4) (t := 94) (c := #[.int .i64 0, .int .i64 0, .bool false, .bool false]) (by kernel_rfl) (by kernel_rfl) ?_
 intro b3 w4 hn3
 replace hS := Step.trans hS (hn3.step No)
 replace ho1 := ho1.no (hn3.step No)
 replace ho2 := ho2.no (hn3.step No)
 have ho3 := hn3.own
 have hzhn3 := hn3.size
 have hqhn3 := hn3.eqb
 refine VL_store (b := b3) (o := 0) (vs := [.int .i64 c.whole, .int .i64 (c.burst + c.early), .bool false, .bool false]) (by kernel_rfl) (by kernel_rfl) ho3 (Nat.le_of_ble_eq_true (by kernel_rfl)) ?_
 intro w5 hw1
 replace hS := Step.transNew hS hw1.step (fun _ _ _ => by omega)
 replace ho1 := ho1.step hw1.step (show ¬ b1 = b3 by omega)
 replace ho2 := ho2.step hw1.step (show ¬ b2 = b3 by omega)
 have ho4 : Own w5 b3 #[.int .i64 c.whole, .int .i64 (c.burst + c.early), .bool false, .bool false] 94 := Own.cast hw1.own (by kernel_rfl)
 have hzhw1 := hw1.same
 refine VL_end (by kernel_rfl) ?_
 refine VQ_next ?_
 refine VC_seq ?_
 refine VC_seq ?_
 refine VC_region ?_
 refine VL_pure 1 [3, 4, 22] [(3, .slice (some ⟨b2, 0, none⟩) 1 1), (4, .pointer (some ⟨b3, 0, none⟩)), (22, .pointer (some ⟨b1, 0, none⟩))] (by kernel_rfl) rfl ?_
 refine VL_load (d := 23) (t := 3) (a := ⟨b1, 0, none⟩) (v := .int .i64 c.kind) (by kernel_rfl) (by kernel_rfl) (Loads.own1 ho1 (by kernel_rfl) (by rfl)) ?_
 refine VL_end (by kernel_rfl) ?_
 refine VQ_next ?_
 refine VC_block ?_
 refine VC_seq ?_
 refine VC_block ?_
 refine VC_seq ?_
 refine VC_block ?_
 refine VC_seq ?_
 refine VC_block ?_
 refine VC_seq ?_
 refine VC_seq ?_
 refine VC_seq ?_
 refine VC_region ?_
 refine VL_pure 2 [3, 4, 23, 24] [(3, .slice (some ⟨b2, 0, none⟩) 1 1), (4, .pointer (some ⟨b3, 0, none⟩)), (23, .int .i64 c.kind), (24, .bool (c.kind == 4))] (by kernel_rfl) rfl ?_
 refine VL_end (by kernel_rfl) ?_
 refine VQ_next ?_
 refine VC_is (b := c.kind == 4) false (by kernel_rfl) (by rw [hk]; rfl) ?_
 refine VC_ite_false ?_
 refine VC_skip ?_
 refine VQ_next ?_
 refine VC_seq ?_
 refine VC_seq ?_
 refine VC_region ?_
 refine VL_pure 2 [3, 4, 23, 26] [(3, .slice (some ⟨b2, 0, none⟩) 1 1), (4, .pointer (some ⟨b3, 0, none⟩)), (23, .int .i64 c.kind), (26, .bool (c.kind == 3))] (by kernel_rfl) rfl ?_
 refine VL_end (by kernel_rfl) ?_
 refine VQ_next ?_
 refine VC_is (b := c.kind == 3) true (by kernel_rfl) (by rw [hk]; rfl) ?_
 refine VC_ite_true ?_
 refine VC_exit ?_
 refine VQ_then_exit ?_
 refine VQ_then_exit ?_
 refine VQ_block_miss (by kernel_rfl) ?_
 refine VQ_then_exit ?_
 refine VQ_block_hit ?_
 refine VQ_next ?_
 refine VC_region ?_
 refine VL_pure 1 [3, 4, 31] [(3, .slice (some ⟨b2, 0, none⟩) 1 1), (4, .pointer (some ⟨b3, 0, none⟩)), (31, .pointer (some ⟨b3, 2, none⟩))] (by kernel_rfl) rfl ?_
 refine VL_store (b := b3) (o := 2) (vs := [.bool true]) (by kernel_rfl) (by kernel_rfl) ho4 (Nat.le_of_ble_eq_true (by kernel_rfl)) ?_
 intro w6 hw2
 replace hS := Step.transNew hS hw2.step (fun _ _ _ => by omega)
 replace ho1 := ho1.step hw2.step (show ¬ b1 = b3 by omega)
 replace ho2 := ho2.step hw2.step (show ¬ b2 = b3 by omega)
 have ho5 : Own w6 b3 #[.int .i64 c.whole, .int .i64 (c.burst + c.early), .bool true, .bool false] 94 := Own.cast hw2.own (by kernel_rfl)
 have hzhw2 := hw2.same
 refine VL_end (by kernel_rfl) ?_
 refine VQ_block_normal ?_
 refine VQ_next ?_
 refine VC_seq ?_
 refine VC_region ?_
 refine VL_pure 1 [4, 32] [(4, .pointer (some ⟨b3, 0, none⟩)), (32, .slice (some ⟨b2, 0, none⟩) 1 1)] (by kernel_rfl) rfl ?_
 refine VL_load (d := 33) (t := 94) (a := ⟨b3, 0, none⟩) (v := .agg #[.int .i64 c.whole, .int .i64 (c.burst + c.early), .bool true, .bool false]) (by kernel_rfl) (by kernel_rfl) (Loads.ownL ho5 (n := 4) (by kernel_rfl) (by kernel_rfl) (by kernel_rfl)) ?_
 have hzs5 := hS.size
 have hzl5 := ho1.lt
 have hzl6 := ho2.lt
 have hzl7 := ho5.lt
 refine VL_bs (d := 34) (e := 94) (c := #[.int .i64 c.whole, .int .i64 (c.burst + c.early), .bool true, .bool false]) (len := 1) (by kernel_rfl) (by kernel_rfl) ?_
 intro b4 w7 hn4
 replace hS := Step.trans hS (hn4.step No)
 replace ho1 := ho1.no (hn4.step No)
 replace ho2 := ho2.no (hn4.step No)
 replace ho5 := ho5.no (hn4.step No)
 have ho6 := hn4.own
 have hzhn4 := hn4.size
 have hqhn4 := hn4.eqb
 have hzs6 := hS.size
 have hzl8 := ho1.lt
 have hzl9 := ho2.lt
 have hzl10 := ho5.lt
 have hzl11 := ho6.lt
 have hbase1 := Nat.le_of_lt ho2.lt
 have hrowhbase1 := RwS.cast (ys := flat r4 [(rlNew c.peak c.early false false)]) (RwS.of_new (n := 1) (sz := 4) (base := b2) ho2 (Nat.le_refl _) (by simp [maxLen]) (by rfl)) rfl (by rfl)
 refine VL_appendZ (d := 35) (e := 94) (A := (some ⟨b2, 0, none⟩)) (m := 1) (c := 1) (A2 := (some ⟨b4, 0, none⟩)) (m2 := 1) (c2 := 1) (sz := 4) (bytes := 24) (by kernel_rfl) (by kernel_rfl) (by kernel_rfl) b2 w7.heap.size (flat r4 ([(rlNew c.peak c.early false false)])) (flat r4 [(rlNew c.whole (c.burst + c.early) true false)]) hrowhbase1 (by rw [flat_one, r4_len]) (Sl.mono (Sl.cast (Own.sl ho6 ho6.lt) (by first | rfl | simp [flat])) (by first | exact Nat.le_refl _ | omega)) (flat_one' r4_one _) 2 (by omega) (by simp only [maxLen]; omega) (by omega) (by omega) ?_
 intro A1 c1 w8 hr1 hg1
 replace hr1 : RwS w8 4 b2 94 A1 2 c1 (flat r4 (([(rlNew c.peak c.early false false)]) ++ ([(rlNew c.whole (c.burst + c.early) true false)]))) := RwS.cast hr1 rfl (by simp only [flat_append, flat_one, List.append_assoc, List.nil_append, List.append_nil, show flat r4 [] = [] from rfl])
 replace hg1 := Step.mono (G := fun k => k = b2) hg1 (fun i hi => by obtain ⟨a9, ha9, hi9⟩ := hi; cases ha9; exact hi9.symm)
 have hzhg1 := hg1.size
 replace hS := Step.transNew hS hg1 (fun i hi hG => by (try simp only at hG); omega)
 replace ho1 := ho1.step hg1 (by (try simp only); omega)
 replace ho5 := ho5.step hg1 (by (try simp only); omega)
 replace hbase1 := Nat.le_trans hbase1 (hg1).size
 have hlhr1 : (([(rlNew c.peak c.early false false)]) ++ ([(rlNew c.whole (c.burst + c.early) true false)])).length = 2 := by have hq9 := RwS.len hr1; rw [flat_len r4_len] at hq9; omega
 refine VL_pure 5 [3] [(3, .slice A1 2 c1)] (by kernel_rfl) rfl ?_
 refine VL_end (by kernel_rfl) ?_
 refine VQ_next ?_
 refine VC_exit ?_
 refine VQ_block_hit ?_
 refine VQ_next ?_
 refine VC_seq ?_
 refine VC_region ?_
 refine VL_pure 2 [2] [(2, .slice A1 2 c1)] (by kernel_rfl) rfl ?_
 refine VL_end (by kernel_rfl) ?_
 refine VQ_next ?_
 refine VC_ret ?_
 refine VQ_ret1 (.slice A1 2 c1) (.inr rfl) rfl rfl ?_
 have hR := rules_v2 hr (by assumption)
 rw [← hR]
 exact ⟨A1, _, _, rfl, rfl, RwS.low (RwS.cast hr1 rfl (by rfl)) (by omega), hS⟩

set_option maxRecDepth 100000 in
set_option maxHeartbeats 4000000 in
theorem rules_v3_any (c : Con) (hr : rightC c = 0) (hk : c.kind = 4) (w : World) :
  CV Try.prog 58 #[.agg #[.int .i64 c.kind, .int .i64 c.peak, .int .i64 c.early, .int .i64 c.whole, .int .i64 c.burst, .int .i64 c.least]] w (fun x w1 => ∃ A n cc, x = .slice A n cc ∧ (rulesC c).length = n ∧ RwS w1 4 w.heap.size 94 A n cc (flat r4 (rulesC c)) ∧ Step No w w1) := by
 have hS : Step No w w := Step.refl _ _
 refine CV_enter Try.f58 _ 37 [(0, .agg #[.int .i64 c.kind, .int .i64 c.peak, .int .i64 c.early, .int .i64 c.whole, .int .i64 c.burst, .int .i64 c.least])] Try.func58 rfl rfl (by kernel_rfl) rfl ?_
 refine VC_seq ?_
 refine VC_region ?_
 have hzs1 := hS.size
 refine VL_box (d := 1) (t := 30) (c := #[.int .i64 c.kind, .int .i64 c.peak, .int .i64 c.early, .int .i64 c.whole, .int .i64 c.burst, .int .i64 c.least]) (by kernel_rfl) (by kernel_rfl) ?_
 intro b1 w1 hn1
 replace hS := Step.trans hS (hn1.step No)
 have ho1 := hn1.own
 have hzhn1 := hn1.size
 have hqhn1 := hn1.eqb
 refine VL_pure 2 [1] [(1, .pointer (some ⟨b1, 0, none⟩))] (by kernel_rfl) rfl ?_
 refine VL_end (by kernel_rfl) ?_
 refine VQ_next ?_
 refine VC_seq ?_
 refine VC_seq ?_
 refine VC_region ?_
 refine VL_load (d := 5) (t := 30) (a := ⟨b1, 0, none⟩) (v := .agg #[.int .i64 c.kind, .int .i64 c.peak, .int .i64 c.early, .int .i64 c.whole, .int .i64 c.burst, .int .i64 c.least]) (by kernel_rfl) (by kernel_rfl) (Loads.ownL ho1 (n := 6) (by kernel_rfl) (by kernel_rfl) (by kernel_rfl)) ?_
 have hzs2 := hS.size
 have hzl1 := ho1.lt
 refine VL_call (d := 6) (f := 13) (args := #[.agg #[.int .i64 c.kind, .int .i64 c.peak, .int .i64 c.early, .int .i64 c.whole, .int .i64 c.burst, .int .i64 c.least]]) (by kernel_rfl) (by kernel_rfl) (by kernel_rfl) Try.call13 ((cright_any c _).mono (fun x w1 h9 => ⟨h9.1.trans (by rw [hr]), h9.2⟩ : ∀ x w1, _ → x = .int .i64 0 ∧ Step No _ w1)) ?_
 rintro _ w2 ⟨rfl, hc1⟩
 replace hS := Step.trans hS hc1
 replace ho1 := ho1.no hc1
 refine VL_pure 3 [1, 7] [(1, .pointer (some ⟨b1, 0, none⟩)), (7, .bool false)] (by kernel_rfl) rfl ?_
 refine VL_end (by kernel_rfl) ?_
 refine VQ_next ?_
 refine VC_false (by kernel_rfl) ?_
 refine VC_skip ?_
 refine VQ_next ?_
 refine VC_seq ?_
 refine VC_region ?_
 refine VL_pure 1 [1, 8] [(1, .pointer (some ⟨b1, 0, none⟩)), (8, .pointer (some ⟨b1, 1, none⟩))] (by kernel_rfl) rfl ?_
 refine VL_load (d := 9) (t := 3) (a := ⟨b1, 1, none⟩) (v := .int .i64 c.peak) (by kernel_rfl) (by kernel_rfl) (Loads.own1 ho1 (by kernel_rfl) (by rfl)) ?_
 refine VL_pure 3 [1, 9, 10] [(1, .pointer (some ⟨b1, 0, none⟩)), (9, .int .i64 c.peak), (10, .pointer (some ⟨b1, 2, none⟩))] (by kernel_rfl) rfl ?_
 refine VL_load (d := 11) (t := 3) (a := ⟨b1, 2, none⟩) (v := .int .i64 c.early) (by kernel_rfl) (by kernel_rfl) (Loads.own1 ho1 (by kernel_rfl) (by rfl)) ?_
 refine VL_pure 5 [1, 12] [(1, .pointer (some ⟨b1, 0, none⟩)), (12, .agg #[.int .i64 c.peak, .int .i64 c.early, .bool false, .bool false])] (by kernel_rfl) rfl ?_
 have hzs3 := hS.size
 have hzl2 := ho1.lt
 refine VL_bs (d := 13) (e := 94) (c := #[.int .i64 c.peak, .int .i64 c.early, .bool false, .bool false]) (len := 1) (by kernel_rfl) (by kernel_rfl) ?_
 intro b2 w3 hn2
 replace hS := Step.trans hS (hn2.step No)
 replace ho1 := ho1.no (hn2.step No)
 have ho2 := hn2.own
 have hzhn2 := hn2.size
 have hqhn2 := hn2.eqb
 refine VL_pure 7 [1, 3] [(1, .pointer (some ⟨b1, 0, none⟩)), (3, .slice (some ⟨b2, 0, none⟩) 1 1)] (by kernel_rfl) rfl ?_
 refine VL_end (by kernel_rfl) ?_
 refine VQ_next ?_
 refine VC_seq ?_
 refine VC_region ?_
 refine VL_pure 1 [1, 3, 14] [(1, .pointer (some ⟨b1, 0, none⟩)), (3, .slice (some ⟨b2, 0, none⟩) 1 1), (14, .pointer (some ⟨b1, 3, none⟩))] (by kernel_rfl) rfl ?_
 refine VL_load (d := 15) (t := 3) (a := ⟨b1, 3, none⟩) (v := .int .i64 c.whole) (by kernel_rfl) (by kernel_rfl) (Loads.own1 ho1 (by kernel_rfl) (by rfl)) ?_
 refine VL_pure 3 [1, 3, 15, 16] [(1, .pointer (some ⟨b1, 0, none⟩)), (3, .slice (some ⟨b2, 0, none⟩) 1 1), (15, .int .i64 c.whole), (16, .pointer (some ⟨b1, 4, none⟩))] (by kernel_rfl) rfl ?_
 refine VL_load (d := 17) (t := 3) (a := ⟨b1, 4, none⟩) (v := .int .i64 c.burst) (by kernel_rfl) (by kernel_rfl) (Loads.own1 ho1 (by kernel_rfl) (by rfl)) ?_
 refine VL_pure 5 [1, 3, 15, 17, 18] [(1, .pointer (some ⟨b1, 0, none⟩)), (3, .slice (some ⟨b2, 0, none⟩) 1 1), (15, .int .i64 c.whole), (17, .int .i64 c.burst), (18, .pointer (some ⟨b1, 2, none⟩))] (by kernel_rfl) rfl ?_
 refine VL_load (d := 19) (t := 3) (a := ⟨b1, 2, none⟩) (v := .int .i64 c.early) (by kernel_rfl) (by kernel_rfl) (Loads.own1 ho1 (by kernel_rfl) (by rfl)) ?_
 refine VL_pure 7 [1, 3, 15, 20] [(1, .pointer (some ⟨b1, 0, none⟩)), (3, .slice (some ⟨b2, 0, none⟩) 1 1), (15, .int .i64 c.whole), (20, .int .i64 (IntKind.wrap .i64 (c.burst + c.early)))] (by kernel_rfl) rfl ?_
 refine VL_eq [(1, .pointer (some ⟨b1, 0, none⟩)), (3, .slice (some ⟨b2, 0, none⟩) 1 1), (15, .int .i64 c.whole), (20, .int .i64 (c.burst + c.early))] (by rw [bur_early hr (by omega)]) ?_
 refine VL_pure 8 [1, 3, 21] [(1, .pointer (some ⟨b1, 0, none⟩)), (3, .slice (some ⟨b2, 0, none⟩) 1 1), (21, .agg #[.int .i64 c.whole, .int .i64 (c.burst + c.early), .bool false, .bool false])] (by kernel_rfl) rfl ?_
 have hzs4 := hS.size
 have hzl3 := ho1.lt
 have hzl4 := ho2.lt
 refine VL_box (d := 4) (t := 94) (c := #[.int .i64 0, .int .i64 0, .bool false, .bool false]) (by kernel_rfl) (by kernel_rfl) ?_
 intro b3 w4 hn3
 replace hS := Step.trans hS (hn3.step No)
 replace ho1 := ho1.no (hn3.step No)
 replace ho2 := ho2.no (hn3.step No)
 have ho3 := hn3.own
 have hzhn3 := hn3.size
 have hqhn3 := hn3.eqb
 refine VL_store (b := b3) (o := 0) (vs := [.int .i64 c.whole, .int .i64 (c.burst + c.early), .bool false, .bool false]) (by kernel_rfl) (by kernel_rfl) ho3 (Nat.le_of_ble_eq_true (by kernel_rfl)) ?_
 intro w5 hw1
 replace hS := Step.transNew hS hw1.step (fun _ _ _ => by omega)
 replace ho1 := ho1.step hw1.step (show ¬ b1 = b3 by omega)
 replace ho2 := ho2.step hw1.step (show ¬ b2 = b3 by omega)
 have ho4 : Own w5 b3 #[.int .i64 c.whole, .int .i64 (c.burst + c.early), .bool false, .bool false] 94 := Own.cast hw1.own (by kernel_rfl)
 have hzhw1 := hw1.same
 refine VL_end (by kernel_rfl) ?_
 refine VQ_next ?_
 refine VC_seq ?_
 refine VC_seq ?_
 refine VC_region ?_
 refine VL_pure 1 [3, 4, 22] [(3, .slice (some ⟨b2, 0, none⟩) 1 1), (4, .pointer (some ⟨b3, 0, none⟩)), (22, .pointer (some ⟨b1, 0, none⟩))] (by kernel_rfl) rfl ?_
 refine VL_load (d := 23) (t := 3) (a := ⟨b1, 0, none⟩) (v := .int .i64 c.kind) (by kernel_rfl) (by kernel_rfl) (Loads.own1 ho1 (by kernel_rfl) (by rfl)) ?_
 refine VL_end (by kernel_rfl) ?_
 refine VQ_next ?_
 refine VC_block ?_
 refine VC_seq ?_
 refine VC_block ?_
 refine VC_seq ?_
 refine VC_block ?_
 refine VC_seq ?_
 refine VC_block ?_
 refine VC_seq ?_
 refine VC_seq ?_
 refine VC_seq ?_
 refine VC_region ?_
 refine VL_pure 2 [3, 4, 23, 24] [(3, .slice (some ⟨b2, 0, none⟩) 1 1), (4, .pointer (some ⟨b3, 0, none⟩)), (23, .int .i64 c.kind), (24, .bool (c.kind == 4))] (by kernel_rfl) rfl ?_
 refine VL_end (by kernel_rfl) ?_
 refine VQ_next ?_
 refine VC_is (b := c.kind == 4) true (by kernel_rfl) (by rw [hk]; rfl) ?_
 refine VC_ite_true ?_
 refine VC_exit ?_
 refine VQ_then_exit ?_
 refine VQ_then_exit ?_
 refine VQ_block_hit ?_
 refine VQ_next ?_
 refine VC_region ?_
 refine VL_pure 1 [3, 4, 30] [(3, .slice (some ⟨b2, 0, none⟩) 1 1), (4, .pointer (some ⟨b3, 0, none⟩)), (30, .pointer (some ⟨b3, 3, none⟩))] (by kernel_rfl) rfl ?_
 refine VL_store (b := b3) (o := 3) (vs := [.bool true]) (by kernel_rfl) (by kernel_rfl) ho4 (Nat.le_of_ble_eq_true (by kernel_rfl)) ?_
 intro w6 hw2
 replace hS := Step.transNew hS hw2.step (fun _ _ _ => by omega)
 replace ho1 := ho1.step hw2.step (show ¬ b1 = b3 by omega)
 replace ho2 := ho2.step hw2.step (show ¬ b2 = b3 by omega)
 have ho5 : Own w6 b3 #[.int .i64 c.whole, .int .i64 (c.burst + c.early), .bool false, .bool true] 94 := Own.cast hw2.own (by kernel_rfl)
 have hzhw2 := hw2.same
 refine VL_end (by kernel_rfl) ?_
 refine VQ_block_normal ?_
 refine VQ_next ?_
 refine VC_region ?_
 refine VL_pure 1 [3, 4, 31] [(3, .slice (some ⟨b2, 0, none⟩) 1 1), (4, .pointer (some ⟨b3, 0, none⟩)), (31, .pointer (some ⟨b3, 2, none⟩))] (by kernel_rfl) rfl ?_
 refine VL_store (b := b3) (o := 2) (vs := [.bool true]) (by kernel_rfl) (by kernel_rfl) ho5 (Nat.le_of_ble_eq_true (by kernel_rfl)) ?_
 intro w7 hw3
 replace hS := Step.transNew hS hw3.step (fun _ _ _ => by omega)
 replace ho1 := ho1.step hw3.step (show ¬ b1 = b3 by omega)
 replace ho2 := ho2.step hw3.step (show ¬ b2 = b3 by omega)
 have ho6 : Own w7 b3 #[.int .i64 c.whole, .int .i64 (c.burst + c.early), .bool true, .bool true] 94 := Own.cast hw3.own (by kernel_rfl)
 have hzhw3 := hw3.same
 refine VL_end (by kernel_rfl) ?_
 refine VQ_block_normal ?_
 refine VQ_next ?_
 refine VC_seq ?_
 refine VC_region ?_
 refine VL_pure 1 [4, 32] [(4, .pointer (some ⟨b3, 0, none⟩)), (32, .slice (some ⟨b2, 0, none⟩) 1 1)] (by kernel_rfl) rfl ?_
 refine VL_load (d := 33) (t := 94) (a := ⟨b3, 0, none⟩) (v := .agg #[.int .i64 c.whole, .int .i64 (c.burst + c.early), .bool true, .bool true]) (by kernel_rfl) (by kernel_rfl) (Loads.ownL ho6 (n := 4) (by kernel_rfl) (by kernel_rfl) (by kernel_rfl)) ?_
 have hzs5 := hS.size
 have hzl5 := ho1.lt
 have hzl6 := ho2.lt
 have hzl7 := ho6.lt
 refine VL_bs (d := 34) (e := 94) (c := #[.int .i64 c.whole, .int .i64 (c.burst + c.early), .bool true, .bool true]) (len := 1) (by kernel_rfl) (by kernel_rfl) ?_
 intro b4 w8 hn4
 replace hS := Step.trans hS (hn4.step No)
 replace ho1 := ho1.no (hn4.step No)
 replace ho2 := ho2.no (hn4.step No)
 replace ho6 := ho6.no (hn4.step No)
 have ho7 := hn4.own
 have hzhn4 := hn4.size
 have hqhn4 := hn4.eqb
 have hzs6 := hS.size
 have hzl8 := ho1.lt
 have hzl9 := ho2.lt
 have hzl10 := ho6.lt
 have hzl11 := ho7.lt
 have hbase1 := Nat.le_of_lt ho2.lt
 have hrowhbase1 := RwS.cast (ys := flat r4 [(rlNew c.peak c.early false false)]) (RwS.of_new (n := 1) (sz := 4) (base := b2) ho2 (Nat.le_refl _) (by simp [maxLen]) (by rfl)) rfl (by rfl)
 refine VL_appendZ (d := 35) (e := 94) (A := (some ⟨b2, 0, none⟩)) (m := 1) (c := 1) (A2 := (some ⟨b4, 0, none⟩)) (m2 := 1) (c2 := 1) (sz := 4) (bytes := 24) (by kernel_rfl) (by kernel_rfl) (by kernel_rfl) b2 w8.heap.size (flat r4 ([(rlNew c.peak c.early false false)])) (flat r4 [(rlNew c.whole (c.burst + c.early) true true)]) hrowhbase1 (by rw [flat_one, r4_len]) (Sl.mono (Sl.cast (Own.sl ho7 ho7.lt) (by first | rfl | simp [flat])) (by first | exact Nat.le_refl _ | omega)) (flat_one' r4_one _) 2 (by omega) (by simp only [maxLen]; omega) (by omega) (by omega) ?_
 intro A1 c1 w9 hr1 hg1
 replace hr1 : RwS w9 4 b2 94 A1 2 c1 (flat r4 (([(rlNew c.peak c.early false false)]) ++ ([(rlNew c.whole (c.burst + c.early) true true)]))) := RwS.cast hr1 rfl (by simp only [flat_append, flat_one, List.append_assoc, List.nil_append, List.append_nil, show flat r4 [] = [] from rfl])
 replace hg1 := Step.mono (G := fun k => k = b2) hg1 (fun i hi => by obtain ⟨a9, ha9, hi9⟩ := hi; cases ha9; exact hi9.symm)
 have hzhg1 := hg1.size
 replace hS := Step.transNew hS hg1 (fun i hi hG => by (try simp only at hG); omega)
 replace ho1 := ho1.step hg1 (by (try simp only); omega)
 replace ho6 := ho6.step hg1 (by (try simp only); omega)
 replace hbase1 := Nat.le_trans hbase1 (hg1).size
 have hlhr1 : (([(rlNew c.peak c.early false false)]) ++ ([(rlNew c.whole (c.burst + c.early) true true)])).length = 2 := by have hq9 := RwS.len hr1; rw [flat_len r4_len] at hq9; omega
 refine VL_pure 5 [3] [(3, .slice A1 2 c1)] (by kernel_rfl) rfl ?_
 refine VL_end (by kernel_rfl) ?_
 refine VQ_next ?_
 refine VC_exit ?_
 refine VQ_block_hit ?_
 refine VQ_next ?_
 refine VC_seq ?_
 refine VC_region ?_
 refine VL_pure 2 [2] [(2, .slice A1 2 c1)] (by kernel_rfl) rfl ?_
 refine VL_end (by kernel_rfl) ?_
 refine VQ_next ?_
 refine VC_ret ?_
 refine VQ_ret1 (.slice A1 2 c1) (.inr rfl) rfl rfl ?_
 have hR := rules_v3 hr (by assumption)
 rw [← hR]
 exact ⟨A1, _, _, rfl, rfl, RwS.low (RwS.cast hr1 rfl (by rfl)) (by omega), hS⟩

set_option maxRecDepth 100000 in
set_option maxHeartbeats 4000000 in
theorem rules_v0_any (c : Con) (hr : rightC c = 0) (h2 : ¬ c.kind = 2) (h3 : ¬ c.kind = 3) (h4 : ¬ c.kind = 4) (w : World) :
  CV Try.prog 58 #[.agg #[.int .i64 c.kind, .int .i64 c.peak, .int .i64 c.early, .int .i64 c.whole, .int .i64 c.burst, .int .i64 c.least]] w (fun x w1 => ∃ A n cc, x = .slice A n cc ∧ (rulesC c).length = n ∧ RwS w1 4 w.heap.size 94 A n cc (flat r4 (rulesC c)) ∧ Step No w w1) := by
 have hS : Step No w w := Step.refl _ _
 refine CV_enter Try.f58 _ 37 [(0, .agg #[.int .i64 c.kind, .int .i64 c.peak, .int .i64 c.early, .int .i64 c.whole, .int .i64 c.burst, .int .i64 c.least])] Try.func58 rfl rfl (by kernel_rfl) rfl ?_
 refine VC_seq ?_
 refine VC_region ?_
 have hzs1 := hS.size
 refine VL_box (d := 1) (t := 30) (c := #[.int .i64 c.kind, .int .i64 c.peak, .int .i64 c.early, .int .i64 c.whole, .int .i64 c.burst, .int .i64 c.least]) (by kernel_rfl) (by kernel_rfl) ?_
 intro b1 w1 hn1
 replace hS := Step.trans hS (hn1.step No)
 have ho1 := hn1.own
 have hzhn1 := hn1.size
 have hqhn1 := hn1.eqb
 refine VL_pure 2 [1] [(1, .pointer (some ⟨b1, 0, none⟩))] (by kernel_rfl) rfl ?_
 refine VL_end (by kernel_rfl) ?_
 refine VQ_next ?_
 refine VC_seq ?_
 refine VC_seq ?_
 refine VC_region ?_
 refine VL_load (d := 5) (t := 30) (a := ⟨b1, 0, none⟩) (v := .agg #[.int .i64 c.kind, .int .i64 c.peak, .int .i64 c.early, .int .i64 c.whole, .int .i64 c.burst, .int .i64 c.least]) (by kernel_rfl) (by kernel_rfl) (Loads.ownL ho1 (n := 6) (by kernel_rfl) (by kernel_rfl) (by kernel_rfl)) ?_
 have hzs2 := hS.size
 have hzl1 := ho1.lt
 refine VL_call (d := 6) (f := 13) (args := #[.agg #[.int .i64 c.kind, .int .i64 c.peak, .int .i64 c.early, .int .i64 c.whole, .int .i64 c.burst, .int .i64 c.least]]) (by kernel_rfl) (by kernel_rfl) (by kernel_rfl) Try.call13 ((cright_any c _).mono (fun x w1 h9 => ⟨h9.1.trans (by rw [hr]), h9.2⟩ : ∀ x w1, _ → x = .int .i64 0 ∧ Step No _ w1)) ?_
 rintro _ w2 ⟨rfl, hc1⟩
 replace hS := Step.trans hS hc1
 replace ho1 := ho1.no hc1
 refine VL_pure 3 [1, 7] [(1, .pointer (some ⟨b1, 0, none⟩)), (7, .bool false)] (by kernel_rfl) rfl ?_
 refine VL_end (by kernel_rfl) ?_
 refine VQ_next ?_
 refine VC_false (by kernel_rfl) ?_
 refine VC_skip ?_
 refine VQ_next ?_
 refine VC_seq ?_
 refine VC_region ?_
 refine VL_pure 1 [1, 8] [(1, .pointer (some ⟨b1, 0, none⟩)), (8, .pointer (some ⟨b1, 1, none⟩))] (by kernel_rfl) rfl ?_
 refine VL_load (d := 9) (t := 3) (a := ⟨b1, 1, none⟩) (v := .int .i64 c.peak) (by kernel_rfl) (by kernel_rfl) (Loads.own1 ho1 (by kernel_rfl) (by rfl)) ?_
 refine VL_pure 3 [1, 9, 10] [(1, .pointer (some ⟨b1, 0, none⟩)), (9, .int .i64 c.peak), (10, .pointer (some ⟨b1, 2, none⟩))] (by kernel_rfl) rfl ?_
 refine VL_load (d := 11) (t := 3) (a := ⟨b1, 2, none⟩) (v := .int .i64 c.early) (by kernel_rfl) (by kernel_rfl) (Loads.own1 ho1 (by kernel_rfl) (by rfl)) ?_
 refine VL_pure 5 [1, 12] [(1, .pointer (some ⟨b1, 0, none⟩)), (12, .agg #[.int .i64 c.peak, .int .i64 c.early, .bool false, .bool false])] (by kernel_rfl) rfl ?_
 have hzs3 := hS.size
 have hzl2 := ho1.lt
 refine VL_bs (d := 13) (e := 94) (c := #[.int .i64 c.peak, .int .i64 c.early, .bool false, .bool false]) (len := 1) (by kernel_rfl) (by kernel_rfl) ?_
 intro b2 w3 hn2
 replace hS := Step.trans hS (hn2.step No)
 replace ho1 := ho1.no (hn2.step No)
 have ho2 := hn2.own
 have hzhn2 := hn2.size
 have hqhn2 := hn2.eqb
 refine VL_pure 7 [1, 3] [(1, .pointer (some ⟨b1, 0, none⟩)), (3, .slice (some ⟨b2, 0, none⟩) 1 1)] (by kernel_rfl) rfl ?_
 refine VL_end (by kernel_rfl) ?_
 refine VQ_next ?_
 refine VC_seq ?_
 refine VC_region ?_
 refine VL_pure 1 [1, 3, 14] [(1, .pointer (some ⟨b1, 0, none⟩)), (3, .slice (some ⟨b2, 0, none⟩) 1 1), (14, .pointer (some ⟨b1, 3, none⟩))] (by kernel_rfl) rfl ?_
 refine VL_load (d := 15) (t := 3) (a := ⟨b1, 3, none⟩) (v := .int .i64 c.whole) (by kernel_rfl) (by kernel_rfl) (Loads.own1 ho1 (by kernel_rfl) (by rfl)) ?_
 refine VL_pure 3 [1, 3, 15, 16] [(1, .pointer (some ⟨b1, 0, none⟩)), (3, .slice (some ⟨b2, 0, none⟩) 1 1), (15, .int .i64 c.whole), (16, .pointer (some ⟨b1, 4, none⟩))] (by kernel_rfl) rfl ?_
 refine VL_load (d := 17) (t := 3) (a := ⟨b1, 4, none⟩) (v := .int .i64 c.burst) (by kernel_rfl) (by kernel_rfl) (Loads.own1 ho1 (by kernel_rfl) (by rfl)) ?_
 refine VL_pure 5 [1, 3, 15, 17, 18] [(1, .pointer (some ⟨b1, 0, none⟩)), (3, .slice (some ⟨b2, 0, none⟩) 1 1), (15, .int .i64 c.whole), (17, .int .i64 c.burst), (18, .pointer (some ⟨b1, 2, none⟩))] (by kernel_rfl) rfl ?_
 refine VL_load (d := 19) (t := 3) (a := ⟨b1, 2, none⟩) (v := .int .i64 c.early) (by kernel_rfl) (by kernel_rfl) (Loads.own1 ho1 (by kernel_rfl) (by rfl)) ?_
 refine VL_pure 8 [1, 3, 21] [(1, .pointer (some ⟨b1, 0, none⟩)), (3, .slice (some ⟨b2, 0, none⟩) 1 1), (21, .agg #[.int .i64 c.whole, .int .i64 (IntKind.wrap .i64 (c.burst + c.early)), .bool false, .bool false])] (by kernel_rfl) rfl ?_
 have hzs4 := hS.size
 have hzl3 := ho1.lt
 have hzl4 := ho2.lt
 refine VL_box (d := 4) (t := 94) (c := #[.int .i64 0, .int .i64 0, .bool false, .bool false]) (by kernel_rfl) (by kernel_rfl) ?_
 intro b3 w4 hn3
 replace hS := Step.trans hS (hn3.step No)
 replace ho1 := ho1.no (hn3.step No)
 replace ho2 := ho2.no (hn3.step No)
 have ho3 := hn3.own
 have hzhn3 := hn3.size
 have hqhn3 := hn3.eqb
 refine VL_store (b := b3) (o := 0) (vs := [.int .i64 c.whole, .int .i64 (IntKind.wrap .i64 (c.burst + c.early)), .bool false, .bool false]) (by kernel_rfl) (by kernel_rfl) ho3 (Nat.le_of_ble_eq_true (by kernel_rfl)) ?_
 intro w5 hw1
 replace hS := Step.transNew hS hw1.step (fun _ _ _ => by omega)
 replace ho1 := ho1.step hw1.step (show ¬ b1 = b3 by omega)
 replace ho2 := ho2.step hw1.step (show ¬ b2 = b3 by omega)
 have ho4 : Own w5 b3 #[.int .i64 c.whole, .int .i64 (IntKind.wrap .i64 (c.burst + c.early)), .bool false, .bool false] 94 := Own.cast hw1.own (by kernel_rfl)
 have hzhw1 := hw1.same
 refine VL_end (by kernel_rfl) ?_
 refine VQ_next ?_
 refine VC_seq ?_
 refine VC_seq ?_
 refine VC_region ?_
 refine VL_pure 1 [3, 4, 22] [(3, .slice (some ⟨b2, 0, none⟩) 1 1), (4, .pointer (some ⟨b3, 0, none⟩)), (22, .pointer (some ⟨b1, 0, none⟩))] (by kernel_rfl) rfl ?_
 refine VL_load (d := 23) (t := 3) (a := ⟨b1, 0, none⟩) (v := .int .i64 c.kind) (by kernel_rfl) (by kernel_rfl) (Loads.own1 ho1 (by kernel_rfl) (by rfl)) ?_
 refine VL_end (by kernel_rfl) ?_
 refine VQ_next ?_
 refine VC_block ?_
 refine VC_seq ?_
 refine VC_block ?_
 refine VC_seq ?_
 refine VC_block ?_
 refine VC_seq ?_
 refine VC_block ?_
 refine VC_seq ?_
 refine VC_seq ?_
 refine VC_seq ?_
 refine VC_region ?_
 refine VL_pure 2 [3, 4, 23, 24] [(3, .slice (some ⟨b2, 0, none⟩) 1 1), (4, .pointer (some ⟨b3, 0, none⟩)), (23, .int .i64 c.kind), (24, .bool (c.kind == 4))] (by kernel_rfl) rfl ?_
 refine VL_end (by kernel_rfl) ?_
 refine VQ_next ?_
 refine VC_is (b := c.kind == 4) false (by kernel_rfl) (beq_eq_false_iff_ne.2 (by assumption)) ?_
 refine VC_ite_false ?_
 refine VC_skip ?_
 refine VQ_next ?_
 refine VC_seq ?_
 refine VC_seq ?_
 refine VC_region ?_
 refine VL_pure 2 [3, 4, 23, 26] [(3, .slice (some ⟨b2, 0, none⟩) 1 1), (4, .pointer (some ⟨b3, 0, none⟩)), (23, .int .i64 c.kind), (26, .bool (c.kind == 3))] (by kernel_rfl) rfl ?_
 refine VL_end (by kernel_rfl) ?_
 refine VQ_next ?_
 refine VC_is (b := c.kind == 3) false (by kernel_rfl) (beq_eq_false_iff_ne.2 (by assumption)) ?_
 refine VC_ite_false ?_
 refine VC_skip ?_
 refine VQ_next ?_
 refine VC_seq ?_
 refine VC_region ?_
 refine VL_pure 2 [3, 4, 28] [(3, .slice (some ⟨b2, 0, none⟩) 1 1), (4, .pointer (some ⟨b3, 0, none⟩)), (28, .bool (c.kind == 2))] (by kernel_rfl) rfl ?_
 refine VL_end (by kernel_rfl) ?_
 refine VQ_next ?_
 refine VC_is (b := c.kind == 2) false (by kernel_rfl) (beq_eq_false_iff_ne.2 (by assumption)) ?_
 refine VC_ite_false ?_
 refine VC_skip ?_
 refine VQ_next ?_
 refine VC_exit ?_
 refine VQ_block_miss (by kernel_rfl) ?_
 refine VQ_then_exit ?_
 refine VQ_block_miss (by kernel_rfl) ?_
 refine VQ_then_exit ?_
 refine VQ_block_miss (by kernel_rfl) ?_
 refine VQ_then_exit ?_
 refine VQ_block_hit ?_
 refine VQ_next ?_
 refine VC_seq ?_
 refine VC_region ?_
 refine VL_pure 2 [2] [(2, .slice (some ⟨b2, 0, none⟩) 1 1)] (by kernel_rfl) rfl ?_
 refine VL_end (by kernel_rfl) ?_
 refine VQ_next ?_
 refine VC_ret ?_
 refine VQ_ret1 (.slice (some ⟨b2, 0, none⟩) 1 1) (.inr rfl) rfl rfl ?_
 have hR := rules_one hr (by assumption) (by assumption) (by assumption)
 rw [← hR]
 exact ⟨_, _, _, rfl, rfl, RwS.cast (RwS.of_new (n := 1) (sz := 4) (base := w.heap.size) ho2 (by omega) (by simp [maxLen]) (by rfl)) rfl (by rfl), hS⟩

theorem rules_any (c : Con) (hr : rightC c = 0) (w : World) : CV Try.prog 58 #[.agg #[.int .i64 c.kind, .int .i64 c.peak, .int .i64 c.early, .int .i64 c.whole, .int .i64 c.burst, .int .i64 c.least]] w (fun x w1 => ∃ A n cc, x = .slice A n cc ∧ (rulesC c).length = n ∧ RwS w1 4 w.heap.size 94 A n cc (flat r4 (rulesC c)) ∧ Step No w w1) := by
  by_cases h2 : c.kind = 2
  · exact rules_v1_any c hr h2 w
  · by_cases h3 : c.kind = 3
    · exact rules_v2_any c hr h3 w
    · by_cases h4 : c.kind = 4
      · exact rules_v3_any c hr h4 w
      · exact rules_v0_any c hr h2 h3 h4 w
theorem pl_mk {w w1 : World} {p base c : Nat} {A : Option Addr} {a : Bool} {l : List Rb} {rs : List Rl} (hl : rs = l.map (·.1)) (hI : RlsI rs) (h0 : 0 < l.length) (ho : Own w1 p #[.bool a, .slice A l.length c, .int .i64 0, .int .i64 0, .int .i64 0, .int .i64 0] 103) (hr : RwS w1 5 base 98 A l.length c (flat rlc l)) (hb : BksW w1 l) (hnd : (l.map (·.2)).Nodup)
    (hp : w.heap.size ≤ p) (hbase : w.heap.size ≤ base) (hq : ∀ q ∈ l, w.heap.size ≤ q.2) : ∃ Y : Nat → Prop, (∀ k, Y k → w.heap.size ≤ k) ∧ Pl w1 p Y a rs := by
  obtain ⟨rb, rfl, h1, hrow⟩ := RowE.of_rw hr h0
  refine ⟨fun k => k = p ∨ k = rb ∨ ∃ q ∈ l, k = q.2, ?_, hI, l, rb, c, 0, 0, 0, 0, hl, ⟨ho, hrow, hb, hnd, .inl rfl, .inr (.inl rfl), fun q hq => .inr (.inr ⟨q, hq, rfl⟩), ?_, h0⟩⟩
  · rintro k (rfl | rfl | ⟨q, hq', rfl⟩)
    · exact hp
    · omega
    · exact hq q hq'
  · rintro k (rfl | rfl | ⟨q, hq', rfl⟩)
    · exact .inl ho.tyB
    · exact .inr (.inl hrow.ty)
    · exact .inr (.inr (hb q hq').tyB)
theorem rules_l1 {c : Con} (hr : rightC c = 0) (s1 e1 : Int) (z1 t1 : Bool) (hR : rulesC c = [(rlNew s1 e1 z1 t1)]) (w : World) : CV Try.prog 58 #[.agg #[.int .i64 c.kind, .int .i64 c.peak, .int .i64 c.early, .int .i64 c.whole, .int .i64 c.burst, .int .i64 c.least]] w fun x w1 => ∃ A cc, x = .slice A 1 cc ∧ RwS w1 4 w.heap.size 94 A 1 cc (flat r4 [(rlNew s1 e1 z1 t1)]) ∧ Step No w w1 := by
  refine (rules_any c hr w).mono ?_
  rintro x w1 ⟨A, n, cc, rfl, hn, hrw, hs⟩
  rw [hR] at hn hrw
  subst hn
  exact ⟨A, cc, rfl, hrw, hs⟩
set_option maxRecDepth 100000 in
set_option maxHeartbeats 4000000 in
theorem pnew_1 (c : Con) (hr : rightC c = 0) (s1 e1 : Int) (z1 t1 : Bool) (hR : rulesC c = [(rlNew s1 e1 z1 t1)]) (w : World) :
  CV Try.prog 48 #[.agg #[.int .i64 c.kind, .int .i64 c.peak, .int .i64 c.early, .int .i64 c.whole, .int .i64 c.burst, .int .i64 c.least]] w (fun x w1 => ∃ pp Y, x = .tuple #[.pointer (some ⟨pp, 0, none⟩), .int .i64 0] ∧ (∀ k, Y k → w.heap.size ≤ k) ∧ Pl w1 pp Y (alwaysC c) (rulesC c) ∧ Step No w w1) := by
 have hS : Step No w w := Step.refl _ _
 refine CV_enter Try.f48 _ 43 [(0, .agg #[.int .i64 c.kind, .int .i64 c.peak, .int .i64 c.early, .int .i64 c.whole, .int .i64 c.burst, .int .i64 c.least])] Try.func48 rfl rfl (by kernel_rfl) rfl ?_
 refine VC_seq ?_
 refine VC_region ?_
 have hzs1 := hS.size
 refine VL_box (d := 1) (t := 30) (c := #[.int .i64 c.kind, .int .i64 c.peak, .int .i64 c.early, .int .i64 c.whole, .int .i64 c.burst, .int .i64 c.least]) (by kernel_rfl) (by kernel_rfl) ?_
 intro b1 w1 hn1
 replace hS := Step.trans hS (hn1.step No)
 have ho1 := hn1.own
 have hzhn1 := hn1.size
 have hqhn1 := hn1.eqb
 refine VL_pure 3 [1] [(1, .pointer (some ⟨b1, 0, none⟩))] (by kernel_rfl) rfl ?_
 refine VL_end (by kernel_rfl) ?_
 refine VQ_next ?_
 refine VC_seq ?_
 refine VC_seq ?_
 refine VC_region ?_
 refine VL_load (d := 8) (t := 30) (a := ⟨b1, 0, none⟩) (v := .agg #[.int .i64 c.kind, .int .i64 c.peak, .int .i64 c.early, .int .i64 c.whole, .int .i64 c.burst, .int .i64 c.least]) (by kernel_rfl) (by kernel_rfl) (Loads.ownL ho1 (n := 6) (by kernel_rfl) (by kernel_rfl) (by kernel_rfl)) ?_
 have hzs2 := hS.size
 have hzl1 := ho1.lt
 refine VL_call (d := 9) (f := 13) (args := #[.agg #[.int .i64 c.kind, .int .i64 c.peak, .int .i64 c.early, .int .i64 c.whole, .int .i64 c.burst, .int .i64 c.least]]) (by kernel_rfl) (by kernel_rfl) (by kernel_rfl) Try.call13 ((cright_any c _).mono (fun x w1 h9 => ⟨h9.1.trans (by rw [hr]), h9.2⟩ : ∀ x w1, _ → x = .int .i64 0 ∧ Step No _ w1)) ?_
 rintro _ w2 ⟨rfl, hc1⟩
 replace hS := Step.trans hS hc1
 replace ho1 := ho1.no hc1
 refine VL_pure 3 [1, 4] [(1, .pointer (some ⟨b1, 0, none⟩)), (4, .int .i64 0)] (by kernel_rfl) rfl ?_
 refine VL_end (by kernel_rfl) ?_
 refine VQ_next ?_
 refine VC_seq ?_
 refine VC_region ?_
 refine VL_pure 2 [1, 4, 11] [(1, .pointer (some ⟨b1, 0, none⟩)), (4, .int .i64 0), (11, .bool false)] (by kernel_rfl) rfl ?_
 refine VL_end (by kernel_rfl) ?_
 refine VQ_next ?_
 refine VC_false (by kernel_rfl) ?_
 refine VC_skip ?_
 refine VQ_next ?_
 refine VC_seq ?_
 refine VC_region ?_
 refine VL_load (d := 13) (t := 30) (a := ⟨b1, 0, none⟩) (v := .agg #[.int .i64 c.kind, .int .i64 c.peak, .int .i64 c.early, .int .i64 c.whole, .int .i64 c.burst, .int .i64 c.least]) (by kernel_rfl) (by kernel_rfl) (Loads.ownL ho1 (n := 6) (by kernel_rfl) (by kernel_rfl) (by kernel_rfl)) ?_
 have hzs3 := hS.size
 have hzl2 := ho1.lt
 refine VL_call (d := 14) (f := 57) (args := #[.agg #[.int .i64 c.kind, .int .i64 c.peak, .int .i64 c.early, .int .i64 c.whole, .int .i64 c.burst, .int .i64 c.least]]) (by kernel_rfl) (by kernel_rfl) (by kernel_rfl) Try.call57 (always_any c _) ?_
 rintro _ w3 ⟨rfl, hc2⟩
 replace hS := Step.trans hS hc2
 replace ho1 := ho1.no hc2
 refine VL_pure 3 [1, 15] [(1, .pointer (some ⟨b1, 0, none⟩)), (15, .agg #[.bool (alwaysC c), .slice none 0 0, .int .i64 0, .int .i64 0, .int .i64 0, .int .i64 0])] (by kernel_rfl) rfl ?_
 have hzs4 := hS.size
 have hzl3 := ho1.lt
 refine VL_box (d := 16) (t := 103) (c := #[.bool (alwaysC c), .slice none 0 0, .int .i64 0, .int .i64 0, .int .i64 0, .int .i64 0]) (by kernel_rfl) (by kernel_rfl) ?_
 intro b2 w4 hn2
 replace hS := Step.trans hS (hn2.step No)
 replace ho1 := ho1.no (hn2.step No)
 have ho2 := hn2.own
 have hzhn2 := hn2.size
 have hqhn2 := hn2.eqb
 refine VL_pure 5 [1, 5] [(1, .pointer (some ⟨b1, 0, none⟩)), (5, .pointer (some ⟨b2, 0, none⟩))] (by kernel_rfl) rfl ?_
 refine VL_end (by kernel_rfl) ?_
 refine VQ_next ?_
 refine VC_seq ?_
 refine VC_seq ?_
 refine VC_region ?_
 refine VL_load (d := 17) (t := 30) (a := ⟨b1, 0, none⟩) (v := .agg #[.int .i64 c.kind, .int .i64 c.peak, .int .i64 c.early, .int .i64 c.whole, .int .i64 c.burst, .int .i64 c.least]) (by kernel_rfl) (by kernel_rfl) (Loads.ownL ho1 (n := 6) (by kernel_rfl) (by kernel_rfl) (by kernel_rfl)) ?_
 have hzs5 := hS.size
 have hzl4 := ho1.lt
 have hzl5 := ho2.lt
 refine VL_call (d := 18) (f := 58) (args := #[.agg #[.int .i64 c.kind, .int .i64 c.peak, .int .i64 c.early, .int .i64 c.whole, .int .i64 c.burst, .int .i64 c.least]]) (by kernel_rfl) (by kernel_rfl) (by kernel_rfl) Try.call58 (rules_l1 hr s1 e1 z1 t1 hR _) ?_
 rintro _ w5 ⟨AR, ccR, rfl, hrR, hc3⟩
 replace hS := Step.trans hS hc3
 replace ho1 := ho1.no hc3
 replace ho2 := ho2.no hc3
 obtain ⟨lo9, hlo9E⟩ : ∃ x, x = w4.heap.size := ⟨_, rfl⟩
 rw [← hlo9E] at hrR
 have hlo9 : lo9 ≤ w5.heap.size := by have h9 := (hc3).size; omega
 refine VL_pure 4 [5, 18, 19, 20] [(5, .pointer (some ⟨b2, 0, none⟩)), (18, .slice AR 1 ccR), (19, .int .i64 1), (20, .int .i64 0)] (by kernel_rfl) rfl ?_
 refine VL_end (by kernel_rfl) ?_
 refine VQ_next ?_
 refine VC_block ?_
 refine VC_rounds ?_
 refine VCL_round ?_
 refine VC_seq ?_
 refine VC_region ?_
 refine VL_pure 1 [5, 18, 19, 20, 21] [(5, .pointer (some ⟨b2, 0, none⟩)), (18, .slice AR 1 ccR), (19, .int .i64 1), (20, .int .i64 0), (21, .bool true)] (by kernel_rfl) rfl ?_
 refine VL_end (by kernel_rfl) ?_
 refine VQ_next ?_
 refine VC_seq ?_
 refine VC_true (by kernel_rfl) ?_
 refine VC_skip ?_
 refine VQ_next ?_
 refine VC_seq ?_
 refine VC_block ?_
 refine VC_seq ?_
 refine VC_region ?_
 obtain ⟨g1, cur1, rfl, hgbg1, hglg1, -⟩ := RwS.open hrR (Nat.le_of_ble_eq_true (by kernel_rfl))
 refine VL_index (d := 22) (b := g1) (o := 0) (len := 1) (sz := 4) (m := 0) (by kernel_rfl) (by kernel_rfl) 0 (by rfl) (by omega) 0 (by omega) ?_
 refine VL_load (d := 23) (t := 94) (a := ⟨g1, 0, none⟩) (v := .agg #[.int .i64 s1, .int .i64 e1, .bool z1, .bool t1]) (by kernel_rfl) (by kernel_rfl) (Sl.flatAgg (sz := 4) (RwS.sl2 hrR).sl r4_len (show ([(rlNew s1 e1 z1 t1)] : List Rl)[0]? = some (rlNew s1 e1 z1 t1) from rfl) 0 4 (by kernel_rfl) (by decide) _ (by rfl)) ?_
 have hzs6 := hS.size
 have hzl6 := ho1.lt
 have hzl7 := ho2.lt
 have hzk1 := hlo9
 have hzk2 := hglg1
 refine VL_box (d := 7) (t := 94) (c := #[.int .i64 0, .int .i64 0, .bool false, .bool false]) (by kernel_rfl) (by kernel_rfl) ?_
 intro b3 w6 hn3
 replace hS := Step.trans hS (hn3.step No)
 replace ho1 := ho1.no (hn3.step No)
 replace ho2 := ho2.no (hn3.step No)
 replace hrR := hrR.no (hn3.step No)
 replace hlo9 := Nat.le_trans hlo9 (hn3.step No).size
 replace hglg1 := Nat.lt_of_lt_of_le hglg1 (hn3.step No).size
 have ho3 := hn3.own
 have hzhn3 := hn3.size
 have hqhn3 := hn3.eqb
 refine VL_store (b := b3) (o := 0) (vs := [.int .i64 s1, .int .i64 e1, .bool z1, .bool t1]) (by kernel_rfl) (by kernel_rfl) ho3 (Nat.le_of_ble_eq_true (by kernel_rfl)) ?_
 intro w7 hw1
 replace hS := Step.transNew hS hw1.step (fun _ _ _ => by omega)
 replace ho1 := ho1.step hw1.step (show ¬ b1 = b3 by omega)
 replace ho2 := ho2.step hw1.step (show ¬ b2 = b3 by omega)
 replace hrR := hrR.keepG hw1.step (show ¬ g1 = b3 by omega)
 replace hlo9 := Nat.le_trans hlo9 (hw1.step).size
 replace hglg1 := Nat.lt_of_lt_of_le hglg1 (hw1.step).size
 have ho4 : Own w7 b3 #[.int .i64 s1, .int .i64 e1, .bool z1, .bool t1] 94 := Own.cast hw1.own (by kernel_rfl)
 have hzhw1 := hw1.same
 refine VL_end (by kernel_rfl) ?_
 refine VQ_next ?_
 have hs1 := drew_step w7
 have hs1z : w7.heap.size = w7.drew.heap.size := rfl
 refine VC_text [[], [], [1], [1, 2], [1, 2, 3], [], [], [6], [], [8], [6, 7, 8, 9], [6, 7, 8, 9, 10], [5, 6, 7, 8, 9, 10, 11], [5, 6, 7, 8, 9, 10, 11, 12], [1, 2, 3, 4, 5, 6, 7, 8, 9, 10, 11, 12, 13], [0, 1, 2, 3, 4, 5, 6, 7, 8, 9, 10, 11, 12, 13, 14], [0, 1, 2, 3, 4, 5, 6, 7, 8, 9, 10, 11, 12, 13, 14, 15], [0, 1, 2, 3, 4, 5, 6, 7, 8, 9, 10, 11, 12, 13, 14, 15, 16]] 15 (fun x y => Step (fun k => w7.heap.size ≤ k) x y) [10, 13, 14] [0, 1, 2, 3, 4, 5, 6, 7, 8, 9, 10, 11, 12, 13, 14] (by kernel_rfl) (by kernel_rfl) (by kernel_rfl) (by kernel_rfl) (fun x => Step.refl _ x) (fun h k => Step.trans h k) Step.weak ?_
 have hzs7 := hS.size
 have hzl8 := ho1.lt
 have hzl9 := ho2.lt
 have hzl10 := ho4.lt
 have hzo1 := hlo9
 have hzo2 := hglg1
 generalize w7.drew = w8 at hs1 hs1z ⊢
 replace hS := Step.trans hS hs1
 replace ho1 := ho1.no hs1
 replace ho2 := ho2.no hs1
 replace hrR := hrR.no hs1
 replace hlo9 := Nat.le_trans hlo9 (hs1).size
 replace hglg1 := Nat.lt_of_lt_of_le hglg1 (hs1).size
 replace ho4 := ho4.no hs1
 refine VT_pures 4 (kn' := [(3, .pointer (some ⟨b2, 1, none⟩)), (2, .pointer (some ⟨b2, 0, none⟩)), (1, .pointer (some ⟨b2, 0, none⟩)), (0, .pointer (some ⟨b2, 0, none⟩))]) (by kernel_rfl) ?_
 refine VT_load (d := 28) (t := 100) (a := ⟨b2, 1, none⟩) (v := .slice none 0 0) (by kernel_rfl) (by kernel_rfl) ?_ ?_
 ·intro w9 hr1
  replace hS := Step.transNew hS hr1 (fun i hi hG => by (try simp only at hG); omega)
  replace ho1 := ho1.step hr1 (by (try simp only); omega)
  replace ho2 := ho2.step hr1 (by (try simp only); omega)
  replace hrR := hrR.keepG hr1 (by (try simp only); omega)
  replace hlo9 := Nat.le_trans hlo9 (hr1).size
  replace hglg1 := Nat.lt_of_lt_of_le hglg1 (hr1).size
  replace ho4 := ho4.step hr1 (by (try simp only); omega)
  exact (Loads.own1 ho2 (by kernel_rfl) (by rfl))
 refine VT_load (d := 29) (t := 94) (a := ⟨b3, 0, none⟩) (v := .agg #[.int .i64 s1, .int .i64 e1, .bool z1, .bool t1]) (by kernel_rfl) (by kernel_rfl) ?_ ?_
 ·intro w10 hr2
  replace hS := Step.transNew hS hr2 (fun i hi hG => by (try simp only at hG); omega)
  replace ho1 := ho1.step hr2 (by (try simp only); omega)
  replace ho2 := ho2.step hr2 (by (try simp only); omega)
  replace hrR := hrR.keepG hr2 (by (try simp only); omega)
  replace hlo9 := Nat.le_trans hlo9 (hr2).size
  replace hglg1 := Nat.lt_of_lt_of_le hglg1 (hr2).size
  replace ho4 := ho4.step hr2 (by (try simp only); omega)
  exact (Loads.ownL ho4 (n := 4) (by kernel_rfl) (by kernel_rfl) (by kernel_rfl))
 refine VT_pures 1 (kn' := [(6, .pointer (some ⟨b3, 0, none⟩)), (5, .agg #[.int .i64 s1, .int .i64 e1, .bool z1, .bool t1]), (4, .slice none 0 0), (3, .pointer (some ⟨b2, 1, none⟩)), (2, .pointer (some ⟨b2, 0, none⟩)), (1, .pointer (some ⟨b2, 0, none⟩)), (0, .pointer (some ⟨b2, 0, none⟩))]) (by kernel_rfl) ?_
 refine VT_load (d := 31) (t := 3) (a := ⟨b3, 0, none⟩) (v := .int .i64 s1) (by kernel_rfl) (by kernel_rfl) ?_ ?_
 ·intro w11 hr3
  replace hS := Step.transNew hS hr3 (fun i hi hG => by (try simp only at hG); omega)
  replace ho1 := ho1.step hr3 (by (try simp only); omega)
  replace ho2 := ho2.step hr3 (by (try simp only); omega)
  replace hrR := hrR.keepG hr3 (by (try simp only); omega)
  replace hlo9 := Nat.le_trans hlo9 (hr3).size
  replace hglg1 := Nat.lt_of_lt_of_le hglg1 (hr3).size
  replace ho4 := ho4.step hr3 (by (try simp only); omega)
  exact (Loads.own1 ho4 (by kernel_rfl) (by rfl))
 refine VT_pures 1 (kn' := [(8, .pointer (some ⟨b3, 1, none⟩)), (7, .int .i64 s1), (6, .pointer (some ⟨b3, 0, none⟩)), (5, .agg #[.int .i64 s1, .int .i64 e1, .bool z1, .bool t1]), (4, .slice none 0 0), (3, .pointer (some ⟨b2, 1, none⟩)), (2, .pointer (some ⟨b2, 0, none⟩)), (1, .pointer (some ⟨b2, 0, none⟩)), (0, .pointer (some ⟨b2, 0, none⟩))]) (by kernel_rfl) ?_
 refine VT_load (d := 33) (t := 3) (a := ⟨b3, 1, none⟩) (v := .int .i64 e1) (by kernel_rfl) (by kernel_rfl) ?_ ?_
 ·intro w12 hr4
  replace hS := Step.transNew hS hr4 (fun i hi hG => by (try simp only at hG); omega)
  replace ho1 := ho1.step hr4 (by (try simp only); omega)
  replace ho2 := ho2.step hr4 (by (try simp only); omega)
  replace hrR := hrR.keepG hr4 (by (try simp only); omega)
  replace hlo9 := Nat.le_trans hlo9 (hr4).size
  replace hglg1 := Nat.lt_of_lt_of_le hglg1 (hr4).size
  replace ho4 := ho4.step hr4 (by (try simp only); omega)
  exact (Loads.own1 ho4 (by kernel_rfl) (by rfl))
 refine VT_chain (by kernel_rfl) ?_
 intro w13 hs2
 have hzhs2 := hs2.size
 replace hS := Step.trans hS hs2
 replace ho1 := ho1.no hs2
 replace ho2 := ho2.no hs2
 replace hrR := hrR.no hs2
 replace hlo9 := Nat.le_trans hlo9 (hs2).size
 replace hglg1 := Nat.lt_of_lt_of_le hglg1 (hs2).size
 replace ho4 := ho4.no hs2
 have hzs8 := hS.size
 have hzl11 := ho1.lt
 have hzl12 := ho2.lt
 have hzl13 := ho4.lt
 refine VTc_call (d := 34) (f := 59) (args := #[.int .i64 s1, .int .i64 e1]) (by kernel_rfl) (by kernel_rfl) (by kernel_rfl) Try.call59 (bnew_any s1 e1 _) ?_ ?_
 ·rintro _ w14 ⟨bk1, rfl, bk1E, bk1Z, hbk1, hc4⟩
  exact Step.mono hc4 (by intro i hi; first | exact hi.elim | exact .inl hi | ((try simp only at hi ⊢); omega))
 rintro _ w14 ⟨bk1, rfl, bk1E, bk1Z, hbk1, hc4⟩
 have hzhc4 := (hc4).size
 replace hS := Step.trans hS hc4
 replace ho1 := ho1.no hc4
 replace ho2 := ho2.no hc4
 replace hrR := hrR.no hc4
 replace hlo9 := Nat.le_trans hlo9 (hc4).size
 replace hglg1 := Nat.lt_of_lt_of_le hglg1 (hc4).size
 replace ho4 := ho4.no hc4
 refine VT_pures 2 (kn' := [(12, .agg #[.int .i64 s1, .int .i64 e1, .bool z1, .bool t1, .iface 111 (.pointer (some ⟨bk1, 0, none⟩))]), (11, .iface 111 (.pointer (some ⟨bk1, 0, none⟩))), (10, .pointer (some ⟨bk1, 0, none⟩)), (9, .int .i64 e1), (8, .pointer (some ⟨b3, 1, none⟩)), (7, .int .i64 s1), (6, .pointer (some ⟨b3, 0, none⟩)), (5, .agg #[.int .i64 s1, .int .i64 e1, .bool z1, .bool t1]), (4, .slice none 0 0), (3, .pointer (some ⟨b2, 1, none⟩)), (2, .pointer (some ⟨b2, 0, none⟩)), (1, .pointer (some ⟨b2, 0, none⟩)), (0, .pointer (some ⟨b2, 0, none⟩))]) (by kernel_rfl) ?_
 refine VT_chain (by kernel_rfl) ?_
 intro w15 hs3
 have hzhs3 := hs3.size
 replace hS := Step.trans hS hs3
 replace ho1 := ho1.no hs3
 replace ho2 := ho2.no hs3
 replace hrR := hrR.no hs3
 replace hlo9 := Nat.le_trans hlo9 (hs3).size
 replace hglg1 := Nat.lt_of_lt_of_le hglg1 (hs3).size
 replace ho4 := ho4.no hs3
 replace hbk1 := hbk1.no hs3
 have hzs9 := hS.size
 have hzl14 := ho1.lt
 have hzl15 := ho2.lt
 have hzk3 := hlo9
 have hzk4 := hglg1
 have hzl16 := ho4.lt
 have hzl17 := hbk1.lt
 have hzs10 := hS.size
 have hzl18 := ho1.lt
 have hzl19 := ho2.lt
 have hzk5 := hlo9
 have hzk6 := hglg1
 have hzl20 := ho4.lt
 have hzl21 := hbk1.lt
 refine VTc_bs (d := 37) (e := 98) (c := #[.int .i64 s1, .int .i64 e1, .bool z1, .bool t1, .iface 111 (.pointer (some ⟨bk1, 0, none⟩))]) (len := 1) (by kernel_rfl) (by kernel_rfl) (fun b w1 hn => hn.step _) ?_
 intro b4 w16 hn4
 replace hS := Step.trans hS (hn4.step No)
 replace ho1 := ho1.no (hn4.step No)
 replace ho2 := ho2.no (hn4.step No)
 replace hrR := hrR.no (hn4.step No)
 replace hlo9 := Nat.le_trans hlo9 (hn4.step No).size
 replace hglg1 := Nat.lt_of_lt_of_le hglg1 (hn4.step No).size
 replace ho4 := ho4.no (hn4.step No)
 replace hbk1 := hbk1.no (hn4.step No)
 have ho5 := hn4.own
 have hzhn4 := hn4.size
 have hqhn4 := hn4.eqb
 refine VT_chain (by kernel_rfl) ?_
 intro w17 hs4
 have hzhs4 := hs4.size
 replace hS := Step.trans hS hs4
 replace ho1 := ho1.no hs4
 replace ho2 := ho2.no hs4
 replace hrR := hrR.no hs4
 replace hlo9 := Nat.le_trans hlo9 (hs4).size
 replace hglg1 := Nat.lt_of_lt_of_le hglg1 (hs4).size
 replace ho4 := ho4.no hs4
 replace hbk1 := hbk1.no hs4
 replace ho5 := ho5.no hs4
 have hzs11 := hS.size
 have hzl22 := ho1.lt
 have hzl23 := ho2.lt
 have hzk7 := hlo9
 have hzk8 := hglg1
 have hzl24 := ho4.lt
 have hzl25 := hbk1.lt
 have hzl26 := ho5.lt
 obtain ⟨base1, hbase1E⟩ : ∃ x, x = w17.heap.size := ⟨_, rfl⟩
 have hbase1 : base1 ≤ w17.heap.size := Nat.le_of_eq hbase1E
 have hzs12 := hS.size
 have hzl27 := ho1.lt
 have hzl28 := ho2.lt
 have hzk9 := hlo9
 have hzk10 := hglg1
 have hzl29 := ho4.lt
 have hzl30 := hbk1.lt
 have hzl31 := ho5.lt
 have hzk11 := hbase1
 refine VTc_appendZ (d := 38) (e := 98) (A := none) (mm := 0) (c := 0) (A2 := (some ⟨b4, 0, none⟩)) (m2 := 1) (c2 := 1) (sz := 5) (bytes := 40) (by kernel_rfl) (by kernel_rfl) (by kernel_rfl) base1 w17.heap.size (flat rlc ([])) (flat rlc [(rlNew s1 e1 z1 t1, bk1)]) (RwS.nil w17 5 base1 98) (by rw [flat_one, rlc_len]) (Sl.mono (Sl.cast (Own.sl ho5 ho5.lt) (by first | rfl | simp [flat])) (by first | exact Nat.le_refl _ | omega)) (flat_one' rlc_one _) 1 (by omega) (by simp only [maxLen]; omega) (by omega) (by omega) ?_ ?_
 ·intro w1 hs1; exact Step.mono hs1 (fun i hi => by have hi1 := (RwS.lt (RwS.nil w17 5 base1 98) i hi).1; (try simp only); omega)
 intro A1 c1 w18 hr5 hg1
 replace hr5 : RwS w18 5 base1 98 A1 1 c1 (flat rlc ([(rlNew s1 e1 z1 t1, bk1)])) := RwS.cast hr5 rfl (by simp only [flat_append, flat_one, List.append_assoc, List.nil_append, List.append_nil, show flat rlc [] = [] from rfl])
 replace hg1 := Step.mono (G := fun k => base1 ≤ k) hg1 (fun i hi => (RwS.lt (RwS.nil w17 5 base1 98) i hi).1)
 have hzhg1 := hg1.size
 replace hS := Step.transNew hS hg1 (fun i hi hG => by (try simp only at hG); omega)
 replace ho1 := ho1.step hg1 (by (try simp only); omega)
 replace ho2 := ho2.step hg1 (by (try simp only); omega)
 replace hrR := hrR.keepG hg1 (by (try simp only); omega)
 replace hlo9 := Nat.le_trans hlo9 (hg1).size
 replace hglg1 := Nat.lt_of_lt_of_le hglg1 (hg1).size
 replace ho4 := ho4.step hg1 (by (try simp only); omega)
 replace hbk1 := hbk1.step hg1 (by (try simp only); omega)
 replace hbase1 := Nat.le_trans hbase1 (hg1).size
 have hlhr5 : ([(rlNew s1 e1 z1 t1, bk1)]).length = 1 := by have hq9 := RwS.len hr5; rw [flat_len rlc_len] at hq9; omega
 refine VT_end ?_
 intro w19 hs5
 replace hS := Step.trans hS hs5
 replace ho1 := ho1.no hs5
 replace ho2 := ho2.no hs5
 replace hrR := hrR.no hs5
 replace hlo9 := Nat.le_trans hlo9 (hs5).size
 replace hglg1 := Nat.lt_of_lt_of_le hglg1 (hs5).size
 replace ho4 := ho4.no hs5
 replace hbk1 := hbk1.no hs5
 replace hbase1 := Nat.le_trans hbase1 (hs5).size
 replace hr5 := hr5.no hs5
 refine VL_keep [5, 18, 19, 20, 24, 38] [(5, .pointer (some ⟨b2, 0, none⟩)), (18, .slice (some ⟨g1, 0, none⟩) 1 ccR), (19, .int .i64 1), (20, .int .i64 0), (24, .pointer (some ⟨b2, 0, none⟩)), (38, .slice A1 1 c1)] (by kernel_rfl) ?_
 refine VL_pure 17 [5, 18, 19, 20, 38, 40] [(5, .pointer (some ⟨b2, 0, none⟩)), (18, .slice (some ⟨g1, 0, none⟩) 1 ccR), (19, .int .i64 1), (20, .int .i64 0), (38, .slice A1 1 c1), (40, .pointer (some ⟨b2, 1, none⟩))] (by kernel_rfl) rfl ?_
 refine VL_store (b := b2) (o := 1) (vs := [.slice A1 1 c1]) (by kernel_rfl) (by kernel_rfl) ho2 (Nat.le_of_ble_eq_true (by kernel_rfl)) ?_
 intro w20 hw2
 replace hS := Step.transNew hS hw2.step (fun _ _ _ => by omega)
 replace ho1 := ho1.step hw2.step (show ¬ b1 = b2 by omega)
 replace hrR := hrR.keepG hw2.step (show ¬ g1 = b2 by omega)
 replace hlo9 := Nat.le_trans hlo9 (hw2.step).size
 replace hglg1 := Nat.lt_of_lt_of_le hglg1 (hw2.step).size
 replace ho4 := ho4.step hw2.step (show ¬ b3 = b2 by omega)
 replace hbk1 := hbk1.step hw2.step (show ¬ bk1 = b2 by omega)
 replace hbase1 := Nat.le_trans hbase1 (hw2.step).size
 replace hr5 := hr5.step hw2.step (fun k hk (hF : k = b2) => by omega)
 have ho6 : Own w20 b2 #[.bool (alwaysC c), .slice A1 1 c1, .int .i64 0, .int .i64 0, .int .i64 0, .int .i64 0] 103 := Own.cast hw2.own (by kernel_rfl)
 have hzhw2 := hw2.same
 refine VL_end (by kernel_rfl) ?_
 refine VQ_block_normal ?_
 refine VQ_next ?_
 refine VC_region ?_
 refine VL_pure 2 [5, 18, 19, 20] [(5, .pointer (some ⟨b2, 0, none⟩)), (18, .slice (some ⟨g1, 0, none⟩) 1 ccR), (19, .int .i64 1), (20, .int .i64 1)] (by kernel_rfl) rfl ?_
 refine VL_end (by kernel_rfl) ?_
 refine VQ_round ?_
 refine VCL_round ?_
 refine VC_seq ?_
 refine VC_region ?_
 refine VL_pure 1 [5, 18, 19, 20, 21] [(5, .pointer (some ⟨b2, 0, none⟩)), (18, .slice (some ⟨g1, 0, none⟩) 1 ccR), (19, .int .i64 1), (20, .int .i64 1), (21, .bool false)] (by kernel_rfl) rfl ?_
 refine VL_end (by kernel_rfl) ?_
 refine VQ_next ?_
 refine VC_seq ?_
 refine VC_false (by kernel_rfl) ?_
 refine VC_exit ?_
 refine VQ_then_exit ?_
 refine VQ_then_exit ?_
 refine VQ_block_hit ?_
 refine VQ_next ?_
 refine VC_seq ?_
 refine VC_region ?_
 refine VL_pure 3 [2, 3] [(2, .pointer (some ⟨b2, 0, none⟩)), (3, .int .i64 0)] (by kernel_rfl) rfl ?_
 refine VL_end (by kernel_rfl) ?_
 refine VQ_next ?_
 refine VC_ret ?_
 refine VQ_ret2 (.pointer (some ⟨b2, 0, none⟩)) (.int .i64 0) (.inr rfl) rfl rfl rfl ?_
 obtain ⟨Y, hY, hPl⟩ := pl_mk (w := w) (p := b2) (base := base1) (l := [((rlNew s1 e1 z1 t1), bk1)]) hR (RlsI.rules c) (Nat.le_of_ble_eq_true (by kernel_rfl)) ho6 (RwS.cast hr5 rfl (by rfl)) (by intro q9 hq9; simp only [List.mem_cons, List.not_mem_nil, or_false] at hq9; subst hq9; exact hbk1) (by simp only [List.map_cons, List.map_nil, List.nodup_cons, List.mem_cons, List.not_mem_nil, or_false, not_false_eq_true, List.nodup_nil, and_true]) (by omega) (by omega) (by intro q9 hq9; simp only [List.mem_cons, List.not_mem_nil, or_false] at hq9; subst hq9; simp only; omega)
 exact ⟨b2, Y, rfl, hY, hPl, hS⟩

theorem rules_l2 {c : Con} (hr : rightC c = 0) (s1 e1 : Int) (z1 t1 : Bool) (s2 e2 : Int) (z2 t2 : Bool) (hR : rulesC c = [(rlNew s1 e1 z1 t1), (rlNew s2 e2 z2 t2)]) (w : World) : CV Try.prog 58 #[.agg #[.int .i64 c.kind, .int .i64 c.peak, .int .i64 c.early, .int .i64 c.whole, .int .i64 c.burst, .int .i64 c.least]] w fun x w1 => ∃ A cc, x = .slice A 2 cc ∧ RwS w1 4 w.heap.size 94 A 2 cc (flat r4 [(rlNew s1 e1 z1 t1), (rlNew s2 e2 z2 t2)]) ∧ Step No w w1 := by
  refine (rules_any c hr w).mono ?_
  rintro x w1 ⟨A, n, cc, rfl, hn, hrw, hs⟩
  rw [hR] at hn hrw
  subst hn
  exact ⟨A, cc, rfl, hrw, hs⟩
set_option maxRecDepth 100000 in
set_option maxHeartbeats 4000000 in
theorem pnew_2 (c : Con) (hr : rightC c = 0) (s1 e1 : Int) (z1 t1 : Bool) (s2 e2 : Int) (z2 t2 : Bool) (hR : rulesC c = [(rlNew s1 e1 z1 t1), (rlNew s2 e2 z2 t2)]) (w : World) :
  CV Try.prog 48 #[.agg #[.int .i64 c.kind, .int .i64 c.peak, .int .i64 c.early, .int .i64 c.whole, .int .i64 c.burst, .int .i64 c.least]] w (fun x w1 => ∃ pp Y, x = .tuple #[.pointer (some ⟨pp, 0, none⟩), .int .i64 0] ∧ (∀ k, Y k → w.heap.size ≤ k) ∧ Pl w1 pp Y (alwaysC c) (rulesC c) ∧ Step No w w1) := by
 have hS : Step No w w := Step.refl _ _
 refine CV_enter Try.f48 _ 43 [(0, .agg #[.int .i64 c.kind, .int .i64 c.peak, .int .i64 c.early, .int .i64 c.whole, .int .i64 c.burst, .int .i64 c.least])] Try.func48 rfl rfl (by kernel_rfl) rfl ?_
 refine VC_seq ?_
 refine VC_region ?_
 have hzs1 := hS.size
 refine VL_box (d := 1) (t := 30) (c := #[.int .i64 c.kind, .int .i64 c.peak, .int .i64 c.early, .int .i64 c.whole, .int .i64 c.burst, .int .i64 c.least]) (by kernel_rfl) (by kernel_rfl) ?_
 intro b1 w1 hn1
 replace hS := Step.trans hS (hn1.step No)
 have ho1 := hn1.own
 have hzhn1 := hn1.size
 have hqhn1 := hn1.eqb
 refine VL_pure 3 [1] [(1, .pointer (some ⟨b1, 0, none⟩))] (by kernel_rfl) rfl ?_
 refine VL_end (by kernel_rfl) ?_
 refine VQ_next ?_
 refine VC_seq ?_
 refine VC_seq ?_
 refine VC_region ?_
 refine VL_load (d := 8) (t := 30) (a := ⟨b1, 0, none⟩) (v := .agg #[.int .i64 c.kind, .int .i64 c.peak, .int .i64 c.early, .int .i64 c.whole, .int .i64 c.burst, .int .i64 c.least]) (by kernel_rfl) (by kernel_rfl) (Loads.ownL ho1 (n := 6) (by kernel_rfl) (by kernel_rfl) (by kernel_rfl)) ?_
 have hzs2 := hS.size
 have hzl1 := ho1.lt
 refine VL_call (d := 9) (f := 13) (args := #[.agg #[.int .i64 c.kind, .int .i64 c.peak, .int .i64 c.early, .int .i64 c.whole, .int .i64 c.burst, .int .i64 c.least]]) (by kernel_rfl) (by kernel_rfl) (by kernel_rfl) Try.call13 ((cright_any c _).mono (fun x w1 h9 => ⟨h9.1.trans (by rw [hr]), h9.2⟩ : ∀ x w1, _ → x = .int .i64 0 ∧ Step No _ w1)) ?_
 rintro _ w2 ⟨rfl, hc1⟩
 replace hS := Step.trans hS hc1
 replace ho1 := ho1.no hc1
 refine VL_pure 3 [1, 4] [(1, .pointer (some ⟨b1, 0, none⟩)), (4, .int .i64 0)] (by kernel_rfl) rfl ?_
 refine VL_end (by kernel_rfl) ?_
 refine VQ_next ?_
 refine VC_seq ?_
 refine VC_region ?_
 refine VL_pure 2 [1, 4, 11] [(1, .pointer (some ⟨b1, 0, none⟩)), (4, .int .i64 0), (11, .bool false)] (by kernel_rfl) rfl ?_
 refine VL_end (by kernel_rfl) ?_
 refine VQ_next ?_
 refine VC_false (by kernel_rfl) ?_
 refine VC_skip ?_
 refine VQ_next ?_
 refine VC_seq ?_
 refine VC_region ?_
 refine VL_load (d := 13) (t := 30) (a := ⟨b1, 0, none⟩) (v := .agg #[.int .i64 c.kind, .int .i64 c.peak, .int .i64 c.early, .int .i64 c.whole, .int .i64 c.burst, .int .i64 c.least]) (by kernel_rfl) (by kernel_rfl) (Loads.ownL ho1 (n := 6) (by kernel_rfl) (by kernel_rfl) (by kernel_rfl)) ?_
 have hzs3 := hS.size
 have hzl2 := ho1.lt
 refine VL_call (d := 14) (f := 57) (args := #[.agg #[.int .i64 c.kind, .int .i64 c.peak, .int .i64 c.early, .int .i64 c.whole, .int .i64 c.burst, .int .i64 c.least]]) (by kernel_rfl) (by kernel_rfl) (by kernel_rfl) Try.call57 (always_any c _) ?_
 rintro _ w3 ⟨rfl, hc2⟩
 replace hS := Step.trans hS hc2
 replace ho1 := ho1.no hc2
 refine VL_pure 3 [1, 15] [(1, .pointer (some ⟨b1, 0, none⟩)), (15, .agg #[.bool (alwaysC c), .slice none 0 0, .int .i64 0, .int .i64 0, .int .i64 0, .int .i64 0])] (by kernel_rfl) rfl ?_
 have hzs4 := hS.size
 have hzl3 := ho1.lt
 refine VL_box (d := 16) (t := 103) (c := #[.bool (alwaysC c), .slice none 0 0, .int .i64 0, .int .i64 0, .int .i64 0, .int .i64 0]) (by kernel_rfl) (by kernel_rfl) ?_
 intro b2 w4 hn2
 replace hS := Step.trans hS (hn2.step No)
 replace ho1 := ho1.no (hn2.step No)
 have ho2 := hn2.own
 have hzhn2 := hn2.size
 have hqhn2 := hn2.eqb
 refine VL_pure 5 [1, 5] [(1, .pointer (some ⟨b1, 0, none⟩)), (5, .pointer (some ⟨b2, 0, none⟩))] (by kernel_rfl) rfl ?_
 refine VL_end (by kernel_rfl) ?_
 refine VQ_next ?_
 refine VC_seq ?_
 refine VC_seq ?_
 refine VC_region ?_
 refine VL_load (d := 17) (t := 30) (a := ⟨b1, 0, none⟩) (v := .agg #[.int .i64 c.kind, .int .i64 c.peak, .int .i64 c.early, .int .i64 c.whole, .int .i64 c.burst, .int .i64 c.least]) (by kernel_rfl) (by kernel_rfl) (Loads.ownL ho1 (n := 6) (by kernel_rfl) (by kernel_rfl) (by kernel_rfl)) ?_
 have hzs5 := hS.size
 have hzl4 := ho1.lt
 have hzl5 := ho2.lt
 refine VL_call (d := 18) (f := 58) (args := #[.agg #[.int .i64 c.kind, .int .i64 c.peak, .int .i64 c.early, .int .i64 c.whole, .int .i64 c.burst, .int .i64 c.least]]) (by kernel_rfl) (by kernel_rfl) (by kernel_rfl) Try.call58 (rules_l2 hr s1 e1 z1 t1 s2 e2 z2 t2 hR _) ?_
 rintro _ w5 ⟨AR, ccR, rfl, hrR, hc3⟩
 replace hS := Step.trans hS hc3
 replace ho1 := ho1.no hc3
 replace ho2 := ho2.no hc3
 obtain ⟨lo9, hlo9E⟩ : ∃ x, x = w4.heap.size := ⟨_, rfl⟩
 rw [← hlo9E] at hrR
 have hlo9 : lo9 ≤ w5.heap.size := by have h9 := (hc3).size; omega
 refine VL_pure 4 [5, 18, 19, 20] [(5, .pointer (some ⟨b2, 0, none⟩)), (18, .slice AR 2 ccR), (19, .int .i64 2), (20, .int .i64 0)] (by kernel_rfl) rfl ?_
 refine VL_end (by kernel_rfl) ?_
 refine VQ_next ?_
 refine VC_block ?_
 refine VC_rounds ?_
 refine VCL_round ?_
 refine VC_seq ?_
 refine VC_region ?_
 refine VL_pure 1 [5, 18, 19, 20, 21] [(5, .pointer (some ⟨b2, 0, none⟩)), (18, .slice AR 2 ccR), (19, .int .i64 2), (20, .int .i64 0), (21, .bool true)] (by kernel_rfl) rfl ?_
 refine VL_end (by kernel_rfl) ?_
 refine VQ_next ?_
 refine VC_seq ?_
 refine VC_true (by kernel_rfl) ?_
 refine VC_skip ?_
 refine VQ_next ?_
 refine VC_seq ?_
 refine VC_block ?_
 refine VC_seq ?_
 refine VC_region ?_
 obtain ⟨g1, cur1, rfl, hgbg1, hglg1, -⟩ := RwS.open hrR (Nat.le_of_ble_eq_true (by kernel_rfl))
 refine VL_index (d := 22) (b := g1) (o := 0) (len := 2) (sz := 4) (m := 0) (by kernel_rfl) (by kernel_rfl) 0 (by rfl) (by omega) 0 (by omega) ?_
 refine VL_load (d := 23) (t := 94) (a := ⟨g1, 0, none⟩) (v := .agg #[.int .i64 s1, .int .i64 e1, .bool z1, .bool t1]) (by kernel_rfl) (by kernel_rfl) (Sl.flatAgg (sz := 4) (RwS.sl2 hrR).sl r4_len (show ([(rlNew s1 e1 z1 t1), (rlNew s2 e2 z2 t2)] : List Rl)[0]? = some (rlNew s1 e1 z1 t1) from rfl) 0 4 (by kernel_rfl) (by decide) _ (by rfl)) ?_
 have hzs6 := hS.size
 have hzl6 := ho1.lt
 have hzl7 := ho2.lt
 have hzk1 := hlo9
 have hzk2 := hglg1
 refine VL_box (d := 7) (t := 94) (c := #[.int .i64 0, .int .i64 0, .bool false, .bool false]) (by kernel_rfl) (by kernel_rfl) ?_
 intro b3 w6 hn3
 replace hS := Step.trans hS (hn3.step No)
 replace ho1 := ho1.no (hn3.step No)
 replace ho2 := ho2.no (hn3.step No)
 replace hrR := hrR.no (hn3.step No)
 replace hlo9 := Nat.le_trans hlo9 (hn3.step No).size
 replace hglg1 := Nat.lt_of_lt_of_le hglg1 (hn3.step No).size
 have ho3 := hn3.own
 have hzhn3 := hn3.size
 have hqhn3 := hn3.eqb
 refine VL_store (b := b3) (o := 0) (vs := [.int .i64 s1, .int .i64 e1, .bool z1, .bool t1]) (by kernel_rfl) (by kernel_rfl) ho3 (Nat.le_of_ble_eq_true (by kernel_rfl)) ?_
 intro w7 hw1
 replace hS := Step.transNew hS hw1.step (fun _ _ _ => by omega)
 replace ho1 := ho1.step hw1.step (show ¬ b1 = b3 by omega)
 replace ho2 := ho2.step hw1.step (show ¬ b2 = b3 by omega)
 replace hrR := hrR.keepG hw1.step (show ¬ g1 = b3 by omega)
 replace hlo9 := Nat.le_trans hlo9 (hw1.step).size
 replace hglg1 := Nat.lt_of_lt_of_le hglg1 (hw1.step).size
 have ho4 : Own w7 b3 #[.int .i64 s1, .int .i64 e1, .bool z1, .bool t1] 94 := Own.cast hw1.own (by kernel_rfl)
 have hzhw1 := hw1.same
 refine VL_end (by kernel_rfl) ?_
 refine VQ_next ?_
 have hs1 := drew_step w7
 have hs1z : w7.heap.size = w7.drew.heap.size := rfl
 refine VC_text [[], [], [1], [1, 2], [1, 2, 3], [], [], [6], [], [8], [6, 7, 8, 9], [6, 7, 8, 9, 10], [5, 6, 7, 8, 9, 10, 11], [5, 6, 7, 8, 9, 10, 11, 12], [1, 2, 3, 4, 5, 6, 7, 8, 9, 10, 11, 12, 13], [0, 1, 2, 3, 4, 5, 6, 7, 8, 9, 10, 11, 12, 13, 14], [0, 1, 2, 3, 4, 5, 6, 7, 8, 9, 10, 11, 12, 13, 14, 15], [0, 1, 2, 3, 4, 5, 6, 7, 8, 9, 10, 11, 12, 13, 14, 15, 16]] 15 (fun x y => Step (fun k => w7.heap.size ≤ k) x y) [10, 13, 14] [0, 1, 2, 3, 4, 5, 6, 7, 8, 9, 10, 11, 12, 13, 14] (by kernel_rfl) (by kernel_rfl) (by kernel_rfl) (by kernel_rfl) (fun x => Step.refl _ x) (fun h k => Step.trans h k) Step.weak ?_
 have hzs7 := hS.size
 have hzl8 := ho1.lt
 have hzl9 := ho2.lt
 have hzl10 := ho4.lt
 have hzo1 := hlo9
 have hzo2 := hglg1
 generalize w7.drew = w8 at hs1 hs1z ⊢
 replace hS := Step.trans hS hs1
 replace ho1 := ho1.no hs1
 replace ho2 := ho2.no hs1
 replace hrR := hrR.no hs1
 replace hlo9 := Nat.le_trans hlo9 (hs1).size
 replace hglg1 := Nat.lt_of_lt_of_le hglg1 (hs1).size
 replace ho4 := ho4.no hs1
 refine VT_pures 4 (kn' := [(3, .pointer (some ⟨b2, 1, none⟩)), (2, .pointer (some ⟨b2, 0, none⟩)), (1, .pointer (some ⟨b2, 0, none⟩)), (0, .pointer (some ⟨b2, 0, none⟩))]) (by kernel_rfl) ?_
 refine VT_load (d := 28) (t := 100) (a := ⟨b2, 1, none⟩) (v := .slice none 0 0) (by kernel_rfl) (by kernel_rfl) ?_ ?_
 ·intro w9 hr1
  replace hS := Step.transNew hS hr1 (fun i hi hG => by (try simp only at hG); omega)
  replace ho1 := ho1.step hr1 (by (try simp only); omega)
  replace ho2 := ho2.step hr1 (by (try simp only); omega)
  replace hrR := hrR.keepG hr1 (by (try simp only); omega)
  replace hlo9 := Nat.le_trans hlo9 (hr1).size
  replace hglg1 := Nat.lt_of_lt_of_le hglg1 (hr1).size
  replace ho4 := ho4.step hr1 (by (try simp only); omega)
  exact (Loads.own1 ho2 (by kernel_rfl) (by rfl))
 refine VT_load (d := 29) (t := 94) (a := ⟨b3, 0, none⟩) (v := .agg #[.int .i64 s1, .int .i64 e1, .bool z1, .bool t1]) (by kernel_rfl) (by kernel_rfl) ?_ ?_
 ·intro w10 hr2
  replace hS := Step.transNew hS hr2 (fun i hi hG => by (try simp only at hG); omega)
  replace ho1 := ho1.step hr2 (by (try simp only); omega)
  replace ho2 := ho2.step hr2 (by (try simp only); omega)
  replace hrR := hrR.keepG hr2 (by (try simp only); omega)
  replace hlo9 := Nat.le_trans hlo9 (hr2).size
  replace hglg1 := Nat.lt_of_lt_of_le hglg1 (hr2).size
  replace ho4 := ho4.step hr2 (by (try simp only); omega)
  exact (Loads.ownL ho4 (n := 4) (by kernel_rfl) (by kernel_rfl) (by kernel_rfl))
 refine VT_pures 1 (kn' := [(6, .pointer (some ⟨b3, 0, none⟩)), (5, .agg #[.int .i64 s1, .int .i64 e1, .bool z1, .bool t1]), (4, .slice none 0 0), (3, .pointer (some ⟨b2, 1, none⟩)), (2, .pointer (some ⟨b2, 0, none⟩)), (1, .pointer (some ⟨b2, 0, none⟩)), (0, .pointer (some ⟨b2, 0, none⟩))]) (by kernel_rfl) ?_
 refine VT_load (d := 31) (t := 3) (a := ⟨b3, 0, none⟩) (v := .int .i64 s1) (by kernel_rfl) (by kernel_rfl) ?_ ?_
 ·intro w11 hr3
  replace hS := Step.transNew hS hr3 (fun i hi hG => by (try simp only at hG); omega)
  replace ho1 := ho1.step hr3 (by (try simp only); omega)
  replace ho2 := ho2.step hr3 (by (try simp only); omega)
  replace hrR := hrR.keepG hr3 (by (try simp only); omega)
  replace hlo9 := Nat.le_trans hlo9 (hr3).size
  replace hglg1 := Nat.lt_of_lt_of_le hglg1 (hr3).size
  replace ho4 := ho4.step hr3 (by (try simp only); omega)
  exact (Loads.own1 ho4 (by kernel_rfl) (by rfl))
 refine VT_pures 1 (kn' := [(8, .pointer (some ⟨b3, 1, none⟩)), (7, .int .i64 s1), (6, .pointer (some ⟨b3, 0, none⟩)), (5, .agg #[.int .i64 s1, .int .i64 e1, .bool z1, .bool t1]), (4, .slice none 0 0), (3, .pointer (some ⟨b2, 1, none⟩)), (2, .pointer (some ⟨b2, 0, none⟩)), (1, .pointer (some ⟨b2, 0, none⟩)), (0, .pointer (some ⟨b2, 0, none⟩))]) (by kernel_rfl) ?_
 refine VT_load (d := 33) (t := 3) (a := ⟨b3, 1, none⟩) (v := .int .i64 e1) (by kernel_rfl) (by kernel_rfl) ?_ ?_
 ·intro w12 hr4
  replace hS := Step.transNew hS hr4 (fun i hi hG => by (try simp only at hG); omega)
  replace ho1 := ho1.step hr4 (by (try simp only); omega)
  replace ho2 := ho2.step hr4 (by (try simp only); omega)
  replace hrR := hrR.keepG hr4 (by (try simp only); omega)
  replace hlo9 := Nat.le_trans hlo9 (hr4).size
  replace hglg1 := Nat.lt_of_lt_of_le hglg1 (hr4).size
  replace ho4 := ho4.step hr4 (by (try simp only); omega)
  exact (Loads.own1 ho4 (by kernel_rfl) (by rfl))
 refine VT_chain (by kernel_rfl) ?_
 intro w13 hs2
 have hzhs2 := hs2.size
 replace hS := Step.trans hS hs2
 replace ho1 := ho1.no hs2
 replace ho2 := ho2.no hs2
 replace hrR := hrR.no hs2
 replace hlo9 := Nat.le_trans hlo9 (hs2).size
 replace hglg1 := Nat.lt_of_lt_of_le hglg1 (hs2).size
 replace ho4 := ho4.no hs2
 have hzs8 := hS.size
 have hzl11 := ho1.lt
 have hzl12 := ho2.lt
 have hzl13 := ho4.lt
 refine VTc_call (d := 34) (f := 59) (args := #[.int .i64 s1, .int .i64 e1]) (by kernel_rfl) (by kernel_rfl) (by kernel_rfl) Try.call59 (bnew_any s1 e1 _) ?_ ?_
 ·rintro _ w14 ⟨bk1, rfl, bk1E, bk1Z, hbk1, hc4⟩
  exact Step.mono hc4 (by intro i hi; first | exact hi.elim | exact .inl hi | ((try simp only at hi ⊢); omega))
 rintro _ w14 ⟨bk1, rfl, bk1E, bk1Z, hbk1, hc4⟩
 have hzhc4 := (hc4).size
 replace hS := Step.trans hS hc4
 replace ho1 := ho1.no hc4
 replace ho2 := ho2.no hc4
 replace hrR := hrR.no hc4
 replace hlo9 := Nat.le_trans hlo9 (hc4).size
 replace hglg1 := Nat.lt_of_lt_of_le hglg1 (hc4).size
 replace ho4 := ho4.no hc4
 refine VT_pures 2 (kn' := [(12, .agg #[.int .i64 s1, .int .i64 e1, .bool z1, .bool t1, .iface 111 (.pointer (some ⟨bk1, 0, none⟩))]), (11, .iface 111 (.pointer (some ⟨bk1, 0, none⟩))), (10, .pointer (some ⟨bk1, 0, none⟩)), (9, .int .i64 e1), (8, .pointer (some ⟨b3, 1, none⟩)), (7, .int .i64 s1), (6, .pointer (some ⟨b3, 0, none⟩)), (5, .agg #[.int .i64 s1, .int .i64 e1, .bool z1, .bool t1]), (4, .slice none 0 0), (3, .pointer (some ⟨b2, 1, none⟩)), (2, .pointer (some ⟨b2, 0, none⟩)), (1, .pointer (some ⟨b2, 0, none⟩)), (0, .pointer (some ⟨b2, 0, none⟩))]) (by kernel_rfl) ?_
 refine VT_chain (by kernel_rfl) ?_
 intro w15 hs3
 have hzhs3 := hs3.size
 replace hS := Step.trans hS hs3
 replace ho1 := ho1.no hs3
 replace ho2 := ho2.no hs3
 replace hrR := hrR.no hs3
 replace hlo9 := Nat.le_trans hlo9 (hs3).size
 replace hglg1 := Nat.lt_of_lt_of_le hglg1 (hs3).size
 replace ho4 := ho4.no hs3
 replace hbk1 := hbk1.no hs3
 have hzs9 := hS.size
 have hzl14 := ho1.lt
 have hzl15 := ho2.lt
 have hzk3 := hlo9
 have hzk4 := hglg1
 have hzl16 := ho4.lt
 have hzl17 := hbk1.lt
 have hzs10 := hS.size
 have hzl18 := ho1.lt
 have hzl19 := ho2.lt
 have hzk5 := hlo9
 have hzk6 := hglg1
 have hzl20 := ho4.lt
 have hzl21 := hbk1.lt
 refine VTc_bs (d := 37) (e := 98) (c := #[.int .i64 s1, .int .i64 e1, .bool z1, .bool t1, .iface 111 (.pointer (some ⟨bk1, 0, none⟩))]) (len := 1) (by kernel_rfl) (by kernel_rfl) (fun b w1 hn => hn.step _) ?_
 intro b4 w16 hn4
 replace hS := Step.trans hS (hn4.step No)
 replace ho1 := ho1.no (hn4.step No)
 replace ho2 := ho2.no (hn4.step No)
 replace hrR := hrR.no (hn4.step No)
 replace hlo9 := Nat.le_trans hlo9 (hn4.step No).size
 replace hglg1 := Nat.lt_of_lt_of_le hglg1 (hn4.step No).size
 replace ho4 := ho4.no (hn4.step No)
 replace hbk1 := hbk1.no (hn4.step No)
 have ho5 := hn4.own
 have hzhn4 := hn4.size
 have hqhn4 := hn4.eqb
 refine VT_chain (by kernel_rfl) ?_
 intro w17 hs4
 have hzhs4 := hs4.size
 replace hS := Step.trans hS hs4
 replace ho1 := ho1.no hs4
 replace ho2 := ho2.no hs4
 replace hrR := hrR.no hs4
 replace hlo9 := Nat.le_trans hlo9 (hs4).size
 replace hglg1 := Nat.lt_of_lt_of_le hglg1 (hs4).size
 replace ho4 := ho4.no hs4
 replace hbk1 := hbk1.no hs4
 replace ho5 := ho5.no hs4
 have hzs11 := hS.size
 have hzl22 := ho1.lt
 have hzl23 := ho2.lt
 have hzk7 := hlo9
 have hzk8 := hglg1
 have hzl24 := ho4.lt
 have hzl25 := hbk1.lt
 have hzl26 := ho5.lt
 obtain ⟨base1, hbase1E⟩ : ∃ x, x = w17.heap.size := ⟨_, rfl⟩
 have hbase1 : base1 ≤ w17.heap.size := Nat.le_of_eq hbase1E
 have hzs12 := hS.size
 have hzl27 := ho1.lt
 have hzl28 := ho2.lt
 have hzk9 := hlo9
 have hzk10 := hglg1
 have hzl29 := ho4.lt
 have hzl30 := hbk1.lt
 have hzl31 := ho5.lt
 have hzk11 := hbase1
 refine VTc_appendZ (d := 38) (e := 98) (A := none) (mm := 0) (c := 0) (A2 := (some ⟨b4, 0, none⟩)) (m2 := 1) (c2 := 1) (sz := 5) (bytes := 40) (by kernel_rfl) (by kernel_rfl) (by kernel_rfl) base1 w17.heap.size (flat rlc ([])) (flat rlc [(rlNew s1 e1 z1 t1, bk1)]) (RwS.nil w17 5 base1 98) (by rw [flat_one, rlc_len]) (Sl.mono (Sl.cast (Own.sl ho5 ho5.lt) (by first | rfl | simp [flat])) (by first | exact Nat.le_refl _ | omega)) (flat_one' rlc_one _) 1 (by omega) (by simp only [maxLen]; omega) (by omega) (by omega) ?_ ?_
 ·intro w1 hs1; exact Step.mono hs1 (fun i hi => by have hi1 := (RwS.lt (RwS.nil w17 5 base1 98) i hi).1; (try simp only); omega)
 intro A1 c1 w18 hr5 hg1
 replace hr5 : RwS w18 5 base1 98 A1 1 c1 (flat rlc ([(rlNew s1 e1 z1 t1, bk1)])) := RwS.cast hr5 rfl (by simp only [flat_append, flat_one, List.append_assoc, List.nil_append, List.append_nil, show flat rlc [] = [] from rfl])
 replace hg1 := Step.mono (G := fun k => base1 ≤ k) hg1 (fun i hi => (RwS.lt (RwS.nil w17 5 base1 98) i hi).1)
 have hzhg1 := hg1.size
 replace hS := Step.transNew hS hg1 (fun i hi hG => by (try simp only at hG); omega)
 replace ho1 := ho1.step hg1 (by (try simp only); omega)
 replace ho2 := ho2.step hg1 (by (try simp only); omega)
 replace hrR := hrR.keepG hg1 (by (try simp only); omega)
 replace hlo9 := Nat.le_trans hlo9 (hg1).size
 replace hglg1 := Nat.lt_of_lt_of_le hglg1 (hg1).size
 replace ho4 := ho4.step hg1 (by (try simp only); omega)
 replace hbk1 := hbk1.step hg1 (by (try simp only); omega)
 replace hbase1 := Nat.le_trans hbase1 (hg1).size
 have hlhr5 : ([(rlNew s1 e1 z1 t1, bk1)]).length = 1 := by have hq9 := RwS.len hr5; rw [flat_len rlc_len] at hq9; omega
 refine VT_end ?_
 intro w19 hs5
 replace hS := Step.trans hS hs5
 replace ho1 := ho1.no hs5
 replace ho2 := ho2.no hs5
 replace hrR := hrR.no hs5
 replace hlo9 := Nat.le_trans hlo9 (hs5).size
 replace hglg1 := Nat.lt_of_lt_of_le hglg1 (hs5).size
 replace ho4 := ho4.no hs5
 replace hbk1 := hbk1.no hs5
 replace hbase1 := Nat.le_trans hbase1 (hs5).size
 replace hr5 := hr5.no hs5
 refine VL_keep [5, 18, 19, 20, 24, 38] [(5, .pointer (some ⟨b2, 0, none⟩)), (18, .slice (some ⟨g1, 0, none⟩) 2 ccR), (19, .int .i64 2), (20, .int .i64 0), (24, .pointer (some ⟨b2, 0, none⟩)), (38, .slice A1 1 c1)] (by kernel_rfl) ?_
 refine VL_pure 17 [5, 18, 19, 20, 38, 40] [(5, .pointer (some ⟨b2, 0, none⟩)), (18, .slice (some ⟨g1, 0, none⟩) 2 ccR), (19, .int .i64 2), (20, .int .i64 0), (38, .slice A1 1 c1), (40, .pointer (some ⟨b2, 1, none⟩))] (by kernel_rfl) rfl ?_
 refine VL_store (b := b2) (o := 1) (vs := [.slice A1 1 c1]) (by kernel_rfl) (by kernel_rfl) ho2 (Nat.le_of_ble_eq_true (by kernel_rfl)) ?_
 intro w20 hw2
 replace hS := Step.transNew hS hw2.step (fun _ _ _ => by omega)
 replace ho1 := ho1.step hw2.step (show ¬ b1 = b2 by omega)
 replace hrR := hrR.keepG hw2.step (show ¬ g1 = b2 by omega)
 replace hlo9 := Nat.le_trans hlo9 (hw2.step).size
 replace hglg1 := Nat.lt_of_lt_of_le hglg1 (hw2.step).size
 replace ho4 := ho4.step hw2.step (show ¬ b3 = b2 by omega)
 replace hbk1 := hbk1.step hw2.step (show ¬ bk1 = b2 by omega)
 replace hbase1 := Nat.le_trans hbase1 (hw2.step).size
 replace hr5 := hr5.step hw2.step (fun k hk (hF : k = b2) => by omega)
 have ho6 : Own w20 b2 #[.bool (alwaysC c), .slice A1 1 c1, .int .i64 0, .int .i64 0, .int .i64 0, .int .i64 0] 103 := Own.cast hw2.own (by kernel_rfl)
 have hzhw2 := hw2.same
 refine VL_end (by kernel_rfl) ?_
 refine VQ_block_normal ?_
 refine VQ_next ?_
 refine VC_region ?_
 refine VL_pure 2 [5, 18, 19, 20] [(5, .pointer (some ⟨b2, 0, none⟩)), (18, .slice (some ⟨g1, 0, none⟩) 2 ccR), (19, .int .i64 2), (20, .int .i64 1)] (by kernel_rfl) rfl ?_
 refine VL_end (by kernel_rfl) ?_
 refine VQ_round ?_
 refine VCL_round ?_
 refine VC_seq ?_
 refine VC_region ?_
 refine VL_pure 1 [5, 18, 19, 20, 21] [(5, .pointer (some ⟨b2, 0, none⟩)), (18, .slice (some ⟨g1, 0, none⟩) 2 ccR), (19, .int .i64 2), (20, .int .i64 1), (21, .bool true)] (by kernel_rfl) rfl ?_
 refine VL_end (by kernel_rfl) ?_
 refine VQ_next ?_
 refine VC_seq ?_
 refine VC_true (by kernel_rfl) ?_
 refine VC_skip ?_
 refine VQ_next ?_
 refine VC_seq ?_
 refine VC_block ?_
 refine VC_seq ?_
 obtain ⟨g2, cur2, rfl, hgbg2, hglg2, -⟩ := RwS.open hr5 (by omega)
 refine VC_region ?_
 refine VL_index (d := 22) (b := g1) (o := 0) (len := 2) (sz := 4) (m := 1) (by kernel_rfl) (by kernel_rfl) 1 (by rfl) (by omega) 4 (by omega) ?_
 refine VL_load (d := 23) (t := 94) (a := ⟨g1, 4, none⟩) (v := .agg #[.int .i64 s2, .int .i64 e2, .bool z2, .bool t2]) (by kernel_rfl) (by kernel_rfl) (Sl.flatAgg (sz := 4) (RwS.sl2 hrR).sl r4_len (show ([(rlNew s1 e1 z1 t1), (rlNew s2 e2 z2 t2)] : List Rl)[1]? = some (rlNew s2 e2 z2 t2) from rfl) 0 4 (by kernel_rfl) (by decide) _ (by rfl)) ?_
 have hzs13 := hS.size
 have hzl32 := ho1.lt
 have hzk12 := hlo9
 have hzk13 := hglg1
 have hzl33 := ho4.lt
 have hzl34 := hbk1.lt
 have hzk14 := hbase1
 have hzl35 := ho6.lt
 have hzk15 := hglg2
 refine VL_box (d := 7) (t := 94) (c := #[.int .i64 0, .int .i64 0, .bool false, .bool false]) (by kernel_rfl) (by kernel_rfl) ?_
 intro b5 w21 hn5
 replace hS := Step.trans hS (hn5.step No)
 replace ho1 := ho1.no (hn5.step No)
 replace hrR := hrR.no (hn5.step No)
 replace hlo9 := Nat.le_trans hlo9 (hn5.step No).size
 replace hglg1 := Nat.lt_of_lt_of_le hglg1 (hn5.step No).size
 replace ho4 := ho4.no (hn5.step No)
 replace hbk1 := hbk1.no (hn5.step No)
 replace hbase1 := Nat.le_trans hbase1 (hn5.step No).size
 replace hr5 := hr5.no (hn5.step No)
 replace ho6 := ho6.no (hn5.step No)
 replace hglg2 := Nat.lt_of_lt_of_le hglg2 (hn5.step No).size
 have ho7 := hn5.own
 have hzhn5 := hn5.size
 have hqhn5 := hn5.eqb
 refine VL_store (b := b5) (o := 0) (vs := [.int .i64 s2, .int .i64 e2, .bool z2, .bool t2]) (by kernel_rfl) (by kernel_rfl) ho7 (Nat.le_of_ble_eq_true (by kernel_rfl)) ?_
 intro w22 hw3
 replace hS := Step.transNew hS hw3.step (fun _ _ _ => by omega)
 replace ho1 := ho1.step hw3.step (show ¬ b1 = b5 by omega)
 replace hrR := hrR.keepG hw3.step (show ¬ g1 = b5 by omega)
 replace hlo9 := Nat.le_trans hlo9 (hw3.step).size
 replace hglg1 := Nat.lt_of_lt_of_le hglg1 (hw3.step).size
 replace ho4 := ho4.step hw3.step (show ¬ b3 = b5 by omega)
 replace hbk1 := hbk1.step hw3.step (show ¬ bk1 = b5 by omega)
 replace hbase1 := Nat.le_trans hbase1 (hw3.step).size
 replace hr5 := hr5.keepG hw3.step (show ¬ g2 = b5 by omega)
 replace ho6 := ho6.step hw3.step (show ¬ b2 = b5 by omega)
 replace hglg2 := Nat.lt_of_lt_of_le hglg2 (hw3.step).size
 have ho8 : Own w22 b5 #[.int .i64 s2, .int .i64 e2, .bool z2, .bool t2] 94 := Own.cast hw3.own (by kernel_rfl)
 have hzhw3 := hw3.same
 refine VL_end (by kernel_rfl) ?_
 refine VQ_next ?_
 have hs6 := drew_step w22
 have hs6z : w22.heap.size = w22.drew.heap.size := rfl
 refine VC_text [[], [], [1], [1, 2], [1, 2, 3], [], [], [6], [], [8], [6, 7, 8, 9], [6, 7, 8, 9, 10], [5, 6, 7, 8, 9, 10, 11], [5, 6, 7, 8, 9, 10, 11, 12], [1, 2, 3, 4, 5, 6, 7, 8, 9, 10, 11, 12, 13], [0, 1, 2, 3, 4, 5, 6, 7, 8, 9, 10, 11, 12, 13, 14], [0, 1, 2, 3, 4, 5, 6, 7, 8, 9, 10, 11, 12, 13, 14, 15], [0, 1, 2, 3, 4, 5, 6, 7, 8, 9, 10, 11, 12, 13, 14, 15, 16]] 15 (fun x y => Step (fun k => k = g2 ∨ w22.heap.size ≤ k) x y) [10, 13, 14] [0, 1, 2, 3, 4, 5, 6, 7, 8, 9, 10, 11, 12, 13, 14] (by kernel_rfl) (by kernel_rfl) (by kernel_rfl) (by kernel_rfl) (fun x => Step.refl _ x) (fun h k => Step.trans h k) Step.weak ?_
 have hzs14 := hS.size
 have hzl36 := ho1.lt
 have hzl37 := ho4.lt
 have hzl38 := hbk1.lt
 have hzl39 := ho6.lt
 have hzl40 := ho8.lt
 have hzo3 := hlo9
 have hzo4 := hglg1
 have hzo5 := hbase1
 have hzo6 := hglg2
 generalize w22.drew = w23 at hs6 hs6z ⊢
 replace hS := Step.trans hS hs6
 replace ho1 := ho1.no hs6
 replace hrR := hrR.no hs6
 replace hlo9 := Nat.le_trans hlo9 (hs6).size
 replace hglg1 := Nat.lt_of_lt_of_le hglg1 (hs6).size
 replace ho4 := ho4.no hs6
 replace hbk1 := hbk1.no hs6
 replace hbase1 := Nat.le_trans hbase1 (hs6).size
 replace hr5 := hr5.no hs6
 replace ho6 := ho6.no hs6
 replace hglg2 := Nat.lt_of_lt_of_le hglg2 (hs6).size
 replace ho8 := ho8.no hs6
 refine VT_pures 4 (kn' := [(3, .pointer (some ⟨b2, 1, none⟩)), (2, .pointer (some ⟨b2, 0, none⟩)), (1, .pointer (some ⟨b2, 0, none⟩)), (0, .pointer (some ⟨b2, 0, none⟩))]) (by kernel_rfl) ?_
 refine VT_load (d := 28) (t := 100) (a := ⟨b2, 1, none⟩) (v := .slice (some ⟨g2, 0, none⟩) 1 c1) (by kernel_rfl) (by kernel_rfl) ?_ ?_
 ·intro w24 hr6
  replace hS := Step.transNew hS hr6 (fun i hi hG => by (try simp only at hG); omega)
  replace ho1 := ho1.step hr6 (by (try simp only); omega)
  replace hrR := hrR.keepG hr6 (by (try simp only); omega)
  replace hlo9 := Nat.le_trans hlo9 (hr6).size
  replace hglg1 := Nat.lt_of_lt_of_le hglg1 (hr6).size
  replace ho4 := ho4.step hr6 (by (try simp only); omega)
  replace hbk1 := hbk1.step hr6 (by (try simp only); omega)
  replace hbase1 := Nat.le_trans hbase1 (hr6).size
  replace ho6 := ho6.step hr6 (by (try simp only); omega)
  replace hglg2 := Nat.lt_of_lt_of_le hglg2 (hr6).size
  replace ho8 := ho8.step hr6 (by (try simp only); omega)
  exact (Loads.own1 ho6 (by kernel_rfl) (by rfl))
 refine VT_load (d := 29) (t := 94) (a := ⟨b5, 0, none⟩) (v := .agg #[.int .i64 s2, .int .i64 e2, .bool z2, .bool t2]) (by kernel_rfl) (by kernel_rfl) ?_ ?_
 ·intro w25 hr7
  replace hS := Step.transNew hS hr7 (fun i hi hG => by (try simp only at hG); omega)
  replace ho1 := ho1.step hr7 (by (try simp only); omega)
  replace hrR := hrR.keepG hr7 (by (try simp only); omega)
  replace hlo9 := Nat.le_trans hlo9 (hr7).size
  replace hglg1 := Nat.lt_of_lt_of_le hglg1 (hr7).size
  replace ho4 := ho4.step hr7 (by (try simp only); omega)
  replace hbk1 := hbk1.step hr7 (by (try simp only); omega)
  replace hbase1 := Nat.le_trans hbase1 (hr7).size
  replace ho6 := ho6.step hr7 (by (try simp only); omega)
  replace hglg2 := Nat.lt_of_lt_of_le hglg2 (hr7).size
  replace ho8 := ho8.step hr7 (by (try simp only); omega)
  exact (Loads.ownL ho8 (n := 4) (by kernel_rfl) (by kernel_rfl) (by kernel_rfl))
 refine VT_pures 1 (kn' := [(6, .pointer (some ⟨b5, 0, none⟩)), (5, .agg #[.int .i64 s2, .int .i64 e2, .bool z2, .bool t2]), (4, .slice (some ⟨g2, 0, none⟩) 1 c1), (3, .pointer (some ⟨b2, 1, none⟩)), (2, .pointer (some ⟨b2, 0, none⟩)), (1, .pointer (some ⟨b2, 0, none⟩)), (0, .pointer (some ⟨b2, 0, none⟩))]) (by kernel_rfl) ?_
 refine VT_load (d := 31) (t := 3) (a := ⟨b5, 0, none⟩) (v := .int .i64 s2) (by kernel_rfl) (by kernel_rfl) ?_ ?_
 ·intro w26 hr8
  replace hS := Step.transNew hS hr8 (fun i hi hG => by (try simp only at hG); omega)
  replace ho1 := ho1.step hr8 (by (try simp only); omega)
  replace hrR := hrR.keepG hr8 (by (try simp only); omega)
  replace hlo9 := Nat.le_trans hlo9 (hr8).size
  replace hglg1 := Nat.lt_of_lt_of_le hglg1 (hr8).size
  replace ho4 := ho4.step hr8 (by (try simp only); omega)
  replace hbk1 := hbk1.step hr8 (by (try simp only); omega)
  replace hbase1 := Nat.le_trans hbase1 (hr8).size
  replace ho6 := ho6.step hr8 (by (try simp only); omega)
  replace hglg2 := Nat.lt_of_lt_of_le hglg2 (hr8).size
  replace ho8 := ho8.step hr8 (by (try simp only); omega)
  exact (Loads.own1 ho8 (by kernel_rfl) (by rfl))
 refine VT_pures 1 (kn' := [(8, .pointer (some ⟨b5, 1, none⟩)), (7, .int .i64 s2), (6, .pointer (some ⟨b5, 0, none⟩)), (5, .agg #[.int .i64 s2, .int .i64 e2, .bool z2, .bool t2]), (4, .slice (some ⟨g2, 0, none⟩) 1 c1), (3, .pointer (some ⟨b2, 1, none⟩)), (2, .pointer (some ⟨b2, 0, none⟩)), (1, .pointer (some ⟨b2, 0, none⟩)), (0, .pointer (some ⟨b2, 0, none⟩))]) (by kernel_rfl) ?_
 refine VT_load (d := 33) (t := 3) (a := ⟨b5, 1, none⟩) (v := .int .i64 e2) (by kernel_rfl) (by kernel_rfl) ?_ ?_
 ·intro w27 hr9
  replace hS := Step.transNew hS hr9 (fun i hi hG => by (try simp only at hG); omega)
  replace ho1 := ho1.step hr9 (by (try simp only); omega)
  replace hrR := hrR.keepG hr9 (by (try simp only); omega)
  replace hlo9 := Nat.le_trans hlo9 (hr9).size
  replace hglg1 := Nat.lt_of_lt_of_le hglg1 (hr9).size
  replace ho4 := ho4.step hr9 (by (try simp only); omega)
  replace hbk1 := hbk1.step hr9 (by (try simp only); omega)
  replace hbase1 := Nat.le_trans hbase1 (hr9).size
  replace ho6 := ho6.step hr9 (by (try simp only); omega)
  replace hglg2 := Nat.lt_of_lt_of_le hglg2 (hr9).size
  replace ho8 := ho8.step hr9 (by (try simp only); omega)
  exact (Loads.own1 ho8 (by kernel_rfl) (by rfl))
 refine VT_chain (by kernel_rfl) ?_
 intro w28 hs7
 have hzhs7 := hs7.size
 replace hS := Step.trans hS hs7
 replace ho1 := ho1.no hs7
 replace hrR := hrR.no hs7
 replace hlo9 := Nat.le_trans hlo9 (hs7).size
 replace hglg1 := Nat.lt_of_lt_of_le hglg1 (hs7).size
 replace ho4 := ho4.no hs7
 replace hbk1 := hbk1.no hs7
 replace hbase1 := Nat.le_trans hbase1 (hs7).size
 replace hr5 := hr5.no hs7
 replace ho6 := ho6.no hs7
 replace hglg2 := Nat.lt_of_lt_of_le hglg2 (hs7).size
 replace ho8 := ho8.no hs7
 have hzs15 := hS.size
 have hzl41 := ho1.lt
 have hzl42 := ho4.lt
 have hzl43 := hbk1.lt
 have hzl44 := ho6.lt
 have hzl45 := ho8.lt
 refine VTc_call (d := 34) (f := 59) (args := #[.int .i64 s2, .int .i64 e2]) (by kernel_rfl) (by kernel_rfl) (by kernel_rfl) Try.call59 (bnew_any s2 e2 _) ?_ ?_
 ·rintro _ w29 ⟨bk2, rfl, bk2E, bk2Z, hbk2, hc5⟩
  exact Step.mono hc5 (by intro i hi; first | exact hi.elim | exact .inl hi | ((try simp only at hi ⊢); omega))
 rintro _ w29 ⟨bk2, rfl, bk2E, bk2Z, hbk2, hc5⟩
 have hzhc5 := (hc5).size
 replace hS := Step.trans hS hc5
 replace ho1 := ho1.no hc5
 replace hrR := hrR.no hc5
 replace hlo9 := Nat.le_trans hlo9 (hc5).size
 replace hglg1 := Nat.lt_of_lt_of_le hglg1 (hc5).size
 replace ho4 := ho4.no hc5
 replace hbk1 := hbk1.no hc5
 replace hbase1 := Nat.le_trans hbase1 (hc5).size
 replace hr5 := hr5.no hc5
 replace ho6 := ho6.no hc5
 replace hglg2 := Nat.lt_of_lt_of_le hglg2 (hc5).size
 replace ho8 := ho8.no hc5
 refine VT_pures 2 (kn' := [(12, .agg #[.int .i64 s2, .int .i64 e2, .bool z2, .bool t2, .iface 111 (.pointer (some ⟨bk2, 0, none⟩))]), (11, .iface 111 (.pointer (some ⟨bk2, 0, none⟩))), (10, .pointer (some ⟨bk2, 0, none⟩)), (9, .int .i64 e2), (8, .pointer (some ⟨b5, 1, none⟩)), (7, .int .i64 s2), (6, .pointer (some ⟨b5, 0, none⟩)), (5, .agg #[.int .i64 s2, .int .i64 e2, .bool z2, .bool t2]), (4, .slice (some ⟨g2, 0, none⟩) 1 c1), (3, .pointer (some ⟨b2, 1, none⟩)), (2, .pointer (some ⟨b2, 0, none⟩)), (1, .pointer (some ⟨b2, 0, none⟩)), (0, .pointer (some ⟨b2, 0, none⟩))]) (by kernel_rfl) ?_
 refine VT_chain (by kernel_rfl) ?_
 intro w30 hs8
 have hzhs8 := hs8.size
 replace hS := Step.trans hS hs8
 replace ho1 := ho1.no hs8
 replace hrR := hrR.no hs8
 replace hlo9 := Nat.le_trans hlo9 (hs8).size
 replace hglg1 := Nat.lt_of_lt_of_le hglg1 (hs8).size
 replace ho4 := ho4.no hs8
 replace hbk1 := hbk1.no hs8
 replace hbase1 := Nat.le_trans hbase1 (hs8).size
 replace hr5 := hr5.no hs8
 replace ho6 := ho6.no hs8
 replace hglg2 := Nat.lt_of_lt_of_le hglg2 (hs8).size
 replace ho8 := ho8.no hs8
 replace hbk2 := hbk2.no hs8
 have hzs16 := hS.size
 have hzl46 := ho1.lt
 have hzk16 := hlo9
 have hzk17 := hglg1
 have hzl47 := ho4.lt
 have hzl48 := hbk1.lt
 have hzk18 := hbase1
 have hzl49 := ho6.lt
 have hzk19 := hglg2
 have hzl50 := ho8.lt
 have hzl51 := hbk2.lt
 have hzs17 := hS.size
 have hzl52 := ho1.lt
 have hzk20 := hlo9
 have hzk21 := hglg1
 have hzl53 := ho4.lt
 have hzl54 := hbk1.lt
 have hzk22 := hbase1
 have hzl55 := ho6.lt
 have hzk23 := hglg2
 have hzl56 := ho8.lt
 have hzl57 := hbk2.lt
 refine VTc_bs (d := 37) (e := 98) (c := #[.int .i64 s2, .int .i64 e2, .bool z2, .bool t2, .iface 111 (.pointer (some ⟨bk2, 0, none⟩))]) (len := 1) (by kernel_rfl) (by kernel_rfl) (fun b w1 hn => hn.step _) ?_
 intro b6 w31 hn6
 replace hS := Step.trans hS (hn6.step No)
 replace ho1 := ho1.no (hn6.step No)
 replace hrR := hrR.no (hn6.step No)
 replace hlo9 := Nat.le_trans hlo9 (hn6.step No).size
 replace hglg1 := Nat.lt_of_lt_of_le hglg1 (hn6.step No).size
 replace ho4 := ho4.no (hn6.step No)
 replace hbk1 := hbk1.no (hn6.step No)
 replace hbase1 := Nat.le_trans hbase1 (hn6.step No).size
 replace hr5 := hr5.no (hn6.step No)
 replace ho6 := ho6.no (hn6.step No)
 replace hglg2 := Nat.lt_of_lt_of_le hglg2 (hn6.step No).size
 replace ho8 := ho8.no (hn6.step No)
 replace hbk2 := hbk2.no (hn6.step No)
 have ho9 := hn6.own
 have hzhn6 := hn6.size
 have hqhn6 := hn6.eqb
 refine VT_chain (by kernel_rfl) ?_
 intro w32 hs9
 have hzhs9 := hs9.size
 replace hS := Step.trans hS hs9
 replace ho1 := ho1.no hs9
 replace hrR := hrR.no hs9
 replace hlo9 := Nat.le_trans hlo9 (hs9).size
 replace hglg1 := Nat.lt_of_lt_of_le hglg1 (hs9).size
 replace ho4 := ho4.no hs9
 replace hbk1 := hbk1.no hs9
 replace hbase1 := Nat.le_trans hbase1 (hs9).size
 replace hr5 := hr5.no hs9
 replace ho6 := ho6.no hs9
 replace hglg2 := Nat.lt_of_lt_of_le hglg2 (hs9).size
 replace ho8 := ho8.no hs9
 replace hbk2 := hbk2.no hs9
 replace ho9 := ho9.no hs9
 have hzs18 := hS.size
 have hzl58 := ho1.lt
 have hzk24 := hlo9
 have hzk25 := hglg1
 have hzl59 := ho4.lt
 have hzl60 := hbk1.lt
 have hzk26 := hbase1
 have hzl61 := ho6.lt
 have hzk27 := hglg2
 have hzl62 := ho8.lt
 have hzl63 := hbk2.lt
 have hzl64 := ho9.lt
 refine VTc_appendZ (d := 38) (e := 98) (A := (some ⟨g2, 0, none⟩)) (mm := 1) (c := c1) (A2 := (some ⟨b6, 0, none⟩)) (m2 := 1) (c2 := 1) (sz := 5) (bytes := 40) (by kernel_rfl) (by kernel_rfl) (by kernel_rfl) base1 w32.heap.size (flat rlc ([(rlNew s1 e1 z1 t1, bk1)])) (flat rlc [(rlNew s2 e2 z2 t2, bk2)]) hr5 (by rw [flat_one, rlc_len]) (Sl.mono (Sl.cast (Own.sl ho9 ho9.lt) (by first | rfl | simp [flat])) (by first | exact Nat.le_refl _ | omega)) (flat_one' rlc_one _) 2 (by omega) (by simp only [maxLen]; omega) (by omega) (by omega) ?_ ?_
 ·intro w1 hs1; exact Step.mono hs1 (fun i hi => by obtain ⟨a9, ha9, hi9⟩ := hi; cases ha9; have hi8 : g2 = i := hi9; (try simp only); omega)
 intro A2 c2 w33 hr10 hg2
 replace hr10 : RwS w33 5 base1 98 A2 2 c2 (flat rlc (([(rlNew s1 e1 z1 t1, bk1)]) ++ ([(rlNew s2 e2 z2 t2, bk2)]))) := RwS.cast hr10 rfl (by simp only [flat_append, flat_one, List.append_assoc, List.nil_append, List.append_nil, show flat rlc [] = [] from rfl])
 replace hg2 := Step.mono (G := fun k => k = g2) hg2 (fun i hi => by obtain ⟨a9, ha9, hi9⟩ := hi; cases ha9; exact hi9.symm)
 have hzhg2 := hg2.size
 replace hS := Step.transNew hS hg2 (fun i hi hG => by (try simp only at hG); omega)
 replace ho1 := ho1.step hg2 (by (try simp only); omega)
 replace hrR := hrR.keepG hg2 (by (try simp only); omega)
 replace hlo9 := Nat.le_trans hlo9 (hg2).size
 replace hglg1 := Nat.lt_of_lt_of_le hglg1 (hg2).size
 replace ho4 := ho4.step hg2 (by (try simp only); omega)
 replace hbk1 := hbk1.step hg2 (by (try simp only); omega)
 replace hbase1 := Nat.le_trans hbase1 (hg2).size
 replace ho6 := ho6.step hg2 (by (try simp only); omega)
 replace hglg2 := Nat.lt_of_lt_of_le hglg2 (hg2).size
 replace ho8 := ho8.step hg2 (by (try simp only); omega)
 replace hbk2 := hbk2.step hg2 (by (try simp only); omega)
 have hlhr10 : (([(rlNew s1 e1 z1 t1, bk1)]) ++ ([(rlNew s2 e2 z2 t2, bk2)])).length = 2 := by have hq9 := RwS.len hr10; rw [flat_len rlc_len] at hq9; omega
 refine VT_end ?_
 intro w34 hs10
 replace hS := Step.trans hS hs10
 replace ho1 := ho1.no hs10
 replace hrR := hrR.no hs10
 replace hlo9 := Nat.le_trans hlo9 (hs10).size
 replace hglg1 := Nat.lt_of_lt_of_le hglg1 (hs10).size
 replace ho4 := ho4.no hs10
 replace hbk1 := hbk1.no hs10
 replace hbase1 := Nat.le_trans hbase1 (hs10).size
 replace ho6 := ho6.no hs10
 replace hglg2 := Nat.lt_of_lt_of_le hglg2 (hs10).size
 replace ho8 := ho8.no hs10
 replace hbk2 := hbk2.no hs10
 replace hr10 := hr10.no hs10
 refine VL_keep [5, 18, 19, 20, 24, 38] [(5, .pointer (some ⟨b2, 0, none⟩)), (18, .slice (some ⟨g1, 0, none⟩) 2 ccR), (19, .int .i64 2), (20, .int .i64 1), (24, .pointer (some ⟨b2, 0, none⟩)), (38, .slice A2 2 c2)] (by kernel_rfl) ?_
 refine VL_pure 17 [5, 18, 19, 20, 38, 40] [(5, .pointer (some ⟨b2, 0, none⟩)), (18, .slice (some ⟨g1, 0, none⟩) 2 ccR), (19, .int .i64 2), (20, .int .i64 1), (38, .slice A2 2 c2), (40, .pointer (some ⟨b2, 1, none⟩))] (by kernel_rfl) rfl ?_
 refine VL_store (b := b2) (o := 1) (vs := [.slice A2 2 c2]) (by kernel_rfl) (by kernel_rfl) ho6 (Nat.le_of_ble_eq_true (by kernel_rfl)) ?_
 intro w35 hw4
 replace hS := Step.transNew hS hw4.step (fun _ _ _ => by omega)
 replace ho1 := ho1.step hw4.step (show ¬ b1 = b2 by omega)
 replace hrR := hrR.keepG hw4.step (show ¬ g1 = b2 by omega)
 replace hlo9 := Nat.le_trans hlo9 (hw4.step).size
 replace hglg1 := Nat.lt_of_lt_of_le hglg1 (hw4.step).size
 replace ho4 := ho4.step hw4.step (show ¬ b3 = b2 by omega)
 replace hbk1 := hbk1.step hw4.step (show ¬ bk1 = b2 by omega)
 replace hbase1 := Nat.le_trans hbase1 (hw4.step).size
 replace hglg2 := Nat.lt_of_lt_of_le hglg2 (hw4.step).size
 replace ho8 := ho8.step hw4.step (show ¬ b5 = b2 by omega)
 replace hbk2 := hbk2.step hw4.step (show ¬ bk2 = b2 by omega)
 replace hr10 := hr10.step hw4.step (fun k hk (hF : k = b2) => by omega)
 have ho10 : Own w35 b2 #[.bool (alwaysC c), .slice A2 2 c2, .int .i64 0, .int .i64 0, .int .i64 0, .int .i64 0] 103 := Own.cast hw4.own (by kernel_rfl)
 have hzhw4 := hw4.same
 refine VL_end (by kernel_rfl) ?_
 refine VQ_block_normal ?_
 refine VQ_next ?_
 refine VC_region ?_
 refine VL_pure 2 [5, 18, 19, 20] [(5, .pointer (some ⟨b2, 0, none⟩)), (18, .slice (some ⟨g1, 0, none⟩) 2 ccR), (19, .int .i64 2), (20, .int .i64 2)] (by kernel_rfl) rfl ?_
 refine VL_end (by kernel_rfl) ?_
 refine VQ_round ?_
 refine VCL_round ?_
 refine VC_seq ?_
 refine VC_region ?_
 refine VL_pure 1 [5, 18, 19, 20, 21] [(5, .pointer (some ⟨b2, 0, none⟩)), (18, .slice (some ⟨g1, 0, none⟩) 2 ccR), (19, .int .i64 2), (20, .int .i64 2), (21, .bool false)] (by kernel_rfl) rfl ?_
 refine VL_end (by kernel_rfl) ?_
 refine VQ_next ?_
 refine VC_seq ?_
 refine VC_false (by kernel_rfl) ?_
 refine VC_exit ?_
 refine VQ_then_exit ?_
 refine VQ_then_exit ?_
 refine VQ_block_hit ?_
 refine VQ_next ?_
 refine VC_seq ?_
 refine VC_region ?_
 refine VL_pure 3 [2, 3] [(2, .pointer (some ⟨b2, 0, none⟩)), (3, .int .i64 0)] (by kernel_rfl) rfl ?_
 refine VL_end (by kernel_rfl) ?_
 refine VQ_next ?_
 refine VC_ret ?_
 refine VQ_ret2 (.pointer (some ⟨b2, 0, none⟩)) (.int .i64 0) (.inr rfl) rfl rfl rfl ?_
 obtain ⟨Y, hY, hPl⟩ := pl_mk (w := w) (p := b2) (base := base1) (l := [((rlNew s1 e1 z1 t1), bk1), ((rlNew s2 e2 z2 t2), bk2)]) hR (RlsI.rules c) (Nat.le_of_ble_eq_true (by kernel_rfl)) ho10 (RwS.cast hr10 rfl (by rfl)) (by intro q9 hq9; simp only [List.mem_cons, List.not_mem_nil, or_false] at hq9; rcases hq9 with rfl | rfl; exact hbk1; exact hbk2) (by simp only [List.map_cons, List.map_nil, List.nodup_cons, List.mem_cons, List.not_mem_nil, or_false, not_false_eq_true, List.nodup_nil, and_true]; omega) (by omega) (by omega) (by intro q9 hq9; simp only [List.mem_cons, List.not_mem_nil, or_false] at hq9; rcases hq9 with rfl | rfl <;> (simp only; omega))
 exact ⟨b2, Y, rfl, hY, hPl, hS⟩

theorem pnew_any (c : Con) (hr : rightC c = 0) (w : World) : CV Try.prog 48 #[.agg #[.int .i64 c.kind, .int .i64 c.peak, .int .i64 c.early, .int .i64 c.whole, .int .i64 c.burst, .int .i64 c.least]] w (fun x w1 => ∃ pp Y, x = .tuple #[.pointer (some ⟨pp, 0, none⟩), .int .i64 0] ∧ (∀ k, Y k → w.heap.size ≤ k) ∧ Pl w1 pp Y (alwaysC c) (rulesC c) ∧ Step No w w1) := by
  by_cases h2 : c.kind = 2
  · exact pnew_2 c hr _ _ _ _ _ _ _ _ (rules_v1 hr h2).symm w
  · by_cases h3 : c.kind = 3
    · exact pnew_2 c hr _ _ _ _ _ _ _ _ (rules_v2 hr h3).symm w
    · by_cases h4 : c.kind = 4
      · exact pnew_2 c hr _ _ _ _ _ _ _ _ (rules_v3 hr h4).symm w
      · exact pnew_1 c hr _ _ _ _ (rules_one hr h2 h3 h4).symm w
end Go.Proofs.Ythchmlidobgkoaa
end

section
/- Layer 20: a node in memory. -/
set_option linter.unusedVariables false
set_option linter.unusedSimpArgs false
namespace Go.Proofs.Ythchmlidobgkoaa
open Go.Vc Go.RowKit

abbrev lgc (a : Nat) : List Value := [.pointer (some ⟨a, 0, none⟩)]
abbrev uc (x : Con × Nat) : Value := .agg #[.int .i64 x.1.kind, .int .i64 x.1.peak, .int .i64 x.1.early, .int .i64 x.1.whole, .int .i64 x.1.burst, .int .i64 x.1.least, .pointer (some ⟨x.2, 0, none⟩)]
structure Ci where
  x : Cx
  id : Int
  pp : Nat
  Y : Nat → Prop
def Ci.ent (y : Ci) : Ent := ⟨y.x.p, y.x.v, y.x.c, y.id⟩
/-- What is told of a node beside its list. -/
structure NdG where
  ci : List Ci
  la : Option Addr
  lb : Nat
  lc : Nat
  lg : Nat → Nat
  lm : Nat → Nat
  N : Nat → List (Int × Int)
  tb : Nat
  cm : Nat
  M : List (Int × (Con × Nat))
  next : Nat
def NdG.L (g : NdG) : List Cx := g.ci.map Ci.x

/-- A block's type, two more; 0: a map; 1: another thing. -/
def tyO (w : World) (k : Nat) : Nat := match w.heap[k]? with | some (.cells _ T _) => T + 2 | some (.map _ _) => 0 | _ => 1
section
variable {w w1 : World} {F : Nat → Prop}
theorem tyO_tyB {T k : Nat} (h : TyB w T k) : tyO w k = T + 2 := by obtain ⟨c, fr, h⟩ := h; unfold tyO; rw [h]
theorem tyO_own {b T : Nat} {cs : Array Value} (h : Own w b cs T) : tyO w b = T + 2 := tyO_tyB h.tyB
theorem tyO_map {κ ν : Type} {m : Nat} {ek : κ → Value} {u : ν → Value} {L : List (κ × ν)} (h : MapL w m ek u L) : tyO w m = 0 := by obtain ⟨⟨es, ck, h, _⟩, _⟩ := h; unfold tyO; rw [h]
theorem tyO_step {k : Nat} (hk : k < w.heap.size) (hs : Step F w w1) (hF : ¬ F k) : tyO w1 k = tyO w k := by unfold tyO; rw [hs.block k hk hF]
def NT (w : World) (k : Nat) : Prop := k < w.heap.size ∧ (tyO w k = 0 ∨ tyO w k = 54 + 2 ∨ tyO w k = 55 + 2 ∨ tyO w k = 80 + 2 ∨ tyO w k = 77 + 2 ∨ tyO w k = 103 + 2 ∨ tyO w k = 98 + 2 ∨ tyO w k = 127 + 2)
theorem tyO_PT {k : Nat} (h : PT w k) : k < w.heap.size ∧ (tyO w k = 103 + 2 ∨ tyO w k = 98 + 2 ∨ tyO w k = 127 + 2) := by
  refine ⟨h.lt, ?_⟩
  rcases h with h | h | h
  · exact .inl (tyO_tyB h)
  · exact .inr (.inl (tyO_tyB h))
  · exact .inr (.inr (tyO_tyB h))
theorem NT.of_PT {k : Nat} (h : PT w k) : NT w k := by
  obtain ⟨h1, h2⟩ := tyO_PT h
  exact ⟨h1, by omega⟩
/-- A block of another type is not a node's. -/
theorem NT.not {k T : Nat} {cs : Array Value} (ho : Own w k cs T) (hT : T ≠ 54 ∧ T ≠ 55 ∧ T ≠ 80 ∧ T ≠ 77 ∧ T ≠ 103 ∧ T ≠ 98 ∧ T ≠ 127) : ¬ NT w k := by
  rintro ⟨_, h⟩
  rw [tyO_own ho] at h
  omega
end

structure NdX (w : World) (nd : Nat) (X : Nat → Prop) (lo : Nat) (rooms : List Int) (g : NdG) : Prop where
  own : Own w nd #[.slice g.la rooms.length g.lc, .pointer (some ⟨g.tb, 0, none⟩), .map (some g.cm), .int .i64 ((g.next : Nat) : Int)] 54
  links : 0 < rooms.length → g.la = some ⟨g.lb, 0, none⟩ ∧ RowE w g.lb 55 (flat lgc ((List.range rooms.length).map g.lg)) ∧ X g.lb
  led : ∀ (i : Nat) (r : Int), rooms[i]? = some r → Ld w (g.lg i) (g.lm i) r (usdL g.L i) (g.N i)
  ledX : ∀ i, i < rooms.length → X (g.lg i) ∧ X (g.lm i)
  lgi : ∀ i j, i < rooms.length → j < rooms.length → g.lg i = g.lg j → i = j
  lmi : ∀ i j, i < rooms.length → j < rooms.length → g.lm i = g.lm j → i = j
  lmc : ∀ i, i < rooms.length → g.lm i ≠ g.cm
  tab : Tb w g.tb 64 (g.ci.map Ci.ent)
  cmap : MapL w g.cm ei uc g.M
  pol : ∀ y ∈ g.ci, getM g.M y.id = some (y.x.k, y.pp) ∧ Pl w y.pp y.Y (alwaysC y.x.k) y.x.rs
  polX : ∀ y ∈ g.ci, ∀ k, y.Y k → X k
  apart : ∀ y ∈ g.ci, ∀ z ∈ g.ci, y.id ≠ z.id → ∀ k, y.Y k → ¬ z.Y k
  ids : ∀ y ∈ g.ci, ∀ z ∈ g.ci, y.id = z.id → y = z
  idlt : ∀ y ∈ g.ci, 0 ≤ y.id ∧ y.id < g.next
  need : ∀ (i : Nat), i < rooms.length → ∀ y ∈ g.ci, y.x.p = (i : Int) → getM (g.N i) y.id = some (needC y.x.k)
  nlt : ∀ i, i < rooms.length → ∀ id n, getM (g.N i) id = some n → id < g.next
  li : LI rooms g.L
  inX : X nd ∧ X g.tb ∧ X g.cm
  ty : ∀ k, X k → NT w k
  lo : ∀ k, X k → lo ≤ k

section
variable {w w1 : World} {F : Nat → Prop} {nd lo : Nat} {X : Nat → Prop} {rooms : List Int} {g : NdG}
theorem NdX.lt (h : NdX w nd X lo rooms g) {k : Nat} (hk : X k) : k < w.heap.size := (h.ty k hk).1
theorem NT.step {k : Nat} (h : NT w k) (hs : Step F w w1) (hF : ¬ F k) : NT w1 k := by
  unfold NT
  rw [tyO_step h.1 hs hF]
  exact ⟨Nat.lt_of_lt_of_le h.1 hs.size, h.2⟩
theorem NdX.step (h : NdX w nd X lo rooms g) (hs : Step F w w1) (hF : ∀ k, X k → ¬ F k) : NdX w1 nd X lo rooms g where
  own := h.own.step hs (hF _ h.inX.1)
  links h0 := by obtain ⟨h1, h2, h3⟩ := h.links h0; exact ⟨h1, h2.step hs (hF _ h3), h3⟩
  led i r hi := by have hl := (List.getElem?_eq_some_iff.1 hi).1; exact (h.led i r hi).step hs (hF _ (h.ledX i hl).1) (hF _ (h.ledX i hl).2)
  ledX := h.ledX
  lgi := h.lgi
  lmi := h.lmi
  lmc := h.lmc
  tab := h.tab.step hs (hF _ h.inX.2.1)
  cmap := h.cmap.step hs (hF _ h.inX.2.2)
  pol y hy := ⟨(h.pol y hy).1, (h.pol y hy).2.step hs fun k hk => hF k (h.polX y hy k hk)⟩
  polX := h.polX
  apart := h.apart
  ids := h.ids
  idlt := h.idlt
  need := h.need
  nlt := h.nlt
  li := h.li
  inX := h.inX
  ty k hk := (h.ty k hk).step hs (hF k hk)
  lo := h.lo
theorem NdX.no (h : NdX w nd X lo rooms g) (hs : Step No w w1) : NdX w1 nd X lo rooms g := h.step hs fun _ _ => id
theorem NdX.room (h : NdX w nd X lo rooms g) {i : Nat} (hi : i < rooms.length) : ∃ r, rooms[i]? = some r ∧ Ld w (g.lg i) (g.lm i) r (usdL g.L i) (g.N i) := ⟨_, List.getElem?_eq_getElem hi, h.led i _ (List.getElem?_eq_getElem hi)⟩
theorem NdX.t_nd (h : NdX w nd X lo rooms g) : tyO w nd = 54 + 2 := tyO_own h.own
theorem NdX.t_tb (h : NdX w nd X lo rooms g) : tyO w g.tb = 77 + 2 := by obtain ⟨s, len, h1, _⟩ := h.tab; exact tyO_own h1
theorem NdX.t_cm (h : NdX w nd X lo rooms g) : tyO w g.cm = 0 := tyO_map h.cmap
theorem NdX.t_lg (h : NdX w nd X lo rooms g) {i : Nat} (hi : i < rooms.length) : tyO w (g.lg i) = 80 + 2 := by obtain ⟨r, _, h1⟩ := h.room hi; exact tyO_own h1.own
theorem NdX.t_lm (h : NdX w nd X lo rooms g) {i : Nat} (hi : i < rooms.length) : tyO w (g.lm i) = 0 := by obtain ⟨r, _, h1⟩ := h.room hi; exact tyO_map h1.map
theorem NdX.t_lb (h : NdX w nd X lo rooms g) (h0 : 0 < rooms.length) : tyO w g.lb = 55 + 2 := tyO_tyB (h.links h0).2.1.ty
theorem NdX.t_pol (h : NdX w nd X lo rooms g) {y : Ci} (hy : y ∈ g.ci) {k : Nat} (hk : y.Y k) : tyO w k = 103 + 2 ∨ tyO w k = 98 + 2 ∨ tyO w k = 127 + 2 := (tyO_PT ((h.pol y hy).2.ty hk)).2
/-- The blocks that an operation on a link turns. -/
def fiveF (nd : Nat) (g : NdG) (i k : Nat) : Prop := k = nd ∨ k = g.tb ∨ k = g.cm ∨ k = g.lg i ∨ k = g.lm i
theorem NdX.rest (h : NdX w nd X lo rooms g) {i : Nat} (hi : i < rooms.length) (hT : Step (fiveF nd g i) w w1) :
    (0 < rooms.length → g.la = some ⟨g.lb, 0, none⟩ ∧ RowE w1 g.lb 55 (flat lgc ((List.range rooms.length).map g.lg)) ∧ X g.lb) ∧
    (∀ (j : Nat) (r : Int), j ≠ i → rooms[j]? = some r → Ld w1 (g.lg j) (g.lm j) r (usdL g.L j) (g.N j)) ∧ (∀ y ∈ g.ci, Pl w1 y.pp y.Y (alwaysC y.x.k) y.x.rs) := by
  have t1 := h.t_nd
  have t2 := h.t_tb
  have t3 := h.t_cm
  have t4 := h.t_lg hi
  have t5 := h.t_lm hi
  refine ⟨fun h0 => ?_, fun j r hj hr => ?_, fun y hy => ?_⟩
  · obtain ⟨h1, h2, h3⟩ := h.links h0
    have t6 := h.t_lb h0
    refine ⟨h1, h2.step hT ?_, h3⟩
    rintro (e | e | e | e | e) <;> rw [e] at t6 <;> omega
  · have hl := (List.getElem?_eq_some_iff.1 hr).1
    have t6 := h.t_lg hl
    have t7 := h.t_lm hl
    refine (h.led j r hr).step hT ?_ ?_
    · rintro (e | e | e | e | e)
      · rw [e] at t6; omega
      · rw [e] at t6; omega
      · rw [e] at t6; omega
      · exact hj (h.lgi _ _ hl hi e)
      · rw [e] at t6; omega
    · rintro (e | e | e | e | e)
      · rw [e] at t7; omega
      · rw [e] at t7; omega
      · exact h.lmc j hl e
      · rw [e] at t7; omega
      · exact hj (h.lmi _ _ hl hi e)
  · refine (h.pol y hy).2.step hT fun k hk => ?_
    have t6 := h.t_pol hy hk
    rintro (e | e | e | e | e) <;> rw [e] at t6 <;> omega
/-- All of a node's blocks are of a node's types still. -/
theorem NdX.typed (h : NdX w nd X lo rooms g) {i : Nat} (hi : i < rooms.length) (hT : Step (fiveF nd g i) w w1) (h1 : tyO w1 nd = 54 + 2) (h2 : tyO w1 g.tb = 77 + 2) (h3 : tyO w1 g.cm = 0) (h4 : tyO w1 (g.lg i) = 80 + 2) (h5 : tyO w1 (g.lm i) = 0) : ∀ k, X k → NT w1 k := by
  intro k hk
  have hz := Nat.lt_of_lt_of_le (h.lt hk) hT.size
  by_cases e : fiveF nd g i k
  · rcases e with e | e | e | e | e
    · rw [e] at hz ⊢; exact ⟨hz, by omega⟩
    · rw [e] at hz ⊢; exact ⟨hz, by omega⟩
    · rw [e] at hz ⊢; exact ⟨hz, by omega⟩
    · rw [e] at hz ⊢; exact ⟨hz, by omega⟩
    · rw [e] at hz ⊢; exact ⟨hz, by omega⟩
  · exact (h.ty k hk).step hT e
theorem tyO_tb {b : Nat} {room : Int} {L : List Ent} (h : Tb w b room L) : tyO w b = 77 + 2 := by obtain ⟨s, len, h1, _⟩ := h; exact tyO_own h1

/-! ### The lists -/
def findI (l : List Ci) (p v c : Int) : Option Ci := l.find? fun y => keyX p v c y.x
theorem findI_map (l : List Ci) (p v c : Int) : findC (l.map Ci.x) p v c = (findI l p v c).map Ci.x := by
  unfold findC findI
  rw [List.find?_map]; rfl
theorem lookE_map (l : List Ci) (p v c : Int) : lookE (l.map Ci.ent) p v c = (findI l p v c).map Ci.id := by
  unfold lookE findI
  rw [List.find?_map, Option.map_map]
  rfl
theorem lookE_isSome (g : NdG) (p v c : Int) : (lookE (g.ci.map Ci.ent) p v c).isSome = (findC g.L p v c).isSome := by
  unfold NdG.L
  rw [lookE_map, findI_map, Option.isSome_map, Option.isSome_map]
theorem ahead_map (l : List Ci) (p v c : Int) : aheadE (l.map Ci.ent) p v c = aheadC (l.map Ci.x) p v c := by
  unfold aheadC
  induction l with
  | nil => rfl
  | cons y l ih => simp only [List.map_cons, aheadE, ih, Ci.ent, Cx.e0]
def insI (l : List Ci) (y : Ci) : List Ci := l.take (aheadC (l.map Ci.x) y.x.p y.x.v y.x.c) ++ y :: l.drop (aheadC (l.map Ci.x) y.x.p y.x.v y.x.c)
theorem insI_x (l : List Ci) (y : Ci) : (insI l y).map Ci.x = insC (l.map Ci.x) y.x := by
  unfold insI insC; simp only [List.map_append, List.map_cons, List.map_take, List.map_drop]
theorem insI_ent (l : List Ci) (y : Ci) : (insI l y).map Ci.ent = insE (l.map Ci.ent) y.ent := by
  unfold insI insE
  simp only [List.map_append, List.map_cons, List.map_take, List.map_drop, show y.ent.p = y.x.p from rfl, show y.ent.v = y.x.v from rfl, show y.ent.c = y.x.c from rfl, ahead_map]
theorem mem_insI {l : List Ci} {x y : Ci} : y ∈ insI l x ↔ y = x ∨ y ∈ l := by
  unfold insI
  rw [List.mem_append, List.mem_cons]
  have h : y ∈ l ↔ y ∈ l.take (aheadC (l.map Ci.x) x.x.p x.x.v x.x.c) ∨ y ∈ l.drop (aheadC (l.map Ci.x) x.x.p x.x.v x.x.c) := by rw [← List.mem_append, List.take_append_drop]
  rw [h]
  exact ⟨fun h => by rcases h with h | h | h; exact .inr (.inl h); exact .inl h; exact .inr (.inr h), fun h => by rcases h with h | h | h; exact .inr (.inl h); exact .inl h; exact .inr (.inr h)⟩
def delI (l : List Ci) (p v c : Int) : List Ci := l.filter fun y => !keyX p v c y.x
theorem delI_x (l : List Ci) (p v c : Int) : (delI l p v c).map Ci.x = delC (l.map Ci.x) p v c := by
  unfold delI delC; rw [List.filter_map]; rfl
theorem delI_ent (l : List Ci) (p v c : Int) : (delI l p v c).map Ci.ent = delE (l.map Ci.ent) p v c := by
  unfold delI delE; rw [List.filter_map]; rfl
def setI (l : List Ci) (p v c : Int) (f : Ci → Ci) : List Ci := l.map fun y => if keyX p v c y.x = true then f y else y
theorem setI_x (l : List Ci) (p v c : Int) (f : Ci → Ci) (h : Cx → Cx) (hf : ∀ y, (f y).x = h y.x) : (setI l p v c f).map Ci.x = setC (l.map Ci.x) p v c h := by
  unfold setI setC
  rw [List.map_map, List.map_map]
  apply List.map_congr_left
  intro y _
  simp only [Function.comp]
  split
  · exact hf y
  · rfl
theorem setI_ent (l : List Ci) (p v c : Int) (f : Ci → Ci) (hf : ∀ y, (f y).ent = y.ent) : (setI l p v c f).map Ci.ent = l.map Ci.ent := by
  unfold setI
  rw [List.map_map]
  apply List.map_congr_left
  intro y _
  simp only [Function.comp]
  split
  · exact hf y
  · rfl
theorem mem_setI {l : List Ci} {p v c : Int} {f : Ci → Ci} {z : Ci} (h : z ∈ setI l p v c f) : (z ∈ l ∧ keyX p v c z.x = false) ∨ ∃ y ∈ l, keyX p v c y.x = true ∧ z = f y := by
  obtain ⟨y, hy, rfl⟩ := List.mem_map.1 h
  cases e : keyX p v c y.x with
  | true => exact .inr ⟨y, hy, e, by rw [if_pos rfl]⟩
  | false => exact .inl ⟨by rw [if_neg (by simp)]; exact hy, by rw [if_neg (by simp)]; exact e⟩
theorem findI_some {l : List Ci} {p v c : Int} {y : Ci} (h : findI l p v c = some y) : y ∈ l ∧ y.x.p = p ∧ y.x.v = v ∧ y.x.c = c := by
  unfold findI at h
  exact ⟨List.mem_of_find?_eq_some h, keyX_iff.1 (List.find?_some (p := fun y : Ci => keyX p v c y.x) h)⟩
/-- One of a key. -/
theorem NdX.key_one (h : NdX w nd X lo rooms g) {p v c : Int} {y z : Ci} (hy : y ∈ g.ci) (hz : z ∈ g.ci) (ky : keyX p v c y.x = true) (kz : keyX p v c z.x = true) : y = z := by
  have hs := h.tab.srt
  have a := keyX_iff.1 ky
  have b := keyX_iff.1 kz
  have hy' : y.ent ∈ g.ci.map Ci.ent := List.mem_map_of_mem hy
  have hz' : z.ent ∈ g.ci.map Ci.ent := List.mem_map_of_mem hz
  have h1 : lookE (g.ci.map Ci.ent) p v c = some y.id := (lookE_some hs).2 (by rw [← a.1, ← a.2.1, ← a.2.2]; exact hy')
  have h2 : lookE (g.ci.map Ci.ent) p v c = some z.id := (lookE_some hs).2 (by rw [← b.1, ← b.2.1, ← b.2.2]; exact hz')
  rw [h1] at h2
  exact h.ids y hy z hz (by simpa using h2)
end
end Go.Proofs.Ythchmlidobgkoaa
end

section
/- Layer 20: a node in memory, behind what is done with it. -/
set_option linter.unusedVariables false
set_option linter.unusedSimpArgs false
namespace Go.Proofs.Ythchmlidobgkoaa
open Go.Vc Go.RowKit
section
variable {w w1 : World} {F : Nat → Prop} {nd lo : Nat} {X : Nat → Prop} {rooms : List Int} {g : NdG}
theorem putK_zero {g : NdG} (h : NdX w nd X lo rooms g) {p v c : Int} {k : Con} (hc : chkN rooms g.L p v c k = 0) : putK (g.ci.map Ci.ent) 64 p v c = 0 := by
  obtain ⟨h1, h2, h3, h4⟩ := chkN_zero hc
  obtain ⟨a1, a2, a3, a4⟩ := wrongN_zero h1
  refine putK_ok.2 ⟨a2, ?_, ?_⟩
  · rw [lookE_map]
    unfold NdG.L at h2
    rw [findI_map] at h2
    simpa using h2
  · rw [List.length_map]
    unfold NdG.L at h3
    rw [List.length_map] at h3
    omega
theorem NdX.took (h : NdX w nd X lo rooms g) {p v c : Int} {k : Con} {i : Nat} {r : Int} {pp : Nat} {Y : Nat → Prop} (hi : rooms[i]? = some r) (hp : p = (i : Int)) (hc : chkN rooms g.L p v c k = 0) (hT : Step (fiveF nd g i) w w1)
    (hnd : Own w1 nd #[.slice g.la rooms.length g.lc, .pointer (some ⟨g.tb, 0, none⟩), .map (some g.cm), .int .i64 ((g.next + 1 : Nat) : Int)] 54)
    (htb : Tb w1 g.tb 64 (putE (g.ci.map Ci.ent) 64 p v c (g.next : Nat))) (hld : Ld w1 (g.lg i) (g.lm i) r (usdL g.L i + needC k) (putM (g.N i) (g.next : Nat) (needC k))) (hcm : MapL w1 g.cm ei uc (putM g.M (g.next : Nat) (k, pp)))
    (hpl : Pl w1 pp Y (alwaysC k) (rulesC k)) (hY : ∀ q, Y q → w.heap.size ≤ q) (hlo : lo ≤ w.heap.size) :
    NdX w1 nd (fun q => X q ∨ Y q) lo rooms { g with ci := insI g.ci ⟨⟨p, v, c, k, rulesC k⟩, (g.next : Nat), pp, Y⟩, N := fun j => if j = i then putM (g.N i) (g.next : Nat) (needC k) else g.N j, M := putM g.M (g.next : Nat) (k, pp), next := g.next + 1 } := by
  have hil := (List.getElem?_eq_some_iff.1 hi).1
  obtain ⟨r1, r2, r3⟩ := h.rest hil hT
  have hL : ({ g with ci := insI g.ci ⟨⟨p, v, c, k, rulesC k⟩, (g.next : Nat), pp, Y⟩, N := fun j => if j = i then putM (g.N i) (g.next : Nat) (needC k) else g.N j, M := putM g.M (g.next : Nat) (k, pp), next := g.next + 1 } : NdG).L = insC g.L ⟨p, v, c, k, rulesC k⟩ := insI_x _ _
  have hpz := putK_zero h hc
  have hnew : ∀ y ∈ g.ci, y.id ≠ ((g.next : Nat) : Int) := fun y hy e => by have := (h.idlt y hy).2; omega
  have hty := h.typed hil hT (tyO_own hnd) (tyO_tb htb) (tyO_map hcm) (tyO_own hld.own) (tyO_map hld.map)
  have hYX : ∀ q, Y q → ¬ X q := fun q hq hx => by have := h.lt hx; have := hY q hq; omega
  refine { own := hnd, links := fun h0 => ?_, led := fun j r' hj => ?_, ledX := fun j hj => ⟨.inl (h.ledX j hj).1, .inl (h.ledX j hj).2⟩, lgi := h.lgi, lmi := h.lmi, lmc := h.lmc, tab := ?_, cmap := hcm, pol := fun y hy => ?_, polX := fun y hy q hq => ?_, apart := fun y hy z hz hne q hq => ?_, ids := fun y hy z hz he => ?_, idlt := fun y hy => ?_, need := fun j hj y hy he => ?_, nlt := fun j hj id n hn => ?_, li := ?_, inX := ⟨.inl h.inX.1, .inl h.inX.2.1, .inl h.inX.2.2⟩, ty := fun q hq => ?_, lo := fun q hq => ?_ }
  · obtain ⟨a, b, c'⟩ := r1 h0; exact ⟨a, b, .inl c'⟩
  · rw [hL, usdL_ins]
    by_cases e : j = i
    · subst e
      rw [hi] at hj
      simp only [Option.some.injEq] at hj
      subst hj
      simp only [if_true, hp]
      exact hld
    · have := r2 j r' e hj
      simp only [e, if_false, hp]
      rw [if_neg (by omega), Int.add_zero]
      exact this
  · simp only [insI_ent]
    have hh := htb
    unfold putE at hh
    rw [if_pos hpz] at hh
    exact hh
  · have my := mem_insI.1 hy; clear hy; rcases my with rfl | hy
    · exact ⟨by rw [getM_put, if_pos rfl], hpl⟩
    · refine ⟨?_, r3 y hy⟩
      rw [getM_put, if_neg (fun e => hnew y hy e.symm)]
      exact (h.pol y hy).1
  · have my := mem_insI.1 hy; clear hy; rcases my with rfl | hy
    · exact .inr hq
    · exact .inl (h.polX y hy q hq)
  · have my := mem_insI.1 hy; clear hy; rcases my with rfl | hy
    · have mz := mem_insI.1 hz; clear hz; rcases mz with rfl | hz
      · exact absurd rfl hne
      · exact fun hz' => hYX q hq (h.polX z hz q hz')
    · have mz := mem_insI.1 hz; clear hz; rcases mz with rfl | hz
      · exact fun hz' => hYX q hz' (h.polX y hy q hq)
      · exact h.apart y hy z hz hne q hq
  · have my := mem_insI.1 hy; clear hy; rcases my with rfl | hy
    · have mz := mem_insI.1 hz; clear hz; rcases mz with rfl | hz
      · rfl
      · exact absurd he.symm (hnew z hz)
    · have mz := mem_insI.1 hz; clear hz; rcases mz with rfl | hz
      · exact absurd he (hnew y hy)
      · exact h.ids y hy z hz he
  · have my := mem_insI.1 hy; clear hy; rcases my with rfl | hy
    · simp only; omega
    · have := h.idlt y hy; simp only; omega
  · simp only
    have my := mem_insI.1 hy; clear hy; rcases my with rfl | hy
    · simp only at he ⊢
      have : j = i := by omega
      subst this
      rw [if_pos rfl, getM_put, if_pos rfl]
    · by_cases e : j = i
      · subst e
        rw [if_pos rfl, getM_put, if_neg (fun e => hnew y hy e.symm)]
        exact h.need j hj y hy he
      · rw [if_neg e]
        exact h.need j hj y hy he
  · simp only at hn ⊢
    by_cases e : j = i
    · subst e
      rw [if_pos rfl, getM_put] at hn
      split at hn
      · omega
      · have := h.nlt j hj id n hn; omega
    · rw [if_neg e] at hn
      have := h.nlt j hj id n hn; omega
  · rw [hL]
    have := h.li.take p v c k
    unfold takeN at this
    rwa [if_pos hc] at this
  · rcases hq with hq | hq
    · exact hty q hq
    · exact .of_PT (hpl.ty hq)
  · rcases hq with hq | hq
    · exact h.lo q hq
    · have := hY q hq; omega

/-- Another contract in the place of one. -/
theorem NdX.changed (h : NdX w nd X lo rooms g) {p v c : Int} {k : Con} {i : Nat} {r : Int} {pp : Nat} {Y : Nat → Prop} {y0 : Ci} (hi : rooms[i]? = some r) (hp : p = (i : Int)) (hc : chgK rooms g.L p v c k = 0) (hf : findI g.ci p v c = some y0) (hT : Step (fiveF nd g i) w w1)
    (hnd : Own w1 nd #[.slice g.la rooms.length g.lc, .pointer (some ⟨g.tb, 0, none⟩), .map (some g.cm), .int .i64 ((g.next : Nat) : Int)] 54)
    (htb : Tb w1 g.tb 64 (g.ci.map Ci.ent)) (hld : Ld w1 (g.lg i) (g.lm i) r (usdL g.L i + (needC k - needC y0.x.k)) (putM (g.N i) y0.id (needC k))) (hcm : MapL w1 g.cm ei uc (putM g.M y0.id (k, pp)))
    (hpl : Pl w1 pp Y (alwaysC k) (rulesC k)) (hY : ∀ q, Y q → w.heap.size ≤ q) (hlo : lo ≤ w.heap.size) :
    NdX w1 nd (fun q => X q ∨ Y q) lo rooms { g with ci := setI g.ci p v c (fun y => ⟨newK k y.x, y.id, pp, Y⟩), N := fun j => if j = i then putM (g.N i) y0.id (needC k) else g.N j, M := putM g.M y0.id (k, pp) } := by
  have hil := (List.getElem?_eq_some_iff.1 hi).1
  obtain ⟨r1, r2, r3⟩ := h.rest hil hT
  have hL : ({ g with ci := setI g.ci p v c (fun y => ⟨newK k y.x, y.id, pp, Y⟩), N := fun j => if j = i then putM (g.N i) y0.id (needC k) else g.N j, M := putM g.M y0.id (k, pp) } : NdG).L = setC g.L p v c (newK k) := setI_x _ _ _ _ _ _ (fun y => rfl)
  obtain ⟨b1, b2, b3, b4⟩ := findI_some hf
  have hk0 : keyX p v c y0.x = true := keyX_iff.2 ⟨b2, b3, b4⟩
  have hfC : findC g.L p v c = some y0.x := by unfold NdG.L; rw [findI_map, hf]; rfl
  have hty := h.typed hil hT (tyO_own hnd) (tyO_tb htb) (tyO_map hcm) (tyO_own hld.own) (tyO_map hld.map)
  have hYX : ∀ q, Y q → ¬ X q := fun q hq hx => by have := h.lt hx; have := hY q hq; omega
  have hone : ∀ y ∈ g.ci, keyX p v c y.x = true → y = y0 := fun y hy hk => h.key_one hy b1 hk hk0
  have hoth : ∀ y ∈ g.ci, keyX p v c y.x = false → y.id ≠ y0.id := fun y hy hk e => by
    have := h.ids y hy y0 b1 e; subst this; rw [hk] at hk0; cases hk0
  refine { own := hnd, links := fun h0 => ?_, led := fun j r' hj => ?_, ledX := fun j hj => ⟨.inl (h.ledX j hj).1, .inl (h.ledX j hj).2⟩, lgi := h.lgi, lmi := h.lmi, lmc := h.lmc, tab := ?_, cmap := hcm, pol := fun y hy => ?_, polX := fun y hy q hq => ?_, apart := fun y hy z hz hne q hq => ?_, ids := fun y hy z hz he => ?_, idlt := fun y hy => ?_, need := fun j hj y hy he => ?_, nlt := fun j hj id n hn => ?_, li := ?_, inX := ⟨.inl h.inX.1, .inl h.inX.2.1, .inl h.inX.2.2⟩, ty := fun q hq => ?_, lo := fun q hq => ?_ }
  · obtain ⟨a, b, c'⟩ := r1 h0; exact ⟨a, b, .inl c'⟩
  · rw [hL, usdL_set h.li.one _ _ _ _ (newK k) (fun x => rfl), hfC]
    by_cases e : j = i
    · subst e
      rw [hi] at hj
      simp only [Option.some.injEq] at hj
      subst hj
      simp only [if_true, newK]
      rw [if_pos (by omega)]
      exact hld
    · have := r2 j r' e hj
      simp only [e, if_false]
      rw [if_neg (by omega), Int.add_zero]
      exact this
  · simp only
    rw [setI_ent _ _ _ _ (fun y => ⟨newK k y.x, y.id, pp, Y⟩) (fun y => rfl)]
    exact htb
  · have my := mem_setI hy; clear hy; rcases my with ⟨hy, hk⟩ | ⟨z, hz, hk, rfl⟩
    · refine ⟨?_, r3 y hy⟩
      simp only
      rw [getM_put, if_neg (fun e => hoth y hy hk e.symm)]
      exact (h.pol y hy).1
    · have := hone z hz hk
      subst this
      exact ⟨by simp only; rw [getM_put, if_pos rfl]; rfl, hpl⟩
  · have my := mem_setI hy; clear hy; rcases my with ⟨hy, hk⟩ | ⟨z, hz, hk, rfl⟩
    · exact .inl (h.polX y hy q hq)
    · exact .inr hq
  · have my := mem_setI hy; clear hy; rcases my with ⟨hy, hk⟩ | ⟨y', hy', hk, rfl⟩
    · have mz := mem_setI hz; clear hz; rcases mz with ⟨hz, hk'⟩ | ⟨z', hz', hk', rfl⟩
      · exact h.apart y hy z hz hne q hq
      · exact fun hq' => hYX q hq' (h.polX y hy q hq)
    · have mz := mem_setI hz; clear hz; rcases mz with ⟨hz, hk'⟩ | ⟨z', hz', hk', rfl⟩
      · exact fun hq' => hYX q hq (h.polX z hz q hq')
      · exfalso
        rw [hone y' hy' hk, hone z' hz' hk'] at hne
        exact hne rfl
  · have my := mem_setI hy; clear hy; rcases my with ⟨hy, hk⟩ | ⟨y', hy', hk, rfl⟩
    · have mz := mem_setI hz; clear hz; rcases mz with ⟨hz, hk'⟩ | ⟨z', hz', hk', rfl⟩
      · exact h.ids y hy z hz he
      · have := hone z' hz' hk'
        subst this
        exact absurd he (hoth y hy hk)
    · have mz := mem_setI hz; clear hz; rcases mz with ⟨hz, hk'⟩ | ⟨z', hz', hk', rfl⟩
      · have := hone y' hy' hk
        subst this
        exact absurd he.symm (hoth z hz hk')
      · rw [hone y' hy' hk, hone z' hz' hk']
  · have my := mem_setI hy; clear hy; rcases my with ⟨hy, hk⟩ | ⟨y', hy', hk, rfl⟩
    · exact h.idlt y hy
    · exact h.idlt y' hy'
  · simp only
    have my := mem_setI hy; clear hy; rcases my with ⟨hy, hk⟩ | ⟨y', hy', hk, rfl⟩
    · by_cases e : j = i
      · subst e
        rw [if_pos rfl, getM_put, if_neg (fun e => hoth y hy hk e.symm)]
        exact h.need j hj y hy he
      · rw [if_neg e]
        exact h.need j hj y hy he
    · have := hone y' hy' hk
      subst this
      simp only [newK] at he ⊢
      have : j = i := by omega
      subst this
      rw [if_pos rfl, getM_put, if_pos rfl]
  · simp only at hn ⊢
    by_cases e : j = i
    · subst e
      rw [if_pos rfl, getM_put] at hn
      split at hn
      · rename_i e2
        have := h.idlt y0 b1; omega
      · exact h.nlt j hj id n hn
    · rw [if_neg e] at hn
      exact h.nlt j hj id n hn
  · rw [hL]
    have := h.li.change p v c k
    unfold chgN at this
    rwa [if_pos hc] at this
  · rcases hq with hq | hq
    · exact hty q hq
    · exact .of_PT (hpl.ty hq)
  · rcases hq with hq | hq
    · exact h.lo q hq
    · have := hY q hq; omega

/-- One is gone. -/
theorem NdX.dropped (h : NdX w nd X lo rooms g) {p v c : Int} {i : Nat} {r : Int} {y0 : Ci} (hi : rooms[i]? = some r) (hp : p = (i : Int)) (hf : findI g.ci p v c = some y0) (hT : Step (fiveF nd g i) w w1)
    (hnd : Own w1 nd #[.slice g.la rooms.length g.lc, .pointer (some ⟨g.tb, 0, none⟩), .map (some g.cm), .int .i64 ((g.next : Nat) : Int)] 54)
    (htb : Tb w1 g.tb 64 (delE (g.ci.map Ci.ent) p v c)) (hld : Ld w1 (g.lg i) (g.lm i) r (usdL g.L i - needC y0.x.k) (delM (g.N i) y0.id)) (hcm : MapL w1 g.cm ei uc (delM g.M y0.id)) :
    NdX w1 nd X lo rooms { g with ci := delI g.ci p v c, N := fun j => if j = i then delM (g.N i) y0.id else g.N j, M := delM g.M y0.id } := by
  have hil := (List.getElem?_eq_some_iff.1 hi).1
  obtain ⟨r1, r2, r3⟩ := h.rest hil hT
  have hL : ({ g with ci := delI g.ci p v c, N := fun j => if j = i then delM (g.N i) y0.id else g.N j, M := delM g.M y0.id } : NdG).L = delC g.L p v c := delI_x _ _ _ _
  obtain ⟨b1, b2, b3, b4⟩ := findI_some hf
  have hk0 : keyX p v c y0.x = true := keyX_iff.2 ⟨b2, b3, b4⟩
  have hfC : findC g.L p v c = some y0.x := by unfold NdG.L; rw [findI_map, hf]; rfl
  have hty := h.typed hil hT (tyO_own hnd) (tyO_tb htb) (tyO_map hcm) (tyO_own hld.own) (tyO_map hld.map)
  have hmem : ∀ y ∈ delI g.ci p v c, y ∈ g.ci ∧ keyX p v c y.x = false := fun y hy => by
    have := List.mem_filter.1 hy
    exact ⟨this.1, by simpa using this.2⟩
  have hoth : ∀ y ∈ g.ci, keyX p v c y.x = false → y.id ≠ y0.id := fun y hy hk e => by
    have := h.ids y hy y0 b1 e; subst this; rw [hk] at hk0; cases hk0
  obtain ⟨r', hr', hl'⟩ := h.room hil
  have hkeys := hl'.map.keys
  have hkm := h.cmap.keys
  refine { own := hnd, links := r1, led := fun j r' hj => ?_, ledX := h.ledX, lgi := h.lgi, lmi := h.lmi, lmc := h.lmc, tab := ?_, cmap := hcm, pol := fun y hy => ?_, polX := fun y hy q hq => h.polX y (hmem y hy).1 q hq, apart := fun y hy z hz hne q hq => h.apart y (hmem y hy).1 z (hmem z hz).1 hne q hq, ids := fun y hy z hz he => h.ids y (hmem y hy).1 z (hmem z hz).1 he, idlt := fun y hy => h.idlt y (hmem y hy).1, need := fun j hj y hy he => ?_, nlt := fun j hj id n hn => ?_, li := ?_, inX := h.inX, ty := hty, lo := h.lo }
  · rw [hL, usdL_del h.li.one, hfC]
    by_cases e : j = i
    · subst e
      rw [hi] at hj
      simp only [Option.some.injEq] at hj
      subst hj
      simp only [if_true]
      rw [if_pos (by omega)]
      exact hld
    · have := r2 j r' e hj
      simp only [e, if_false]
      rw [if_neg (by omega), Int.sub_zero]
      exact this
  · simp only
    rw [delI_ent]
    exact htb
  · obtain ⟨hy1, hy2⟩ := hmem y hy
    refine ⟨?_, r3 y hy1⟩
    simp only
    rw [getM_del hkm, if_neg (fun e => hoth y hy1 hy2 e.symm)]
    exact (h.pol y hy1).1
  · obtain ⟨hy1, hy2⟩ := hmem y hy
    simp only
    by_cases e : j = i
    · subst e
      rw [if_pos rfl, getM_del hkeys, if_neg (fun e => hoth y hy1 hy2 e.symm)]
      exact h.need j hj y hy1 he
    · rw [if_neg e]
      exact h.need j hj y hy1 he
  · simp only at hn ⊢
    by_cases e : j = i
    · subst e
      rw [if_pos rfl, getM_del hkeys] at hn
      split at hn
      · cases hn
      · exact h.nlt j hj id n hn
    · rw [if_neg e] at hn
      exact h.nlt j hj id n hn
  · rw [hL]; exact h.li.drop p v c

/-- A cell of one was policed. -/
theorem NdX.judged (h : NdX w nd X lo rooms g) {p v c t clp : Int} {y0 : Ci} (hf : findI g.ci p v c = some y0) (hT : Step y0.Y w w1) (hpl : Pl w1 y0.pp y0.Y (alwaysC y0.x.k) (rulesT t clp y0.x.rs)) :
    NdX w1 nd X lo rooms { g with ci := setI g.ci p v c (fun y => ⟨newR t clp y.x, y.id, y.pp, y.Y⟩) } := by
  have hL : ({ g with ci := setI g.ci p v c (fun y => ⟨newR t clp y.x, y.id, y.pp, y.Y⟩) } : NdG).L = setC g.L p v c (newR t clp) := setI_x _ _ _ _ _ _ (fun y => rfl)
  obtain ⟨b1, b2, b3, b4⟩ := findI_some hf
  have hk0 : keyX p v c y0.x = true := keyX_iff.2 ⟨b2, b3, b4⟩
  have hone : ∀ y ∈ g.ci, keyX p v c y.x = true → y = y0 := fun y hy hk => h.key_one hy b1 hk hk0
  have hoth : ∀ y ∈ g.ci, keyX p v c y.x = false → y.id ≠ y0.id := fun y hy hk e => by
    have := h.ids y hy y0 b1 e; subst this; rw [hk] at hk0; cases hk0
  have no : ∀ q, tyO w q ≠ 103 + 2 → tyO w q ≠ 98 + 2 → tyO w q ≠ 127 + 2 → ¬ y0.Y q := fun q h1 h2 h3 hq => by
    have := h.t_pol b1 hq; omega
  have src : ∀ y ∈ setI g.ci p v c (fun y => ⟨newR t clp y.x, y.id, y.pp, y.Y⟩), ∃ z ∈ g.ci, z.id = y.id ∧ z.pp = y.pp ∧ z.Y = y.Y ∧ z.x.p = y.x.p ∧ z.x.k = y.x.k := fun y hy => by
    have my := mem_setI hy; clear hy; rcases my with ⟨hy, hk⟩ | ⟨z, hz, hk, rfl⟩
    · exact ⟨y, hy, rfl, rfl, rfl, rfl, rfl⟩
    · exact ⟨z, hz, rfl, rfl, rfl, rfl, rfl⟩
  have t1 := h.t_nd
  have t2 := h.t_tb
  have t3 := h.t_cm
  refine { own := h.own.step hT (no _ (by omega) (by omega) (by omega)), links := fun h0 => ?_, led := fun j r' hj => ?_, ledX := h.ledX, lgi := h.lgi, lmi := h.lmi, lmc := h.lmc, tab := ?_, cmap := h.cmap.step hT (no _ (by omega) (by omega) (by omega)), pol := fun y hy => ?_, polX := fun y hy q hq => ?_, apart := fun y hy z hz hne q hq => ?_, ids := fun y hy z hz he => ?_, idlt := fun y hy => ?_, need := fun j hj y hy he => ?_, nlt := h.nlt, li := ?_, inX := h.inX, ty := fun q hq => ?_, lo := h.lo }
  · obtain ⟨a, b, c'⟩ := h.links h0
    have t6 := h.t_lb h0
    exact ⟨a, b.step hT (no _ (by omega) (by omega) (by omega)), c'⟩
  · have hl := (List.getElem?_eq_some_iff.1 hj).1
    have t6 := h.t_lg hl
    have t7 := h.t_lm hl
    rw [hL, usdL_same _ _ _ _ (newR t clp) (fun x => ⟨rfl, rfl⟩)]
    exact (h.led j r' hj).step hT (no _ (by omega) (by omega) (by omega)) (no _ (by omega) (by omega) (by omega))
  · simp only
    rw [setI_ent _ _ _ _ (fun y => ⟨newR t clp y.x, y.id, y.pp, y.Y⟩) (fun y => rfl)]
    exact h.tab.step hT (no _ (by omega) (by omega) (by omega))
  · have my := mem_setI hy; clear hy; rcases my with ⟨hy, hk⟩ | ⟨z, hz, hk, rfl⟩
    · exact ⟨(h.pol y hy).1, (h.pol y hy).2.step hT (fun q hq => h.apart y hy y0 b1 (hoth y hy hk) q hq)⟩
    · have := hone z hz hk
      subst this
      exact ⟨(h.pol z hz).1, hpl⟩
  · obtain ⟨z, hz, e1, e2, e3, e4, e5⟩ := src y hy
    exact h.polX z hz q (by rw [e3]; exact hq)
  · obtain ⟨y', hy', e1, e2, e3, e4, e5⟩ := src y hy
    obtain ⟨z', hz', f1, f2, f3, f4, f5⟩ := src z hz
    have := h.apart y' hy' z' hz' (by rw [e1, f1]; exact hne) q (by rw [e3]; exact hq)
    rwa [f3] at this
  · have my := mem_setI hy; clear hy; rcases my with ⟨hy, hk⟩ | ⟨y', hy', hk, rfl⟩
    · have mz := mem_setI hz; clear hz; rcases mz with ⟨hz, hk'⟩ | ⟨z', hz', hk', rfl⟩
      · exact h.ids y hy z hz he
      · have := hone z' hz' hk'
        subst this
        exact absurd he (hoth y hy hk)
    · have mz := mem_setI hz; clear hz; rcases mz with ⟨hz, hk'⟩ | ⟨z', hz', hk', rfl⟩
      · have := hone y' hy' hk
        subst this
        exact absurd he.symm (hoth z hz hk')
      · rw [hone y' hy' hk, hone z' hz' hk']
  · obtain ⟨z, hz, e1, e2, e3, e4, e5⟩ := src y hy
    have := h.idlt z hz
    rwa [e1] at this
  · obtain ⟨z, hz, e1, e2, e3, e4, e5⟩ := src y hy
    have := h.need j hj z hz (by rw [e4]; exact he)
    rwa [e1, e5] at this
  · rw [hL]; exact h.li.verdict p v c t clp
  · by_cases e : y0.Y q
    · exact .of_PT (hpl.ty e)
    · exact (h.ty q hq).step hT e
end
end Go.Proofs.Ythchmlidobgkoaa
end

section
/- Layer 20: what the walks of a node's functions need. -/
set_option linter.unusedVariables false
set_option linter.unusedSimpArgs false
namespace Go.Proofs.Ythchmlidobgkoaa
open Go.Vc Go.RowKit
section
variable {w w1 : World} {F : Nat → Prop} {nd lo : Nat} {X : Nat → Prop} {rooms : List Int} {g : NdG}
theorem NdX.five (h : NdX w nd X lo rooms g) {i : Nat} (hi : i < rooms.length) : nd ≠ g.tb ∧ nd ≠ g.cm ∧ nd ≠ g.lg i ∧ nd ≠ g.lm i ∧ g.tb ≠ g.cm ∧ g.tb ≠ g.lg i ∧ g.tb ≠ g.lm i ∧ g.cm ≠ g.lg i ∧ g.cm ≠ g.lm i ∧ g.lg i ≠ g.lm i := by
  have t1 := h.t_nd
  have t2 := h.t_tb
  have t3 := h.t_cm
  have t4 := h.t_lg hi
  have t5 := h.t_lm hi
  refine ⟨?_, ?_, ?_, ?_, ?_, ?_, ?_, ?_, fun e => h.lmc i hi e.symm, ?_⟩ <;> intro e
  · rw [e] at t1; omega
  · rw [e] at t1; omega
  · rw [e] at t1; omega
  · rw [e] at t1; omega
  · rw [e] at t2; omega
  · rw [e] at t2; omega
  · rw [e] at t2; omega
  · rw [e] at t3; omega
  · rw [e] at t4; omega
theorem fiveF_X (h : NdX w nd X lo rooms g) {i : Nat} (hi : i < rooms.length) : ∀ k, fiveF nd g i k → X k := by
  rintro k (rfl | rfl | rfl | rfl | rfl)
  · exact h.inX.1
  · exact h.inX.2.1
  · exact h.inX.2.2
  · exact (h.ledX i hi).1
  · exact (h.ledX i hi).2
theorem stepG_no {i : Nat} {w2 : World} (h : Step (fiveF nd g i) w w1) (k : Step No w1 w2) : Step (fiveF nd g i) w w2 := Step.trans h k.weak
theorem NdX.row (h : NdX w nd X lo rooms g) {i : Nat} (hi : i < rooms.length) : ((List.range rooms.length).map g.lg)[i]? = some (g.lg i) := by simp [hi]
theorem lgc_len (a : Nat) : (lgc a).length = 1 := rfl
theorem lgc_one (a : Nat) : ∀ u ∈ lgc a, oneC u = true := by intro u hu; simp only [lgc, List.mem_singleton] at hu; subst hu; rfl
/-- A node with so many connections; so many numbers were given at most. -/
def NdP (w : World) (nd : Nat) (X : Nat → Prop) (lo : Nat) (rooms : List Int) (L : List Cx) (n : Nat) : Prop := ∃ g, NdX w nd X lo rooms g ∧ g.L = L ∧ g.next ≤ n
theorem wrong_out {rooms : List Int} {p v c : Int} {k : Con} (h : ¬ (0 ≤ p ∧ p < rooms.length)) : 3 = wrongN rooms p v c k := by unfold wrongN; rw [if_neg (fun e => h e.1)]
theorem wrong_r {rooms : List Int} {p v c : Int} {k : Con} (h : rightB p v c = false) : 3 = wrongN rooms p v c k := by unfold wrongN; rw [if_neg (fun e => by rw [e.2.1] at h; cases h)]
theorem wrong_c {rooms : List Int} {p v c : Int} {k : Con} (h : c < 32) : 3 = wrongN rooms p v c k := by unfold wrongN; rw [if_neg (fun e => by have := e.2.2; omega)]
theorem wrong_k {rooms : List Int} {p v c : Int} {k : Con} {i : Nat} (hp : p = (i : Int)) (hi : i < rooms.length) (h1 : rightB p v c = true) (h2 : ¬ c < 32) (h3 : ¬ rightC k = 0) : 73 = wrongN rooms p v c k := by unfold wrongN; rw [if_pos ⟨⟨by omega, by omega⟩, h1, by omega⟩, if_neg h3]
theorem wrong_0 {rooms : List Int} {p v c : Int} {k : Con} {i : Nat} (hp : p = (i : Int)) (hi : i < rooms.length) (h1 : rightB p v c = true) (h2 : ¬ c < 32) (h3 : rightC k = 0) : 0 = wrongN rooms p v c k := by unfold wrongN; rw [if_pos ⟨⟨by omega, by omega⟩, h1, by omega⟩, if_pos h3]
theorem chk_w {rooms : List Int} {L : List Cx} {p v c : Int} {k : Con} (h : ¬ wrongN rooms p v c k = 0) : wrongN rooms p v c k = chkN rooms L p v c k := by unfold chkN; rw [if_neg h]
theorem chk_35 {rooms : List Int} {p v c : Int} {k : Con} (h : wrongN rooms p v c k = 0) (h1 : (lookE (g.ci.map Ci.ent) p v c).isSome = true) : 35 = chkN rooms g.L p v c k := by unfold chkN; rw [if_pos h, if_pos (by rw [← lookE_isSome]; exact h1)]
theorem chk_47 {rooms : List Int} {p v c : Int} {k : Con} (h : wrongN rooms p v c k = 0) (h1 : (lookE (g.ci.map Ci.ent) p v c).isSome = false) (h2 : (((g.ci.map Ci.ent).length : Nat) : Int) ≥ 64) : 47 = chkN rooms g.L p v c k := by
  unfold chkN; rw [if_pos h, if_neg (by rw [← lookE_isSome, h1]; decide), if_pos (by unfold NdG.L; simp only [List.length_map] at h2 ⊢; omega)]
theorem left_at {rooms : List Int} {L : List Cx} {p : Int} {i : Nat} {r : Int} (hp : p = (i : Int)) (hi : rooms[i]? = some r) : leftN rooms L p = r - usdL L (i : Int) := by rw [hp]; exact leftN_at hi
theorem chk_37 {rooms : List Int} {p v c : Int} {k : Con} {i : Nat} {r : Int} (hp : p = (i : Int)) (hi : rooms[i]? = some r) (h : wrongN rooms p v c k = 0) (h1 : (lookE (g.ci.map Ci.ent) p v c).isSome = false) (h2 : ¬ (((g.ci.map Ci.ent).length : Nat) : Int) ≥ 64) (h3 : needC k > r - usdL g.L (i : Int)) : 37 = chkN rooms g.L p v c k := by
  unfold chkN; rw [if_pos h, if_neg (by rw [← lookE_isSome, h1]; decide), if_neg (by unfold NdG.L; simp only [List.length_map] at h2 ⊢; omega), if_pos (by rw [left_at hp hi]; exact h3)]
theorem chk_0 {rooms : List Int} {p v c : Int} {k : Con} {i : Nat} {r : Int} (hp : p = (i : Int)) (hi : rooms[i]? = some r) (h : wrongN rooms p v c k = 0) (h1 : (lookE (g.ci.map Ci.ent) p v c).isSome = false) (h2 : ¬ (((g.ci.map Ci.ent).length : Nat) : Int) ≥ 64) (h3 : ¬ needC k > r - usdL g.L (i : Int)) : 0 = chkN rooms g.L p v c k := by
  unfold chkN; rw [if_pos h, if_neg (by rw [← lookE_isSome, h1]; decide), if_neg (by unfold NdG.L; simp only [List.length_map] at h2 ⊢; omega), if_neg (by rw [left_at hp hi]; exact h3)]
theorem chg_w {rooms : List Int} {L : List Cx} {p v c : Int} {k : Con} (h : ¬ wrongN rooms p v c k = 0) : wrongN rooms p v c k = chgK rooms L p v c k := by unfold chgK; rw [if_neg h]
theorem chg_81 {rooms : List Int} {p v c : Int} {k : Con} (h : wrongN rooms p v c k = 0) (h1 : (lookE (g.ci.map Ci.ent) p v c).isSome = false) : 81 = chgK rooms g.L p v c k := by
  unfold chgK; rw [if_pos h]
  rw [lookE_isSome] at h1
  cases e : findC g.L p v c with
  | none => rfl
  | some x => rw [e] at h1; cases h1
/-- What lies at a key that is there. -/
theorem NdX.there (h : NdX w nd X lo rooms g) {p v c : Int} (h1 : (lookE (g.ci.map Ci.ent) p v c).isSome = true) : ∃ (y : Ci) (i : Nat) (r : Int), findI g.ci p v c = some y ∧ y ∈ g.ci ∧ lookE (g.ci.map Ci.ent) p v c = some y.id ∧ p = (i : Int) ∧ i < rooms.length ∧ rooms[i]? = some r ∧ Ld w (g.lg i) (g.lm i) r (usdL g.L i) (g.N i) ∧ getM (g.N i) y.id = some (needC y.x.k) ∧ getM g.M y.id = some (y.x.k, y.pp) ∧ Pl w y.pp y.Y (alwaysC y.x.k) y.x.rs ∧ findC g.L p v c = some y.x ∧ 0 ≤ usdL g.L i ∧ usdL g.L i ≤ r ∧ r ≤ 1152921504606846976 ∧ needC y.x.k ≤ usdL g.L i := by
  rw [lookE_map] at h1
  cases e : findI g.ci p v c with
  | none => rw [e] at h1; cases h1
  | some y =>
    obtain ⟨b1, b2, b3, b4⟩ := findI_some e
    have hx : y.x ∈ g.L := List.mem_map_of_mem b1
    obtain ⟨k1, k2, k3, k4⟩ := h.li.key y.x hx
    obtain ⟨i, r, e1, e2, e3⟩ := port_nat k1
    have hp : p = (i : Int) := by omega
    refine ⟨y, i, r, rfl, b1, by rw [lookE_map, e]; rfl, hp, e2, e3, h.led i r e3, h.need i e2 y b1 (by omega), (h.pol y b1).1, (h.pol y b1).2, by unfold NdG.L; rw [findI_map, e]; rfl, usdL_nonneg _ _, h.li.fit i r e3, (h.li.rooms r (List.mem_of_getElem? e3)).2, ?_⟩
    have := usdL_mem hx
    rw [e1] at this
    exact this
theorem NdX.gone (h : NdX w nd X lo rooms g) {p v c : Int} (h1 : (lookE (g.ci.map Ci.ent) p v c).isSome = false) : findC g.L p v c = none := by
  rw [lookE_isSome] at h1
  cases e : findC g.L p v c with
  | none => rfl
  | some x => rw [e] at h1; cases h1
theorem setC_none {L : List Cx} {p v c : Int} {f : Cx → Cx} (h : findC L p v c = none) : setC L p v c f = L := by
  unfold setC
  conv => rhs; rw [← List.map_id L]
  apply List.map_congr_left
  intro x hx
  rw [if_neg (fun e => findC_none.1 h x hx (keyX_iff.1 e))]; rfl
theorem delC_none {L : List Cx} {p v c : Int} (h : findC L p v c = none) : delC L p v c = L := by
  unfold delC
  refine List.filter_eq_self.2 fun x hx => ?_
  cases e : keyX p v c x with
  | true => exact absurd (keyX_iff.1 e) (findC_none.1 h x hx)
  | false => rfl
end
end Go.Proofs.Ythchmlidobgkoaa
end

section
/- Layer 20: a node is asked, turned. -/
set_option linter.unusedVariables false
set_option linter.unusedSimpArgs false
namespace Go.Proofs.Ythchmlidobgkoaa
open Go.Vc Go.RowKit

set_option maxRecDepth 100000 in
set_option maxHeartbeats 4000000 in
theorem link_raw (nd : Nat) (rooms : List Int) (g : NdG) (x1 x2 x3 : Value) (p : Int) (i : Nat) (hp : p = (i : Int)) (hi : i < rooms.length) (w : World) (hnd : Own w nd #[.slice (some ⟨g.lb, 0, none⟩) rooms.length g.lc, x1, x2, x3] 54) (hrw : RowE w g.lb 55 (flat lgc ((List.range rooms.length).map g.lg))) :
  CV Try.prog 23 #[.pointer (some ⟨nd, 0, none⟩), .int .i64 p] w (fun x w1 => x = .pointer (some ⟨g.lg i, 0, none⟩) ∧ Step No w w1) := by
 have hS : Step No w w := Step.refl _ _
 have hrow := hrw.sl
 have hgi : ((List.range rooms.length).map g.lg)[i]? = some (g.lg i) := by simp [hi]
 refine CV_enter Try.f23 _ 27 [(0, .pointer (some ⟨nd, 0, none⟩)), (1, .int .i64 p)] Try.func23 rfl rfl (by kernel_rfl) rfl ?_
 refine VC_seq ?_
 refine VC_region ?_
 refine VL_pure 1 [0, 1] [(0, .pointer (some ⟨nd, 0, none⟩)), (1, .int .i64 p)] (by kernel_rfl) rfl ?_
 refine VL_end (by kernel_rfl) ?_
 refine VQ_next ?_
 refine VC_seq ?_
 refine VC_seq ?_
 refine VC_region ?_
 refine VL_pure 7 [0, 1, 11] [(0, .pointer (some ⟨nd, 0, none⟩)), (1, .int .i64 p), (11, .bool (decide (p < 0)))] (by kernel_rfl) rfl ?_
 refine VL_known (decide (p < 0)) (fun bV => [(0, .pointer (some ⟨nd, 0, none⟩)), (1, .int .i64 p), (11, .bool bV)]) false rfl (decide_eq_false (by omega)) ?_
 refine VL_pure 11 [0, 1, 11, 12, 15] [(0, .pointer (some ⟨nd, 0, none⟩)), (1, .int .i64 p), (11, .bool false), (12, .int .i64 p), (15, .pointer (some ⟨nd, 0, none⟩))] (by kernel_rfl) rfl ?_
 refine VL_load (d := 16) (t := 52) (a := ⟨nd, 0, none⟩) (v := .slice (some ⟨g.lb, 0, none⟩) rooms.length g.lc) (by kernel_rfl) (by kernel_rfl) (Loads.own1 hnd (by kernel_rfl) (by rfl)) ?_
 refine VL_pure 15 [0, 1, 19] [(0, .pointer (some ⟨nd, 0, none⟩)), (1, .int .i64 p), (19, .bool (decide (p ≥ ((rooms.length : Nat) : Int))))] (by kernel_rfl) rfl ?_
 refine VL_end (by kernel_rfl) ?_
 refine VQ_next ?_
 refine VC_is (b := decide (p ≥ ((rooms.length : Nat) : Int))) false (by kernel_rfl) (decide_eq_false (by omega)) ?_
 refine VC_ite_false ?_
 refine VC_skip ?_
 refine VQ_next ?_
 refine VC_seq ?_
 refine VC_region ?_
 refine VL_pure 3 [1, 22] [(1, .int .i64 p), (22, .pointer (some ⟨nd, 0, none⟩))] (by kernel_rfl) rfl ?_
 refine VL_load (d := 23) (t := 52) (a := ⟨nd, 0, none⟩) (v := .slice (some ⟨g.lb, 0, none⟩) rooms.length g.lc) (by kernel_rfl) (by kernel_rfl) (Loads.own1 hnd (by kernel_rfl) (by rfl)) ?_
 refine VL_pure 5 [23, 24] [(23, .slice (some ⟨g.lb, 0, none⟩) rooms.length g.lc), (24, .int .i64 p)] (by kernel_rfl) rfl ?_
 refine VL_index (d := 25) (b := g.lb) (o := 0) (len := rooms.length) (sz := 1) (m := p) (by kernel_rfl) (by kernel_rfl) i hp (by omega) i (by omega) ?_
 refine VL_load (d := 26) (t := 55) (a := ⟨g.lb, i, none⟩) (v := .pointer (some ⟨(g.lg i), 0, none⟩)) (by kernel_rfl) (by kernel_rfl) (Sl.flatOne (sz := 1) (Sl2.sl hrow) lgc_len hgi 0 (by rfl) (by decide) (by kernel_rfl) _ (by first | rfl | omega)) ?_
 refine VL_pure 8 [4] [(4, .pointer (some ⟨(g.lg i), 0, none⟩))] (by kernel_rfl) rfl ?_
 refine VL_end (by kernel_rfl) ?_
 refine VQ_next ?_
 refine VC_ret ?_
 refine VQ_ret1 (.pointer (some ⟨(g.lg i), 0, none⟩)) (.inr rfl) rfl rfl ?_
 exact ⟨rfl, hS⟩

theorem link_in (nd lo : Nat) (X : Nat → Prop) (rooms : List Int) (g : NdG) (p : Int) (i : Nat) (hp : p = (i : Int)) (hi : i < rooms.length) (w : World) (h : NdX w nd X lo rooms g) : CV Try.prog 23 #[.pointer (some ⟨nd, 0, none⟩), .int .i64 p] w fun x w1 => x = .pointer (some ⟨g.lg i, 0, none⟩) ∧ Step No w w1 := by
  obtain ⟨hla, hrw, _⟩ := h.links (by omega)
  have hnd := h.own
  rw [hla] at hnd
  exact link_raw nd rooms g _ _ _ p i hp hi w hnd hrw
set_option maxRecDepth 100000 in
set_option maxHeartbeats 4000000 in
theorem link_out (nd lo : Nat) (X : Nat → Prop) (rooms : List Int) (g : NdG) (p : Int) (hp : ¬ (0 ≤ p ∧ p < rooms.length)) (w : World) (h : NdX w nd X lo rooms g)  :
  CV Try.prog 23 #[.pointer (some ⟨nd, 0, none⟩), .int .i64 p] w (fun x w1 => x = .pointer none ∧ Step No w w1) := by
 have hS : Step No w w := Step.refl _ _
 have hnd := h.own
 refine CV_enter Try.f23 _ 27 [(0, .pointer (some ⟨nd, 0, none⟩)), (1, .int .i64 p)] Try.func23 rfl rfl (by kernel_rfl) rfl ?_
 refine VC_seq ?_
 refine VC_region ?_
 refine VL_pure 1 [0, 1] [(0, .pointer (some ⟨nd, 0, none⟩)), (1, .int .i64 p)] (by kernel_rfl) rfl ?_
 refine VL_end (by kernel_rfl) ?_
 refine VQ_next ?_
 refine VC_seq ?_
 refine VC_seq ?_
 refine VC_region ?_
 refine VL_pure 7 [0, 1, 11] [(0, .pointer (some ⟨nd, 0, none⟩)), (1, .int .i64 p), (11, .bool (decide (p < 0)))] (by kernel_rfl) rfl ?_
 refine VL_dec (p < 0) (fun bV => [(0, .pointer (some ⟨nd, 0, none⟩)), (1, .int .i64 p), (11, .bool bV)]) rfl (fun hg1 => ?_) (fun hg1 => ?_)
 ·refine VL_pure 15 [0, 1, 19] [(0, .pointer (some ⟨nd, 0, none⟩)), (1, .int .i64 p), (19, .bool true)] (by kernel_rfl) rfl ?_
  refine VL_end (by kernel_rfl) ?_
  refine VQ_next ?_
  refine VC_true (by kernel_rfl) ?_
  refine VC_seq ?_
  refine VC_region ?_
  refine VL_pure 1 [4] [(4, .pointer none)] (by kernel_rfl) rfl ?_
  refine VL_end (by kernel_rfl) ?_
  refine VQ_next ?_
  refine VC_ret ?_
  refine VQ_then_ret ?_
  refine VQ_ret1 (.pointer none) (.inr rfl) rfl rfl ?_
  exact ⟨rfl, hS⟩
 ·refine VL_pure 11 [0, 1, 11, 12, 15] [(0, .pointer (some ⟨nd, 0, none⟩)), (1, .int .i64 p), (11, .bool false), (12, .int .i64 p), (15, .pointer (some ⟨nd, 0, none⟩))] (by kernel_rfl) rfl ?_
  refine VL_load (d := 16) (t := 52) (a := ⟨nd, 0, none⟩) (v := .slice g.la rooms.length g.lc) (by kernel_rfl) (by kernel_rfl) (Loads.own1 hnd (by kernel_rfl) (by rfl)) ?_
  refine VL_pure 15 [0, 1, 19] [(0, .pointer (some ⟨nd, 0, none⟩)), (1, .int .i64 p), (19, .bool (decide (p ≥ ((rooms.length : Nat) : Int))))] (by kernel_rfl) rfl ?_
  refine VL_end (by kernel_rfl) ?_
  refine VQ_next ?_
  refine VC_is (b := decide (p ≥ ((rooms.length : Nat) : Int))) true (by kernel_rfl) (decide_eq_true (by omega)) ?_
  refine VC_ite_true ?_
  refine VC_seq ?_
  refine VC_region ?_
  refine VL_pure 1 [4] [(4, .pointer none)] (by kernel_rfl) rfl ?_
  refine VL_end (by kernel_rfl) ?_
  refine VQ_next ?_
  refine VC_ret ?_
  refine VQ_then_ret ?_
  refine VQ_ret1 (.pointer none) (.inr rfl) rfl rfl ?_
  exact ⟨rfl, hS⟩

set_option maxRecDepth 100000 in
set_option maxHeartbeats 4000000 in
theorem wrong_in (nd lo : Nat) (X : Nat → Prop) (rooms : List Int) (g : NdG) (p v c : Int) (k : Con) (i : Nat) (hp : p = (i : Int)) (hil : i < rooms.length) (w : World) (h : NdX w nd X lo rooms g)  :
  CV Try.prog 35 #[.pointer (some ⟨nd, 0, none⟩), .agg #[.int .i64 p, .int .i64 v, .int .i64 c], .agg #[.int .i64 k.kind, .int .i64 k.peak, .int .i64 k.early, .int .i64 k.whole, .int .i64 k.burst, .int .i64 k.least]] w (fun x w1 => x = .int .i64 (wrongN rooms p v c k) ∧ Step No w w1) := by
 have hS : Step No w w := Step.refl _ _
 have hSn : Step No w w := Step.refl _ _
 have hnd := h.own
 have htab := h.tab
 refine CV_enter Try.f35 _ 27 [(0, .pointer (some ⟨nd, 0, none⟩)), (1, .agg #[.int .i64 p, .int .i64 v, .int .i64 c]), (2, .agg #[.int .i64 k.kind, .int .i64 k.peak, .int .i64 k.early, .int .i64 k.whole, .int .i64 k.burst, .int .i64 k.least])] Try.func35 rfl rfl (by kernel_rfl) rfl ?_
 refine VC_seq ?_
 refine VC_region ?_
 have hzs1 := hS.size
 have hzs2 := hSn.size
 have hzl1 := hnd.lt
 have hzl2 := Tb.lt htab
 refine VL_box (d := 4) (t := 28) (c := #[.int .i64 p, .int .i64 v, .int .i64 c]) (by kernel_rfl) (by kernel_rfl) ?_
 intro b1 w1 hn1
 replace hS := Step.trans hS (hn1.step No)
 replace hSn := Step.trans hSn (hn1.step No)
 replace hnd := hnd.no (hn1.step No)
 replace htab := Tb.no htab (hn1.step No)
 have ho1 := hn1.own
 have hzhn1 := hn1.size
 have hqhn1 := hn1.eqb
 have hzs3 := hS.size
 have hzs4 := hSn.size
 have hzl3 := hnd.lt
 have hzl4 := Tb.lt htab
 have hzl5 := ho1.lt
 refine VL_box (d := 5) (t := 30) (c := #[.int .i64 k.kind, .int .i64 k.peak, .int .i64 k.early, .int .i64 k.whole, .int .i64 k.burst, .int .i64 k.least]) (by kernel_rfl) (by kernel_rfl) ?_
 intro b2 w2 hn2
 replace hS := Step.trans hS (hn2.step No)
 replace hSn := Step.trans hSn (hn2.step No)
 replace hnd := hnd.no (hn2.step No)
 replace htab := Tb.no htab (hn2.step No)
 replace ho1 := ho1.no (hn2.step No)
 have ho2 := hn2.own
 have hzhn2 := hn2.size
 have hqhn2 := hn2.eqb
 refine VL_pure 3 [0, 4, 5] [(0, .pointer (some ⟨nd, 0, none⟩)), (4, .pointer (some ⟨b1, 0, none⟩)), (5, .pointer (some ⟨b2, 0, none⟩))] (by kernel_rfl) rfl ?_
 refine VL_end (by kernel_rfl) ?_
 refine VQ_next ?_
 refine VC_seq ?_
 refine VC_block ?_
 refine VC_seq ?_
 refine VC_region ?_
 refine VL_pure 2 [4, 5, 8, 9] [(4, .pointer (some ⟨b1, 0, none⟩)), (5, .pointer (some ⟨b2, 0, none⟩)), (8, .pointer (some ⟨nd, 0, none⟩)), (9, .pointer (some ⟨b1, 0, none⟩))] (by kernel_rfl) rfl ?_
 refine VL_load (d := 10) (t := 3) (a := ⟨b1, 0, none⟩) (v := .int .i64 p) (by kernel_rfl) (by kernel_rfl) (Loads.own1 ho1 (by kernel_rfl) (by rfl)) ?_
 have hzs5 := hS.size
 have hzs6 := hSn.size
 have hzl6 := hnd.lt
 have hzl7 := Tb.lt htab
 have hzl8 := ho1.lt
 have hzl9 := ho2.lt
 refine VL_call (d := 11) (f := 23) (args := #[.pointer (some ⟨nd, 0, none⟩), .int .i64 p]) (by kernel_rfl) (by kernel_rfl) (by kernel_rfl) Try.call23 (link_in nd lo X rooms g p i hp hil _ (h.no hSn)) ?_
 rintro _ w3 ⟨rfl, hc1⟩
 replace hS := Step.trans hS hc1
 replace hSn := Step.trans hSn hc1
 replace hnd := hnd.no hc1
 replace htab := Tb.no htab hc1
 replace ho1 := ho1.no hc1
 replace ho2 := ho2.no hc1
 refine VL_pure 6 [4, 5, 13] [(4, .pointer (some ⟨b1, 0, none⟩)), (5, .pointer (some ⟨b2, 0, none⟩)), (13, .bool false)] (by kernel_rfl) rfl ?_
 refine VL_load (d := 14) (t := 28) (a := ⟨b1, 0, none⟩) (v := .agg #[.int .i64 p, .int .i64 v, .int .i64 c]) (by kernel_rfl) (by kernel_rfl) (Loads.ownL ho1 (n := 3) (by kernel_rfl) (by kernel_rfl) (by kernel_rfl)) ?_
 have hzs7 := hS.size
 have hzs8 := hSn.size
 have hzl10 := hnd.lt
 have hzl11 := Tb.lt htab
 have hzl12 := ho1.lt
 have hzl13 := ho2.lt
 refine VL_call (d := 15) (f := 46) (args := #[.agg #[.int .i64 p, .int .i64 v, .int .i64 c]]) (by kernel_rfl) (by kernel_rfl) (by kernel_rfl) Try.call46 (right_any p v c _) ?_
 rintro _ w4 ⟨rfl, hc2⟩
 replace hS := Step.trans hS hc2
 replace hSn := Step.trans hSn hc2
 replace hnd := hnd.no hc2
 replace htab := Tb.no htab hc2
 replace ho1 := ho1.no hc2
 replace ho2 := ho2.no hc2
 refine VL_pure 11 [4, 5, 18] [(4, .pointer (some ⟨b1, 0, none⟩)), (5, .pointer (some ⟨b2, 0, none⟩)), (18, .bool (!(rightB p v c)))] (by kernel_rfl) rfl ?_
 refine VL_bool (rightB p v c) (fun bV => [(4, .pointer (some ⟨b1, 0, none⟩)), (5, .pointer (some ⟨b2, 0, none⟩)), (18, .bool (!bV))]) rfl (fun hg1 => ?_) (fun hg1 => ?_)
 ·refine VL_pure 12 [5, 18, 19] [(5, .pointer (some ⟨b2, 0, none⟩)), (18, .bool false), (19, .pointer (some ⟨b1, 2, none⟩))] (by kernel_rfl) rfl ?_
  refine VL_load (d := 20) (t := 3) (a := ⟨b1, 2, none⟩) (v := .int .i64 c) (by kernel_rfl) (by kernel_rfl) (Loads.own1 ho1 (by kernel_rfl) (by rfl)) ?_
  refine VL_pure 16 [5, 7] [(5, .pointer (some ⟨b2, 0, none⟩)), (7, .bool (decide (c < 32)))] (by kernel_rfl) rfl ?_
  refine VL_end (by kernel_rfl) ?_
  refine VQ_next ?_
  refine VC_dec (c < 32) (by kernel_rfl) (fun h1 => ?_) (fun h1 => ?_)
  ·refine VC_seq ?_
   refine VC_region ?_
   refine VL_pure 1 [6] [(6, .int .i64 3)] (by kernel_rfl) rfl ?_
   refine VL_end (by kernel_rfl) ?_
   refine VQ_next ?_
   refine VC_ret ?_
   refine VQ_block_ret ?_
   refine VQ_then_ret ?_
   refine VQ_ret1 (.int .i64 3) (.inr rfl) rfl rfl ?_
   exact ⟨congrArg (Value.int .i64) (by first | exact wrong_r (by assumption) | exact wrong_c (by assumption) | exact wrong_k hp hil (by assumption) (by assumption) (by assumption) | exact wrong_0 hp hil (by assumption) (by assumption) (by assumption)), hS⟩
  ·refine VC_seq ?_
   refine VC_region ?_
   refine VL_load (d := 24) (t := 30) (a := ⟨b2, 0, none⟩) (v := .agg #[.int .i64 k.kind, .int .i64 k.peak, .int .i64 k.early, .int .i64 k.whole, .int .i64 k.burst, .int .i64 k.least]) (by kernel_rfl) (by kernel_rfl) (Loads.ownL ho2 (n := 6) (by kernel_rfl) (by kernel_rfl) (by kernel_rfl)) ?_
   have hzs9 := hS.size
   have hzs10 := hSn.size
   have hzl14 := hnd.lt
   have hzl15 := Tb.lt htab
   have hzl16 := ho1.lt
   have hzl17 := ho2.lt
   refine VL_call (d := 25) (f := 13) (args := #[.agg #[.int .i64 k.kind, .int .i64 k.peak, .int .i64 k.early, .int .i64 k.whole, .int .i64 k.burst, .int .i64 k.least]]) (by kernel_rfl) (by kernel_rfl) (by kernel_rfl) Try.call13 (cright_any k _) ?_
   rintro _ w5 ⟨rfl, hc3⟩
   replace hS := Step.trans hS hc3
   replace hSn := Step.trans hSn hc3
   replace hnd := hnd.no hc3
   replace htab := Tb.no htab hc3
   replace ho1 := ho1.no hc3
   replace ho2 := ho2.no hc3
   refine VL_pure 4 [23] [(23, .bool ((rightC k) != 0))] (by kernel_rfl) rfl ?_
   refine VL_end (by kernel_rfl) ?_
   refine VQ_next ?_
   refine VC_ne (rightC k) 0 (by kernel_rfl) (fun h2 => ?_) (fun h2 => ?_)
   ·refine VC_seq ?_
    refine VC_region ?_
    refine VL_pure 1 [6] [(6, .int .i64 73)] (by kernel_rfl) rfl ?_
    refine VL_end (by kernel_rfl) ?_
    refine VQ_next ?_
    refine VC_ret ?_
    refine VQ_block_ret ?_
    refine VQ_then_ret ?_
    refine VQ_ret1 (.int .i64 73) (.inr rfl) rfl rfl ?_
    exact ⟨congrArg (Value.int .i64) (by first | exact wrong_r (by assumption) | exact wrong_c (by assumption) | exact wrong_k hp hil (by assumption) (by assumption) (by assumption) | exact wrong_0 hp hil (by assumption) (by assumption) (by assumption)), hS⟩
   ·refine VC_skip ?_
    refine VQ_block_normal ?_
    refine VQ_next ?_
    refine VC_seq ?_
    refine VC_region ?_
    refine VL_pure 1 [6] [(6, .int .i64 0)] (by kernel_rfl) rfl ?_
    refine VL_end (by kernel_rfl) ?_
    refine VQ_next ?_
    refine VC_ret ?_
    refine VQ_ret1 (.int .i64 0) (.inr rfl) rfl rfl ?_
    exact ⟨congrArg (Value.int .i64) (by first | exact wrong_r (by assumption) | exact wrong_c (by assumption) | exact wrong_k hp hil (by assumption) (by assumption) (by assumption) | exact wrong_0 hp hil (by assumption) (by assumption) (by assumption)), hS⟩
 ·refine VL_pure 16 [5, 7] [(5, .pointer (some ⟨b2, 0, none⟩)), (7, .bool true)] (by kernel_rfl) rfl ?_
  refine VL_end (by kernel_rfl) ?_
  refine VQ_next ?_
  refine VC_true (by kernel_rfl) ?_
  refine VC_seq ?_
  refine VC_region ?_
  refine VL_pure 1 [6] [(6, .int .i64 3)] (by kernel_rfl) rfl ?_
  refine VL_end (by kernel_rfl) ?_
  refine VQ_next ?_
  refine VC_ret ?_
  refine VQ_block_ret ?_
  refine VQ_then_ret ?_
  refine VQ_ret1 (.int .i64 3) (.inr rfl) rfl rfl ?_
  exact ⟨congrArg (Value.int .i64) (by first | exact wrong_r (by assumption) | exact wrong_c (by assumption) | exact wrong_k hp hil (by assumption) (by assumption) (by assumption) | exact wrong_0 hp hil (by assumption) (by assumption) (by assumption)), hS⟩

set_option maxRecDepth 100000 in
set_option maxHeartbeats 4000000 in
theorem wrong_ou (nd lo : Nat) (X : Nat → Prop) (rooms : List Int) (g : NdG) (p v c : Int) (k : Con) (hp : ¬ (0 ≤ p ∧ p < rooms.length)) (w : World) (h : NdX w nd X lo rooms g)  :
  CV Try.prog 35 #[.pointer (some ⟨nd, 0, none⟩), .agg #[.int .i64 p, .int .i64 v, .int .i64 c], .agg #[.int .i64 k.kind, .int .i64 k.peak, .int .i64 k.early, .int .i64 k.whole, .int .i64 k.burst, .int .i64 k.least]] w (fun x w1 => x = .int .i64 (wrongN rooms p v c k) ∧ Step No w w1) := by
 have hS : Step No w w := Step.refl _ _
 have hSn : Step No w w := Step.refl _ _
 have hnd := h.own
 have htab := h.tab
 refine CV_enter Try.f35 _ 27 [(0, .pointer (some ⟨nd, 0, none⟩)), (1, .agg #[.int .i64 p, .int .i64 v, .int .i64 c]), (2, .agg #[.int .i64 k.kind, .int .i64 k.peak, .int .i64 k.early, .int .i64 k.whole, .int .i64 k.burst, .int .i64 k.least])] Try.func35 rfl rfl (by kernel_rfl) rfl ?_
 refine VC_seq ?_
 refine VC_region ?_
 have hzs1 := hS.size
 have hzs2 := hSn.size
 have hzl1 := hnd.lt
 have hzl2 := Tb.lt htab
 refine VL_box (d := 4) (t := 28) (c := #[.int .i64 p, .int .i64 v, .int .i64 c]) (by kernel_rfl) (by kernel_rfl) ?_
 intro b1 w1 hn1
 replace hS := Step.trans hS (hn1.step No)
 replace hSn := Step.trans hSn (hn1.step No)
 replace hnd := hnd.no (hn1.step No)
 replace htab := Tb.no htab (hn1.step No)
 have ho1 := hn1.own
 have hzhn1 := hn1.size
 have hqhn1 := hn1.eqb
 have hzs3 := hS.size
 have hzs4 := hSn.size
 have hzl3 := hnd.lt
 have hzl4 := Tb.lt htab
 have hzl5 := ho1.lt
 refine VL_box (d := 5) (t := 30) (c := #[.int .i64 k.kind, .int .i64 k.peak, .int .i64 k.early, .int .i64 k.whole, .int .i64 k.burst, .int .i64 k.least]) (by kernel_rfl) (by kernel_rfl) ?_
 intro b2 w2 hn2
 replace hS := Step.trans hS (hn2.step No)
 replace hSn := Step.trans hSn (hn2.step No)
 replace hnd := hnd.no (hn2.step No)
 replace htab := Tb.no htab (hn2.step No)
 replace ho1 := ho1.no (hn2.step No)
 have ho2 := hn2.own
 have hzhn2 := hn2.size
 have hqhn2 := hn2.eqb
 refine VL_pure 3 [0, 4, 5] [(0, .pointer (some ⟨nd, 0, none⟩)), (4, .pointer (some ⟨b1, 0, none⟩)), (5, .pointer (some ⟨b2, 0, none⟩))] (by kernel_rfl) rfl ?_
 refine VL_end (by kernel_rfl) ?_
 refine VQ_next ?_
 refine VC_seq ?_
 refine VC_block ?_
 refine VC_seq ?_
 refine VC_region ?_
 refine VL_pure 2 [4, 5, 8, 9] [(4, .pointer (some ⟨b1, 0, none⟩)), (5, .pointer (some ⟨b2, 0, none⟩)), (8, .pointer (some ⟨nd, 0, none⟩)), (9, .pointer (some ⟨b1, 0, none⟩))] (by kernel_rfl) rfl ?_
 refine VL_load (d := 10) (t := 3) (a := ⟨b1, 0, none⟩) (v := .int .i64 p) (by kernel_rfl) (by kernel_rfl) (Loads.own1 ho1 (by kernel_rfl) (by rfl)) ?_
 have hzs5 := hS.size
 have hzs6 := hSn.size
 have hzl6 := hnd.lt
 have hzl7 := Tb.lt htab
 have hzl8 := ho1.lt
 have hzl9 := ho2.lt
 refine VL_call (d := 11) (f := 23) (args := #[.pointer (some ⟨nd, 0, none⟩), .int .i64 p]) (by kernel_rfl) (by kernel_rfl) (by kernel_rfl) Try.call23 (link_out nd lo X rooms g p hp _ (h.no hSn)) ?_
 rintro _ w3 ⟨rfl, hc1⟩
 replace hS := Step.trans hS hc1
 replace hSn := Step.trans hSn hc1
 replace hnd := hnd.no hc1
 replace htab := Tb.no htab hc1
 replace ho1 := ho1.no hc1
 replace ho2 := ho2.no hc1
 refine VL_pure 16 [5, 7] [(5, .pointer (some ⟨b2, 0, none⟩)), (7, .bool true)] (by kernel_rfl) rfl ?_
 refine VL_end (by kernel_rfl) ?_
 refine VQ_next ?_
 refine VC_true (by kernel_rfl) ?_
 refine VC_seq ?_
 refine VC_region ?_
 refine VL_pure 1 [6] [(6, .int .i64 3)] (by kernel_rfl) rfl ?_
 refine VL_end (by kernel_rfl) ?_
 refine VQ_next ?_
 refine VC_ret ?_
 refine VQ_block_ret ?_
 refine VQ_then_ret ?_
 refine VQ_ret1 (.int .i64 3) (.inr rfl) rfl rfl ?_
 exact ⟨congrArg (Value.int .i64) (wrong_out hp), hS⟩

theorem wrong_any (nd lo : Nat) (X : Nat → Prop) (rooms : List Int) (g : NdG) (p v c : Int) (k : Con) (w : World) (h : NdX w nd X lo rooms g) : CV Try.prog 35 #[.pointer (some ⟨nd, 0, none⟩), .agg #[.int .i64 p, .int .i64 v, .int .i64 c], .agg #[.int .i64 k.kind, .int .i64 k.peak, .int .i64 k.early, .int .i64 k.whole, .int .i64 k.burst, .int .i64 k.least]] w fun x w1 => x = .int .i64 (wrongN rooms p v c k) ∧ Step No w w1 := by
  by_cases hp : 0 ≤ p ∧ p < rooms.length
  · obtain ⟨i, r, e, hil, hir⟩ := port_nat hp
    exact wrong_in nd lo X rooms g p v c k i e hil w h
  · exact wrong_ou nd lo X rooms g p v c k hp w h
set_option maxRecDepth 100000 in
set_option maxHeartbeats 4000000 in
theorem check_any (nd lo : Nat) (X : Nat → Prop) (rooms : List Int) (g : NdG) (p v c : Int) (k : Con) (w : World) (h : NdX w nd X lo rooms g)  :
  CV Try.prog 17 #[.pointer (some ⟨nd, 0, none⟩), .agg #[.int .i64 p, .int .i64 v, .int .i64 c], .agg #[.int .i64 k.kind, .int .i64 k.peak, .int .i64 k.early, .int .i64 k.whole, .int .i64 k.burst, .int .i64 k.least]] w (fun x w1 => x = .int .i64 (chkN rooms g.L p v c k) ∧ Step No w w1) := by
 have hS : Step No w w := Step.refl _ _
 have hSn : Step No w w := Step.refl _ _
 have hnd := h.own
 have htab := h.tab
 refine CV_enter Try.f17 _ 43 [(0, .pointer (some ⟨nd, 0, none⟩)), (1, .agg #[.int .i64 p, .int .i64 v, .int .i64 c]), (2, .agg #[.int .i64 k.kind, .int .i64 k.peak, .int .i64 k.early, .int .i64 k.whole, .int .i64 k.burst, .int .i64 k.least])] Try.func17 rfl rfl (by kernel_rfl) rfl ?_
 refine VC_seq ?_
 refine VC_region ?_
 have hzs1 := hS.size
 have hzs2 := hSn.size
 have hzl1 := hnd.lt
 have hzl2 := Tb.lt htab
 refine VL_box (d := 4) (t := 28) (c := #[.int .i64 p, .int .i64 v, .int .i64 c]) (by kernel_rfl) (by kernel_rfl) ?_
 intro b1 w1 hn1
 replace hS := Step.trans hS (hn1.step No)
 replace hSn := Step.trans hSn (hn1.step No)
 replace hnd := hnd.no (hn1.step No)
 replace htab := Tb.no htab (hn1.step No)
 have ho1 := hn1.own
 have hzhn1 := hn1.size
 have hqhn1 := hn1.eqb
 have hzs3 := hS.size
 have hzs4 := hSn.size
 have hzl3 := hnd.lt
 have hzl4 := Tb.lt htab
 have hzl5 := ho1.lt
 refine VL_box (d := 5) (t := 30) (c := #[.int .i64 k.kind, .int .i64 k.peak, .int .i64 k.early, .int .i64 k.whole, .int .i64 k.burst, .int .i64 k.least]) (by kernel_rfl) (by kernel_rfl) ?_
 intro b2 w2 hn2
 replace hS := Step.trans hS (hn2.step No)
 replace hSn := Step.trans hSn (hn2.step No)
 replace hnd := hnd.no (hn2.step No)
 replace htab := Tb.no htab (hn2.step No)
 replace ho1 := ho1.no (hn2.step No)
 have ho2 := hn2.own
 have hzhn2 := hn2.size
 have hqhn2 := hn2.eqb
 refine VL_pure 3 [0, 4, 5] [(0, .pointer (some ⟨nd, 0, none⟩)), (4, .pointer (some ⟨b1, 0, none⟩)), (5, .pointer (some ⟨b2, 0, none⟩))] (by kernel_rfl) rfl ?_
 refine VL_end (by kernel_rfl) ?_
 refine VQ_next ?_
 refine VC_seq ?_
 refine VC_seq ?_
 refine VC_region ?_
 refine VL_pure 1 [0, 4, 5, 10] [(0, .pointer (some ⟨nd, 0, none⟩)), (4, .pointer (some ⟨b1, 0, none⟩)), (5, .pointer (some ⟨b2, 0, none⟩)), (10, .pointer (some ⟨nd, 0, none⟩))] (by kernel_rfl) rfl ?_
 refine VL_load (d := 11) (t := 28) (a := ⟨b1, 0, none⟩) (v := .agg #[.int .i64 p, .int .i64 v, .int .i64 c]) (by kernel_rfl) (by kernel_rfl) (Loads.ownL ho1 (n := 3) (by kernel_rfl) (by kernel_rfl) (by kernel_rfl)) ?_
 refine VL_load (d := 12) (t := 30) (a := ⟨b2, 0, none⟩) (v := .agg #[.int .i64 k.kind, .int .i64 k.peak, .int .i64 k.early, .int .i64 k.whole, .int .i64 k.burst, .int .i64 k.least]) (by kernel_rfl) (by kernel_rfl) (Loads.ownL ho2 (n := 6) (by kernel_rfl) (by kernel_rfl) (by kernel_rfl)) ?_
 have hzs5 := hS.size
 have hzs6 := hSn.size
 have hzl6 := hnd.lt
 have hzl7 := Tb.lt htab
 have hzl8 := ho1.lt
 have hzl9 := ho2.lt
 refine VL_call (d := 13) (f := 35) (args := #[.pointer (some ⟨nd, 0, none⟩), .agg #[.int .i64 p, .int .i64 v, .int .i64 c], .agg #[.int .i64 k.kind, .int .i64 k.peak, .int .i64 k.early, .int .i64 k.whole, .int .i64 k.burst, .int .i64 k.least]]) (by kernel_rfl) (by kernel_rfl) (by kernel_rfl) Try.call35 (wrong_any nd lo X rooms g p v c k _ (h.no hSn)) ?_
 rintro _ w3 ⟨rfl, hc1⟩
 replace hS := Step.trans hS hc1
 replace hSn := Step.trans hSn hc1
 replace hnd := hnd.no hc1
 replace htab := Tb.no htab hc1
 replace ho1 := ho1.no hc1
 replace ho2 := ho2.no hc1
 refine VL_pure 5 [0, 4, 5, 7] [(0, .pointer (some ⟨nd, 0, none⟩)), (4, .pointer (some ⟨b1, 0, none⟩)), (5, .pointer (some ⟨b2, 0, none⟩)), (7, .int .i64 (wrongN rooms p v c k))] (by kernel_rfl) rfl ?_
 refine VL_end (by kernel_rfl) ?_
 refine VQ_next ?_
 refine VC_seq ?_
 refine VC_region ?_
 refine VL_pure 2 [0, 4, 5, 7, 15] [(0, .pointer (some ⟨nd, 0, none⟩)), (4, .pointer (some ⟨b1, 0, none⟩)), (5, .pointer (some ⟨b2, 0, none⟩)), (7, .int .i64 (wrongN rooms p v c k)), (15, .bool ((wrongN rooms p v c k) != 0))] (by kernel_rfl) rfl ?_
 refine VL_end (by kernel_rfl) ?_
 refine VQ_next ?_
 refine VC_ne (wrongN rooms p v c k) 0 (by kernel_rfl) (fun h1 => ?_) (fun h1 => ?_)
 ·refine VC_seq ?_
  refine VC_region ?_
  refine VL_pure 2 [6] [(6, .int .i64 (wrongN rooms p v c k))] (by kernel_rfl) rfl ?_
  refine VL_end (by kernel_rfl) ?_
  refine VQ_next ?_
  refine VC_ret ?_
  refine VQ_then_ret ?_
  refine VQ_ret1 (.int .i64 (wrongN rooms p v c k)) (.inr rfl) rfl rfl ?_
  exact ⟨congrArg (Value.int .i64) (by first | exact chk_w (by assumption) | exact chk_35 (by assumption) (by assumption) | exact chk_47 (by assumption) (by assumption) (by assumption) | exact chk_37 hp hir (by assumption) (by assumption) (by assumption) (by assumption) | exact chk_0 hp hir (by assumption) (by assumption) (by assumption) (by assumption)), hS⟩
 ·refine VC_skip ?_
  refine VQ_next ?_
  refine VC_seq ?_
  refine VC_seq ?_
  refine VC_det [[], [0], [0, 1], [0, 1, 2], [], [0, 1, 2, 3, 4], [0, 1, 2, 3, 4, 5], [0, 1, 2, 3, 4, 5, 6], [0, 1, 2, 3, 4, 5, 6], [0, 1, 2, 3, 4, 5, 6, 7], [0, 1, 2, 3, 4, 5, 6, 7, 8, 9]] 10 [.pointer (some ⟨nd, 0, none⟩), .pointer (some ⟨nd, 0, none⟩), .pointer (some ⟨nd, 1, none⟩), .pointer (some ⟨g.tb, 0, none⟩), .agg #[.int .i64 p, .int .i64 v, .int .i64 c], .tuple #[.int .i64 ((lookE (g.ci.map Ci.ent) p v c).getD 0), .bool ((lookE (g.ci.map Ci.ent) p v c).isSome)], .tuple #[.int .i64 ((lookE (g.ci.map Ci.ent) p v c).getD 0), .bool ((lookE (g.ci.map Ci.ent) p v c).isSome)], .int .i64 ((lookE (g.ci.map Ci.ent) p v c).getD 0), .bool ((lookE (g.ci.map Ci.ent) p v c).isSome), .int .i64 ((lookE (g.ci.map Ci.ent) p v c).getD 0)] [0, 1, 2, 6, 7, 8, 9] [3, 4, 5] (by kernel_rfl) (by kernel_rfl) (by kernel_rfl) (by kernel_rfl) ?_ ?_
  ·intro w4 hs1
   replace hS := Step.trans hS hs1
   replace hSn := Step.trans hSn hs1
   replace hnd := hnd.no hs1
   replace htab := Tb.no htab hs1
   replace ho1 := ho1.no hs1
   replace ho2 := ho2.no hs1
   exact ⟨Det1_load (d := 21) (t := 49) (a := ⟨nd, 1, none⟩) (by kernel_rfl) (by kernel_rfl) (Loads.own1 hnd (by kernel_rfl) (by rfl)), Det1_load (d := 22) (t := 28) (a := ⟨b1, 0, none⟩) (by kernel_rfl) (by kernel_rfl) (Loads.ownL ho1 (n := 3) (by kernel_rfl) (by kernel_rfl) (by kernel_rfl)), Det1_call (d := 23) (f := 36) (args := #[.pointer (some ⟨g.tb, 0, none⟩), .agg #[.int .i64 p, .int .i64 v, .int .i64 c]]) (by kernel_rfl) (by kernel_rfl) (by kernel_rfl) Try.call36 (by exact tget p v c htab), trivial⟩
  intro w4 hs1
  replace hS := Step.trans hS hs1
  replace hSn := Step.trans hSn hs1
  replace hnd := hnd.no hs1
  replace htab := Tb.no htab hs1
  replace ho1 := ho1.no hs1
  replace ho2 := ho2.no hs1
  refine VL_keep [0, 4, 5, 25] [(0, .pointer (some ⟨nd, 0, none⟩)), (4, .pointer (some ⟨b1, 0, none⟩)), (5, .pointer (some ⟨b2, 0, none⟩)), (25, .bool ((lookE (g.ci.map Ci.ent) p v c).isSome))] (by kernel_rfl) ?_
  refine VL_pure 11 [0, 4, 5, 9] [(0, .pointer (some ⟨nd, 0, none⟩)), (4, .pointer (some ⟨b1, 0, none⟩)), (5, .pointer (some ⟨b2, 0, none⟩)), (9, .bool ((lookE (g.ci.map Ci.ent) p v c).isSome))] (by kernel_rfl) rfl ?_
  refine VL_end (by kernel_rfl) ?_
  refine VQ_next ?_
  refine VC_seq ?_
  refine VC_region ?_
  refine VL_pure 1 [0, 4, 5, 26] [(0, .pointer (some ⟨nd, 0, none⟩)), (4, .pointer (some ⟨b1, 0, none⟩)), (5, .pointer (some ⟨b2, 0, none⟩)), (26, .bool ((lookE (g.ci.map Ci.ent) p v c).isSome))] (by kernel_rfl) rfl ?_
  refine VL_end (by kernel_rfl) ?_
  refine VQ_next ?_
  refine VC_cond ((lookE (g.ci.map Ci.ent) p v c).isSome) (by kernel_rfl) (fun h2 => ?_) (fun h2 => ?_)
  ·try simp only [Bool.and_eq_true, Bool.or_eq_true, decide_eq_true_eq, Bool.not_eq_true', decide_eq_false_iff_not, Bool.and_eq_false_iff, Bool.or_eq_false_iff, beq_iff_eq, bne_iff_ne, beq_eq_false_iff_ne, bne_eq_false_iff_eq, Bool.not_eq_eq_eq_not, Bool.not_true, Bool.not_false] at h2
   refine VC_seq ?_
   refine VC_region ?_
   refine VL_pure 1 [6] [(6, .int .i64 35)] (by kernel_rfl) rfl ?_
   refine VL_end (by kernel_rfl) ?_
   refine VQ_next ?_
   refine VC_ret ?_
   refine VQ_then_ret ?_
   refine VQ_ret1 (.int .i64 35) (.inr rfl) rfl rfl ?_
   exact ⟨congrArg (Value.int .i64) (by first | exact chk_w (by assumption) | exact chk_35 (by assumption) (by assumption) | exact chk_47 (by assumption) (by assumption) (by assumption) | exact chk_37 hp hir (by assumption) (by assumption) (by assumption) (by assumption) | exact chk_0 hp hir (by assumption) (by assumption) (by assumption) (by assumption)), hS⟩
  ·try simp only [Bool.and_eq_true, Bool.or_eq_true, decide_eq_true_eq, Bool.not_eq_true', decide_eq_false_iff_not, Bool.and_eq_false_iff, Bool.or_eq_false_iff, beq_iff_eq, bne_iff_ne, beq_eq_false_iff_ne, bne_eq_false_iff_eq, Bool.not_eq_eq_eq_not, Bool.not_true, Bool.not_false] at h2
   refine VC_skip ?_
   refine VQ_next ?_
   refine VC_seq ?_
   refine VC_block ?_
   refine VC_seq ?_
   refine VC_region ?_
   refine VL_pure 3 [0, 4, 5, 30] [(0, .pointer (some ⟨nd, 0, none⟩)), (4, .pointer (some ⟨b1, 0, none⟩)), (5, .pointer (some ⟨b2, 0, none⟩)), (30, .pointer (some ⟨nd, 1, none⟩))] (by kernel_rfl) rfl ?_
   refine VL_load (d := 31) (t := 49) (a := ⟨nd, 1, none⟩) (v := .pointer (some ⟨g.tb, 0, none⟩)) (by kernel_rfl) (by kernel_rfl) (Loads.own1 hnd (by kernel_rfl) (by rfl)) ?_
   have hzs7 := hS.size
   have hzs8 := hSn.size
   have hzl10 := hnd.lt
   have hzl11 := Tb.lt htab
   have hzl12 := ho1.lt
   have hzl13 := ho2.lt
   refine VL_call (d := 32) (f := 37) (args := #[.pointer (some ⟨g.tb, 0, none⟩)]) (by kernel_rfl) (by kernel_rfl) (by kernel_rfl) Try.call37 (tlen htab) ?_
   rintro _ w5 ⟨rfl, hc2⟩
   replace hS := Step.trans hS hc2
   replace hSn := Step.trans hSn hc2
   replace hnd := hnd.no hc2
   replace htab := Tb.no htab hc2
   replace ho1 := ho1.no hc2
   replace ho2 := ho2.no hc2
   refine VL_pure 7 [0, 4, 5, 27] [(0, .pointer (some ⟨nd, 0, none⟩)), (4, .pointer (some ⟨b1, 0, none⟩)), (5, .pointer (some ⟨b2, 0, none⟩)), (27, .bool (decide ((((g.ci.map Ci.ent).length : Nat) : Int) ≥ 64)))] (by kernel_rfl) rfl ?_
   refine VL_end (by kernel_rfl) ?_
   refine VQ_next ?_
   refine VC_dec ((((g.ci.map Ci.ent).length : Nat) : Int) ≥ 64) (by kernel_rfl) (fun h3 => ?_) (fun h3 => ?_)
   ·refine VC_seq ?_
    refine VC_region ?_
    refine VL_pure 1 [6] [(6, .int .i64 47)] (by kernel_rfl) rfl ?_
    refine VL_end (by kernel_rfl) ?_
    refine VQ_next ?_
    refine VC_ret ?_
    refine VQ_block_ret ?_
    refine VQ_then_ret ?_
    refine VQ_ret1 (.int .i64 47) (.inr rfl) rfl rfl ?_
    exact ⟨congrArg (Value.int .i64) (by first | exact chk_w (by assumption) | exact chk_35 (by assumption) (by assumption) | exact chk_47 (by assumption) (by assumption) (by assumption) | exact chk_37 hp hir (by assumption) (by assumption) (by assumption) (by assumption) | exact chk_0 hp hir (by assumption) (by assumption) (by assumption) (by assumption)), hS⟩
   ·refine VC_seq ?_
    obtain ⟨⟨hp1, hp2⟩, hw2, hw3, hw4⟩ := wrongN_zero (show wrongN rooms p v c k = 0 by assumption)
    obtain ⟨i, r, hp, hil, hir⟩ := port_nat ⟨hp1, hp2⟩
    have hled : Ld w (g.lg i) (g.lm i) r (usdL g.L (i : Int)) (g.N i) := h.led i r hir
    have hu0 := usdL_nonneg g.L (i : Int)
    have hu1 := h.li.fit i r hir
    have hrM := (h.li.rooms r (List.mem_of_getElem? hir)).2
    replace hled := hled.no hSn
    have hs2 := drew_step w5
    have hs2z : w5.heap.size = w5.drew.heap.size := rfl
    refine VC_text [[], [0], [], [], [3], [0, 1, 2, 3, 4], [0, 1, 2, 3, 4, 5], [0, 1, 2, 3, 4, 5, 6], [0, 1, 2, 3, 4, 5, 6, 7]] 5 (fun x y => Step (fun k => w5.heap.size ≤ k) x y) [1] [0, 2, 3, 4, 1] (by kernel_rfl) (by kernel_rfl) (by kernel_rfl) (by kernel_rfl) (fun x => Step.refl _ x) (fun h k => Step.trans h k) Step.weak ?_
    have hzs9 := hS.size
    have hzs10 := hSn.size
    have hzl14 := hnd.lt
    have hzl15 := Tb.lt htab
    have hzl16 := ho1.lt
    have hzl17 := ho2.lt
    have hzl18 := Ld.lt hled
    generalize w5.drew = w6 at hs2 hs2z ⊢
    replace hS := Step.trans hS hs2
    replace hSn := Step.trans hSn hs2
    replace hnd := hnd.no hs2
    replace htab := Tb.no htab hs2
    replace ho1 := ho1.no hs2
    replace ho2 := ho2.no hs2
    replace hled := Ld.no hled hs2
    refine VT_load (d := 35) (t := 30) (a := ⟨b2, 0, none⟩) (v := .agg #[.int .i64 k.kind, .int .i64 k.peak, .int .i64 k.early, .int .i64 k.whole, .int .i64 k.burst, .int .i64 k.least]) (by kernel_rfl) (by kernel_rfl) ?_ ?_
    ·intro w7 hr1
     replace hS := Step.transNew hS hr1 (fun i hi hG => by (try simp only at hG); omega)
     replace hSn := Step.transNew hSn hr1 (fun i hi hG => by (try simp only at hG); omega)
     replace hnd := hnd.step hr1 (by (try simp only); omega)
     replace htab := Tb.step htab hr1 (by (try simp only); omega)
     replace ho1 := ho1.step hr1 (by (try simp only); omega)
     replace ho2 := ho2.step hr1 (by (try simp only); omega)
     replace hled := Ld.step hled hr1 (by (try simp only); omega) (by (try simp only); omega)
     exact (Loads.ownL ho2 (n := 6) (by kernel_rfl) (by kernel_rfl) (by kernel_rfl))
    refine VT_pures 2 (kn' := [(3, .pointer (some ⟨b1, 0, none⟩)), (2, .pointer (some ⟨nd, 0, none⟩)), (0, .agg #[.int .i64 k.kind, .int .i64 k.peak, .int .i64 k.early, .int .i64 k.whole, .int .i64 k.burst, .int .i64 k.least])]) (by kernel_rfl) ?_
    refine VT_load (d := 39) (t := 3) (a := ⟨b1, 0, none⟩) (v := .int .i64 p) (by kernel_rfl) (by kernel_rfl) ?_ ?_
    ·intro w8 hr2
     replace hS := Step.transNew hS hr2 (fun i hi hG => by (try simp only at hG); omega)
     replace hSn := Step.transNew hSn hr2 (fun i hi hG => by (try simp only at hG); omega)
     replace hnd := hnd.step hr2 (by (try simp only); omega)
     replace htab := Tb.step htab hr2 (by (try simp only); omega)
     replace ho1 := ho1.step hr2 (by (try simp only); omega)
     replace ho2 := ho2.step hr2 (by (try simp only); omega)
     replace hled := Ld.step hled hr2 (by (try simp only); omega) (by (try simp only); omega)
     exact (Loads.own1 ho1 (by kernel_rfl) (by rfl))
    refine VT_chain (by kernel_rfl) ?_
    intro w9 hs3
    have hzhs3 := hs3.size
    replace hS := Step.trans hS hs3
    replace hSn := Step.trans hSn hs3
    replace hnd := hnd.no hs3
    replace htab := Tb.no htab hs3
    replace ho1 := ho1.no hs3
    replace ho2 := ho2.no hs3
    replace hled := Ld.no hled hs3
    have hzs11 := hS.size
    have hzs12 := hSn.size
    have hzl19 := hnd.lt
    have hzl20 := Tb.lt htab
    have hzl21 := ho1.lt
    have hzl22 := ho2.lt
    have hzl23 := Ld.lt hled
    refine VTc_call (d := 36) (f := 14) (args := #[.agg #[.int .i64 k.kind, .int .i64 k.peak, .int .i64 k.early, .int .i64 k.whole, .int .i64 k.burst, .int .i64 k.least]]) (by kernel_rfl) (by kernel_rfl) (by kernel_rfl) Try.call14 (need_any k _) ?_ ?_
    ·rintro _ w10 ⟨rfl, hc3⟩
     exact Step.mono hc3 (by intro i hi; first | exact hi.elim | exact .inl hi | ((try simp only at hi ⊢); omega))
    rintro _ w10 ⟨rfl, hc3⟩
    have hzhc3 := (hc3).size
    replace hS := Step.trans hS hc3
    replace hSn := Step.trans hSn hc3
    replace hnd := hnd.no hc3
    replace htab := Tb.no htab hc3
    replace ho1 := ho1.no hc3
    replace ho2 := ho2.no hc3
    replace hled := Ld.no hled hc3
    refine VT_end ?_
    intro w11 hs4
    replace hS := Step.trans hS hs4
    replace hSn := Step.trans hSn hs4
    replace hnd := hnd.no hs4
    replace htab := Tb.no htab hs4
    replace ho1 := ho1.no hs4
    replace ho2 := ho2.no hs4
    replace hled := Ld.no hled hs4
    refine VL_keep [37, 39, 36] [(37, .pointer (some ⟨nd, 0, none⟩)), (39, .int .i64 p), (36, .int .i64 (needC k))] (by kernel_rfl) ?_
    have hzs13 := hS.size
    have hzs14 := hSn.size
    have hzl24 := hnd.lt
    have hzl25 := Tb.lt htab
    have hzl26 := ho1.lt
    have hzl27 := ho2.lt
    have hzl28 := Ld.lt hled
    refine VL_call (d := 40) (f := 23) (args := #[.pointer (some ⟨nd, 0, none⟩), .int .i64 p]) (by kernel_rfl) (by kernel_rfl) (by kernel_rfl) Try.call23 (link_in nd lo X rooms g p i hp hil _ (h.no hSn)) ?_
    rintro _ w12 ⟨rfl, hc4⟩
    replace hS := Step.trans hS hc4
    replace hSn := Step.trans hSn hc4
    replace hnd := hnd.no hc4
    replace htab := Tb.no htab hc4
    replace ho1 := ho1.no hc4
    replace ho2 := ho2.no hc4
    replace hled := Ld.no hled hc4
    have hzs15 := hS.size
    have hzs16 := hSn.size
    have hzl29 := hnd.lt
    have hzl30 := Tb.lt htab
    have hzl31 := ho1.lt
    have hzl32 := ho2.lt
    have hzl33 := Ld.lt hled
    refine VL_call (d := 41) (f := 24) (args := #[.pointer (some ⟨(g.lg i), 0, none⟩)]) (by kernel_rfl) (by kernel_rfl) (by kernel_rfl) Try.call24 (lleft_any (g.lg i) (g.lm i) r (usdL g.L (i : Int)) (g.N i) _ hled hu0 hu1 hrM) ?_
    rintro _ w13 ⟨rfl, hc5⟩
    replace hS := Step.trans hS hc5
    replace hSn := Step.trans hSn hc5
    replace hnd := hnd.no hc5
    replace htab := Tb.no htab hc5
    replace ho1 := ho1.no hc5
    replace ho2 := ho2.no hc5
    replace hled := Ld.no hled hc5
    refine VL_pure 9 [34] [(34, .bool (decide ((needC k) > (r - usdL g.L (i : Int)))))] (by kernel_rfl) rfl ?_
    refine VL_end (by kernel_rfl) ?_
    refine VQ_next ?_
    refine VC_dec ((needC k) > (r - usdL g.L (i : Int))) (by kernel_rfl) (fun h4 => ?_) (fun h4 => ?_)
    ·refine VC_seq ?_
     refine VC_region ?_
     refine VL_pure 1 [6] [(6, .int .i64 37)] (by kernel_rfl) rfl ?_
     refine VL_end (by kernel_rfl) ?_
     refine VQ_next ?_
     refine VC_ret ?_
     refine VQ_block_ret ?_
     refine VQ_then_ret ?_
     refine VQ_ret1 (.int .i64 37) (.inr rfl) rfl rfl ?_
     exact ⟨congrArg (Value.int .i64) (by first | exact chk_w (by assumption) | exact chk_35 (by assumption) (by assumption) | exact chk_47 (by assumption) (by assumption) (by assumption) | exact chk_37 hp hir (by assumption) (by assumption) (by assumption) (by assumption) | exact chk_0 hp hir (by assumption) (by assumption) (by assumption) (by assumption)), hS⟩
    ·refine VC_skip ?_
     refine VQ_block_normal ?_
     refine VQ_next ?_
     refine VC_seq ?_
     refine VC_region ?_
     refine VL_pure 1 [6] [(6, .int .i64 0)] (by kernel_rfl) rfl ?_
     refine VL_end (by kernel_rfl) ?_
     refine VQ_next ?_
     refine VC_ret ?_
     refine VQ_ret1 (.int .i64 0) (.inr rfl) rfl rfl ?_
     exact ⟨congrArg (Value.int .i64) (by first | exact chk_w (by assumption) | exact chk_35 (by assumption) (by assumption) | exact chk_47 (by assumption) (by assumption) (by assumption) | exact chk_37 hp hir (by assumption) (by assumption) (by assumption) (by assumption) | exact chk_0 hp hir (by assumption) (by assumption) (by assumption) (by assumption)), hS⟩

set_option maxRecDepth 100000 in
set_option maxHeartbeats 4000000 in
theorem nfind_any (nd lo : Nat) (X : Nat → Prop) (rooms : List Int) (g : NdG) (p v c : Int) (w : World) (h : NdX w nd X lo rooms g)  :
  CV Try.prog 27 #[.pointer (some ⟨nd, 0, none⟩), .agg #[.int .i64 p, .int .i64 v, .int .i64 c]] w (fun x w1 => x = .tuple #[.int .i64 ((lookE (g.ci.map Ci.ent) p v c).getD 0), .bool (lookE (g.ci.map Ci.ent) p v c).isSome] ∧ Step No w w1) := by
 have hS : Step No w w := Step.refl _ _
 have hSn : Step No w w := Step.refl _ _
 have hnd := h.own
 have htab := h.tab
 refine CV_enter Try.f27 _ 16 [(0, .pointer (some ⟨nd, 0, none⟩)), (1, .agg #[.int .i64 p, .int .i64 v, .int .i64 c])] Try.func27 rfl rfl (by kernel_rfl) rfl ?_
 refine VC_seq ?_
 refine VC_region ?_
 have hzs1 := hS.size
 have hzs2 := hSn.size
 have hzl1 := hnd.lt
 have hzl2 := Tb.lt htab
 refine VL_box (d := 3) (t := 28) (c := #[.int .i64 p, .int .i64 v, .int .i64 c]) (by kernel_rfl) (by kernel_rfl) ?_
 intro b1 w1 hn1
 replace hS := Step.trans hS (hn1.step No)
 replace hSn := Step.trans hSn (hn1.step No)
 replace hnd := hnd.no (hn1.step No)
 replace htab := Tb.no htab (hn1.step No)
 have ho1 := hn1.own
 have hzhn1 := hn1.size
 have hqhn1 := hn1.eqb
 refine VL_pure 3 [0, 3] [(0, .pointer (some ⟨nd, 0, none⟩)), (3, .pointer (some ⟨b1, 0, none⟩))] (by kernel_rfl) rfl ?_
 refine VL_end (by kernel_rfl) ?_
 refine VQ_next ?_
 refine VC_seq ?_
 refine VC_seq ?_
 refine VC_region ?_
 refine VL_pure 2 [0, 3, 7] [(0, .pointer (some ⟨nd, 0, none⟩)), (3, .pointer (some ⟨b1, 0, none⟩)), (7, .bool false)] (by kernel_rfl) rfl ?_
 refine VL_end (by kernel_rfl) ?_
 refine VQ_next ?_
 refine VC_false (by kernel_rfl) ?_
 refine VC_skip ?_
 refine VQ_next ?_
 refine VC_seq ?_
 refine VC_det [[], [0], [0, 1], [0, 1, 2], [], [0, 1, 2, 3, 4], [0, 1, 2, 3, 4, 5], [0, 1, 2, 3, 4, 5], [0, 1, 2, 3, 4, 5, 6, 7], [0, 1, 2, 3, 4, 5, 6, 7, 8]] 8 [.pointer (some ⟨nd, 0, none⟩), .pointer (some ⟨nd, 0, none⟩), .pointer (some ⟨nd, 1, none⟩), .pointer (some ⟨g.tb, 0, none⟩), .agg #[.int .i64 p, .int .i64 v, .int .i64 c], .tuple #[.int .i64 ((lookE (g.ci.map Ci.ent) p v c).getD 0), .bool ((lookE (g.ci.map Ci.ent) p v c).isSome)], .int .i64 ((lookE (g.ci.map Ci.ent) p v c).getD 0), .bool ((lookE (g.ci.map Ci.ent) p v c).isSome)] [0, 1, 2, 6, 7] [3, 4, 5] (by kernel_rfl) (by kernel_rfl) (by kernel_rfl) (by kernel_rfl) ?_ ?_
 ·intro w2 hs1
  replace hS := Step.trans hS hs1
  replace hSn := Step.trans hSn hs1
  replace hnd := hnd.no hs1
  replace htab := Tb.no htab hs1
  replace ho1 := ho1.no hs1
  exact ⟨Det1_load (d := 11) (t := 49) (a := ⟨nd, 1, none⟩) (by kernel_rfl) (by kernel_rfl) (Loads.own1 hnd (by kernel_rfl) (by rfl)), Det1_load (d := 12) (t := 28) (a := ⟨b1, 0, none⟩) (by kernel_rfl) (by kernel_rfl) (Loads.ownL ho1 (n := 3) (by kernel_rfl) (by kernel_rfl) (by kernel_rfl)), Det1_call (d := 13) (f := 36) (args := #[.pointer (some ⟨g.tb, 0, none⟩), .agg #[.int .i64 p, .int .i64 v, .int .i64 c]]) (by kernel_rfl) (by kernel_rfl) (by kernel_rfl) Try.call36 (by exact tget p v c htab), trivial⟩
 intro w2 hs1
 replace hS := Step.trans hS hs1
 replace hSn := Step.trans hSn hs1
 replace hnd := hnd.no hs1
 replace htab := Tb.no htab hs1
 replace ho1 := ho1.no hs1
 refine VL_keep [14, 15] [(14, .int .i64 ((lookE (g.ci.map Ci.ent) p v c).getD 0)), (15, .bool ((lookE (g.ci.map Ci.ent) p v c).isSome))] (by kernel_rfl) ?_
 refine VL_pure 10 [4, 5] [(4, .int .i64 ((lookE (g.ci.map Ci.ent) p v c).getD 0)), (5, .bool ((lookE (g.ci.map Ci.ent) p v c).isSome))] (by kernel_rfl) rfl ?_
 refine VL_end (by kernel_rfl) ?_
 refine VQ_next ?_
 refine VC_ret ?_
 refine VQ_ret2 (.int .i64 ((lookE (g.ci.map Ci.ent) p v c).getD 0)) (.bool ((lookE (g.ci.map Ci.ent) p v c).isSome)) (.inr rfl) rfl rfl rfl ?_
 exact ⟨rfl, hS⟩

set_option maxRecDepth 100000 in
set_option maxHeartbeats 4000000 in
theorem nLeft_in (nd lo : Nat) (X : Nat → Prop) (rooms : List Int) (g : NdG) (p : Int) (i : Nat) (r : Int) (hp : p = (i : Int)) (hil : i < rooms.length) (hir : rooms[i]? = some r) (w : World) (h : NdX w nd X lo rooms g)  :
  CV Try.prog 9 #[.pointer (some ⟨nd, 0, none⟩), .int .i64 p] w (fun x w1 => x = .int .i64 (leftN rooms g.L p) ∧ Step No w w1) := by
 have hS : Step No w w := Step.refl _ _
 have hSn : Step No w w := Step.refl _ _
 have hnd := h.own
 have htab := h.tab
 have hled : Ld w (g.lg i) (g.lm i) r (usdL g.L (i : Int)) (g.N i) := h.led i r hir
 have hu0 := usdL_nonneg g.L (i : Int)
 have hu1 := h.li.fit i r hir
 have hrM := (h.li.rooms r (List.mem_of_getElem? hir)).2
 refine CV_enter Try.f9 _ 9 [(0, .pointer (some ⟨nd, 0, none⟩)), (1, .int .i64 p)] Try.func9 rfl rfl (by kernel_rfl) rfl ?_
 refine VC_seq ?_
 refine VC_region ?_
 refine VL_pure 1 [0, 1] [(0, .pointer (some ⟨nd, 0, none⟩)), (1, .int .i64 p)] (by kernel_rfl) rfl ?_
 refine VL_end (by kernel_rfl) ?_
 refine VQ_next ?_
 refine VC_seq ?_
 refine VC_region ?_
 refine VL_pure 2 [5, 6] [(5, .pointer (some ⟨nd, 0, none⟩)), (6, .int .i64 p)] (by kernel_rfl) rfl ?_
 have hzs1 := hS.size
 have hzs2 := hSn.size
 have hzl1 := hnd.lt
 have hzl2 := Tb.lt htab
 have hzl3 := Ld.lt hled
 refine VL_call (d := 7) (f := 23) (args := #[.pointer (some ⟨nd, 0, none⟩), .int .i64 p]) (by kernel_rfl) (by kernel_rfl) (by kernel_rfl) Try.call23 (link_in nd lo X rooms g p i hp hil _ (h.no hSn)) ?_
 rintro _ w1 ⟨rfl, hc1⟩
 replace hS := Step.trans hS hc1
 replace hSn := Step.trans hSn hc1
 replace hnd := hnd.no hc1
 replace htab := Tb.no htab hc1
 replace hled := Ld.no hled hc1
 have hzs3 := hS.size
 have hzs4 := hSn.size
 have hzl4 := hnd.lt
 have hzl5 := Tb.lt htab
 have hzl6 := Ld.lt hled
 refine VL_call (d := 8) (f := 24) (args := #[.pointer (some ⟨(g.lg i), 0, none⟩)]) (by kernel_rfl) (by kernel_rfl) (by kernel_rfl) Try.call24 (lleft_any (g.lg i) (g.lm i) r (usdL g.L (i : Int)) (g.N i) _ hled hu0 hu1 hrM) ?_
 rintro _ w2 ⟨rfl, hc2⟩
 replace hS := Step.trans hS hc2
 replace hSn := Step.trans hSn hc2
 replace hnd := hnd.no hc2
 replace htab := Tb.no htab hc2
 replace hled := Ld.no hled hc2
 refine VL_pure 5 [4] [(4, .int .i64 (r - usdL g.L (i : Int)))] (by kernel_rfl) rfl ?_
 refine VL_end (by kernel_rfl) ?_
 refine VQ_next ?_
 refine VC_ret ?_
 refine VQ_ret1 (.int .i64 (r - usdL g.L (i : Int))) (.inr rfl) rfl rfl ?_
 exact ⟨congrArg (Value.int .i64) (by rw [left_at hp hir]), hS⟩

set_option maxRecDepth 100000 in
set_option maxHeartbeats 4000000 in
theorem nLeft_ou (nd lo : Nat) (X : Nat → Prop) (rooms : List Int) (g : NdG) (p : Int) (hp : ¬ (0 ≤ p ∧ p < rooms.length)) (w : World) (h : NdX w nd X lo rooms g)  :
  CV Try.prog 9 #[.pointer (some ⟨nd, 0, none⟩), .int .i64 p] w (fun x w1 => x = .int .i64 (leftN rooms g.L p) ∧ Step No w w1) := by
 have hS : Step No w w := Step.refl _ _
 have hSn : Step No w w := Step.refl _ _
 have hnd := h.own
 have htab := h.tab
 refine CV_enter Try.f9 _ 9 [(0, .pointer (some ⟨nd, 0, none⟩)), (1, .int .i64 p)] Try.func9 rfl rfl (by kernel_rfl) rfl ?_
 refine VC_seq ?_
 refine VC_region ?_
 refine VL_pure 1 [0, 1] [(0, .pointer (some ⟨nd, 0, none⟩)), (1, .int .i64 p)] (by kernel_rfl) rfl ?_
 refine VL_end (by kernel_rfl) ?_
 refine VQ_next ?_
 refine VC_seq ?_
 refine VC_region ?_
 refine VL_pure 2 [5, 6] [(5, .pointer (some ⟨nd, 0, none⟩)), (6, .int .i64 p)] (by kernel_rfl) rfl ?_
 have hzs1 := hS.size
 have hzs2 := hSn.size
 have hzl1 := hnd.lt
 have hzl2 := Tb.lt htab
 refine VL_call (d := 7) (f := 23) (args := #[.pointer (some ⟨nd, 0, none⟩), .int .i64 p]) (by kernel_rfl) (by kernel_rfl) (by kernel_rfl) Try.call23 (link_out nd lo X rooms g p hp _ (h.no hSn)) ?_
 rintro _ w1 ⟨rfl, hc1⟩
 replace hS := Step.trans hS hc1
 replace hSn := Step.trans hSn hc1
 replace hnd := hnd.no hc1
 replace htab := Tb.no htab hc1
 have hzs3 := hS.size
 have hzs4 := hSn.size
 have hzl3 := hnd.lt
 have hzl4 := Tb.lt htab
 refine VL_call (d := 8) (f := 24) (args := #[.pointer none]) (by kernel_rfl) (by kernel_rfl) (by kernel_rfl) Try.call24 (lleft_nil _) ?_
 rintro _ w2 ⟨rfl, hc2⟩
 replace hS := Step.trans hS hc2
 replace hSn := Step.trans hSn hc2
 replace hnd := hnd.no hc2
 replace htab := Tb.no htab hc2
 refine VL_pure 5 [4] [(4, .int .i64 0)] (by kernel_rfl) rfl ?_
 refine VL_end (by kernel_rfl) ?_
 refine VQ_next ?_
 refine VC_ret ?_
 refine VQ_ret1 (.int .i64 0) (.inr rfl) rfl rfl ?_
 exact ⟨congrArg (Value.int .i64) (by unfold leftN; rw [if_neg hp]), hS⟩

theorem nLeft_any (nd lo : Nat) (X : Nat → Prop) (rooms : List Int) (g : NdG) (p : Int) (w : World) (h : NdX w nd X lo rooms g) : CV Try.prog 9 #[.pointer (some ⟨nd, 0, none⟩), .int .i64 p] w fun x w1 => x = .int .i64 (leftN rooms g.L p) ∧ Step No w w1 := by
  by_cases hp : 0 ≤ p ∧ p < rooms.length
  · obtain ⟨i, r, e, hil, hir⟩ := port_nat hp
    exact nLeft_in nd lo X rooms g p i r e hil hir w h
  · exact nLeft_ou nd lo X rooms g p hp w h
set_option maxRecDepth 100000 in
set_option maxHeartbeats 4000000 in
theorem nUsed_in (nd lo : Nat) (X : Nat → Prop) (rooms : List Int) (g : NdG) (p : Int) (i : Nat) (r : Int) (hp : p = (i : Int)) (hil : i < rooms.length) (hir : rooms[i]? = some r) (w : World) (h : NdX w nd X lo rooms g)  :
  CV Try.prog 15 #[.pointer (some ⟨nd, 0, none⟩), .int .i64 p] w (fun x w1 => x = .int .i64 (usedN rooms g.L p) ∧ Step No w w1) := by
 have hS : Step No w w := Step.refl _ _
 have hSn : Step No w w := Step.refl _ _
 have hnd := h.own
 have htab := h.tab
 have hled : Ld w (g.lg i) (g.lm i) r (usdL g.L (i : Int)) (g.N i) := h.led i r hir
 have hu0 := usdL_nonneg g.L (i : Int)
 have hu1 := h.li.fit i r hir
 have hrM := (h.li.rooms r (List.mem_of_getElem? hir)).2
 refine CV_enter Try.f15 _ 9 [(0, .pointer (some ⟨nd, 0, none⟩)), (1, .int .i64 p)] Try.func15 rfl rfl (by kernel_rfl) rfl ?_
 refine VC_seq ?_
 refine VC_region ?_
 refine VL_pure 1 [0, 1] [(0, .pointer (some ⟨nd, 0, none⟩)), (1, .int .i64 p)] (by kernel_rfl) rfl ?_
 refine VL_end (by kernel_rfl) ?_
 refine VQ_next ?_
 refine VC_seq ?_
 refine VC_region ?_
 refine VL_pure 2 [5, 6] [(5, .pointer (some ⟨nd, 0, none⟩)), (6, .int .i64 p)] (by kernel_rfl) rfl ?_
 have hzs1 := hS.size
 have hzs2 := hSn.size
 have hzl1 := hnd.lt
 have hzl2 := Tb.lt htab
 have hzl3 := Ld.lt hled
 refine VL_call (d := 7) (f := 23) (args := #[.pointer (some ⟨nd, 0, none⟩), .int .i64 p]) (by kernel_rfl) (by kernel_rfl) (by kernel_rfl) Try.call23 (link_in nd lo X rooms g p i hp hil _ (h.no hSn)) ?_
 rintro _ w1 ⟨rfl, hc1⟩
 replace hS := Step.trans hS hc1
 replace hSn := Step.trans hSn hc1
 replace hnd := hnd.no hc1
 replace htab := Tb.no htab hc1
 replace hled := Ld.no hled hc1
 have hzs3 := hS.size
 have hzs4 := hSn.size
 have hzl4 := hnd.lt
 have hzl5 := Tb.lt htab
 have hzl6 := Ld.lt hled
 refine VL_call (d := 8) (f := 31) (args := #[.pointer (some ⟨(g.lg i), 0, none⟩)]) (by kernel_rfl) (by kernel_rfl) (by kernel_rfl) Try.call31 (lused_any (g.lg i) (g.lm i) r (usdL g.L (i : Int)) (g.N i) _ hled hu0 hu1 hrM) ?_
 rintro _ w2 ⟨rfl, hc2⟩
 replace hS := Step.trans hS hc2
 replace hSn := Step.trans hSn hc2
 replace hnd := hnd.no hc2
 replace htab := Tb.no htab hc2
 replace hled := Ld.no hled hc2
 refine VL_pure 5 [4] [(4, .int .i64 (usdL g.L (i : Int)))] (by kernel_rfl) rfl ?_
 refine VL_end (by kernel_rfl) ?_
 refine VQ_next ?_
 refine VC_ret ?_
 refine VQ_ret1 (.int .i64 (usdL g.L (i : Int))) (.inr rfl) rfl rfl ?_
 exact ⟨congrArg (Value.int .i64) (by unfold usedN; rw [if_pos ⟨by omega, by omega⟩, hp]), hS⟩

set_option maxRecDepth 100000 in
set_option maxHeartbeats 4000000 in
theorem nUsed_ou (nd lo : Nat) (X : Nat → Prop) (rooms : List Int) (g : NdG) (p : Int) (hp : ¬ (0 ≤ p ∧ p < rooms.length)) (w : World) (h : NdX w nd X lo rooms g)  :
  CV Try.prog 15 #[.pointer (some ⟨nd, 0, none⟩), .int .i64 p] w (fun x w1 => x = .int .i64 (usedN rooms g.L p) ∧ Step No w w1) := by
 have hS : Step No w w := Step.refl _ _
 have hSn : Step No w w := Step.refl _ _
 have hnd := h.own
 have htab := h.tab
 refine CV_enter Try.f15 _ 9 [(0, .pointer (some ⟨nd, 0, none⟩)), (1, .int .i64 p)] Try.func15 rfl rfl (by kernel_rfl) rfl ?_
 refine VC_seq ?_
 refine VC_region ?_
 refine VL_pure 1 [0, 1] [(0, .pointer (some ⟨nd, 0, none⟩)), (1, .int .i64 p)] (by kernel_rfl) rfl ?_
 refine VL_end (by kernel_rfl) ?_
 refine VQ_next ?_
 refine VC_seq ?_
 refine VC_region ?_
 refine VL_pure 2 [5, 6] [(5, .pointer (some ⟨nd, 0, none⟩)), (6, .int .i64 p)] (by kernel_rfl) rfl ?_
 have hzs1 := hS.size
 have hzs2 := hSn.size
 have hzl1 := hnd.lt
 have hzl2 := Tb.lt htab
 refine VL_call (d := 7) (f := 23) (args := #[.pointer (some ⟨nd, 0, none⟩), .int .i64 p]) (by kernel_rfl) (by kernel_rfl) (by kernel_rfl) Try.call23 (link_out nd lo X rooms g p hp _ (h.no hSn)) ?_
 rintro _ w1 ⟨rfl, hc1⟩
 replace hS := Step.trans hS hc1
 replace hSn := Step.trans hSn hc1
 replace hnd := hnd.no hc1
 replace htab := Tb.no htab hc1
 have hzs3 := hS.size
 have hzs4 := hSn.size
 have hzl3 := hnd.lt
 have hzl4 := Tb.lt htab
 refine VL_call (d := 8) (f := 31) (args := #[.pointer none]) (by kernel_rfl) (by kernel_rfl) (by kernel_rfl) Try.call31 (lused_nil _) ?_
 rintro _ w2 ⟨rfl, hc2⟩
 replace hS := Step.trans hS hc2
 replace hSn := Step.trans hSn hc2
 replace hnd := hnd.no hc2
 replace htab := Tb.no htab hc2
 refine VL_pure 5 [4] [(4, .int .i64 0)] (by kernel_rfl) rfl ?_
 refine VL_end (by kernel_rfl) ?_
 refine VQ_next ?_
 refine VC_ret ?_
 refine VQ_ret1 (.int .i64 0) (.inr rfl) rfl rfl ?_
 exact ⟨congrArg (Value.int .i64) (by unfold usedN; rw [if_neg hp]), hS⟩

theorem nUsed_any (nd lo : Nat) (X : Nat → Prop) (rooms : List Int) (g : NdG) (p : Int) (w : World) (h : NdX w nd X lo rooms g) : CV Try.prog 15 #[.pointer (some ⟨nd, 0, none⟩), .int .i64 p] w fun x w1 => x = .int .i64 (usedN rooms g.L p) ∧ Step No w w1 := by
  by_cases hp : 0 ≤ p ∧ p < rooms.length
  · obtain ⟨i, r, e, hil, hir⟩ := port_nat hp
    exact nUsed_in nd lo X rooms g p i r e hil hir w h
  · exact nUsed_ou nd lo X rooms g p hp w h
end Go.Proofs.Ythchmlidobgkoaa
end
