/- Layer 15: ElementApart. -/
import Derived.Test.YtpfggjaoinfegaaProg
import Derived.Test.YtpfggjaoinfegaaElUn
set_option linter.unusedVariables false
set_option linter.unusedSimpArgs false
namespace Go.Proofs.Ytpfggjaoinfegaa
open Go.Vc Go.RowKit

theorem traf_iff {k k' : Int} {p e h b t p' e' h' b' t' : Nat} (hr : rightC k p e h b t = 0) (hr' : rightC k' p' e' h' b' t' = 0) : (trafL k p e h b t == trafL k' p' e' h' b' t') = (([k, ((p : Nat) : Int), ((e : Nat) : Int), ((h : Nat) : Int), ((b : Nat) : Int), ((t : Nat) : Int)] : List Int) == [k', ((p' : Nat) : Int), ((e' : Nat) : Int), ((h' : Nat) : Int), ((b' : Nat) : Int), ((t' : Nat) : Int)]) := by
  rw [Bool.eq_iff_iff, beq_iff_eq, beq_iff_eq]
  constructor
  · intro hq
    obtain ⟨rfl, rfl, rfl, rfl, rfl, rfl⟩ := traf_inj hr hr' hq
    rfl
  · intro hq
    simp only [List.cons.injEq, Int.natCast_inj, and_true] at hq
    obtain ⟨rfl, rfl, rfl, rfl, rfl, rfl⟩ := hq
    rfl
theorem key_iff {p v c p' v' c' : Nat} (hr : rightK p v c = true) (hr' : rightK p' v' c' = true) : (keyL p v c == keyL p' v' c') = (([((p : Nat) : Int), ((v : Nat) : Int), ((c : Nat) : Int)] : List Int) == [((p' : Nat) : Int), ((v' : Nat) : Int), ((c' : Nat) : Int)]) := by
  rw [Bool.eq_iff_iff, beq_iff_eq, beq_iff_eq]
  constructor
  · intro hq
    obtain ⟨rfl, rfl, rfl⟩ := key_inj hr hr' hq
    rfl
  · intro hq
    simp only [List.cons.injEq, Int.natCast_inj, and_true] at hq
    obtain ⟨rfl, rfl, rfl⟩ := hq
    rfl
set_option maxRecDepth 100000 in
set_option maxHeartbeats 4000000 in
theorem apart_yy_yy (k : Int) (p e h b t : Nat) (k' : Int) (p' e' h' b' t' : Nat) (kp kv kc : Nat) (kp' kv' kc' : Nat) (w : World) (hr : rightC k p e h b t = 0) (hr' : rightC k' p' e' h' b' t' = 0) (hk : rightK kp kv kc = true) (hk' : rightK kp' kv' kc' = true)  :
    CV Try.prog 6 #[.agg #[.int .i64 k, .int .i64 ((p : Nat) : Int), .int .i64 ((e : Nat) : Int), .int .i64 ((h : Nat) : Int), .int .i64 ((b : Nat) : Int), .int .i64 ((t : Nat) : Int)], .agg #[.int .i64 k', .int .i64 ((p' : Nat) : Int), .int .i64 ((e' : Nat) : Int), .int .i64 ((h' : Nat) : Int), .int .i64 ((b' : Nat) : Int), .int .i64 ((t' : Nat) : Int)], .agg #[.int .i64 ((kp : Nat) : Int), .int .i64 ((kv : Nat) : Int), .int .i64 ((kc : Nat) : Int)], .agg #[.int .i64 ((kp' : Nat) : Int), .int .i64 ((kv' : Nat) : Int), .int .i64 ((kc' : Nat) : Int)]] w (fun x w1 => x = .bool true ∧ Step No w w1) := by
  have hS : Step No w w := Step.refl _ _
  refine CV_enter Try.f6 _ 73 [(0, .agg #[.int .i64 k, .int .i64 ((p : Nat) : Int), .int .i64 ((e : Nat) : Int), .int .i64 ((h : Nat) : Int), .int .i64 ((b : Nat) : Int), .int .i64 ((t : Nat) : Int)]), (1, .agg #[.int .i64 k', .int .i64 ((p' : Nat) : Int), .int .i64 ((e' : Nat) : Int), .int .i64 ((h' : Nat) : Int), .int .i64 ((b' : Nat) : Int), .int .i64 ((t' : Nat) : Int)]), (2, .agg #[.int .i64 ((kp : Nat) : Int), .int .i64 ((kv : Nat) : Int), .int .i64 ((kc : Nat) : Int)]), (3, .agg #[.int .i64 ((kp' : Nat) : Int), .int .i64 ((kv' : Nat) : Int), .int .i64 ((kc' : Nat) : Int)])] Try.func6 rfl rfl (by kernel_rfl) rfl ?_
  refine VC_seq ?_
  refine VC_region ?_
  have hzs1 := hS.size
  refine VL_box (d := 4) (t := 45) (c := #[.int .i64 k, .int .i64 ((p : Nat) : Int), .int .i64 ((e : Nat) : Int), .int .i64 ((h : Nat) : Int), .int .i64 ((b : Nat) : Int), .int .i64 ((t : Nat) : Int)]) (by kernel_rfl) (by kernel_rfl) ?_
  intro b1 w1 hn1
  replace hS := Step.trans hS (hn1.step No)
  have ho1 := hn1.own
  have hzhn1 := hn1.size
  have hqhn1 := hn1.eqb
  have hzs2 := hS.size
  have hzl1 := ho1.lt
  refine VL_box (d := 5) (t := 45) (c := #[.int .i64 k', .int .i64 ((p' : Nat) : Int), .int .i64 ((e' : Nat) : Int), .int .i64 ((h' : Nat) : Int), .int .i64 ((b' : Nat) : Int), .int .i64 ((t' : Nat) : Int)]) (by kernel_rfl) (by kernel_rfl) ?_
  intro b2 w2 hn2
  replace hS := Step.trans hS (hn2.step No)
  replace ho1 := ho1.no (hn2.step No)
  have ho2 := hn2.own
  have hzhn2 := hn2.size
  have hqhn2 := hn2.eqb
  have hzs3 := hS.size
  have hzl2 := ho1.lt
  have hzl3 := ho2.lt
  refine VL_box (d := 6) (t := 47) (c := #[.int .i64 ((kp : Nat) : Int), .int .i64 ((kv : Nat) : Int), .int .i64 ((kc : Nat) : Int)]) (by kernel_rfl) (by kernel_rfl) ?_
  intro b3 w3 hn3
  replace hS := Step.trans hS (hn3.step No)
  replace ho1 := ho1.no (hn3.step No)
  replace ho2 := ho2.no (hn3.step No)
  have ho3 := hn3.own
  have hzhn3 := hn3.size
  have hqhn3 := hn3.eqb
  have hzs4 := hS.size
  have hzl4 := ho1.lt
  have hzl5 := ho2.lt
  have hzl6 := ho3.lt
  refine VL_box (d := 7) (t := 47) (c := #[.int .i64 ((kp' : Nat) : Int), .int .i64 ((kv' : Nat) : Int), .int .i64 ((kc' : Nat) : Int)]) (by kernel_rfl) (by kernel_rfl) ?_
  intro b4 w4 hn4
  replace hS := Step.trans hS (hn4.step No)
  replace ho1 := ho1.no (hn4.step No)
  replace ho2 := ho2.no (hn4.step No)
  replace ho3 := ho3.no (hn4.step No)
  have ho4 := hn4.own
  have hzhn4 := hn4.size
  have hqhn4 := hn4.eqb
  refine VL_pure 5 [4, 5, 6, 7] [(4, .pointer (some ⟨b1, 0, none⟩)), (5, .pointer (some ⟨b2, 0, none⟩)), (6, .pointer (some ⟨b3, 0, none⟩)), (7, .pointer (some ⟨b4, 0, none⟩))] (by kernel_rfl) rfl ?_
  refine VL_end (by kernel_rfl) ?_
  refine VQ_next ?_
  refine VC_seq ?_
  refine VC_seq ?_
  refine VC_region ?_
  have hzs5 := hS.size
  have hzl7 := ho1.lt
  have hzl8 := ho2.lt
  have hzl9 := ho3.lt
  have hzl10 := ho4.lt
  refine VL_call (d := 17) (f := 9) (args := #[]) (by kernel_rfl) (by kernel_rfl) (by kernel_rfl) Try.call9 (awake_any _) ?_
  rintro _ w5 ⟨rfl, hc1⟩
  replace hS := Step.trans hS hc1
  replace ho1 := ho1.no hc1
  replace ho2 := ho2.no hc1
  replace ho3 := ho3.no hc1
  replace ho4 := ho4.no hc1
  refine VL_pure 2 [4, 5, 6, 7, 18] [(4, .pointer (some ⟨b1, 0, none⟩)), (5, .pointer (some ⟨b2, 0, none⟩)), (6, .pointer (some ⟨b3, 0, none⟩)), (7, .pointer (some ⟨b4, 0, none⟩)), (18, .bool false)] (by kernel_rfl) rfl ?_
  refine VL_end (by kernel_rfl) ?_
  refine VQ_next ?_
  refine VC_false (by kernel_rfl) ?_
  refine VC_skip ?_
  refine VQ_next ?_
  refine VC_seq ?_
  refine VC_region ?_
  refine VL_load (d := 20) (t := 45) (a := ⟨b1, 0, none⟩) (v := .agg #[.int .i64 k, .int .i64 ((p : Nat) : Int), .int .i64 ((e : Nat) : Int), .int .i64 ((h : Nat) : Int), .int .i64 ((b : Nat) : Int), .int .i64 ((t : Nat) : Int)]) (by kernel_rfl) (by kernel_rfl) (Loads.ownL ho1 (n := 6) (by kernel_rfl) (by kernel_rfl) (by kernel_rfl)) ?_
  have hzs6 := hS.size
  have hzl11 := ho1.lt
  have hzl12 := ho2.lt
  have hzl13 := ho3.lt
  have hzl14 := ho4.lt
  refine VL_call (d := 21) (f := 18) (by kernel_rfl) (by kernel_rfl) (by kernel_rfl) Try.call18 (traffic_yes k p e h b t _ hr) ?_
  rintro _ w6 ⟨A1, c1, rfl, hr1, hc2⟩
  replace hS := Step.trans hS hc2
  replace ho1 := ho1.no hc2
  replace ho2 := ho2.no hc2
  replace ho3 := ho3.no hc2
  replace ho4 := ho4.no hc2
  obtain ⟨base1, hbase1E⟩ : ∃ x, x = w5.heap.size := ⟨_, rfl⟩
  rw [← hbase1E] at hr1
  have hbase1 : base1 ≤ w6.heap.size := by rw [hbase1E]; exact hc2.size
  refine VL_pure 5 [4, 5, 6, 7, 22, 23] [(4, .pointer (some ⟨b1, 0, none⟩)), (5, .pointer (some ⟨b2, 0, none⟩)), (6, .pointer (some ⟨b3, 0, none⟩)), (7, .pointer (some ⟨b4, 0, none⟩)), (22, .agg #[.int .u8 89, .slice A1 31 c1]), (23, .int .i64 0)] (by kernel_rfl) rfl ?_
  have hzs7 := hS.size
  have hzl15 := ho1.lt
  have hzl16 := ho2.lt
  have hzl17 := ho3.lt
  have hzl18 := ho4.lt
  have hzk1 := hbase1
  have hub1 := hr1.ub
  refine VL_box (d := 9) (t := 40) (c := #[.int .u8 0, .slice none 0 0]) (by kernel_rfl) (by kernel_rfl) ?_
  intro b5 w7 hn5
  replace hS := Step.trans hS (hn5.step No)
  replace ho1 := ho1.no (hn5.step No)
  replace ho2 := ho2.no (hn5.step No)
  replace ho3 := ho3.no (hn5.step No)
  replace ho4 := ho4.no (hn5.step No)
  replace hbase1 := Nat.le_trans hbase1 (hn5.step No).size
  replace hr1 := hr1.no (hn5.step No)
  have ho5 := hn5.own
  have hzhn5 := hn5.size
  have hqhn5 := hn5.eqb
  refine VL_store (b := b5) (o := 0) (vs := [.int .u8 89, .slice A1 31 c1]) (by kernel_rfl) (by kernel_rfl) ho5 (Nat.le_of_ble_eq_true (by kernel_rfl)) ?_
  intro w8 hw1
  replace hS := Step.transNew hS hw1.step (fun _ _ _ => by omega)
  replace ho1 := ho1.step hw1.step (show ¬ b1 = b5 by omega)
  replace ho2 := ho2.step hw1.step (show ¬ b2 = b5 by omega)
  replace ho3 := ho3.step hw1.step (show ¬ b3 = b5 by omega)
  replace ho4 := ho4.step hw1.step (show ¬ b4 = b5 by omega)
  replace hbase1 := Nat.le_trans hbase1 (hw1.step).size
  replace hr1 := hr1.stepU hub1 hw1.step (fun k hk1 hk2 (hF : k = b5) => by omega)
  have ho6 : Own w8 b5 #[.int .u8 89, .slice A1 31 c1] 40 := Own.cast hw1.own (by kernel_rfl)
  have hzhw1 := hw1.same
  refine VL_pure 8 [4, 5, 6, 7, 9, 10] [(4, .pointer (some ⟨b1, 0, none⟩)), (5, .pointer (some ⟨b2, 0, none⟩)), (6, .pointer (some ⟨b3, 0, none⟩)), (7, .pointer (some ⟨b4, 0, none⟩)), (9, .pointer (some ⟨b5, 0, none⟩)), (10, .int .i64 0)] (by kernel_rfl) rfl ?_
  refine VL_end (by kernel_rfl) ?_
  refine VQ_next ?_
  refine VC_seq ?_
  refine VC_region ?_
  refine VL_load (d := 25) (t := 45) (a := ⟨b2, 0, none⟩) (v := .agg #[.int .i64 k', .int .i64 ((p' : Nat) : Int), .int .i64 ((e' : Nat) : Int), .int .i64 ((h' : Nat) : Int), .int .i64 ((b' : Nat) : Int), .int .i64 ((t' : Nat) : Int)]) (by kernel_rfl) (by kernel_rfl) (Loads.ownL ho2 (n := 6) (by kernel_rfl) (by kernel_rfl) (by kernel_rfl)) ?_
  have hzs8 := hS.size
  have hzl19 := ho1.lt
  have hzl20 := ho2.lt
  have hzl21 := ho3.lt
  have hzl22 := ho4.lt
  have hzl23 := ho6.lt
  refine VL_call (d := 26) (f := 18) (by kernel_rfl) (by kernel_rfl) (by kernel_rfl) Try.call18 (traffic_yes k' p' e' h' b' t' _ hr') ?_
  rintro _ w9 ⟨A2, c2, rfl, hr2, hc3⟩
  replace hS := Step.trans hS hc3
  replace ho1 := ho1.no hc3
  replace ho2 := ho2.no hc3
  replace ho3 := ho3.no hc3
  replace ho4 := ho4.no hc3
  replace hbase1 := Nat.le_trans hbase1 (hc3).size
  replace hr1 := hr1.no hc3
  replace ho6 := ho6.no hc3
  obtain ⟨base2, hbase2E⟩ : ∃ x, x = w8.heap.size := ⟨_, rfl⟩
  rw [← hbase2E] at hr2
  have hbase2 : base2 ≤ w9.heap.size := by rw [hbase2E]; exact hc3.size
  refine VL_pure 5 [4, 5, 6, 7, 9, 10, 27, 28] [(4, .pointer (some ⟨b1, 0, none⟩)), (5, .pointer (some ⟨b2, 0, none⟩)), (6, .pointer (some ⟨b3, 0, none⟩)), (7, .pointer (some ⟨b4, 0, none⟩)), (9, .pointer (some ⟨b5, 0, none⟩)), (10, .int .i64 0), (27, .agg #[.int .u8 89, .slice A2 31 c2]), (28, .int .i64 0)] (by kernel_rfl) rfl ?_
  have hzs9 := hS.size
  have hzl24 := ho1.lt
  have hzl25 := ho2.lt
  have hzl26 := ho3.lt
  have hzl27 := ho4.lt
  have hzk2 := hbase1
  have hzl28 := ho6.lt
  have hzk3 := hbase2
  have hub2 := hr2.ub
  refine VL_box (d := 11) (t := 40) (c := #[.int .u8 0, .slice none 0 0]) (by kernel_rfl) (by kernel_rfl) ?_
  intro b6 w10 hn6
  replace hS := Step.trans hS (hn6.step No)
  replace ho1 := ho1.no (hn6.step No)
  replace ho2 := ho2.no (hn6.step No)
  replace ho3 := ho3.no (hn6.step No)
  replace ho4 := ho4.no (hn6.step No)
  replace hbase1 := Nat.le_trans hbase1 (hn6.step No).size
  replace hr1 := hr1.no (hn6.step No)
  replace ho6 := ho6.no (hn6.step No)
  replace hbase2 := Nat.le_trans hbase2 (hn6.step No).size
  replace hr2 := hr2.no (hn6.step No)
  have ho7 := hn6.own
  have hzhn6 := hn6.size
  have hqhn6 := hn6.eqb
  refine VL_store (b := b6) (o := 0) (vs := [.int .u8 89, .slice A2 31 c2]) (by kernel_rfl) (by kernel_rfl) ho7 (Nat.le_of_ble_eq_true (by kernel_rfl)) ?_
  intro w11 hw2
  replace hS := Step.transNew hS hw2.step (fun _ _ _ => by omega)
  replace ho1 := ho1.step hw2.step (show ¬ b1 = b6 by omega)
  replace ho2 := ho2.step hw2.step (show ¬ b2 = b6 by omega)
  replace ho3 := ho3.step hw2.step (show ¬ b3 = b6 by omega)
  replace ho4 := ho4.step hw2.step (show ¬ b4 = b6 by omega)
  replace hbase1 := Nat.le_trans hbase1 (hw2.step).size
  replace hr1 := hr1.stepU hub1 hw2.step (fun k hk1 hk2 (hF : k = b6) => by omega)
  replace ho6 := ho6.step hw2.step (show ¬ b5 = b6 by omega)
  replace hbase2 := Nat.le_trans hbase2 (hw2.step).size
  replace hr2 := hr2.stepU hub2 hw2.step (fun k hk1 hk2 (hF : k = b6) => by omega)
  have ho8 : Own w11 b6 #[.int .u8 89, .slice A2 31 c2] 40 := Own.cast hw2.own (by kernel_rfl)
  have hzhw2 := hw2.same
  refine VL_pure 8 [4, 5, 6, 7, 9, 10, 11, 12] [(4, .pointer (some ⟨b1, 0, none⟩)), (5, .pointer (some ⟨b2, 0, none⟩)), (6, .pointer (some ⟨b3, 0, none⟩)), (7, .pointer (some ⟨b4, 0, none⟩)), (9, .pointer (some ⟨b5, 0, none⟩)), (10, .int .i64 0), (11, .pointer (some ⟨b6, 0, none⟩)), (12, .int .i64 0)] (by kernel_rfl) rfl ?_
  refine VL_end (by kernel_rfl) ?_
  refine VQ_next ?_
  refine VC_seq ?_
  refine VC_seq ?_
  have hs1 := drew_step w11
  have hs1z : w11.heap.size = w11.drew.heap.size := rfl
  refine VC_text [[], [0], [0, 1], [0, 1, 2], [0, 1, 2, 3], [0, 1, 2, 3, 4], [0, 1, 2, 3, 4, 5], [0, 1, 2, 3, 4, 5, 6], [0, 1, 2, 3, 4, 5, 6, 7], [0, 1, 2, 3, 4, 5, 6], [0, 1, 2, 3, 4, 5, 6, 9], [0, 1, 2, 3, 4, 5, 6, 7, 8, 9, 10], [0, 1, 2, 3, 4, 5, 6], [0, 1, 2, 3, 4, 5, 6], [0, 1, 2, 3, 4, 5, 6, 12, 13], [0, 1, 2, 3, 4, 5, 6, 7, 8, 9, 10, 11, 12, 13, 14], [0, 1, 2, 3, 4, 5, 6, 7, 8, 9, 10, 11, 12, 13, 14, 15]] 15 (fun x y => Step (fun k => w11.heap.size ≤ k) x y) [] [0, 1, 2, 3, 4, 5, 6, 7, 8, 9, 10, 11, 12, 13, 14] (by kernel_rfl) (by kernel_rfl) (by kernel_rfl) (by kernel_rfl) (fun x => Step.refl _ x) (fun h k => Step.trans h k) Step.weak ?_
  have hzs10 := hS.size
  have hzl29 := ho1.lt
  have hzl30 := ho2.lt
  have hzl31 := ho3.lt
  have hzl32 := ho4.lt
  have hzl33 := ho6.lt
  have hzl34 := ho8.lt
  generalize w11.drew = w12 at hs1 hs1z ⊢
  replace hS := Step.trans hS hs1
  replace ho1 := ho1.no hs1
  replace ho2 := ho2.no hs1
  replace ho3 := ho3.no hs1
  replace ho4 := ho4.no hs1
  replace hbase1 := Nat.le_trans hbase1 (hs1).size
  replace hr1 := hr1.no hs1
  replace ho6 := ho6.no hs1
  replace hbase2 := Nat.le_trans hbase2 (hs1).size
  replace hr2 := hr2.no hs1
  replace ho8 := ho8.no hs1
  refine VT_pures 8 (kn' := [(7, .pointer (some ⟨b5, 1, none⟩)), (6, .bool true), (5, .bool true), (4, .bool true), (3, .int .i64 0), (2, .bool true), (1, .bool true), (0, .int .i64 0)]) (by kernel_rfl) ?_
  refine VT_load (d := 37) (t := 23) (a := ⟨b5, 1, none⟩) (v := .slice A1 31 c1) (by kernel_rfl) (by kernel_rfl) ?_ ?_
  · intro w13 hr3
    replace hS := Step.transNew hS hr3 (fun i hi hG => by (try simp only at hG); omega)
    replace ho1 := ho1.step hr3 (by (try simp only); omega)
    replace ho2 := ho2.step hr3 (by (try simp only); omega)
    replace ho3 := ho3.step hr3 (by (try simp only); omega)
    replace ho4 := ho4.step hr3 (by (try simp only); omega)
    replace hbase1 := Nat.le_trans hbase1 (hr3).size
    replace hr1 := hr1.stepU hub1 hr3 (fun k hk hk2 hG => by (try simp only at hG); omega)
    replace ho6 := ho6.step hr3 (by (try simp only); omega)
    replace hbase2 := Nat.le_trans hbase2 (hr3).size
    replace hr2 := hr2.stepU hub2 hr3 (fun k hk hk2 hG => by (try simp only at hG); omega)
    replace ho8 := ho8.step hr3 (by (try simp only); omega)
    exact (Loads.own1 ho6 (by kernel_rfl) (by rfl))
  refine VT_pures 1 (kn' := [(9, .pointer (some ⟨b6, 1, none⟩)), (8, .slice A1 31 c1), (7, .pointer (some ⟨b5, 1, none⟩)), (6, .bool true), (5, .bool true), (4, .bool true), (3, .int .i64 0), (2, .bool true), (1, .bool true), (0, .int .i64 0)]) (by kernel_rfl) ?_
  refine VT_load (d := 39) (t := 23) (a := ⟨b6, 1, none⟩) (v := .slice A2 31 c2) (by kernel_rfl) (by kernel_rfl) ?_ ?_
  · intro w14 hr4
    replace hS := Step.transNew hS hr4 (fun i hi hG => by (try simp only at hG); omega)
    replace ho1 := ho1.step hr4 (by (try simp only); omega)
    replace ho2 := ho2.step hr4 (by (try simp only); omega)
    replace ho3 := ho3.step hr4 (by (try simp only); omega)
    replace ho4 := ho4.step hr4 (by (try simp only); omega)
    replace hbase1 := Nat.le_trans hbase1 (hr4).size
    replace hr1 := hr1.stepU hub1 hr4 (fun k hk hk2 hG => by (try simp only at hG); omega)
    replace ho6 := ho6.step hr4 (by (try simp only); omega)
    replace hbase2 := Nat.le_trans hbase2 (hr4).size
    replace hr2 := hr2.stepU hub2 hr4 (fun k hk hk2 hG => by (try simp only at hG); omega)
    replace ho8 := ho8.step hr4 (by (try simp only); omega)
    exact (Loads.own1 ho8 (by kernel_rfl) (by rfl))
  refine VT_fcall (d := 40) (f := 14) (args := #[.slice A1 31 c1, .slice A2 31 c2]) (v := .bool ((trafL k p e h b t) == (trafL k' p' e' h' b' t'))) (by kernel_rfl) (by kernel_rfl) (by kernel_rfl) Try.call14 ?_ ?_
  · intro w15 hr5
    replace hS := Step.transNew hS hr5 (fun i hi hG => by (try simp only at hG); omega)
    replace ho1 := ho1.step hr5 (by (try simp only); omega)
    replace ho2 := ho2.step hr5 (by (try simp only); omega)
    replace ho3 := ho3.step hr5 (by (try simp only); omega)
    replace ho4 := ho4.step hr5 (by (try simp only); omega)
    replace hbase1 := Nat.le_trans hbase1 (hr5).size
    replace hr1 := hr1.stepU hub1 hr5 (fun k hk hk2 hG => by (try simp only at hG); omega)
    replace ho6 := ho6.step hr5 (by (try simp only); omega)
    replace hbase2 := Nat.le_trans hbase2 (hr5).size
    replace hr2 := hr2.stepU hub2 hr5 (fun k hk hk2 hG => by (try simp only at hG); omega)
    replace ho8 := ho8.step hr5 (by (try simp only); omega)
    exact same_any A1 31 c1 _ (trafL k p e h b t) A2 31 c2 _ (trafL k' p' e' h' b' t') _ (Rw.lenI hr1) (Rw.slI hr1) (Rw.lenI hr2) (Rw.slI hr2) (by omega) (by omega) (by first | exact Nat.le_refl _ | omega) (by first | exact Nat.le_refl _ | omega)
  refine VT_load (d := 41) (t := 45) (a := ⟨b1, 0, none⟩) (v := .agg #[.int .i64 k, .int .i64 ((p : Nat) : Int), .int .i64 ((e : Nat) : Int), .int .i64 ((h : Nat) : Int), .int .i64 ((b : Nat) : Int), .int .i64 ((t : Nat) : Int)]) (by kernel_rfl) (by kernel_rfl) ?_ ?_
  · intro w16 hr6
    replace hS := Step.transNew hS hr6 (fun i hi hG => by (try simp only at hG); omega)
    replace ho1 := ho1.step hr6 (by (try simp only); omega)
    replace ho2 := ho2.step hr6 (by (try simp only); omega)
    replace ho3 := ho3.step hr6 (by (try simp only); omega)
    replace ho4 := ho4.step hr6 (by (try simp only); omega)
    replace hbase1 := Nat.le_trans hbase1 (hr6).size
    replace hr1 := hr1.stepU hub1 hr6 (fun k hk hk2 hG => by (try simp only at hG); omega)
    replace ho6 := ho6.step hr6 (by (try simp only); omega)
    replace hbase2 := Nat.le_trans hbase2 (hr6).size
    replace hr2 := hr2.stepU hub2 hr6 (fun k hk hk2 hG => by (try simp only at hG); omega)
    replace ho8 := ho8.step hr6 (by (try simp only); omega)
    exact (Loads.ownL ho1 (n := 6) (by kernel_rfl) (by kernel_rfl) (by kernel_rfl))
  refine VT_load (d := 42) (t := 45) (a := ⟨b2, 0, none⟩) (v := .agg #[.int .i64 k', .int .i64 ((p' : Nat) : Int), .int .i64 ((e' : Nat) : Int), .int .i64 ((h' : Nat) : Int), .int .i64 ((b' : Nat) : Int), .int .i64 ((t' : Nat) : Int)]) (by kernel_rfl) (by kernel_rfl) ?_ ?_
  · intro w17 hr7
    replace hS := Step.transNew hS hr7 (fun i hi hG => by (try simp only at hG); omega)
    replace ho1 := ho1.step hr7 (by (try simp only); omega)
    replace ho2 := ho2.step hr7 (by (try simp only); omega)
    replace ho3 := ho3.step hr7 (by (try simp only); omega)
    replace ho4 := ho4.step hr7 (by (try simp only); omega)
    replace hbase1 := Nat.le_trans hbase1 (hr7).size
    replace hr1 := hr1.stepU hub1 hr7 (fun k hk hk2 hG => by (try simp only at hG); omega)
    replace ho6 := ho6.step hr7 (by (try simp only); omega)
    replace hbase2 := Nat.le_trans hbase2 (hr7).size
    replace hr2 := hr2.stepU hub2 hr7 (fun k hk hk2 hG => by (try simp only at hG); omega)
    replace ho8 := ho8.step hr7 (by (try simp only); omega)
    exact (Loads.ownL ho2 (n := 6) (by kernel_rfl) (by kernel_rfl) (by kernel_rfl))
  refine VT_agEq (d := 43) (dd := 9) (ls := ([.int .i64] ++ [.int .i64] ++ [.int .i64] ++ [.int .i64] ++ [.int .i64] ++ [.int .i64] ++ [])) (pos := true) (t := 45) (xs := #[.int .i64 k, .int .i64 ((p : Nat) : Int), .int .i64 ((e : Nat) : Int), .int .i64 ((h : Nat) : Int), .int .i64 ((b : Nat) : Int), .int .i64 ((t : Nat) : Int)]) (ys := #[.int .i64 k', .int .i64 ((p' : Nat) : Int), .int .i64 ((e' : Nat) : Int), .int .i64 ((h' : Nat) : Int), .int .i64 ((b' : Nat) : Int), .int .i64 ((t' : Nat) : Int)]) (by kernel_rfl) (by kernel_rfl) (by kernel_rfl) (by kernel_rfl) (by first | exact ⟨⟨_, rfl⟩, ⟨_, rfl⟩, ⟨_, rfl⟩, ⟨_, rfl⟩, ⟨_, rfl⟩, ⟨_, rfl⟩, trivial⟩ | trivial) (by first | exact ⟨⟨_, rfl⟩, ⟨_, rfl⟩, ⟨_, rfl⟩, ⟨_, rfl⟩, ⟨_, rfl⟩, ⟨_, rfl⟩, trivial⟩ | trivial) (([k, ((p : Nat) : Int), ((e : Nat) : Int), ((h : Nat) : Int), ((b : Nat) : Int), ((t : Nat) : Int)] : List Int) == [k', ((p' : Nat) : Int), ((e' : Nat) : Int), ((h' : Nat) : Int), ((b' : Nat) : Int), ((t' : Nat) : Int)]) (iA_eq (k := .i64) (xs := [k, ((p : Nat) : Int), ((e : Nat) : Int), ((h : Nat) : Int), ((b : Nat) : Int), ((t : Nat) : Int)]) (bs := [k', ((p' : Nat) : Int), ((e' : Nat) : Int), ((h' : Nat) : Int), ((b' : Nat) : Int), ((t' : Nat) : Int)]) true) ?_
  refine VT_end ?_
  intro w18 hs2
  replace hS := Step.trans hS hs2
  replace ho1 := ho1.no hs2
  replace ho2 := ho2.no hs2
  replace ho3 := ho3.no hs2
  replace ho4 := ho4.no hs2
  replace hbase1 := Nat.le_trans hbase1 (hs2).size
  replace hr1 := hr1.no hs2
  replace ho6 := ho6.no hs2
  replace hbase2 := Nat.le_trans hbase2 (hs2).size
  replace hr2 := hr2.no hs2
  replace ho8 := ho8.no hs2
  refine VL_keep [6, 7, 35, 40, 43] [(6, .pointer (some ⟨b3, 0, none⟩)), (7, .pointer (some ⟨b4, 0, none⟩)), (35, .bool true), (40, .bool ((trafL k p e h b t) == (trafL k' p' e' h' b' t'))), (43, .bool (([k, ((p : Nat) : Int), ((e : Nat) : Int), ((h : Nat) : Int), ((b : Nat) : Int), ((t : Nat) : Int)] : List Int) == [k', ((p' : Nat) : Int), ((e' : Nat) : Int), ((h' : Nat) : Int), ((b' : Nat) : Int), ((t' : Nat) : Int)]))] (by kernel_rfl) ?_
  refine VL_pure 17 [6, 7, 45] [(6, .pointer (some ⟨b3, 0, none⟩)), (7, .pointer (some ⟨b4, 0, none⟩)), (45, .bool (!(((trafL k p e h b t) == (trafL k' p' e' h' b' t')) == (([k, ((p : Nat) : Int), ((e : Nat) : Int), ((h : Nat) : Int), ((b : Nat) : Int), ((t : Nat) : Int)] : List Int) == [k', ((p' : Nat) : Int), ((e' : Nat) : Int), ((h' : Nat) : Int), ((b' : Nat) : Int), ((t' : Nat) : Int)]))))] (by kernel_rfl) rfl ?_
  refine VL_end (by kernel_rfl) ?_
  refine VQ_next ?_
  refine VC_is (b := !(((trafL k p e h b t) == (trafL k' p' e' h' b' t')) == (([k, ((p : Nat) : Int), ((e : Nat) : Int), ((h : Nat) : Int), ((b : Nat) : Int), ((t : Nat) : Int)] : List Int) == [k', ((p' : Nat) : Int), ((e' : Nat) : Int), ((h' : Nat) : Int), ((b' : Nat) : Int), ((t' : Nat) : Int)]))) false (by kernel_rfl) (by rw [traf_iff hr hr']; simp) ?_
  refine VC_ite_false ?_
  refine VC_skip ?_
  refine VQ_next ?_
  refine VC_seq ?_
  refine VC_region ?_
  refine VL_load (d := 47) (t := 47) (a := ⟨b3, 0, none⟩) (v := .agg #[.int .i64 ((kp : Nat) : Int), .int .i64 ((kv : Nat) : Int), .int .i64 ((kc : Nat) : Int)]) (by kernel_rfl) (by kernel_rfl) (Loads.ownL ho3 (n := 3) (by kernel_rfl) (by kernel_rfl) (by kernel_rfl)) ?_
  have hzs11 := hS.size
  have hzl35 := ho1.lt
  have hzl36 := ho2.lt
  have hzl37 := ho3.lt
  have hzl38 := ho4.lt
  have hzl39 := ho6.lt
  have hzl40 := ho8.lt
  refine VL_call (d := 48) (f := 19) (by kernel_rfl) (by kernel_rfl) (by kernel_rfl) Try.call19 (key_yes kp kv kc _ hk) ?_
  rintro _ w19 ⟨A3, c3, rfl, hr8, hc4⟩
  replace hS := Step.trans hS hc4
  replace ho1 := ho1.no hc4
  replace ho2 := ho2.no hc4
  replace ho3 := ho3.no hc4
  replace ho4 := ho4.no hc4
  replace hbase1 := Nat.le_trans hbase1 (hc4).size
  replace hr1 := hr1.no hc4
  replace ho6 := ho6.no hc4
  replace hbase2 := Nat.le_trans hbase2 (hc4).size
  replace hr2 := hr2.no hc4
  replace ho8 := ho8.no hc4
  obtain ⟨base3, hbase3E⟩ : ∃ x, x = w18.heap.size := ⟨_, rfl⟩
  rw [← hbase3E] at hr8
  have hbase3 : base3 ≤ w19.heap.size := by rw [hbase3E]; exact hc4.size
  refine VL_pure 5 [6, 7, 49, 50] [(6, .pointer (some ⟨b3, 0, none⟩)), (7, .pointer (some ⟨b4, 0, none⟩)), (49, .agg #[.int .u8 90, .slice A3 5 c3]), (50, .int .i64 0)] (by kernel_rfl) rfl ?_
  have hzs12 := hS.size
  have hzl41 := ho1.lt
  have hzl42 := ho2.lt
  have hzl43 := ho3.lt
  have hzl44 := ho4.lt
  have hzk4 := hbase1
  have hzl45 := ho6.lt
  have hzk5 := hbase2
  have hzl46 := ho8.lt
  have hzk6 := hbase3
  have hub3 := hr8.ub
  refine VL_box (d := 13) (t := 40) (c := #[.int .u8 0, .slice none 0 0]) (by kernel_rfl) (by kernel_rfl) ?_
  intro b7 w20 hn7
  replace hS := Step.trans hS (hn7.step No)
  replace ho1 := ho1.no (hn7.step No)
  replace ho2 := ho2.no (hn7.step No)
  replace ho3 := ho3.no (hn7.step No)
  replace ho4 := ho4.no (hn7.step No)
  replace hbase1 := Nat.le_trans hbase1 (hn7.step No).size
  replace hr1 := hr1.no (hn7.step No)
  replace ho6 := ho6.no (hn7.step No)
  replace hbase2 := Nat.le_trans hbase2 (hn7.step No).size
  replace hr2 := hr2.no (hn7.step No)
  replace ho8 := ho8.no (hn7.step No)
  replace hbase3 := Nat.le_trans hbase3 (hn7.step No).size
  replace hr8 := hr8.no (hn7.step No)
  have ho9 := hn7.own
  have hzhn7 := hn7.size
  have hqhn7 := hn7.eqb
  refine VL_store (b := b7) (o := 0) (vs := [.int .u8 90, .slice A3 5 c3]) (by kernel_rfl) (by kernel_rfl) ho9 (Nat.le_of_ble_eq_true (by kernel_rfl)) ?_
  intro w21 hw3
  replace hS := Step.transNew hS hw3.step (fun _ _ _ => by omega)
  replace ho1 := ho1.step hw3.step (show ¬ b1 = b7 by omega)
  replace ho2 := ho2.step hw3.step (show ¬ b2 = b7 by omega)
  replace ho3 := ho3.step hw3.step (show ¬ b3 = b7 by omega)
  replace ho4 := ho4.step hw3.step (show ¬ b4 = b7 by omega)
  replace hbase1 := Nat.le_trans hbase1 (hw3.step).size
  replace hr1 := hr1.stepU hub1 hw3.step (fun k hk1 hk2 (hF : k = b7) => by omega)
  replace ho6 := ho6.step hw3.step (show ¬ b5 = b7 by omega)
  replace hbase2 := Nat.le_trans hbase2 (hw3.step).size
  replace hr2 := hr2.stepU hub2 hw3.step (fun k hk1 hk2 (hF : k = b7) => by omega)
  replace ho8 := ho8.step hw3.step (show ¬ b6 = b7 by omega)
  replace hbase3 := Nat.le_trans hbase3 (hw3.step).size
  replace hr8 := hr8.stepU hub3 hw3.step (fun k hk1 hk2 (hF : k = b7) => by omega)
  have ho10 : Own w21 b7 #[.int .u8 90, .slice A3 5 c3] 40 := Own.cast hw3.own (by kernel_rfl)
  have hzhw3 := hw3.same
  refine VL_pure 8 [6, 7, 13, 14] [(6, .pointer (some ⟨b3, 0, none⟩)), (7, .pointer (some ⟨b4, 0, none⟩)), (13, .pointer (some ⟨b7, 0, none⟩)), (14, .int .i64 0)] (by kernel_rfl) rfl ?_
  refine VL_end (by kernel_rfl) ?_
  refine VQ_next ?_
  refine VC_seq ?_
  refine VC_region ?_
  refine VL_load (d := 52) (t := 47) (a := ⟨b4, 0, none⟩) (v := .agg #[.int .i64 ((kp' : Nat) : Int), .int .i64 ((kv' : Nat) : Int), .int .i64 ((kc' : Nat) : Int)]) (by kernel_rfl) (by kernel_rfl) (Loads.ownL ho4 (n := 3) (by kernel_rfl) (by kernel_rfl) (by kernel_rfl)) ?_
  have hzs13 := hS.size
  have hzl47 := ho1.lt
  have hzl48 := ho2.lt
  have hzl49 := ho3.lt
  have hzl50 := ho4.lt
  have hzl51 := ho6.lt
  have hzl52 := ho8.lt
  have hzl53 := ho10.lt
  refine VL_call (d := 53) (f := 19) (by kernel_rfl) (by kernel_rfl) (by kernel_rfl) Try.call19 (key_yes kp' kv' kc' _ hk') ?_
  rintro _ w22 ⟨A4, c4, rfl, hr9, hc5⟩
  replace hS := Step.trans hS hc5
  replace ho1 := ho1.no hc5
  replace ho2 := ho2.no hc5
  replace ho3 := ho3.no hc5
  replace ho4 := ho4.no hc5
  replace hbase1 := Nat.le_trans hbase1 (hc5).size
  replace hr1 := hr1.no hc5
  replace ho6 := ho6.no hc5
  replace hbase2 := Nat.le_trans hbase2 (hc5).size
  replace hr2 := hr2.no hc5
  replace ho8 := ho8.no hc5
  replace hbase3 := Nat.le_trans hbase3 (hc5).size
  replace hr8 := hr8.no hc5
  replace ho10 := ho10.no hc5
  obtain ⟨base4, hbase4E⟩ : ∃ x, x = w21.heap.size := ⟨_, rfl⟩
  rw [← hbase4E] at hr9
  have hbase4 : base4 ≤ w22.heap.size := by rw [hbase4E]; exact hc5.size
  refine VL_pure 5 [6, 7, 13, 14, 54, 55] [(6, .pointer (some ⟨b3, 0, none⟩)), (7, .pointer (some ⟨b4, 0, none⟩)), (13, .pointer (some ⟨b7, 0, none⟩)), (14, .int .i64 0), (54, .agg #[.int .u8 90, .slice A4 5 c4]), (55, .int .i64 0)] (by kernel_rfl) rfl ?_
  have hzs14 := hS.size
  have hzl54 := ho1.lt
  have hzl55 := ho2.lt
  have hzl56 := ho3.lt
  have hzl57 := ho4.lt
  have hzk7 := hbase1
  have hzl58 := ho6.lt
  have hzk8 := hbase2
  have hzl59 := ho8.lt
  have hzk9 := hbase3
  have hzl60 := ho10.lt
  have hzk10 := hbase4
  have hub4 := hr9.ub
  refine VL_box (d := 15) (t := 40) (c := #[.int .u8 0, .slice none 0 0]) (by kernel_rfl) (by kernel_rfl) ?_
  intro b8 w23 hn8
  replace hS := Step.trans hS (hn8.step No)
  replace ho1 := ho1.no (hn8.step No)
  replace ho2 := ho2.no (hn8.step No)
  replace ho3 := ho3.no (hn8.step No)
  replace ho4 := ho4.no (hn8.step No)
  replace hbase1 := Nat.le_trans hbase1 (hn8.step No).size
  replace hr1 := hr1.no (hn8.step No)
  replace ho6 := ho6.no (hn8.step No)
  replace hbase2 := Nat.le_trans hbase2 (hn8.step No).size
  replace hr2 := hr2.no (hn8.step No)
  replace ho8 := ho8.no (hn8.step No)
  replace hbase3 := Nat.le_trans hbase3 (hn8.step No).size
  replace hr8 := hr8.no (hn8.step No)
  replace ho10 := ho10.no (hn8.step No)
  replace hbase4 := Nat.le_trans hbase4 (hn8.step No).size
  replace hr9 := hr9.no (hn8.step No)
  have ho11 := hn8.own
  have hzhn8 := hn8.size
  have hqhn8 := hn8.eqb
  refine VL_store (b := b8) (o := 0) (vs := [.int .u8 90, .slice A4 5 c4]) (by kernel_rfl) (by kernel_rfl) ho11 (Nat.le_of_ble_eq_true (by kernel_rfl)) ?_
  intro w24 hw4
  replace hS := Step.transNew hS hw4.step (fun _ _ _ => by omega)
  replace ho1 := ho1.step hw4.step (show ¬ b1 = b8 by omega)
  replace ho2 := ho2.step hw4.step (show ¬ b2 = b8 by omega)
  replace ho3 := ho3.step hw4.step (show ¬ b3 = b8 by omega)
  replace ho4 := ho4.step hw4.step (show ¬ b4 = b8 by omega)
  replace hbase1 := Nat.le_trans hbase1 (hw4.step).size
  replace hr1 := hr1.stepU hub1 hw4.step (fun k hk1 hk2 (hF : k = b8) => by omega)
  replace ho6 := ho6.step hw4.step (show ¬ b5 = b8 by omega)
  replace hbase2 := Nat.le_trans hbase2 (hw4.step).size
  replace hr2 := hr2.stepU hub2 hw4.step (fun k hk1 hk2 (hF : k = b8) => by omega)
  replace ho8 := ho8.step hw4.step (show ¬ b6 = b8 by omega)
  replace hbase3 := Nat.le_trans hbase3 (hw4.step).size
  replace hr8 := hr8.stepU hub3 hw4.step (fun k hk1 hk2 (hF : k = b8) => by omega)
  replace ho10 := ho10.step hw4.step (show ¬ b7 = b8 by omega)
  replace hbase4 := Nat.le_trans hbase4 (hw4.step).size
  replace hr9 := hr9.stepU hub4 hw4.step (fun k hk1 hk2 (hF : k = b8) => by omega)
  have ho12 : Own w24 b8 #[.int .u8 90, .slice A4 5 c4] 40 := Own.cast hw4.own (by kernel_rfl)
  have hzhw4 := hw4.same
  refine VL_pure 8 [6, 7, 13, 14, 15, 16] [(6, .pointer (some ⟨b3, 0, none⟩)), (7, .pointer (some ⟨b4, 0, none⟩)), (13, .pointer (some ⟨b7, 0, none⟩)), (14, .int .i64 0), (15, .pointer (some ⟨b8, 0, none⟩)), (16, .int .i64 0)] (by kernel_rfl) rfl ?_
  refine VL_end (by kernel_rfl) ?_
  refine VQ_next ?_
  refine VC_seq ?_
  have hs3 := drew_step w24
  have hs3z : w24.heap.size = w24.drew.heap.size := rfl
  refine VC_text [[], [0], [0, 1], [0, 1, 2], [0, 1, 2, 3], [0, 1, 2, 3, 4], [0, 1, 2, 3, 4, 5], [0, 1, 2, 3, 4, 5, 6], [0, 1, 2, 3, 4, 5, 6, 7], [0, 1, 2, 3, 4, 5, 6], [0, 1, 2, 3, 4, 5, 6, 9], [0, 1, 2, 3, 4, 5, 6, 7, 8, 9, 10], [0, 1, 2, 3, 4, 5, 6], [0, 1, 2, 3, 4, 5, 6], [0, 1, 2, 3, 4, 5, 6, 12, 13], [0, 1, 2, 3, 4, 5, 6, 7, 8, 9, 10, 11, 12, 13, 14], [0, 1, 2, 3, 4, 5, 6, 7, 8, 9, 10, 11, 12, 13, 14, 15], [0, 1, 2, 3, 4, 5, 6, 7, 8, 9, 10, 11, 12, 13, 14, 15, 16]] 15 (fun x y => Step (fun k => w24.heap.size ≤ k) x y) [] [0, 1, 2, 3, 4, 5, 6, 7, 8, 9, 10, 11, 12, 13, 14] (by kernel_rfl) (by kernel_rfl) (by kernel_rfl) (by kernel_rfl) (fun x => Step.refl _ x) (fun h k => Step.trans h k) Step.weak ?_
  have hzs15 := hS.size
  have hzl61 := ho1.lt
  have hzl62 := ho2.lt
  have hzl63 := ho3.lt
  have hzl64 := ho4.lt
  have hzl65 := ho6.lt
  have hzl66 := ho8.lt
  have hzl67 := ho10.lt
  have hzl68 := ho12.lt
  generalize w24.drew = w25 at hs3 hs3z ⊢
  replace hS := Step.trans hS hs3
  replace ho1 := ho1.no hs3
  replace ho2 := ho2.no hs3
  replace ho3 := ho3.no hs3
  replace ho4 := ho4.no hs3
  replace hbase1 := Nat.le_trans hbase1 (hs3).size
  replace hr1 := hr1.no hs3
  replace ho6 := ho6.no hs3
  replace hbase2 := Nat.le_trans hbase2 (hs3).size
  replace hr2 := hr2.no hs3
  replace ho8 := ho8.no hs3
  replace hbase3 := Nat.le_trans hbase3 (hs3).size
  replace hr8 := hr8.no hs3
  replace ho10 := ho10.no hs3
  replace hbase4 := Nat.le_trans hbase4 (hs3).size
  replace hr9 := hr9.no hs3
  replace ho12 := ho12.no hs3
  refine VT_pures 8 (kn' := [(7, .pointer (some ⟨b7, 1, none⟩)), (6, .bool false), (5, .bool false), (4, .bool false), (3, .int .i64 0), (2, .bool false), (1, .bool false), (0, .int .i64 0)]) (by kernel_rfl) ?_
  refine VT_load (d := 64) (t := 23) (a := ⟨b7, 1, none⟩) (v := .slice A3 5 c3) (by kernel_rfl) (by kernel_rfl) ?_ ?_
  · intro w26 hr10
    replace hS := Step.transNew hS hr10 (fun i hi hG => by (try simp only at hG); omega)
    replace ho1 := ho1.step hr10 (by (try simp only); omega)
    replace ho2 := ho2.step hr10 (by (try simp only); omega)
    replace ho3 := ho3.step hr10 (by (try simp only); omega)
    replace ho4 := ho4.step hr10 (by (try simp only); omega)
    replace hbase1 := Nat.le_trans hbase1 (hr10).size
    replace hr1 := hr1.stepU hub1 hr10 (fun k hk hk2 hG => by (try simp only at hG); omega)
    replace ho6 := ho6.step hr10 (by (try simp only); omega)
    replace hbase2 := Nat.le_trans hbase2 (hr10).size
    replace hr2 := hr2.stepU hub2 hr10 (fun k hk hk2 hG => by (try simp only at hG); omega)
    replace ho8 := ho8.step hr10 (by (try simp only); omega)
    replace hbase3 := Nat.le_trans hbase3 (hr10).size
    replace hr8 := hr8.stepU hub3 hr10 (fun k hk hk2 hG => by (try simp only at hG); omega)
    replace ho10 := ho10.step hr10 (by (try simp only); omega)
    replace hbase4 := Nat.le_trans hbase4 (hr10).size
    replace hr9 := hr9.stepU hub4 hr10 (fun k hk hk2 hG => by (try simp only at hG); omega)
    replace ho12 := ho12.step hr10 (by (try simp only); omega)
    exact (Loads.own1 ho10 (by kernel_rfl) (by rfl))
  refine VT_pures 1 (kn' := [(9, .pointer (some ⟨b8, 1, none⟩)), (8, .slice A3 5 c3), (7, .pointer (some ⟨b7, 1, none⟩)), (6, .bool false), (5, .bool false), (4, .bool false), (3, .int .i64 0), (2, .bool false), (1, .bool false), (0, .int .i64 0)]) (by kernel_rfl) ?_
  refine VT_load (d := 66) (t := 23) (a := ⟨b8, 1, none⟩) (v := .slice A4 5 c4) (by kernel_rfl) (by kernel_rfl) ?_ ?_
  · intro w27 hr11
    replace hS := Step.transNew hS hr11 (fun i hi hG => by (try simp only at hG); omega)
    replace ho1 := ho1.step hr11 (by (try simp only); omega)
    replace ho2 := ho2.step hr11 (by (try simp only); omega)
    replace ho3 := ho3.step hr11 (by (try simp only); omega)
    replace ho4 := ho4.step hr11 (by (try simp only); omega)
    replace hbase1 := Nat.le_trans hbase1 (hr11).size
    replace hr1 := hr1.stepU hub1 hr11 (fun k hk hk2 hG => by (try simp only at hG); omega)
    replace ho6 := ho6.step hr11 (by (try simp only); omega)
    replace hbase2 := Nat.le_trans hbase2 (hr11).size
    replace hr2 := hr2.stepU hub2 hr11 (fun k hk hk2 hG => by (try simp only at hG); omega)
    replace ho8 := ho8.step hr11 (by (try simp only); omega)
    replace hbase3 := Nat.le_trans hbase3 (hr11).size
    replace hr8 := hr8.stepU hub3 hr11 (fun k hk hk2 hG => by (try simp only at hG); omega)
    replace ho10 := ho10.step hr11 (by (try simp only); omega)
    replace hbase4 := Nat.le_trans hbase4 (hr11).size
    replace hr9 := hr9.stepU hub4 hr11 (fun k hk hk2 hG => by (try simp only at hG); omega)
    replace ho12 := ho12.step hr11 (by (try simp only); omega)
    exact (Loads.own1 ho12 (by kernel_rfl) (by rfl))
  refine VT_fcall (d := 67) (f := 14) (args := #[.slice A3 5 c3, .slice A4 5 c4]) (v := .bool ((keyL kp kv kc) == (keyL kp' kv' kc'))) (by kernel_rfl) (by kernel_rfl) (by kernel_rfl) Try.call14 ?_ ?_
  · intro w28 hr12
    replace hS := Step.transNew hS hr12 (fun i hi hG => by (try simp only at hG); omega)
    replace ho1 := ho1.step hr12 (by (try simp only); omega)
    replace ho2 := ho2.step hr12 (by (try simp only); omega)
    replace ho3 := ho3.step hr12 (by (try simp only); omega)
    replace ho4 := ho4.step hr12 (by (try simp only); omega)
    replace hbase1 := Nat.le_trans hbase1 (hr12).size
    replace hr1 := hr1.stepU hub1 hr12 (fun k hk hk2 hG => by (try simp only at hG); omega)
    replace ho6 := ho6.step hr12 (by (try simp only); omega)
    replace hbase2 := Nat.le_trans hbase2 (hr12).size
    replace hr2 := hr2.stepU hub2 hr12 (fun k hk hk2 hG => by (try simp only at hG); omega)
    replace ho8 := ho8.step hr12 (by (try simp only); omega)
    replace hbase3 := Nat.le_trans hbase3 (hr12).size
    replace hr8 := hr8.stepU hub3 hr12 (fun k hk hk2 hG => by (try simp only at hG); omega)
    replace ho10 := ho10.step hr12 (by (try simp only); omega)
    replace hbase4 := Nat.le_trans hbase4 (hr12).size
    replace hr9 := hr9.stepU hub4 hr12 (fun k hk hk2 hG => by (try simp only at hG); omega)
    replace ho12 := ho12.step hr12 (by (try simp only); omega)
    exact same_any A3 5 c3 _ (keyL kp kv kc) A4 5 c4 _ (keyL kp' kv' kc') _ (Rw.lenI hr8) (Rw.slI hr8) (Rw.lenI hr9) (Rw.slI hr9) (by omega) (by omega) (by first | exact Nat.le_refl _ | omega) (by first | exact Nat.le_refl _ | omega)
  refine VT_load (d := 68) (t := 47) (a := ⟨b3, 0, none⟩) (v := .agg #[.int .i64 ((kp : Nat) : Int), .int .i64 ((kv : Nat) : Int), .int .i64 ((kc : Nat) : Int)]) (by kernel_rfl) (by kernel_rfl) ?_ ?_
  · intro w29 hr13
    replace hS := Step.transNew hS hr13 (fun i hi hG => by (try simp only at hG); omega)
    replace ho1 := ho1.step hr13 (by (try simp only); omega)
    replace ho2 := ho2.step hr13 (by (try simp only); omega)
    replace ho3 := ho3.step hr13 (by (try simp only); omega)
    replace ho4 := ho4.step hr13 (by (try simp only); omega)
    replace hbase1 := Nat.le_trans hbase1 (hr13).size
    replace hr1 := hr1.stepU hub1 hr13 (fun k hk hk2 hG => by (try simp only at hG); omega)
    replace ho6 := ho6.step hr13 (by (try simp only); omega)
    replace hbase2 := Nat.le_trans hbase2 (hr13).size
    replace hr2 := hr2.stepU hub2 hr13 (fun k hk hk2 hG => by (try simp only at hG); omega)
    replace ho8 := ho8.step hr13 (by (try simp only); omega)
    replace hbase3 := Nat.le_trans hbase3 (hr13).size
    replace hr8 := hr8.stepU hub3 hr13 (fun k hk hk2 hG => by (try simp only at hG); omega)
    replace ho10 := ho10.step hr13 (by (try simp only); omega)
    replace hbase4 := Nat.le_trans hbase4 (hr13).size
    replace hr9 := hr9.stepU hub4 hr13 (fun k hk hk2 hG => by (try simp only at hG); omega)
    replace ho12 := ho12.step hr13 (by (try simp only); omega)
    exact (Loads.ownL ho3 (n := 3) (by kernel_rfl) (by kernel_rfl) (by kernel_rfl))
  refine VT_load (d := 69) (t := 47) (a := ⟨b4, 0, none⟩) (v := .agg #[.int .i64 ((kp' : Nat) : Int), .int .i64 ((kv' : Nat) : Int), .int .i64 ((kc' : Nat) : Int)]) (by kernel_rfl) (by kernel_rfl) ?_ ?_
  · intro w30 hr14
    replace hS := Step.transNew hS hr14 (fun i hi hG => by (try simp only at hG); omega)
    replace ho1 := ho1.step hr14 (by (try simp only); omega)
    replace ho2 := ho2.step hr14 (by (try simp only); omega)
    replace ho3 := ho3.step hr14 (by (try simp only); omega)
    replace ho4 := ho4.step hr14 (by (try simp only); omega)
    replace hbase1 := Nat.le_trans hbase1 (hr14).size
    replace hr1 := hr1.stepU hub1 hr14 (fun k hk hk2 hG => by (try simp only at hG); omega)
    replace ho6 := ho6.step hr14 (by (try simp only); omega)
    replace hbase2 := Nat.le_trans hbase2 (hr14).size
    replace hr2 := hr2.stepU hub2 hr14 (fun k hk hk2 hG => by (try simp only at hG); omega)
    replace ho8 := ho8.step hr14 (by (try simp only); omega)
    replace hbase3 := Nat.le_trans hbase3 (hr14).size
    replace hr8 := hr8.stepU hub3 hr14 (fun k hk hk2 hG => by (try simp only at hG); omega)
    replace ho10 := ho10.step hr14 (by (try simp only); omega)
    replace hbase4 := Nat.le_trans hbase4 (hr14).size
    replace hr9 := hr9.stepU hub4 hr14 (fun k hk hk2 hG => by (try simp only at hG); omega)
    replace ho12 := ho12.step hr14 (by (try simp only); omega)
    exact (Loads.ownL ho4 (n := 3) (by kernel_rfl) (by kernel_rfl) (by kernel_rfl))
  refine VT_agEq (d := 70) (dd := 9) (ls := ([.int .i64] ++ [.int .i64] ++ [.int .i64] ++ [])) (pos := true) (t := 47) (xs := #[.int .i64 ((kp : Nat) : Int), .int .i64 ((kv : Nat) : Int), .int .i64 ((kc : Nat) : Int)]) (ys := #[.int .i64 ((kp' : Nat) : Int), .int .i64 ((kv' : Nat) : Int), .int .i64 ((kc' : Nat) : Int)]) (by kernel_rfl) (by kernel_rfl) (by kernel_rfl) (by kernel_rfl) (by first | exact ⟨⟨_, rfl⟩, ⟨_, rfl⟩, ⟨_, rfl⟩, trivial⟩ | trivial) (by first | exact ⟨⟨_, rfl⟩, ⟨_, rfl⟩, ⟨_, rfl⟩, trivial⟩ | trivial) (([((kp : Nat) : Int), ((kv : Nat) : Int), ((kc : Nat) : Int)] : List Int) == [((kp' : Nat) : Int), ((kv' : Nat) : Int), ((kc' : Nat) : Int)]) (iA_eq (k := .i64) (xs := [((kp : Nat) : Int), ((kv : Nat) : Int), ((kc : Nat) : Int)]) (bs := [((kp' : Nat) : Int), ((kv' : Nat) : Int), ((kc' : Nat) : Int)]) true) ?_
  refine VT_end ?_
  intro w31 hs4
  replace hS := Step.trans hS hs4
  replace ho1 := ho1.no hs4
  replace ho2 := ho2.no hs4
  replace ho3 := ho3.no hs4
  replace ho4 := ho4.no hs4
  replace hbase1 := Nat.le_trans hbase1 (hs4).size
  replace hr1 := hr1.no hs4
  replace ho6 := ho6.no hs4
  replace hbase2 := Nat.le_trans hbase2 (hs4).size
  replace hr2 := hr2.no hs4
  replace ho8 := ho8.no hs4
  replace hbase3 := Nat.le_trans hbase3 (hs4).size
  replace hr8 := hr8.no hs4
  replace ho10 := ho10.no hs4
  replace hbase4 := Nat.le_trans hbase4 (hs4).size
  replace hr9 := hr9.no hs4
  replace ho12 := ho12.no hs4
  refine VL_keep [62, 67, 70] [(62, .bool false), (67, .bool ((keyL kp kv kc) == (keyL kp' kv' kc'))), (70, .bool (([((kp : Nat) : Int), ((kv : Nat) : Int), ((kc : Nat) : Int)] : List Int) == [((kp' : Nat) : Int), ((kv' : Nat) : Int), ((kc' : Nat) : Int)]))] (by kernel_rfl) ?_
  refine VL_pure 18 [8] [(8, .bool (((keyL kp kv kc) == (keyL kp' kv' kc')) == (([((kp : Nat) : Int), ((kv : Nat) : Int), ((kc : Nat) : Int)] : List Int) == [((kp' : Nat) : Int), ((kv' : Nat) : Int), ((kc' : Nat) : Int)])))] (by kernel_rfl) rfl ?_
  refine VL_end (by kernel_rfl) ?_
  refine VQ_next ?_
  refine VC_ret ?_
  refine VQ_ret1 (.bool (((keyL kp kv kc) == (keyL kp' kv' kc')) == (([((kp : Nat) : Int), ((kv : Nat) : Int), ((kc : Nat) : Int)] : List Int) == [((kp' : Nat) : Int), ((kv' : Nat) : Int), ((kc' : Nat) : Int)]))) (.inr rfl) rfl rfl ?_
  exact ⟨by first | rfl | (congr 1; rw [key_iff hk hk']; simp), hS⟩

set_option maxRecDepth 100000 in
set_option maxHeartbeats 4000000 in
theorem apart_yy_yn (k : Int) (p e h b t : Nat) (k' : Int) (p' e' h' b' t' : Nat) (kp kv kc : Nat) (kp' kv' kc' : Int) (w : World) (hr : rightC k p e h b t = 0) (hr' : rightC k' p' e' h' b' t' = 0) (hk : rightK kp kv kc = true) (hk' : rightK kp' kv' kc' = false)  :
    CV Try.prog 6 #[.agg #[.int .i64 k, .int .i64 ((p : Nat) : Int), .int .i64 ((e : Nat) : Int), .int .i64 ((h : Nat) : Int), .int .i64 ((b : Nat) : Int), .int .i64 ((t : Nat) : Int)], .agg #[.int .i64 k', .int .i64 ((p' : Nat) : Int), .int .i64 ((e' : Nat) : Int), .int .i64 ((h' : Nat) : Int), .int .i64 ((b' : Nat) : Int), .int .i64 ((t' : Nat) : Int)], .agg #[.int .i64 ((kp : Nat) : Int), .int .i64 ((kv : Nat) : Int), .int .i64 ((kc : Nat) : Int)], .agg #[.int .i64 kp', .int .i64 kv', .int .i64 kc']] w (fun x w1 => x = .bool true ∧ Step No w w1) := by
  have hS : Step No w w := Step.refl _ _
  refine CV_enter Try.f6 _ 73 [(0, .agg #[.int .i64 k, .int .i64 ((p : Nat) : Int), .int .i64 ((e : Nat) : Int), .int .i64 ((h : Nat) : Int), .int .i64 ((b : Nat) : Int), .int .i64 ((t : Nat) : Int)]), (1, .agg #[.int .i64 k', .int .i64 ((p' : Nat) : Int), .int .i64 ((e' : Nat) : Int), .int .i64 ((h' : Nat) : Int), .int .i64 ((b' : Nat) : Int), .int .i64 ((t' : Nat) : Int)]), (2, .agg #[.int .i64 ((kp : Nat) : Int), .int .i64 ((kv : Nat) : Int), .int .i64 ((kc : Nat) : Int)]), (3, .agg #[.int .i64 kp', .int .i64 kv', .int .i64 kc'])] Try.func6 rfl rfl (by kernel_rfl) rfl ?_
  refine VC_seq ?_
  refine VC_region ?_
  have hzs1 := hS.size
  refine VL_box (d := 4) (t := 45) (c := #[.int .i64 k, .int .i64 ((p : Nat) : Int), .int .i64 ((e : Nat) : Int), .int .i64 ((h : Nat) : Int), .int .i64 ((b : Nat) : Int), .int .i64 ((t : Nat) : Int)]) (by kernel_rfl) (by kernel_rfl) ?_
  intro b1 w1 hn1
  replace hS := Step.trans hS (hn1.step No)
  have ho1 := hn1.own
  have hzhn1 := hn1.size
  have hqhn1 := hn1.eqb
  have hzs2 := hS.size
  have hzl1 := ho1.lt
  refine VL_box (d := 5) (t := 45) (c := #[.int .i64 k', .int .i64 ((p' : Nat) : Int), .int .i64 ((e' : Nat) : Int), .int .i64 ((h' : Nat) : Int), .int .i64 ((b' : Nat) : Int), .int .i64 ((t' : Nat) : Int)]) (by kernel_rfl) (by kernel_rfl) ?_
  intro b2 w2 hn2
  replace hS := Step.trans hS (hn2.step No)
  replace ho1 := ho1.no (hn2.step No)
  have ho2 := hn2.own
  have hzhn2 := hn2.size
  have hqhn2 := hn2.eqb
  have hzs3 := hS.size
  have hzl2 := ho1.lt
  have hzl3 := ho2.lt
  refine VL_box (d := 6) (t := 47) (c := #[.int .i64 ((kp : Nat) : Int), .int .i64 ((kv : Nat) : Int), .int .i64 ((kc : Nat) : Int)]) (by kernel_rfl) (by kernel_rfl) ?_
  intro b3 w3 hn3
  replace hS := Step.trans hS (hn3.step No)
  replace ho1 := ho1.no (hn3.step No)
  replace ho2 := ho2.no (hn3.step No)
  have ho3 := hn3.own
  have hzhn3 := hn3.size
  have hqhn3 := hn3.eqb
  have hzs4 := hS.size
  have hzl4 := ho1.lt
  have hzl5 := ho2.lt
  have hzl6 := ho3.lt
  refine VL_box (d := 7) (t := 47) (c := #[.int .i64 kp', .int .i64 kv', .int .i64 kc']) (by kernel_rfl) (by kernel_rfl) ?_
  intro b4 w4 hn4
  replace hS := Step.trans hS (hn4.step No)
  replace ho1 := ho1.no (hn4.step No)
  replace ho2 := ho2.no (hn4.step No)
  replace ho3 := ho3.no (hn4.step No)
  have ho4 := hn4.own
  have hzhn4 := hn4.size
  have hqhn4 := hn4.eqb
  refine VL_pure 5 [4, 5, 6, 7] [(4, .pointer (some ⟨b1, 0, none⟩)), (5, .pointer (some ⟨b2, 0, none⟩)), (6, .pointer (some ⟨b3, 0, none⟩)), (7, .pointer (some ⟨b4, 0, none⟩))] (by kernel_rfl) rfl ?_
  refine VL_end (by kernel_rfl) ?_
  refine VQ_next ?_
  refine VC_seq ?_
  refine VC_seq ?_
  refine VC_region ?_
  have hzs5 := hS.size
  have hzl7 := ho1.lt
  have hzl8 := ho2.lt
  have hzl9 := ho3.lt
  have hzl10 := ho4.lt
  refine VL_call (d := 17) (f := 9) (args := #[]) (by kernel_rfl) (by kernel_rfl) (by kernel_rfl) Try.call9 (awake_any _) ?_
  rintro _ w5 ⟨rfl, hc1⟩
  replace hS := Step.trans hS hc1
  replace ho1 := ho1.no hc1
  replace ho2 := ho2.no hc1
  replace ho3 := ho3.no hc1
  replace ho4 := ho4.no hc1
  refine VL_pure 2 [4, 5, 6, 7, 18] [(4, .pointer (some ⟨b1, 0, none⟩)), (5, .pointer (some ⟨b2, 0, none⟩)), (6, .pointer (some ⟨b3, 0, none⟩)), (7, .pointer (some ⟨b4, 0, none⟩)), (18, .bool false)] (by kernel_rfl) rfl ?_
  refine VL_end (by kernel_rfl) ?_
  refine VQ_next ?_
  refine VC_false (by kernel_rfl) ?_
  refine VC_skip ?_
  refine VQ_next ?_
  refine VC_seq ?_
  refine VC_region ?_
  refine VL_load (d := 20) (t := 45) (a := ⟨b1, 0, none⟩) (v := .agg #[.int .i64 k, .int .i64 ((p : Nat) : Int), .int .i64 ((e : Nat) : Int), .int .i64 ((h : Nat) : Int), .int .i64 ((b : Nat) : Int), .int .i64 ((t : Nat) : Int)]) (by kernel_rfl) (by kernel_rfl) (Loads.ownL ho1 (n := 6) (by kernel_rfl) (by kernel_rfl) (by kernel_rfl)) ?_
  have hzs6 := hS.size
  have hzl11 := ho1.lt
  have hzl12 := ho2.lt
  have hzl13 := ho3.lt
  have hzl14 := ho4.lt
  refine VL_call (d := 21) (f := 18) (by kernel_rfl) (by kernel_rfl) (by kernel_rfl) Try.call18 (traffic_yes k p e h b t _ hr) ?_
  rintro _ w6 ⟨A1, c1, rfl, hr1, hc2⟩
  replace hS := Step.trans hS hc2
  replace ho1 := ho1.no hc2
  replace ho2 := ho2.no hc2
  replace ho3 := ho3.no hc2
  replace ho4 := ho4.no hc2
  obtain ⟨base1, hbase1E⟩ : ∃ x, x = w5.heap.size := ⟨_, rfl⟩
  rw [← hbase1E] at hr1
  have hbase1 : base1 ≤ w6.heap.size := by rw [hbase1E]; exact hc2.size
  refine VL_pure 5 [4, 5, 6, 7, 22, 23] [(4, .pointer (some ⟨b1, 0, none⟩)), (5, .pointer (some ⟨b2, 0, none⟩)), (6, .pointer (some ⟨b3, 0, none⟩)), (7, .pointer (some ⟨b4, 0, none⟩)), (22, .agg #[.int .u8 89, .slice A1 31 c1]), (23, .int .i64 0)] (by kernel_rfl) rfl ?_
  have hzs7 := hS.size
  have hzl15 := ho1.lt
  have hzl16 := ho2.lt
  have hzl17 := ho3.lt
  have hzl18 := ho4.lt
  have hzk1 := hbase1
  have hub1 := hr1.ub
  refine VL_box (d := 9) (t := 40) (c := #[.int .u8 0, .slice none 0 0]) (by kernel_rfl) (by kernel_rfl) ?_
  intro b5 w7 hn5
  replace hS := Step.trans hS (hn5.step No)
  replace ho1 := ho1.no (hn5.step No)
  replace ho2 := ho2.no (hn5.step No)
  replace ho3 := ho3.no (hn5.step No)
  replace ho4 := ho4.no (hn5.step No)
  replace hbase1 := Nat.le_trans hbase1 (hn5.step No).size
  replace hr1 := hr1.no (hn5.step No)
  have ho5 := hn5.own
  have hzhn5 := hn5.size
  have hqhn5 := hn5.eqb
  refine VL_store (b := b5) (o := 0) (vs := [.int .u8 89, .slice A1 31 c1]) (by kernel_rfl) (by kernel_rfl) ho5 (Nat.le_of_ble_eq_true (by kernel_rfl)) ?_
  intro w8 hw1
  replace hS := Step.transNew hS hw1.step (fun _ _ _ => by omega)
  replace ho1 := ho1.step hw1.step (show ¬ b1 = b5 by omega)
  replace ho2 := ho2.step hw1.step (show ¬ b2 = b5 by omega)
  replace ho3 := ho3.step hw1.step (show ¬ b3 = b5 by omega)
  replace ho4 := ho4.step hw1.step (show ¬ b4 = b5 by omega)
  replace hbase1 := Nat.le_trans hbase1 (hw1.step).size
  replace hr1 := hr1.stepU hub1 hw1.step (fun k hk1 hk2 (hF : k = b5) => by omega)
  have ho6 : Own w8 b5 #[.int .u8 89, .slice A1 31 c1] 40 := Own.cast hw1.own (by kernel_rfl)
  have hzhw1 := hw1.same
  refine VL_pure 8 [4, 5, 6, 7, 9, 10] [(4, .pointer (some ⟨b1, 0, none⟩)), (5, .pointer (some ⟨b2, 0, none⟩)), (6, .pointer (some ⟨b3, 0, none⟩)), (7, .pointer (some ⟨b4, 0, none⟩)), (9, .pointer (some ⟨b5, 0, none⟩)), (10, .int .i64 0)] (by kernel_rfl) rfl ?_
  refine VL_end (by kernel_rfl) ?_
  refine VQ_next ?_
  refine VC_seq ?_
  refine VC_region ?_
  refine VL_load (d := 25) (t := 45) (a := ⟨b2, 0, none⟩) (v := .agg #[.int .i64 k', .int .i64 ((p' : Nat) : Int), .int .i64 ((e' : Nat) : Int), .int .i64 ((h' : Nat) : Int), .int .i64 ((b' : Nat) : Int), .int .i64 ((t' : Nat) : Int)]) (by kernel_rfl) (by kernel_rfl) (Loads.ownL ho2 (n := 6) (by kernel_rfl) (by kernel_rfl) (by kernel_rfl)) ?_
  have hzs8 := hS.size
  have hzl19 := ho1.lt
  have hzl20 := ho2.lt
  have hzl21 := ho3.lt
  have hzl22 := ho4.lt
  have hzl23 := ho6.lt
  refine VL_call (d := 26) (f := 18) (by kernel_rfl) (by kernel_rfl) (by kernel_rfl) Try.call18 (traffic_yes k' p' e' h' b' t' _ hr') ?_
  rintro _ w9 ⟨A2, c2, rfl, hr2, hc3⟩
  replace hS := Step.trans hS hc3
  replace ho1 := ho1.no hc3
  replace ho2 := ho2.no hc3
  replace ho3 := ho3.no hc3
  replace ho4 := ho4.no hc3
  replace hbase1 := Nat.le_trans hbase1 (hc3).size
  replace hr1 := hr1.no hc3
  replace ho6 := ho6.no hc3
  obtain ⟨base2, hbase2E⟩ : ∃ x, x = w8.heap.size := ⟨_, rfl⟩
  rw [← hbase2E] at hr2
  have hbase2 : base2 ≤ w9.heap.size := by rw [hbase2E]; exact hc3.size
  refine VL_pure 5 [4, 5, 6, 7, 9, 10, 27, 28] [(4, .pointer (some ⟨b1, 0, none⟩)), (5, .pointer (some ⟨b2, 0, none⟩)), (6, .pointer (some ⟨b3, 0, none⟩)), (7, .pointer (some ⟨b4, 0, none⟩)), (9, .pointer (some ⟨b5, 0, none⟩)), (10, .int .i64 0), (27, .agg #[.int .u8 89, .slice A2 31 c2]), (28, .int .i64 0)] (by kernel_rfl) rfl ?_
  have hzs9 := hS.size
  have hzl24 := ho1.lt
  have hzl25 := ho2.lt
  have hzl26 := ho3.lt
  have hzl27 := ho4.lt
  have hzk2 := hbase1
  have hzl28 := ho6.lt
  have hzk3 := hbase2
  have hub2 := hr2.ub
  refine VL_box (d := 11) (t := 40) (c := #[.int .u8 0, .slice none 0 0]) (by kernel_rfl) (by kernel_rfl) ?_
  intro b6 w10 hn6
  replace hS := Step.trans hS (hn6.step No)
  replace ho1 := ho1.no (hn6.step No)
  replace ho2 := ho2.no (hn6.step No)
  replace ho3 := ho3.no (hn6.step No)
  replace ho4 := ho4.no (hn6.step No)
  replace hbase1 := Nat.le_trans hbase1 (hn6.step No).size
  replace hr1 := hr1.no (hn6.step No)
  replace ho6 := ho6.no (hn6.step No)
  replace hbase2 := Nat.le_trans hbase2 (hn6.step No).size
  replace hr2 := hr2.no (hn6.step No)
  have ho7 := hn6.own
  have hzhn6 := hn6.size
  have hqhn6 := hn6.eqb
  refine VL_store (b := b6) (o := 0) (vs := [.int .u8 89, .slice A2 31 c2]) (by kernel_rfl) (by kernel_rfl) ho7 (Nat.le_of_ble_eq_true (by kernel_rfl)) ?_
  intro w11 hw2
  replace hS := Step.transNew hS hw2.step (fun _ _ _ => by omega)
  replace ho1 := ho1.step hw2.step (show ¬ b1 = b6 by omega)
  replace ho2 := ho2.step hw2.step (show ¬ b2 = b6 by omega)
  replace ho3 := ho3.step hw2.step (show ¬ b3 = b6 by omega)
  replace ho4 := ho4.step hw2.step (show ¬ b4 = b6 by omega)
  replace hbase1 := Nat.le_trans hbase1 (hw2.step).size
  replace hr1 := hr1.stepU hub1 hw2.step (fun k hk1 hk2 (hF : k = b6) => by omega)
  replace ho6 := ho6.step hw2.step (show ¬ b5 = b6 by omega)
  replace hbase2 := Nat.le_trans hbase2 (hw2.step).size
  replace hr2 := hr2.stepU hub2 hw2.step (fun k hk1 hk2 (hF : k = b6) => by omega)
  have ho8 : Own w11 b6 #[.int .u8 89, .slice A2 31 c2] 40 := Own.cast hw2.own (by kernel_rfl)
  have hzhw2 := hw2.same
  refine VL_pure 8 [4, 5, 6, 7, 9, 10, 11, 12] [(4, .pointer (some ⟨b1, 0, none⟩)), (5, .pointer (some ⟨b2, 0, none⟩)), (6, .pointer (some ⟨b3, 0, none⟩)), (7, .pointer (some ⟨b4, 0, none⟩)), (9, .pointer (some ⟨b5, 0, none⟩)), (10, .int .i64 0), (11, .pointer (some ⟨b6, 0, none⟩)), (12, .int .i64 0)] (by kernel_rfl) rfl ?_
  refine VL_end (by kernel_rfl) ?_
  refine VQ_next ?_
  refine VC_seq ?_
  refine VC_seq ?_
  have hs1 := drew_step w11
  have hs1z : w11.heap.size = w11.drew.heap.size := rfl
  refine VC_text [[], [0], [0, 1], [0, 1, 2], [0, 1, 2, 3], [0, 1, 2, 3, 4], [0, 1, 2, 3, 4, 5], [0, 1, 2, 3, 4, 5, 6], [0, 1, 2, 3, 4, 5, 6, 7], [0, 1, 2, 3, 4, 5, 6], [0, 1, 2, 3, 4, 5, 6, 9], [0, 1, 2, 3, 4, 5, 6, 7, 8, 9, 10], [0, 1, 2, 3, 4, 5, 6], [0, 1, 2, 3, 4, 5, 6], [0, 1, 2, 3, 4, 5, 6, 12, 13], [0, 1, 2, 3, 4, 5, 6, 7, 8, 9, 10, 11, 12, 13, 14], [0, 1, 2, 3, 4, 5, 6, 7, 8, 9, 10, 11, 12, 13, 14, 15]] 15 (fun x y => Step (fun k => w11.heap.size ≤ k) x y) [] [0, 1, 2, 3, 4, 5, 6, 7, 8, 9, 10, 11, 12, 13, 14] (by kernel_rfl) (by kernel_rfl) (by kernel_rfl) (by kernel_rfl) (fun x => Step.refl _ x) (fun h k => Step.trans h k) Step.weak ?_
  have hzs10 := hS.size
  have hzl29 := ho1.lt
  have hzl30 := ho2.lt
  have hzl31 := ho3.lt
  have hzl32 := ho4.lt
  have hzl33 := ho6.lt
  have hzl34 := ho8.lt
  generalize w11.drew = w12 at hs1 hs1z ⊢
  replace hS := Step.trans hS hs1
  replace ho1 := ho1.no hs1
  replace ho2 := ho2.no hs1
  replace ho3 := ho3.no hs1
  replace ho4 := ho4.no hs1
  replace hbase1 := Nat.le_trans hbase1 (hs1).size
  replace hr1 := hr1.no hs1
  replace ho6 := ho6.no hs1
  replace hbase2 := Nat.le_trans hbase2 (hs1).size
  replace hr2 := hr2.no hs1
  replace ho8 := ho8.no hs1
  refine VT_pures 8 (kn' := [(7, .pointer (some ⟨b5, 1, none⟩)), (6, .bool true), (5, .bool true), (4, .bool true), (3, .int .i64 0), (2, .bool true), (1, .bool true), (0, .int .i64 0)]) (by kernel_rfl) ?_
  refine VT_load (d := 37) (t := 23) (a := ⟨b5, 1, none⟩) (v := .slice A1 31 c1) (by kernel_rfl) (by kernel_rfl) ?_ ?_
  · intro w13 hr3
    replace hS := Step.transNew hS hr3 (fun i hi hG => by (try simp only at hG); omega)
    replace ho1 := ho1.step hr3 (by (try simp only); omega)
    replace ho2 := ho2.step hr3 (by (try simp only); omega)
    replace ho3 := ho3.step hr3 (by (try simp only); omega)
    replace ho4 := ho4.step hr3 (by (try simp only); omega)
    replace hbase1 := Nat.le_trans hbase1 (hr3).size
    replace hr1 := hr1.stepU hub1 hr3 (fun k hk hk2 hG => by (try simp only at hG); omega)
    replace ho6 := ho6.step hr3 (by (try simp only); omega)
    replace hbase2 := Nat.le_trans hbase2 (hr3).size
    replace hr2 := hr2.stepU hub2 hr3 (fun k hk hk2 hG => by (try simp only at hG); omega)
    replace ho8 := ho8.step hr3 (by (try simp only); omega)
    exact (Loads.own1 ho6 (by kernel_rfl) (by rfl))
  refine VT_pures 1 (kn' := [(9, .pointer (some ⟨b6, 1, none⟩)), (8, .slice A1 31 c1), (7, .pointer (some ⟨b5, 1, none⟩)), (6, .bool true), (5, .bool true), (4, .bool true), (3, .int .i64 0), (2, .bool true), (1, .bool true), (0, .int .i64 0)]) (by kernel_rfl) ?_
  refine VT_load (d := 39) (t := 23) (a := ⟨b6, 1, none⟩) (v := .slice A2 31 c2) (by kernel_rfl) (by kernel_rfl) ?_ ?_
  · intro w14 hr4
    replace hS := Step.transNew hS hr4 (fun i hi hG => by (try simp only at hG); omega)
    replace ho1 := ho1.step hr4 (by (try simp only); omega)
    replace ho2 := ho2.step hr4 (by (try simp only); omega)
    replace ho3 := ho3.step hr4 (by (try simp only); omega)
    replace ho4 := ho4.step hr4 (by (try simp only); omega)
    replace hbase1 := Nat.le_trans hbase1 (hr4).size
    replace hr1 := hr1.stepU hub1 hr4 (fun k hk hk2 hG => by (try simp only at hG); omega)
    replace ho6 := ho6.step hr4 (by (try simp only); omega)
    replace hbase2 := Nat.le_trans hbase2 (hr4).size
    replace hr2 := hr2.stepU hub2 hr4 (fun k hk hk2 hG => by (try simp only at hG); omega)
    replace ho8 := ho8.step hr4 (by (try simp only); omega)
    exact (Loads.own1 ho8 (by kernel_rfl) (by rfl))
  refine VT_fcall (d := 40) (f := 14) (args := #[.slice A1 31 c1, .slice A2 31 c2]) (v := .bool ((trafL k p e h b t) == (trafL k' p' e' h' b' t'))) (by kernel_rfl) (by kernel_rfl) (by kernel_rfl) Try.call14 ?_ ?_
  · intro w15 hr5
    replace hS := Step.transNew hS hr5 (fun i hi hG => by (try simp only at hG); omega)
    replace ho1 := ho1.step hr5 (by (try simp only); omega)
    replace ho2 := ho2.step hr5 (by (try simp only); omega)
    replace ho3 := ho3.step hr5 (by (try simp only); omega)
    replace ho4 := ho4.step hr5 (by (try simp only); omega)
    replace hbase1 := Nat.le_trans hbase1 (hr5).size
    replace hr1 := hr1.stepU hub1 hr5 (fun k hk hk2 hG => by (try simp only at hG); omega)
    replace ho6 := ho6.step hr5 (by (try simp only); omega)
    replace hbase2 := Nat.le_trans hbase2 (hr5).size
    replace hr2 := hr2.stepU hub2 hr5 (fun k hk hk2 hG => by (try simp only at hG); omega)
    replace ho8 := ho8.step hr5 (by (try simp only); omega)
    exact same_any A1 31 c1 _ (trafL k p e h b t) A2 31 c2 _ (trafL k' p' e' h' b' t') _ (Rw.lenI hr1) (Rw.slI hr1) (Rw.lenI hr2) (Rw.slI hr2) (by omega) (by omega) (by first | exact Nat.le_refl _ | omega) (by first | exact Nat.le_refl _ | omega)
  refine VT_load (d := 41) (t := 45) (a := ⟨b1, 0, none⟩) (v := .agg #[.int .i64 k, .int .i64 ((p : Nat) : Int), .int .i64 ((e : Nat) : Int), .int .i64 ((h : Nat) : Int), .int .i64 ((b : Nat) : Int), .int .i64 ((t : Nat) : Int)]) (by kernel_rfl) (by kernel_rfl) ?_ ?_
  · intro w16 hr6
    replace hS := Step.transNew hS hr6 (fun i hi hG => by (try simp only at hG); omega)
    replace ho1 := ho1.step hr6 (by (try simp only); omega)
    replace ho2 := ho2.step hr6 (by (try simp only); omega)
    replace ho3 := ho3.step hr6 (by (try simp only); omega)
    replace ho4 := ho4.step hr6 (by (try simp only); omega)
    replace hbase1 := Nat.le_trans hbase1 (hr6).size
    replace hr1 := hr1.stepU hub1 hr6 (fun k hk hk2 hG => by (try simp only at hG); omega)
    replace ho6 := ho6.step hr6 (by (try simp only); omega)
    replace hbase2 := Nat.le_trans hbase2 (hr6).size
    replace hr2 := hr2.stepU hub2 hr6 (fun k hk hk2 hG => by (try simp only at hG); omega)
    replace ho8 := ho8.step hr6 (by (try simp only); omega)
    exact (Loads.ownL ho1 (n := 6) (by kernel_rfl) (by kernel_rfl) (by kernel_rfl))
  refine VT_load (d := 42) (t := 45) (a := ⟨b2, 0, none⟩) (v := .agg #[.int .i64 k', .int .i64 ((p' : Nat) : Int), .int .i64 ((e' : Nat) : Int), .int .i64 ((h' : Nat) : Int), .int .i64 ((b' : Nat) : Int), .int .i64 ((t' : Nat) : Int)]) (by kernel_rfl) (by kernel_rfl) ?_ ?_
  · intro w17 hr7
    replace hS := Step.transNew hS hr7 (fun i hi hG => by (try simp only at hG); omega)
    replace ho1 := ho1.step hr7 (by (try simp only); omega)
    replace ho2 := ho2.step hr7 (by (try simp only); omega)
    replace ho3 := ho3.step hr7 (by (try simp only); omega)
    replace ho4 := ho4.step hr7 (by (try simp only); omega)
    replace hbase1 := Nat.le_trans hbase1 (hr7).size
    replace hr1 := hr1.stepU hub1 hr7 (fun k hk hk2 hG => by (try simp only at hG); omega)
    replace ho6 := ho6.step hr7 (by (try simp only); omega)
    replace hbase2 := Nat.le_trans hbase2 (hr7).size
    replace hr2 := hr2.stepU hub2 hr7 (fun k hk hk2 hG => by (try simp only at hG); omega)
    replace ho8 := ho8.step hr7 (by (try simp only); omega)
    exact (Loads.ownL ho2 (n := 6) (by kernel_rfl) (by kernel_rfl) (by kernel_rfl))
  refine VT_agEq (d := 43) (dd := 9) (ls := ([.int .i64] ++ [.int .i64] ++ [.int .i64] ++ [.int .i64] ++ [.int .i64] ++ [.int .i64] ++ [])) (pos := true) (t := 45) (xs := #[.int .i64 k, .int .i64 ((p : Nat) : Int), .int .i64 ((e : Nat) : Int), .int .i64 ((h : Nat) : Int), .int .i64 ((b : Nat) : Int), .int .i64 ((t : Nat) : Int)]) (ys := #[.int .i64 k', .int .i64 ((p' : Nat) : Int), .int .i64 ((e' : Nat) : Int), .int .i64 ((h' : Nat) : Int), .int .i64 ((b' : Nat) : Int), .int .i64 ((t' : Nat) : Int)]) (by kernel_rfl) (by kernel_rfl) (by kernel_rfl) (by kernel_rfl) (by first | exact ⟨⟨_, rfl⟩, ⟨_, rfl⟩, ⟨_, rfl⟩, ⟨_, rfl⟩, ⟨_, rfl⟩, ⟨_, rfl⟩, trivial⟩ | trivial) (by first | exact ⟨⟨_, rfl⟩, ⟨_, rfl⟩, ⟨_, rfl⟩, ⟨_, rfl⟩, ⟨_, rfl⟩, ⟨_, rfl⟩, trivial⟩ | trivial) (([k, ((p : Nat) : Int), ((e : Nat) : Int), ((h : Nat) : Int), ((b : Nat) : Int), ((t : Nat) : Int)] : List Int) == [k', ((p' : Nat) : Int), ((e' : Nat) : Int), ((h' : Nat) : Int), ((b' : Nat) : Int), ((t' : Nat) : Int)]) (iA_eq (k := .i64) (xs := [k, ((p : Nat) : Int), ((e : Nat) : Int), ((h : Nat) : Int), ((b : Nat) : Int), ((t : Nat) : Int)]) (bs := [k', ((p' : Nat) : Int), ((e' : Nat) : Int), ((h' : Nat) : Int), ((b' : Nat) : Int), ((t' : Nat) : Int)]) true) ?_
  refine VT_end ?_
  intro w18 hs2
  replace hS := Step.trans hS hs2
  replace ho1 := ho1.no hs2
  replace ho2 := ho2.no hs2
  replace ho3 := ho3.no hs2
  replace ho4 := ho4.no hs2
  replace hbase1 := Nat.le_trans hbase1 (hs2).size
  replace hr1 := hr1.no hs2
  replace ho6 := ho6.no hs2
  replace hbase2 := Nat.le_trans hbase2 (hs2).size
  replace hr2 := hr2.no hs2
  replace ho8 := ho8.no hs2
  refine VL_keep [6, 7, 35, 40, 43] [(6, .pointer (some ⟨b3, 0, none⟩)), (7, .pointer (some ⟨b4, 0, none⟩)), (35, .bool true), (40, .bool ((trafL k p e h b t) == (trafL k' p' e' h' b' t'))), (43, .bool (([k, ((p : Nat) : Int), ((e : Nat) : Int), ((h : Nat) : Int), ((b : Nat) : Int), ((t : Nat) : Int)] : List Int) == [k', ((p' : Nat) : Int), ((e' : Nat) : Int), ((h' : Nat) : Int), ((b' : Nat) : Int), ((t' : Nat) : Int)]))] (by kernel_rfl) ?_
  refine VL_pure 17 [6, 7, 45] [(6, .pointer (some ⟨b3, 0, none⟩)), (7, .pointer (some ⟨b4, 0, none⟩)), (45, .bool (!(((trafL k p e h b t) == (trafL k' p' e' h' b' t')) == (([k, ((p : Nat) : Int), ((e : Nat) : Int), ((h : Nat) : Int), ((b : Nat) : Int), ((t : Nat) : Int)] : List Int) == [k', ((p' : Nat) : Int), ((e' : Nat) : Int), ((h' : Nat) : Int), ((b' : Nat) : Int), ((t' : Nat) : Int)]))))] (by kernel_rfl) rfl ?_
  refine VL_end (by kernel_rfl) ?_
  refine VQ_next ?_
  refine VC_is (b := !(((trafL k p e h b t) == (trafL k' p' e' h' b' t')) == (([k, ((p : Nat) : Int), ((e : Nat) : Int), ((h : Nat) : Int), ((b : Nat) : Int), ((t : Nat) : Int)] : List Int) == [k', ((p' : Nat) : Int), ((e' : Nat) : Int), ((h' : Nat) : Int), ((b' : Nat) : Int), ((t' : Nat) : Int)]))) false (by kernel_rfl) (by rw [traf_iff hr hr']; simp) ?_
  refine VC_ite_false ?_
  refine VC_skip ?_
  refine VQ_next ?_
  refine VC_seq ?_
  refine VC_region ?_
  refine VL_load (d := 47) (t := 47) (a := ⟨b3, 0, none⟩) (v := .agg #[.int .i64 ((kp : Nat) : Int), .int .i64 ((kv : Nat) : Int), .int .i64 ((kc : Nat) : Int)]) (by kernel_rfl) (by kernel_rfl) (Loads.ownL ho3 (n := 3) (by kernel_rfl) (by kernel_rfl) (by kernel_rfl)) ?_
  have hzs11 := hS.size
  have hzl35 := ho1.lt
  have hzl36 := ho2.lt
  have hzl37 := ho3.lt
  have hzl38 := ho4.lt
  have hzl39 := ho6.lt
  have hzl40 := ho8.lt
  refine VL_call (d := 48) (f := 19) (by kernel_rfl) (by kernel_rfl) (by kernel_rfl) Try.call19 (key_yes kp kv kc _ hk) ?_
  rintro _ w19 ⟨A3, c3, rfl, hr8, hc4⟩
  replace hS := Step.trans hS hc4
  replace ho1 := ho1.no hc4
  replace ho2 := ho2.no hc4
  replace ho3 := ho3.no hc4
  replace ho4 := ho4.no hc4
  replace hbase1 := Nat.le_trans hbase1 (hc4).size
  replace hr1 := hr1.no hc4
  replace ho6 := ho6.no hc4
  replace hbase2 := Nat.le_trans hbase2 (hc4).size
  replace hr2 := hr2.no hc4
  replace ho8 := ho8.no hc4
  obtain ⟨base3, hbase3E⟩ : ∃ x, x = w18.heap.size := ⟨_, rfl⟩
  rw [← hbase3E] at hr8
  have hbase3 : base3 ≤ w19.heap.size := by rw [hbase3E]; exact hc4.size
  refine VL_pure 5 [6, 7, 49, 50] [(6, .pointer (some ⟨b3, 0, none⟩)), (7, .pointer (some ⟨b4, 0, none⟩)), (49, .agg #[.int .u8 90, .slice A3 5 c3]), (50, .int .i64 0)] (by kernel_rfl) rfl ?_
  have hzs12 := hS.size
  have hzl41 := ho1.lt
  have hzl42 := ho2.lt
  have hzl43 := ho3.lt
  have hzl44 := ho4.lt
  have hzk4 := hbase1
  have hzl45 := ho6.lt
  have hzk5 := hbase2
  have hzl46 := ho8.lt
  have hzk6 := hbase3
  have hub3 := hr8.ub
  refine VL_box (d := 13) (t := 40) (c := #[.int .u8 0, .slice none 0 0]) (by kernel_rfl) (by kernel_rfl) ?_
  intro b7 w20 hn7
  replace hS := Step.trans hS (hn7.step No)
  replace ho1 := ho1.no (hn7.step No)
  replace ho2 := ho2.no (hn7.step No)
  replace ho3 := ho3.no (hn7.step No)
  replace ho4 := ho4.no (hn7.step No)
  replace hbase1 := Nat.le_trans hbase1 (hn7.step No).size
  replace hr1 := hr1.no (hn7.step No)
  replace ho6 := ho6.no (hn7.step No)
  replace hbase2 := Nat.le_trans hbase2 (hn7.step No).size
  replace hr2 := hr2.no (hn7.step No)
  replace ho8 := ho8.no (hn7.step No)
  replace hbase3 := Nat.le_trans hbase3 (hn7.step No).size
  replace hr8 := hr8.no (hn7.step No)
  have ho9 := hn7.own
  have hzhn7 := hn7.size
  have hqhn7 := hn7.eqb
  refine VL_store (b := b7) (o := 0) (vs := [.int .u8 90, .slice A3 5 c3]) (by kernel_rfl) (by kernel_rfl) ho9 (Nat.le_of_ble_eq_true (by kernel_rfl)) ?_
  intro w21 hw3
  replace hS := Step.transNew hS hw3.step (fun _ _ _ => by omega)
  replace ho1 := ho1.step hw3.step (show ¬ b1 = b7 by omega)
  replace ho2 := ho2.step hw3.step (show ¬ b2 = b7 by omega)
  replace ho3 := ho3.step hw3.step (show ¬ b3 = b7 by omega)
  replace ho4 := ho4.step hw3.step (show ¬ b4 = b7 by omega)
  replace hbase1 := Nat.le_trans hbase1 (hw3.step).size
  replace hr1 := hr1.stepU hub1 hw3.step (fun k hk1 hk2 (hF : k = b7) => by omega)
  replace ho6 := ho6.step hw3.step (show ¬ b5 = b7 by omega)
  replace hbase2 := Nat.le_trans hbase2 (hw3.step).size
  replace hr2 := hr2.stepU hub2 hw3.step (fun k hk1 hk2 (hF : k = b7) => by omega)
  replace ho8 := ho8.step hw3.step (show ¬ b6 = b7 by omega)
  replace hbase3 := Nat.le_trans hbase3 (hw3.step).size
  replace hr8 := hr8.stepU hub3 hw3.step (fun k hk1 hk2 (hF : k = b7) => by omega)
  have ho10 : Own w21 b7 #[.int .u8 90, .slice A3 5 c3] 40 := Own.cast hw3.own (by kernel_rfl)
  have hzhw3 := hw3.same
  refine VL_pure 8 [6, 7, 13, 14] [(6, .pointer (some ⟨b3, 0, none⟩)), (7, .pointer (some ⟨b4, 0, none⟩)), (13, .pointer (some ⟨b7, 0, none⟩)), (14, .int .i64 0)] (by kernel_rfl) rfl ?_
  refine VL_end (by kernel_rfl) ?_
  refine VQ_next ?_
  refine VC_seq ?_
  refine VC_region ?_
  refine VL_load (d := 52) (t := 47) (a := ⟨b4, 0, none⟩) (v := .agg #[.int .i64 kp', .int .i64 kv', .int .i64 kc']) (by kernel_rfl) (by kernel_rfl) (Loads.ownL ho4 (n := 3) (by kernel_rfl) (by kernel_rfl) (by kernel_rfl)) ?_
  have hzs13 := hS.size
  have hzl47 := ho1.lt
  have hzl48 := ho2.lt
  have hzl49 := ho3.lt
  have hzl50 := ho4.lt
  have hzl51 := ho6.lt
  have hzl52 := ho8.lt
  have hzl53 := ho10.lt
  refine VL_call (d := 53) (f := 19) (args := #[.agg #[.int .i64 kp', .int .i64 kv', .int .i64 kc']]) (by kernel_rfl) (by kernel_rfl) (by kernel_rfl) Try.call19 (key_no kp' kv' kc' _ hk') ?_
  rintro _ w22 ⟨rfl, hc5⟩
  replace hS := Step.trans hS hc5
  replace ho1 := ho1.no hc5
  replace ho2 := ho2.no hc5
  replace ho3 := ho3.no hc5
  replace ho4 := ho4.no hc5
  replace hbase1 := Nat.le_trans hbase1 (hc5).size
  replace hr1 := hr1.no hc5
  replace ho6 := ho6.no hc5
  replace hbase2 := Nat.le_trans hbase2 (hc5).size
  replace hr2 := hr2.no hc5
  replace ho8 := ho8.no hc5
  replace hbase3 := Nat.le_trans hbase3 (hc5).size
  replace hr8 := hr8.no hc5
  replace ho10 := ho10.no hc5
  refine VL_pure 5 [6, 7, 13, 14, 54, 55] [(6, .pointer (some ⟨b3, 0, none⟩)), (7, .pointer (some ⟨b4, 0, none⟩)), (13, .pointer (some ⟨b7, 0, none⟩)), (14, .int .i64 0), (54, .agg #[.int .u8 0, .slice none 0 0]), (55, .int .i64 1)] (by kernel_rfl) rfl ?_
  have hzs14 := hS.size
  have hzl54 := ho1.lt
  have hzl55 := ho2.lt
  have hzl56 := ho3.lt
  have hzl57 := ho4.lt
  have hzk7 := hbase1
  have hzl58 := ho6.lt
  have hzk8 := hbase2
  have hzl59 := ho8.lt
  have hzk9 := hbase3
  have hzl60 := ho10.lt
  refine VL_box (d := 15) (t := 40) (c := #[.int .u8 0, .slice none 0 0]) (by kernel_rfl) (by kernel_rfl) ?_
  intro b8 w23 hn8
  replace hS := Step.trans hS (hn8.step No)
  replace ho1 := ho1.no (hn8.step No)
  replace ho2 := ho2.no (hn8.step No)
  replace ho3 := ho3.no (hn8.step No)
  replace ho4 := ho4.no (hn8.step No)
  replace hbase1 := Nat.le_trans hbase1 (hn8.step No).size
  replace hr1 := hr1.no (hn8.step No)
  replace ho6 := ho6.no (hn8.step No)
  replace hbase2 := Nat.le_trans hbase2 (hn8.step No).size
  replace hr2 := hr2.no (hn8.step No)
  replace ho8 := ho8.no (hn8.step No)
  replace hbase3 := Nat.le_trans hbase3 (hn8.step No).size
  replace hr8 := hr8.no (hn8.step No)
  replace ho10 := ho10.no (hn8.step No)
  have ho11 := hn8.own
  have hzhn8 := hn8.size
  have hqhn8 := hn8.eqb
  refine VL_store (b := b8) (o := 0) (vs := [.int .u8 0, .slice none 0 0]) (by kernel_rfl) (by kernel_rfl) ho11 (Nat.le_of_ble_eq_true (by kernel_rfl)) ?_
  intro w24 hw4
  replace hS := Step.transNew hS hw4.step (fun _ _ _ => by omega)
  replace ho1 := ho1.step hw4.step (show ¬ b1 = b8 by omega)
  replace ho2 := ho2.step hw4.step (show ¬ b2 = b8 by omega)
  replace ho3 := ho3.step hw4.step (show ¬ b3 = b8 by omega)
  replace ho4 := ho4.step hw4.step (show ¬ b4 = b8 by omega)
  replace hbase1 := Nat.le_trans hbase1 (hw4.step).size
  replace hr1 := hr1.stepU hub1 hw4.step (fun k hk1 hk2 (hF : k = b8) => by omega)
  replace ho6 := ho6.step hw4.step (show ¬ b5 = b8 by omega)
  replace hbase2 := Nat.le_trans hbase2 (hw4.step).size
  replace hr2 := hr2.stepU hub2 hw4.step (fun k hk1 hk2 (hF : k = b8) => by omega)
  replace ho8 := ho8.step hw4.step (show ¬ b6 = b8 by omega)
  replace hbase3 := Nat.le_trans hbase3 (hw4.step).size
  replace hr8 := hr8.stepU hub3 hw4.step (fun k hk1 hk2 (hF : k = b8) => by omega)
  replace ho10 := ho10.step hw4.step (show ¬ b7 = b8 by omega)
  have ho12 : Own w24 b8 #[.int .u8 0, .slice none 0 0] 40 := Own.cast hw4.own (by kernel_rfl)
  have hzhw4 := hw4.same
  refine VL_pure 8 [6, 7, 13, 14, 15, 16] [(6, .pointer (some ⟨b3, 0, none⟩)), (7, .pointer (some ⟨b4, 0, none⟩)), (13, .pointer (some ⟨b7, 0, none⟩)), (14, .int .i64 0), (15, .pointer (some ⟨b8, 0, none⟩)), (16, .int .i64 1)] (by kernel_rfl) rfl ?_
  refine VL_end (by kernel_rfl) ?_
  refine VQ_next ?_
  refine VC_seq ?_
  have hs3 := drew_step w24
  have hs3z : w24.heap.size = w24.drew.heap.size := rfl
  refine VC_text [[], [0], [0, 1], [0, 1, 2], [0, 1, 2, 3], [0, 1, 2, 3, 4], [0, 1, 2, 3, 4, 5], [0, 1, 2, 3, 4, 5, 6], [0, 1, 2, 3, 4, 5, 6, 7], [0, 1, 2, 3, 4, 5, 6], [0, 1, 2, 3, 4, 5, 6, 9], [0, 1, 2, 3, 4, 5, 6, 7, 8, 9, 10], [0, 1, 2, 3, 4, 5, 6], [0, 1, 2, 3, 4, 5, 6], [0, 1, 2, 3, 4, 5, 6, 12, 13], [0, 1, 2, 3, 4, 5, 6, 7, 8, 9, 10, 11, 12, 13, 14], [0, 1, 2, 3, 4, 5, 6, 7, 8, 9, 10, 11, 12, 13, 14, 15], [0, 1, 2, 3, 4, 5, 6, 7, 8, 9, 10, 11, 12, 13, 14, 15, 16]] 15 (fun x y => Step (fun k => w24.heap.size ≤ k) x y) [] [0, 1, 2, 3, 4, 5, 6, 7, 8, 9, 10, 11, 12, 13, 14] (by kernel_rfl) (by kernel_rfl) (by kernel_rfl) (by kernel_rfl) (fun x => Step.refl _ x) (fun h k => Step.trans h k) Step.weak ?_
  have hzs15 := hS.size
  have hzl61 := ho1.lt
  have hzl62 := ho2.lt
  have hzl63 := ho3.lt
  have hzl64 := ho4.lt
  have hzl65 := ho6.lt
  have hzl66 := ho8.lt
  have hzl67 := ho10.lt
  have hzl68 := ho12.lt
  generalize w24.drew = w25 at hs3 hs3z ⊢
  replace hS := Step.trans hS hs3
  replace ho1 := ho1.no hs3
  replace ho2 := ho2.no hs3
  replace ho3 := ho3.no hs3
  replace ho4 := ho4.no hs3
  replace hbase1 := Nat.le_trans hbase1 (hs3).size
  replace hr1 := hr1.no hs3
  replace ho6 := ho6.no hs3
  replace hbase2 := Nat.le_trans hbase2 (hs3).size
  replace hr2 := hr2.no hs3
  replace ho8 := ho8.no hs3
  replace hbase3 := Nat.le_trans hbase3 (hs3).size
  replace hr8 := hr8.no hs3
  replace ho10 := ho10.no hs3
  replace ho12 := ho12.no hs3
  refine VT_pures 15 (kn' := [(14, undef), (13, undef), (12, undef), (11, undef), (10, undef), (9, undef), (8, undef), (7, undef), (6, .bool true), (5, .bool true), (4, .bool true), (3, .int .i64 1), (2, .bool false), (1, .bool false), (0, .int .i64 0)]) (by kernel_rfl) ?_
  refine VT_end ?_
  intro w26 hs4
  replace hS := Step.trans hS hs4
  replace ho1 := ho1.no hs4
  replace ho2 := ho2.no hs4
  replace ho3 := ho3.no hs4
  replace ho4 := ho4.no hs4
  replace hbase1 := Nat.le_trans hbase1 (hs4).size
  replace hr1 := hr1.no hs4
  replace ho6 := ho6.no hs4
  replace hbase2 := Nat.le_trans hbase2 (hs4).size
  replace hr2 := hr2.no hs4
  replace ho8 := ho8.no hs4
  replace hbase3 := Nat.le_trans hbase3 (hs4).size
  replace hr8 := hr8.no hs4
  replace ho10 := ho10.no hs4
  replace ho12 := ho12.no hs4
  refine VL_keep [62, 67, 70] [(62, .bool true), (67, undef), (70, undef)] (by kernel_rfl) ?_
  refine VL_pure 18 [8] [(8, .bool true)] (by kernel_rfl) rfl ?_
  refine VL_end (by kernel_rfl) ?_
  refine VQ_next ?_
  refine VC_ret ?_
  refine VQ_ret1 (.bool true) (.inr rfl) rfl rfl ?_
  exact ⟨by first | rfl | (congr 1; rw [key_iff hk hk']; simp), hS⟩

set_option maxRecDepth 100000 in
set_option maxHeartbeats 4000000 in
theorem apart_yy_nU (k : Int) (p e h b t : Nat) (k' : Int) (p' e' h' b' t' : Nat) (kp kv kc : Int) (kp' kv' kc' : Int) (w : World) (hr : rightC k p e h b t = 0) (hr' : rightC k' p' e' h' b' t' = 0) (hk : rightK kp kv kc = false)  :
    CV Try.prog 6 #[.agg #[.int .i64 k, .int .i64 ((p : Nat) : Int), .int .i64 ((e : Nat) : Int), .int .i64 ((h : Nat) : Int), .int .i64 ((b : Nat) : Int), .int .i64 ((t : Nat) : Int)], .agg #[.int .i64 k', .int .i64 ((p' : Nat) : Int), .int .i64 ((e' : Nat) : Int), .int .i64 ((h' : Nat) : Int), .int .i64 ((b' : Nat) : Int), .int .i64 ((t' : Nat) : Int)], .agg #[.int .i64 kp, .int .i64 kv, .int .i64 kc], .agg #[.int .i64 kp', .int .i64 kv', .int .i64 kc']] w (fun x w1 => x = .bool true ∧ Step No w w1) := by
  have hS : Step No w w := Step.refl _ _
  refine CV_enter Try.f6 _ 73 [(0, .agg #[.int .i64 k, .int .i64 ((p : Nat) : Int), .int .i64 ((e : Nat) : Int), .int .i64 ((h : Nat) : Int), .int .i64 ((b : Nat) : Int), .int .i64 ((t : Nat) : Int)]), (1, .agg #[.int .i64 k', .int .i64 ((p' : Nat) : Int), .int .i64 ((e' : Nat) : Int), .int .i64 ((h' : Nat) : Int), .int .i64 ((b' : Nat) : Int), .int .i64 ((t' : Nat) : Int)]), (2, .agg #[.int .i64 kp, .int .i64 kv, .int .i64 kc]), (3, .agg #[.int .i64 kp', .int .i64 kv', .int .i64 kc'])] Try.func6 rfl rfl (by kernel_rfl) rfl ?_
  refine VC_seq ?_
  refine VC_region ?_
  have hzs1 := hS.size
  refine VL_box (d := 4) (t := 45) (c := #[.int .i64 k, .int .i64 ((p : Nat) : Int), .int .i64 ((e : Nat) : Int), .int .i64 ((h : Nat) : Int), .int .i64 ((b : Nat) : Int), .int .i64 ((t : Nat) : Int)]) (by kernel_rfl) (by kernel_rfl) ?_
  intro b1 w1 hn1
  replace hS := Step.trans hS (hn1.step No)
  have ho1 := hn1.own
  have hzhn1 := hn1.size
  have hqhn1 := hn1.eqb
  have hzs2 := hS.size
  have hzl1 := ho1.lt
  refine VL_box (d := 5) (t := 45) (c := #[.int .i64 k', .int .i64 ((p' : Nat) : Int), .int .i64 ((e' : Nat) : Int), .int .i64 ((h' : Nat) : Int), .int .i64 ((b' : Nat) : Int), .int .i64 ((t' : Nat) : Int)]) (by kernel_rfl) (by kernel_rfl) ?_
  intro b2 w2 hn2
  replace hS := Step.trans hS (hn2.step No)
  replace ho1 := ho1.no (hn2.step No)
  have ho2 := hn2.own
  have hzhn2 := hn2.size
  have hqhn2 := hn2.eqb
  have hzs3 := hS.size
  have hzl2 := ho1.lt
  have hzl3 := ho2.lt
  refine VL_box (d := 6) (t := 47) (c := #[.int .i64 kp, .int .i64 kv, .int .i64 kc]) (by kernel_rfl) (by kernel_rfl) ?_
  intro b3 w3 hn3
  replace hS := Step.trans hS (hn3.step No)
  replace ho1 := ho1.no (hn3.step No)
  replace ho2 := ho2.no (hn3.step No)
  have ho3 := hn3.own
  have hzhn3 := hn3.size
  have hqhn3 := hn3.eqb
  have hzs4 := hS.size
  have hzl4 := ho1.lt
  have hzl5 := ho2.lt
  have hzl6 := ho3.lt
  refine VL_box (d := 7) (t := 47) (c := #[.int .i64 kp', .int .i64 kv', .int .i64 kc']) (by kernel_rfl) (by kernel_rfl) ?_
  intro b4 w4 hn4
  replace hS := Step.trans hS (hn4.step No)
  replace ho1 := ho1.no (hn4.step No)
  replace ho2 := ho2.no (hn4.step No)
  replace ho3 := ho3.no (hn4.step No)
  have ho4 := hn4.own
  have hzhn4 := hn4.size
  have hqhn4 := hn4.eqb
  refine VL_pure 5 [4, 5, 6, 7] [(4, .pointer (some ⟨b1, 0, none⟩)), (5, .pointer (some ⟨b2, 0, none⟩)), (6, .pointer (some ⟨b3, 0, none⟩)), (7, .pointer (some ⟨b4, 0, none⟩))] (by kernel_rfl) rfl ?_
  refine VL_end (by kernel_rfl) ?_
  refine VQ_next ?_
  refine VC_seq ?_
  refine VC_seq ?_
  refine VC_region ?_
  have hzs5 := hS.size
  have hzl7 := ho1.lt
  have hzl8 := ho2.lt
  have hzl9 := ho3.lt
  have hzl10 := ho4.lt
  refine VL_call (d := 17) (f := 9) (args := #[]) (by kernel_rfl) (by kernel_rfl) (by kernel_rfl) Try.call9 (awake_any _) ?_
  rintro _ w5 ⟨rfl, hc1⟩
  replace hS := Step.trans hS hc1
  replace ho1 := ho1.no hc1
  replace ho2 := ho2.no hc1
  replace ho3 := ho3.no hc1
  replace ho4 := ho4.no hc1
  refine VL_pure 2 [4, 5, 6, 7, 18] [(4, .pointer (some ⟨b1, 0, none⟩)), (5, .pointer (some ⟨b2, 0, none⟩)), (6, .pointer (some ⟨b3, 0, none⟩)), (7, .pointer (some ⟨b4, 0, none⟩)), (18, .bool false)] (by kernel_rfl) rfl ?_
  refine VL_end (by kernel_rfl) ?_
  refine VQ_next ?_
  refine VC_false (by kernel_rfl) ?_
  refine VC_skip ?_
  refine VQ_next ?_
  refine VC_seq ?_
  refine VC_region ?_
  refine VL_load (d := 20) (t := 45) (a := ⟨b1, 0, none⟩) (v := .agg #[.int .i64 k, .int .i64 ((p : Nat) : Int), .int .i64 ((e : Nat) : Int), .int .i64 ((h : Nat) : Int), .int .i64 ((b : Nat) : Int), .int .i64 ((t : Nat) : Int)]) (by kernel_rfl) (by kernel_rfl) (Loads.ownL ho1 (n := 6) (by kernel_rfl) (by kernel_rfl) (by kernel_rfl)) ?_
  have hzs6 := hS.size
  have hzl11 := ho1.lt
  have hzl12 := ho2.lt
  have hzl13 := ho3.lt
  have hzl14 := ho4.lt
  refine VL_call (d := 21) (f := 18) (by kernel_rfl) (by kernel_rfl) (by kernel_rfl) Try.call18 (traffic_yes k p e h b t _ hr) ?_
  rintro _ w6 ⟨A1, c1, rfl, hr1, hc2⟩
  replace hS := Step.trans hS hc2
  replace ho1 := ho1.no hc2
  replace ho2 := ho2.no hc2
  replace ho3 := ho3.no hc2
  replace ho4 := ho4.no hc2
  obtain ⟨base1, hbase1E⟩ : ∃ x, x = w5.heap.size := ⟨_, rfl⟩
  rw [← hbase1E] at hr1
  have hbase1 : base1 ≤ w6.heap.size := by rw [hbase1E]; exact hc2.size
  refine VL_pure 5 [4, 5, 6, 7, 22, 23] [(4, .pointer (some ⟨b1, 0, none⟩)), (5, .pointer (some ⟨b2, 0, none⟩)), (6, .pointer (some ⟨b3, 0, none⟩)), (7, .pointer (some ⟨b4, 0, none⟩)), (22, .agg #[.int .u8 89, .slice A1 31 c1]), (23, .int .i64 0)] (by kernel_rfl) rfl ?_
  have hzs7 := hS.size
  have hzl15 := ho1.lt
  have hzl16 := ho2.lt
  have hzl17 := ho3.lt
  have hzl18 := ho4.lt
  have hzk1 := hbase1
  have hub1 := hr1.ub
  refine VL_box (d := 9) (t := 40) (c := #[.int .u8 0, .slice none 0 0]) (by kernel_rfl) (by kernel_rfl) ?_
  intro b5 w7 hn5
  replace hS := Step.trans hS (hn5.step No)
  replace ho1 := ho1.no (hn5.step No)
  replace ho2 := ho2.no (hn5.step No)
  replace ho3 := ho3.no (hn5.step No)
  replace ho4 := ho4.no (hn5.step No)
  replace hbase1 := Nat.le_trans hbase1 (hn5.step No).size
  replace hr1 := hr1.no (hn5.step No)
  have ho5 := hn5.own
  have hzhn5 := hn5.size
  have hqhn5 := hn5.eqb
  refine VL_store (b := b5) (o := 0) (vs := [.int .u8 89, .slice A1 31 c1]) (by kernel_rfl) (by kernel_rfl) ho5 (Nat.le_of_ble_eq_true (by kernel_rfl)) ?_
  intro w8 hw1
  replace hS := Step.transNew hS hw1.step (fun _ _ _ => by omega)
  replace ho1 := ho1.step hw1.step (show ¬ b1 = b5 by omega)
  replace ho2 := ho2.step hw1.step (show ¬ b2 = b5 by omega)
  replace ho3 := ho3.step hw1.step (show ¬ b3 = b5 by omega)
  replace ho4 := ho4.step hw1.step (show ¬ b4 = b5 by omega)
  replace hbase1 := Nat.le_trans hbase1 (hw1.step).size
  replace hr1 := hr1.stepU hub1 hw1.step (fun k hk1 hk2 (hF : k = b5) => by omega)
  have ho6 : Own w8 b5 #[.int .u8 89, .slice A1 31 c1] 40 := Own.cast hw1.own (by kernel_rfl)
  have hzhw1 := hw1.same
  refine VL_pure 8 [4, 5, 6, 7, 9, 10] [(4, .pointer (some ⟨b1, 0, none⟩)), (5, .pointer (some ⟨b2, 0, none⟩)), (6, .pointer (some ⟨b3, 0, none⟩)), (7, .pointer (some ⟨b4, 0, none⟩)), (9, .pointer (some ⟨b5, 0, none⟩)), (10, .int .i64 0)] (by kernel_rfl) rfl ?_
  refine VL_end (by kernel_rfl) ?_
  refine VQ_next ?_
  refine VC_seq ?_
  refine VC_region ?_
  refine VL_load (d := 25) (t := 45) (a := ⟨b2, 0, none⟩) (v := .agg #[.int .i64 k', .int .i64 ((p' : Nat) : Int), .int .i64 ((e' : Nat) : Int), .int .i64 ((h' : Nat) : Int), .int .i64 ((b' : Nat) : Int), .int .i64 ((t' : Nat) : Int)]) (by kernel_rfl) (by kernel_rfl) (Loads.ownL ho2 (n := 6) (by kernel_rfl) (by kernel_rfl) (by kernel_rfl)) ?_
  have hzs8 := hS.size
  have hzl19 := ho1.lt
  have hzl20 := ho2.lt
  have hzl21 := ho3.lt
  have hzl22 := ho4.lt
  have hzl23 := ho6.lt
  refine VL_call (d := 26) (f := 18) (by kernel_rfl) (by kernel_rfl) (by kernel_rfl) Try.call18 (traffic_yes k' p' e' h' b' t' _ hr') ?_
  rintro _ w9 ⟨A2, c2, rfl, hr2, hc3⟩
  replace hS := Step.trans hS hc3
  replace ho1 := ho1.no hc3
  replace ho2 := ho2.no hc3
  replace ho3 := ho3.no hc3
  replace ho4 := ho4.no hc3
  replace hbase1 := Nat.le_trans hbase1 (hc3).size
  replace hr1 := hr1.no hc3
  replace ho6 := ho6.no hc3
  obtain ⟨base2, hbase2E⟩ : ∃ x, x = w8.heap.size := ⟨_, rfl⟩
  rw [← hbase2E] at hr2
  have hbase2 : base2 ≤ w9.heap.size := by rw [hbase2E]; exact hc3.size
  refine VL_pure 5 [4, 5, 6, 7, 9, 10, 27, 28] [(4, .pointer (some ⟨b1, 0, none⟩)), (5, .pointer (some ⟨b2, 0, none⟩)), (6, .pointer (some ⟨b3, 0, none⟩)), (7, .pointer (some ⟨b4, 0, none⟩)), (9, .pointer (some ⟨b5, 0, none⟩)), (10, .int .i64 0), (27, .agg #[.int .u8 89, .slice A2 31 c2]), (28, .int .i64 0)] (by kernel_rfl) rfl ?_
  have hzs9 := hS.size
  have hzl24 := ho1.lt
  have hzl25 := ho2.lt
  have hzl26 := ho3.lt
  have hzl27 := ho4.lt
  have hzk2 := hbase1
  have hzl28 := ho6.lt
  have hzk3 := hbase2
  have hub2 := hr2.ub
  refine VL_box (d := 11) (t := 40) (c := #[.int .u8 0, .slice none 0 0]) (by kernel_rfl) (by kernel_rfl) ?_
  intro b6 w10 hn6
  replace hS := Step.trans hS (hn6.step No)
  replace ho1 := ho1.no (hn6.step No)
  replace ho2 := ho2.no (hn6.step No)
  replace ho3 := ho3.no (hn6.step No)
  replace ho4 := ho4.no (hn6.step No)
  replace hbase1 := Nat.le_trans hbase1 (hn6.step No).size
  replace hr1 := hr1.no (hn6.step No)
  replace ho6 := ho6.no (hn6.step No)
  replace hbase2 := Nat.le_trans hbase2 (hn6.step No).size
  replace hr2 := hr2.no (hn6.step No)
  have ho7 := hn6.own
  have hzhn6 := hn6.size
  have hqhn6 := hn6.eqb
  refine VL_store (b := b6) (o := 0) (vs := [.int .u8 89, .slice A2 31 c2]) (by kernel_rfl) (by kernel_rfl) ho7 (Nat.le_of_ble_eq_true (by kernel_rfl)) ?_
  intro w11 hw2
  replace hS := Step.transNew hS hw2.step (fun _ _ _ => by omega)
  replace ho1 := ho1.step hw2.step (show ¬ b1 = b6 by omega)
  replace ho2 := ho2.step hw2.step (show ¬ b2 = b6 by omega)
  replace ho3 := ho3.step hw2.step (show ¬ b3 = b6 by omega)
  replace ho4 := ho4.step hw2.step (show ¬ b4 = b6 by omega)
  replace hbase1 := Nat.le_trans hbase1 (hw2.step).size
  replace hr1 := hr1.stepU hub1 hw2.step (fun k hk1 hk2 (hF : k = b6) => by omega)
  replace ho6 := ho6.step hw2.step (show ¬ b5 = b6 by omega)
  replace hbase2 := Nat.le_trans hbase2 (hw2.step).size
  replace hr2 := hr2.stepU hub2 hw2.step (fun k hk1 hk2 (hF : k = b6) => by omega)
  have ho8 : Own w11 b6 #[.int .u8 89, .slice A2 31 c2] 40 := Own.cast hw2.own (by kernel_rfl)
  have hzhw2 := hw2.same
  refine VL_pure 8 [4, 5, 6, 7, 9, 10, 11, 12] [(4, .pointer (some ⟨b1, 0, none⟩)), (5, .pointer (some ⟨b2, 0, none⟩)), (6, .pointer (some ⟨b3, 0, none⟩)), (7, .pointer (some ⟨b4, 0, none⟩)), (9, .pointer (some ⟨b5, 0, none⟩)), (10, .int .i64 0), (11, .pointer (some ⟨b6, 0, none⟩)), (12, .int .i64 0)] (by kernel_rfl) rfl ?_
  refine VL_end (by kernel_rfl) ?_
  refine VQ_next ?_
  refine VC_seq ?_
  refine VC_seq ?_
  have hs1 := drew_step w11
  have hs1z : w11.heap.size = w11.drew.heap.size := rfl
  refine VC_text [[], [0], [0, 1], [0, 1, 2], [0, 1, 2, 3], [0, 1, 2, 3, 4], [0, 1, 2, 3, 4, 5], [0, 1, 2, 3, 4, 5, 6], [0, 1, 2, 3, 4, 5, 6, 7], [0, 1, 2, 3, 4, 5, 6], [0, 1, 2, 3, 4, 5, 6, 9], [0, 1, 2, 3, 4, 5, 6, 7, 8, 9, 10], [0, 1, 2, 3, 4, 5, 6], [0, 1, 2, 3, 4, 5, 6], [0, 1, 2, 3, 4, 5, 6, 12, 13], [0, 1, 2, 3, 4, 5, 6, 7, 8, 9, 10, 11, 12, 13, 14], [0, 1, 2, 3, 4, 5, 6, 7, 8, 9, 10, 11, 12, 13, 14, 15]] 15 (fun x y => Step (fun k => w11.heap.size ≤ k) x y) [] [0, 1, 2, 3, 4, 5, 6, 7, 8, 9, 10, 11, 12, 13, 14] (by kernel_rfl) (by kernel_rfl) (by kernel_rfl) (by kernel_rfl) (fun x => Step.refl _ x) (fun h k => Step.trans h k) Step.weak ?_
  have hzs10 := hS.size
  have hzl29 := ho1.lt
  have hzl30 := ho2.lt
  have hzl31 := ho3.lt
  have hzl32 := ho4.lt
  have hzl33 := ho6.lt
  have hzl34 := ho8.lt
  generalize w11.drew = w12 at hs1 hs1z ⊢
  replace hS := Step.trans hS hs1
  replace ho1 := ho1.no hs1
  replace ho2 := ho2.no hs1
  replace ho3 := ho3.no hs1
  replace ho4 := ho4.no hs1
  replace hbase1 := Nat.le_trans hbase1 (hs1).size
  replace hr1 := hr1.no hs1
  replace ho6 := ho6.no hs1
  replace hbase2 := Nat.le_trans hbase2 (hs1).size
  replace hr2 := hr2.no hs1
  replace ho8 := ho8.no hs1
  refine VT_pures 8 (kn' := [(7, .pointer (some ⟨b5, 1, none⟩)), (6, .bool true), (5, .bool true), (4, .bool true), (3, .int .i64 0), (2, .bool true), (1, .bool true), (0, .int .i64 0)]) (by kernel_rfl) ?_
  refine VT_load (d := 37) (t := 23) (a := ⟨b5, 1, none⟩) (v := .slice A1 31 c1) (by kernel_rfl) (by kernel_rfl) ?_ ?_
  · intro w13 hr3
    replace hS := Step.transNew hS hr3 (fun i hi hG => by (try simp only at hG); omega)
    replace ho1 := ho1.step hr3 (by (try simp only); omega)
    replace ho2 := ho2.step hr3 (by (try simp only); omega)
    replace ho3 := ho3.step hr3 (by (try simp only); omega)
    replace ho4 := ho4.step hr3 (by (try simp only); omega)
    replace hbase1 := Nat.le_trans hbase1 (hr3).size
    replace hr1 := hr1.stepU hub1 hr3 (fun k hk hk2 hG => by (try simp only at hG); omega)
    replace ho6 := ho6.step hr3 (by (try simp only); omega)
    replace hbase2 := Nat.le_trans hbase2 (hr3).size
    replace hr2 := hr2.stepU hub2 hr3 (fun k hk hk2 hG => by (try simp only at hG); omega)
    replace ho8 := ho8.step hr3 (by (try simp only); omega)
    exact (Loads.own1 ho6 (by kernel_rfl) (by rfl))
  refine VT_pures 1 (kn' := [(9, .pointer (some ⟨b6, 1, none⟩)), (8, .slice A1 31 c1), (7, .pointer (some ⟨b5, 1, none⟩)), (6, .bool true), (5, .bool true), (4, .bool true), (3, .int .i64 0), (2, .bool true), (1, .bool true), (0, .int .i64 0)]) (by kernel_rfl) ?_
  refine VT_load (d := 39) (t := 23) (a := ⟨b6, 1, none⟩) (v := .slice A2 31 c2) (by kernel_rfl) (by kernel_rfl) ?_ ?_
  · intro w14 hr4
    replace hS := Step.transNew hS hr4 (fun i hi hG => by (try simp only at hG); omega)
    replace ho1 := ho1.step hr4 (by (try simp only); omega)
    replace ho2 := ho2.step hr4 (by (try simp only); omega)
    replace ho3 := ho3.step hr4 (by (try simp only); omega)
    replace ho4 := ho4.step hr4 (by (try simp only); omega)
    replace hbase1 := Nat.le_trans hbase1 (hr4).size
    replace hr1 := hr1.stepU hub1 hr4 (fun k hk hk2 hG => by (try simp only at hG); omega)
    replace ho6 := ho6.step hr4 (by (try simp only); omega)
    replace hbase2 := Nat.le_trans hbase2 (hr4).size
    replace hr2 := hr2.stepU hub2 hr4 (fun k hk hk2 hG => by (try simp only at hG); omega)
    replace ho8 := ho8.step hr4 (by (try simp only); omega)
    exact (Loads.own1 ho8 (by kernel_rfl) (by rfl))
  refine VT_fcall (d := 40) (f := 14) (args := #[.slice A1 31 c1, .slice A2 31 c2]) (v := .bool ((trafL k p e h b t) == (trafL k' p' e' h' b' t'))) (by kernel_rfl) (by kernel_rfl) (by kernel_rfl) Try.call14 ?_ ?_
  · intro w15 hr5
    replace hS := Step.transNew hS hr5 (fun i hi hG => by (try simp only at hG); omega)
    replace ho1 := ho1.step hr5 (by (try simp only); omega)
    replace ho2 := ho2.step hr5 (by (try simp only); omega)
    replace ho3 := ho3.step hr5 (by (try simp only); omega)
    replace ho4 := ho4.step hr5 (by (try simp only); omega)
    replace hbase1 := Nat.le_trans hbase1 (hr5).size
    replace hr1 := hr1.stepU hub1 hr5 (fun k hk hk2 hG => by (try simp only at hG); omega)
    replace ho6 := ho6.step hr5 (by (try simp only); omega)
    replace hbase2 := Nat.le_trans hbase2 (hr5).size
    replace hr2 := hr2.stepU hub2 hr5 (fun k hk hk2 hG => by (try simp only at hG); omega)
    replace ho8 := ho8.step hr5 (by (try simp only); omega)
    exact same_any A1 31 c1 _ (trafL k p e h b t) A2 31 c2 _ (trafL k' p' e' h' b' t') _ (Rw.lenI hr1) (Rw.slI hr1) (Rw.lenI hr2) (Rw.slI hr2) (by omega) (by omega) (by first | exact Nat.le_refl _ | omega) (by first | exact Nat.le_refl _ | omega)
  refine VT_load (d := 41) (t := 45) (a := ⟨b1, 0, none⟩) (v := .agg #[.int .i64 k, .int .i64 ((p : Nat) : Int), .int .i64 ((e : Nat) : Int), .int .i64 ((h : Nat) : Int), .int .i64 ((b : Nat) : Int), .int .i64 ((t : Nat) : Int)]) (by kernel_rfl) (by kernel_rfl) ?_ ?_
  · intro w16 hr6
    replace hS := Step.transNew hS hr6 (fun i hi hG => by (try simp only at hG); omega)
    replace ho1 := ho1.step hr6 (by (try simp only); omega)
    replace ho2 := ho2.step hr6 (by (try simp only); omega)
    replace ho3 := ho3.step hr6 (by (try simp only); omega)
    replace ho4 := ho4.step hr6 (by (try simp only); omega)
    replace hbase1 := Nat.le_trans hbase1 (hr6).size
    replace hr1 := hr1.stepU hub1 hr6 (fun k hk hk2 hG => by (try simp only at hG); omega)
    replace ho6 := ho6.step hr6 (by (try simp only); omega)
    replace hbase2 := Nat.le_trans hbase2 (hr6).size
    replace hr2 := hr2.stepU hub2 hr6 (fun k hk hk2 hG => by (try simp only at hG); omega)
    replace ho8 := ho8.step hr6 (by (try simp only); omega)
    exact (Loads.ownL ho1 (n := 6) (by kernel_rfl) (by kernel_rfl) (by kernel_rfl))
  refine VT_load (d := 42) (t := 45) (a := ⟨b2, 0, none⟩) (v := .agg #[.int .i64 k', .int .i64 ((p' : Nat) : Int), .int .i64 ((e' : Nat) : Int), .int .i64 ((h' : Nat) : Int), .int .i64 ((b' : Nat) : Int), .int .i64 ((t' : Nat) : Int)]) (by kernel_rfl) (by kernel_rfl) ?_ ?_
  · intro w17 hr7
    replace hS := Step.transNew hS hr7 (fun i hi hG => by (try simp only at hG); omega)
    replace ho1 := ho1.step hr7 (by (try simp only); omega)
    replace ho2 := ho2.step hr7 (by (try simp only); omega)
    replace ho3 := ho3.step hr7 (by (try simp only); omega)
    replace ho4 := ho4.step hr7 (by (try simp only); omega)
    replace hbase1 := Nat.le_trans hbase1 (hr7).size
    replace hr1 := hr1.stepU hub1 hr7 (fun k hk hk2 hG => by (try simp only at hG); omega)
    replace ho6 := ho6.step hr7 (by (try simp only); omega)
    replace hbase2 := Nat.le_trans hbase2 (hr7).size
    replace hr2 := hr2.stepU hub2 hr7 (fun k hk hk2 hG => by (try simp only at hG); omega)
    replace ho8 := ho8.step hr7 (by (try simp only); omega)
    exact (Loads.ownL ho2 (n := 6) (by kernel_rfl) (by kernel_rfl) (by kernel_rfl))
  refine VT_agEq (d := 43) (dd := 9) (ls := ([.int .i64] ++ [.int .i64] ++ [.int .i64] ++ [.int .i64] ++ [.int .i64] ++ [.int .i64] ++ [])) (pos := true) (t := 45) (xs := #[.int .i64 k, .int .i64 ((p : Nat) : Int), .int .i64 ((e : Nat) : Int), .int .i64 ((h : Nat) : Int), .int .i64 ((b : Nat) : Int), .int .i64 ((t : Nat) : Int)]) (ys := #[.int .i64 k', .int .i64 ((p' : Nat) : Int), .int .i64 ((e' : Nat) : Int), .int .i64 ((h' : Nat) : Int), .int .i64 ((b' : Nat) : Int), .int .i64 ((t' : Nat) : Int)]) (by kernel_rfl) (by kernel_rfl) (by kernel_rfl) (by kernel_rfl) (by first | exact ⟨⟨_, rfl⟩, ⟨_, rfl⟩, ⟨_, rfl⟩, ⟨_, rfl⟩, ⟨_, rfl⟩, ⟨_, rfl⟩, trivial⟩ | trivial) (by first | exact ⟨⟨_, rfl⟩, ⟨_, rfl⟩, ⟨_, rfl⟩, ⟨_, rfl⟩, ⟨_, rfl⟩, ⟨_, rfl⟩, trivial⟩ | trivial) (([k, ((p : Nat) : Int), ((e : Nat) : Int), ((h : Nat) : Int), ((b : Nat) : Int), ((t : Nat) : Int)] : List Int) == [k', ((p' : Nat) : Int), ((e' : Nat) : Int), ((h' : Nat) : Int), ((b' : Nat) : Int), ((t' : Nat) : Int)]) (iA_eq (k := .i64) (xs := [k, ((p : Nat) : Int), ((e : Nat) : Int), ((h : Nat) : Int), ((b : Nat) : Int), ((t : Nat) : Int)]) (bs := [k', ((p' : Nat) : Int), ((e' : Nat) : Int), ((h' : Nat) : Int), ((b' : Nat) : Int), ((t' : Nat) : Int)]) true) ?_
  refine VT_end ?_
  intro w18 hs2
  replace hS := Step.trans hS hs2
  replace ho1 := ho1.no hs2
  replace ho2 := ho2.no hs2
  replace ho3 := ho3.no hs2
  replace ho4 := ho4.no hs2
  replace hbase1 := Nat.le_trans hbase1 (hs2).size
  replace hr1 := hr1.no hs2
  replace ho6 := ho6.no hs2
  replace hbase2 := Nat.le_trans hbase2 (hs2).size
  replace hr2 := hr2.no hs2
  replace ho8 := ho8.no hs2
  refine VL_keep [6, 7, 35, 40, 43] [(6, .pointer (some ⟨b3, 0, none⟩)), (7, .pointer (some ⟨b4, 0, none⟩)), (35, .bool true), (40, .bool ((trafL k p e h b t) == (trafL k' p' e' h' b' t'))), (43, .bool (([k, ((p : Nat) : Int), ((e : Nat) : Int), ((h : Nat) : Int), ((b : Nat) : Int), ((t : Nat) : Int)] : List Int) == [k', ((p' : Nat) : Int), ((e' : Nat) : Int), ((h' : Nat) : Int), ((b' : Nat) : Int), ((t' : Nat) : Int)]))] (by kernel_rfl) ?_
  refine VL_pure 17 [6, 7, 45] [(6, .pointer (some ⟨b3, 0, none⟩)), (7, .pointer (some ⟨b4, 0, none⟩)), (45, .bool (!(((trafL k p e h b t) == (trafL k' p' e' h' b' t')) == (([k, ((p : Nat) : Int), ((e : Nat) : Int), ((h : Nat) : Int), ((b : Nat) : Int), ((t : Nat) : Int)] : List Int) == [k', ((p' : Nat) : Int), ((e' : Nat) : Int), ((h' : Nat) : Int), ((b' : Nat) : Int), ((t' : Nat) : Int)]))))] (by kernel_rfl) rfl ?_
  refine VL_end (by kernel_rfl) ?_
  refine VQ_next ?_
  refine VC_is (b := !(((trafL k p e h b t) == (trafL k' p' e' h' b' t')) == (([k, ((p : Nat) : Int), ((e : Nat) : Int), ((h : Nat) : Int), ((b : Nat) : Int), ((t : Nat) : Int)] : List Int) == [k', ((p' : Nat) : Int), ((e' : Nat) : Int), ((h' : Nat) : Int), ((b' : Nat) : Int), ((t' : Nat) : Int)]))) false (by kernel_rfl) (by rw [traf_iff hr hr']; simp) ?_
  refine VC_ite_false ?_
  refine VC_skip ?_
  refine VQ_next ?_
  refine VC_seq ?_
  refine VC_region ?_
  refine VL_load (d := 47) (t := 47) (a := ⟨b3, 0, none⟩) (v := .agg #[.int .i64 kp, .int .i64 kv, .int .i64 kc]) (by kernel_rfl) (by kernel_rfl) (Loads.ownL ho3 (n := 3) (by kernel_rfl) (by kernel_rfl) (by kernel_rfl)) ?_
  have hzs11 := hS.size
  have hzl35 := ho1.lt
  have hzl36 := ho2.lt
  have hzl37 := ho3.lt
  have hzl38 := ho4.lt
  have hzl39 := ho6.lt
  have hzl40 := ho8.lt
  refine VL_call (d := 48) (f := 19) (args := #[.agg #[.int .i64 kp, .int .i64 kv, .int .i64 kc]]) (by kernel_rfl) (by kernel_rfl) (by kernel_rfl) Try.call19 (key_no kp kv kc _ hk) ?_
  rintro _ w19 ⟨rfl, hc4⟩
  replace hS := Step.trans hS hc4
  replace ho1 := ho1.no hc4
  replace ho2 := ho2.no hc4
  replace ho3 := ho3.no hc4
  replace ho4 := ho4.no hc4
  replace hbase1 := Nat.le_trans hbase1 (hc4).size
  replace hr1 := hr1.no hc4
  replace ho6 := ho6.no hc4
  replace hbase2 := Nat.le_trans hbase2 (hc4).size
  replace hr2 := hr2.no hc4
  replace ho8 := ho8.no hc4
  refine VL_pure 5 [6, 7, 49, 50] [(6, .pointer (some ⟨b3, 0, none⟩)), (7, .pointer (some ⟨b4, 0, none⟩)), (49, .agg #[.int .u8 0, .slice none 0 0]), (50, .int .i64 1)] (by kernel_rfl) rfl ?_
  have hzs12 := hS.size
  have hzl41 := ho1.lt
  have hzl42 := ho2.lt
  have hzl43 := ho3.lt
  have hzl44 := ho4.lt
  have hzk4 := hbase1
  have hzl45 := ho6.lt
  have hzk5 := hbase2
  have hzl46 := ho8.lt
  refine VL_box (d := 13) (t := 40) (c := #[.int .u8 0, .slice none 0 0]) (by kernel_rfl) (by kernel_rfl) ?_
  intro b7 w20 hn7
  replace hS := Step.trans hS (hn7.step No)
  replace ho1 := ho1.no (hn7.step No)
  replace ho2 := ho2.no (hn7.step No)
  replace ho3 := ho3.no (hn7.step No)
  replace ho4 := ho4.no (hn7.step No)
  replace hbase1 := Nat.le_trans hbase1 (hn7.step No).size
  replace hr1 := hr1.no (hn7.step No)
  replace ho6 := ho6.no (hn7.step No)
  replace hbase2 := Nat.le_trans hbase2 (hn7.step No).size
  replace hr2 := hr2.no (hn7.step No)
  replace ho8 := ho8.no (hn7.step No)
  have ho9 := hn7.own
  have hzhn7 := hn7.size
  have hqhn7 := hn7.eqb
  refine VL_store (b := b7) (o := 0) (vs := [.int .u8 0, .slice none 0 0]) (by kernel_rfl) (by kernel_rfl) ho9 (Nat.le_of_ble_eq_true (by kernel_rfl)) ?_
  intro w21 hw3
  replace hS := Step.transNew hS hw3.step (fun _ _ _ => by omega)
  replace ho1 := ho1.step hw3.step (show ¬ b1 = b7 by omega)
  replace ho2 := ho2.step hw3.step (show ¬ b2 = b7 by omega)
  replace ho3 := ho3.step hw3.step (show ¬ b3 = b7 by omega)
  replace ho4 := ho4.step hw3.step (show ¬ b4 = b7 by omega)
  replace hbase1 := Nat.le_trans hbase1 (hw3.step).size
  replace hr1 := hr1.stepU hub1 hw3.step (fun k hk1 hk2 (hF : k = b7) => by omega)
  replace ho6 := ho6.step hw3.step (show ¬ b5 = b7 by omega)
  replace hbase2 := Nat.le_trans hbase2 (hw3.step).size
  replace hr2 := hr2.stepU hub2 hw3.step (fun k hk1 hk2 (hF : k = b7) => by omega)
  replace ho8 := ho8.step hw3.step (show ¬ b6 = b7 by omega)
  have ho10 : Own w21 b7 #[.int .u8 0, .slice none 0 0] 40 := Own.cast hw3.own (by kernel_rfl)
  have hzhw3 := hw3.same
  refine VL_pure 8 [6, 7, 13, 14] [(6, .pointer (some ⟨b3, 0, none⟩)), (7, .pointer (some ⟨b4, 0, none⟩)), (13, .pointer (some ⟨b7, 0, none⟩)), (14, .int .i64 1)] (by kernel_rfl) rfl ?_
  refine VL_end (by kernel_rfl) ?_
  refine VQ_next ?_
  refine VC_seq ?_
  refine VC_region ?_
  refine VL_load (d := 52) (t := 47) (a := ⟨b4, 0, none⟩) (v := .agg #[.int .i64 kp', .int .i64 kv', .int .i64 kc']) (by kernel_rfl) (by kernel_rfl) (Loads.ownL ho4 (n := 3) (by kernel_rfl) (by kernel_rfl) (by kernel_rfl)) ?_
  have hzs13 := hS.size
  have hzl47 := ho1.lt
  have hzl48 := ho2.lt
  have hzl49 := ho3.lt
  have hzl50 := ho4.lt
  have hzl51 := ho6.lt
  have hzl52 := ho8.lt
  have hzl53 := ho10.lt
  refine VL_call (d := 53) (f := 19) (by kernel_rfl) (by kernel_rfl) (by kernel_rfl) Try.call19 (keyU_any kp' kv' kc' _) ?_
  rintro _ w22 ⟨⟨ui1, uA1, un1, uc1, rfl⟩, hc5⟩
  replace hS := Step.trans hS hc5
  replace ho1 := ho1.no hc5
  replace ho2 := ho2.no hc5
  replace ho3 := ho3.no hc5
  replace ho4 := ho4.no hc5
  replace hbase1 := Nat.le_trans hbase1 (hc5).size
  replace hr1 := hr1.no hc5
  replace ho6 := ho6.no hc5
  replace hbase2 := Nat.le_trans hbase2 (hc5).size
  replace hr2 := hr2.no hc5
  replace ho8 := ho8.no hc5
  replace ho10 := ho10.no hc5
  refine VL_pure 5 [6, 7, 13, 14, 54, 55] [(6, .pointer (some ⟨b3, 0, none⟩)), (7, .pointer (some ⟨b4, 0, none⟩)), (13, .pointer (some ⟨b7, 0, none⟩)), (14, .int .i64 1), (54, .agg #[.int .u8 ui1, .slice uA1 un1 uc1]), (55, .int .i64 (keyE kp' kv' kc'))] (by kernel_rfl) rfl ?_
  have hzs14 := hS.size
  have hzl54 := ho1.lt
  have hzl55 := ho2.lt
  have hzl56 := ho3.lt
  have hzl57 := ho4.lt
  have hzk6 := hbase1
  have hzl58 := ho6.lt
  have hzk7 := hbase2
  have hzl59 := ho8.lt
  have hzl60 := ho10.lt
  refine VL_box (d := 15) (t := 40) (c := #[.int .u8 0, .slice none 0 0]) (by kernel_rfl) (by kernel_rfl) ?_
  intro b8 w23 hn8
  replace hS := Step.trans hS (hn8.step No)
  replace ho1 := ho1.no (hn8.step No)
  replace ho2 := ho2.no (hn8.step No)
  replace ho3 := ho3.no (hn8.step No)
  replace ho4 := ho4.no (hn8.step No)
  replace hbase1 := Nat.le_trans hbase1 (hn8.step No).size
  replace hr1 := hr1.no (hn8.step No)
  replace ho6 := ho6.no (hn8.step No)
  replace hbase2 := Nat.le_trans hbase2 (hn8.step No).size
  replace hr2 := hr2.no (hn8.step No)
  replace ho8 := ho8.no (hn8.step No)
  replace ho10 := ho10.no (hn8.step No)
  have ho11 := hn8.own
  have hzhn8 := hn8.size
  have hqhn8 := hn8.eqb
  refine VL_store (b := b8) (o := 0) (vs := [.int .u8 ui1, .slice uA1 un1 uc1]) (by kernel_rfl) (by kernel_rfl) ho11 (Nat.le_of_ble_eq_true (by kernel_rfl)) ?_
  intro w24 hw4
  replace hS := Step.transNew hS hw4.step (fun _ _ _ => by omega)
  replace ho1 := ho1.step hw4.step (show ¬ b1 = b8 by omega)
  replace ho2 := ho2.step hw4.step (show ¬ b2 = b8 by omega)
  replace ho3 := ho3.step hw4.step (show ¬ b3 = b8 by omega)
  replace ho4 := ho4.step hw4.step (show ¬ b4 = b8 by omega)
  replace hbase1 := Nat.le_trans hbase1 (hw4.step).size
  replace hr1 := hr1.stepU hub1 hw4.step (fun k hk1 hk2 (hF : k = b8) => by omega)
  replace ho6 := ho6.step hw4.step (show ¬ b5 = b8 by omega)
  replace hbase2 := Nat.le_trans hbase2 (hw4.step).size
  replace hr2 := hr2.stepU hub2 hw4.step (fun k hk1 hk2 (hF : k = b8) => by omega)
  replace ho8 := ho8.step hw4.step (show ¬ b6 = b8 by omega)
  replace ho10 := ho10.step hw4.step (show ¬ b7 = b8 by omega)
  have ho12 : Own w24 b8 #[.int .u8 ui1, .slice uA1 un1 uc1] 40 := Own.cast hw4.own (by kernel_rfl)
  have hzhw4 := hw4.same
  refine VL_pure 8 [6, 7, 13, 14, 15, 16] [(6, .pointer (some ⟨b3, 0, none⟩)), (7, .pointer (some ⟨b4, 0, none⟩)), (13, .pointer (some ⟨b7, 0, none⟩)), (14, .int .i64 1), (15, .pointer (some ⟨b8, 0, none⟩)), (16, .int .i64 (keyE kp' kv' kc'))] (by kernel_rfl) rfl ?_
  refine VL_end (by kernel_rfl) ?_
  refine VQ_next ?_
  refine VC_seq ?_
  have hs3 := drew_step w24
  have hs3z : w24.heap.size = w24.drew.heap.size := rfl
  refine VC_text [[], [0], [0, 1], [0, 1, 2], [0, 1, 2, 3], [0, 1, 2, 3, 4], [0, 1, 2, 3, 4, 5], [0, 1, 2, 3, 4, 5, 6], [0, 1, 2, 3, 4, 5, 6, 7], [0, 1, 2, 3, 4, 5, 6], [0, 1, 2, 3, 4, 5, 6, 9], [0, 1, 2, 3, 4, 5, 6, 7, 8, 9, 10], [0, 1, 2, 3, 4, 5, 6], [0, 1, 2, 3, 4, 5, 6], [0, 1, 2, 3, 4, 5, 6, 12, 13], [0, 1, 2, 3, 4, 5, 6, 7, 8, 9, 10, 11, 12, 13, 14], [0, 1, 2, 3, 4, 5, 6, 7, 8, 9, 10, 11, 12, 13, 14, 15], [0, 1, 2, 3, 4, 5, 6, 7, 8, 9, 10, 11, 12, 13, 14, 15, 16]] 15 (fun x y => Step (fun k => w24.heap.size ≤ k) x y) [] [0, 1, 2, 3, 4, 5, 6, 7, 8, 9, 10, 11, 12, 13, 14] (by kernel_rfl) (by kernel_rfl) (by kernel_rfl) (by kernel_rfl) (fun x => Step.refl _ x) (fun h k => Step.trans h k) Step.weak ?_
  have hzs15 := hS.size
  have hzl61 := ho1.lt
  have hzl62 := ho2.lt
  have hzl63 := ho3.lt
  have hzl64 := ho4.lt
  have hzl65 := ho6.lt
  have hzl66 := ho8.lt
  have hzl67 := ho10.lt
  have hzl68 := ho12.lt
  generalize w24.drew = w25 at hs3 hs3z ⊢
  replace hS := Step.trans hS hs3
  replace ho1 := ho1.no hs3
  replace ho2 := ho2.no hs3
  replace ho3 := ho3.no hs3
  replace ho4 := ho4.no hs3
  replace hbase1 := Nat.le_trans hbase1 (hs3).size
  replace hr1 := hr1.no hs3
  replace ho6 := ho6.no hs3
  replace hbase2 := Nat.le_trans hbase2 (hs3).size
  replace hr2 := hr2.no hs3
  replace ho8 := ho8.no hs3
  replace ho10 := ho10.no hs3
  replace ho12 := ho12.no hs3
  refine VT_pures 15 (kn' := [(14, undef), (13, undef), (12, undef), (11, undef), (10, undef), (9, undef), (8, undef), (7, undef), (6, .bool true), (5, .bool true), (4, undef), (3, undef), (2, .bool true), (1, .bool true), (0, .int .i64 1)]) (by kernel_rfl) ?_
  refine VT_end ?_
  intro w26 hs4
  replace hS := Step.trans hS hs4
  replace ho1 := ho1.no hs4
  replace ho2 := ho2.no hs4
  replace ho3 := ho3.no hs4
  replace ho4 := ho4.no hs4
  replace hbase1 := Nat.le_trans hbase1 (hs4).size
  replace hr1 := hr1.no hs4
  replace ho6 := ho6.no hs4
  replace hbase2 := Nat.le_trans hbase2 (hs4).size
  replace hr2 := hr2.no hs4
  replace ho8 := ho8.no hs4
  replace ho10 := ho10.no hs4
  replace ho12 := ho12.no hs4
  refine VL_keep [62, 67, 70] [(62, .bool true), (67, undef), (70, undef)] (by kernel_rfl) ?_
  refine VL_pure 18 [8] [(8, .bool true)] (by kernel_rfl) rfl ?_
  refine VL_end (by kernel_rfl) ?_
  refine VQ_next ?_
  refine VC_ret ?_
  refine VQ_ret1 (.bool true) (.inr rfl) rfl rfl ?_
  exact ⟨by first | rfl | (congr 1; rw [key_iff hk hk']; simp), hS⟩

set_option maxRecDepth 100000 in
set_option maxHeartbeats 4000000 in
theorem apart_yn_yy (k : Int) (p e h b t : Nat) (k' p' e' h' b' t' : Int) (kp kv kc : Nat) (kp' kv' kc' : Nat) (w : World) (hr : rightC k p e h b t = 0) (hr' : rightC k' p' e' h' b' t' ≠ 0) (hk : rightK kp kv kc = true) (hk' : rightK kp' kv' kc' = true)  :
    CV Try.prog 6 #[.agg #[.int .i64 k, .int .i64 ((p : Nat) : Int), .int .i64 ((e : Nat) : Int), .int .i64 ((h : Nat) : Int), .int .i64 ((b : Nat) : Int), .int .i64 ((t : Nat) : Int)], .agg #[.int .i64 k', .int .i64 p', .int .i64 e', .int .i64 h', .int .i64 b', .int .i64 t'], .agg #[.int .i64 ((kp : Nat) : Int), .int .i64 ((kv : Nat) : Int), .int .i64 ((kc : Nat) : Int)], .agg #[.int .i64 ((kp' : Nat) : Int), .int .i64 ((kv' : Nat) : Int), .int .i64 ((kc' : Nat) : Int)]] w (fun x w1 => x = .bool true ∧ Step No w w1) := by
  have hS : Step No w w := Step.refl _ _
  refine CV_enter Try.f6 _ 73 [(0, .agg #[.int .i64 k, .int .i64 ((p : Nat) : Int), .int .i64 ((e : Nat) : Int), .int .i64 ((h : Nat) : Int), .int .i64 ((b : Nat) : Int), .int .i64 ((t : Nat) : Int)]), (1, .agg #[.int .i64 k', .int .i64 p', .int .i64 e', .int .i64 h', .int .i64 b', .int .i64 t']), (2, .agg #[.int .i64 ((kp : Nat) : Int), .int .i64 ((kv : Nat) : Int), .int .i64 ((kc : Nat) : Int)]), (3, .agg #[.int .i64 ((kp' : Nat) : Int), .int .i64 ((kv' : Nat) : Int), .int .i64 ((kc' : Nat) : Int)])] Try.func6 rfl rfl (by kernel_rfl) rfl ?_
  refine VC_seq ?_
  refine VC_region ?_
  have hzs1 := hS.size
  refine VL_box (d := 4) (t := 45) (c := #[.int .i64 k, .int .i64 ((p : Nat) : Int), .int .i64 ((e : Nat) : Int), .int .i64 ((h : Nat) : Int), .int .i64 ((b : Nat) : Int), .int .i64 ((t : Nat) : Int)]) (by kernel_rfl) (by kernel_rfl) ?_
  intro b1 w1 hn1
  replace hS := Step.trans hS (hn1.step No)
  have ho1 := hn1.own
  have hzhn1 := hn1.size
  have hqhn1 := hn1.eqb
  have hzs2 := hS.size
  have hzl1 := ho1.lt
  refine VL_box (d := 5) (t := 45) (c := #[.int .i64 k', .int .i64 p', .int .i64 e', .int .i64 h', .int .i64 b', .int .i64 t']) (by kernel_rfl) (by kernel_rfl) ?_
  intro b2 w2 hn2
  replace hS := Step.trans hS (hn2.step No)
  replace ho1 := ho1.no (hn2.step No)
  have ho2 := hn2.own
  have hzhn2 := hn2.size
  have hqhn2 := hn2.eqb
  have hzs3 := hS.size
  have hzl2 := ho1.lt
  have hzl3 := ho2.lt
  refine VL_box (d := 6) (t := 47) (c := #[.int .i64 ((kp : Nat) : Int), .int .i64 ((kv : Nat) : Int), .int .i64 ((kc : Nat) : Int)]) (by kernel_rfl) (by kernel_rfl) ?_
  intro b3 w3 hn3
  replace hS := Step.trans hS (hn3.step No)
  replace ho1 := ho1.no (hn3.step No)
  replace ho2 := ho2.no (hn3.step No)
  have ho3 := hn3.own
  have hzhn3 := hn3.size
  have hqhn3 := hn3.eqb
  have hzs4 := hS.size
  have hzl4 := ho1.lt
  have hzl5 := ho2.lt
  have hzl6 := ho3.lt
  refine VL_box (d := 7) (t := 47) (c := #[.int .i64 ((kp' : Nat) : Int), .int .i64 ((kv' : Nat) : Int), .int .i64 ((kc' : Nat) : Int)]) (by kernel_rfl) (by kernel_rfl) ?_
  intro b4 w4 hn4
  replace hS := Step.trans hS (hn4.step No)
  replace ho1 := ho1.no (hn4.step No)
  replace ho2 := ho2.no (hn4.step No)
  replace ho3 := ho3.no (hn4.step No)
  have ho4 := hn4.own
  have hzhn4 := hn4.size
  have hqhn4 := hn4.eqb
  refine VL_pure 5 [4, 5, 6, 7] [(4, .pointer (some ⟨b1, 0, none⟩)), (5, .pointer (some ⟨b2, 0, none⟩)), (6, .pointer (some ⟨b3, 0, none⟩)), (7, .pointer (some ⟨b4, 0, none⟩))] (by kernel_rfl) rfl ?_
  refine VL_end (by kernel_rfl) ?_
  refine VQ_next ?_
  refine VC_seq ?_
  refine VC_seq ?_
  refine VC_region ?_
  have hzs5 := hS.size
  have hzl7 := ho1.lt
  have hzl8 := ho2.lt
  have hzl9 := ho3.lt
  have hzl10 := ho4.lt
  refine VL_call (d := 17) (f := 9) (args := #[]) (by kernel_rfl) (by kernel_rfl) (by kernel_rfl) Try.call9 (awake_any _) ?_
  rintro _ w5 ⟨rfl, hc1⟩
  replace hS := Step.trans hS hc1
  replace ho1 := ho1.no hc1
  replace ho2 := ho2.no hc1
  replace ho3 := ho3.no hc1
  replace ho4 := ho4.no hc1
  refine VL_pure 2 [4, 5, 6, 7, 18] [(4, .pointer (some ⟨b1, 0, none⟩)), (5, .pointer (some ⟨b2, 0, none⟩)), (6, .pointer (some ⟨b3, 0, none⟩)), (7, .pointer (some ⟨b4, 0, none⟩)), (18, .bool false)] (by kernel_rfl) rfl ?_
  refine VL_end (by kernel_rfl) ?_
  refine VQ_next ?_
  refine VC_false (by kernel_rfl) ?_
  refine VC_skip ?_
  refine VQ_next ?_
  refine VC_seq ?_
  refine VC_region ?_
  refine VL_load (d := 20) (t := 45) (a := ⟨b1, 0, none⟩) (v := .agg #[.int .i64 k, .int .i64 ((p : Nat) : Int), .int .i64 ((e : Nat) : Int), .int .i64 ((h : Nat) : Int), .int .i64 ((b : Nat) : Int), .int .i64 ((t : Nat) : Int)]) (by kernel_rfl) (by kernel_rfl) (Loads.ownL ho1 (n := 6) (by kernel_rfl) (by kernel_rfl) (by kernel_rfl)) ?_
  have hzs6 := hS.size
  have hzl11 := ho1.lt
  have hzl12 := ho2.lt
  have hzl13 := ho3.lt
  have hzl14 := ho4.lt
  refine VL_call (d := 21) (f := 18) (by kernel_rfl) (by kernel_rfl) (by kernel_rfl) Try.call18 (traffic_yes k p e h b t _ hr) ?_
  rintro _ w6 ⟨A1, c1, rfl, hr1, hc2⟩
  replace hS := Step.trans hS hc2
  replace ho1 := ho1.no hc2
  replace ho2 := ho2.no hc2
  replace ho3 := ho3.no hc2
  replace ho4 := ho4.no hc2
  obtain ⟨base1, hbase1E⟩ : ∃ x, x = w5.heap.size := ⟨_, rfl⟩
  rw [← hbase1E] at hr1
  have hbase1 : base1 ≤ w6.heap.size := by rw [hbase1E]; exact hc2.size
  refine VL_pure 5 [4, 5, 6, 7, 22, 23] [(4, .pointer (some ⟨b1, 0, none⟩)), (5, .pointer (some ⟨b2, 0, none⟩)), (6, .pointer (some ⟨b3, 0, none⟩)), (7, .pointer (some ⟨b4, 0, none⟩)), (22, .agg #[.int .u8 89, .slice A1 31 c1]), (23, .int .i64 0)] (by kernel_rfl) rfl ?_
  have hzs7 := hS.size
  have hzl15 := ho1.lt
  have hzl16 := ho2.lt
  have hzl17 := ho3.lt
  have hzl18 := ho4.lt
  have hzk1 := hbase1
  have hub1 := hr1.ub
  refine VL_box (d := 9) (t := 40) (c := #[.int .u8 0, .slice none 0 0]) (by kernel_rfl) (by kernel_rfl) ?_
  intro b5 w7 hn5
  replace hS := Step.trans hS (hn5.step No)
  replace ho1 := ho1.no (hn5.step No)
  replace ho2 := ho2.no (hn5.step No)
  replace ho3 := ho3.no (hn5.step No)
  replace ho4 := ho4.no (hn5.step No)
  replace hbase1 := Nat.le_trans hbase1 (hn5.step No).size
  replace hr1 := hr1.no (hn5.step No)
  have ho5 := hn5.own
  have hzhn5 := hn5.size
  have hqhn5 := hn5.eqb
  refine VL_store (b := b5) (o := 0) (vs := [.int .u8 89, .slice A1 31 c1]) (by kernel_rfl) (by kernel_rfl) ho5 (Nat.le_of_ble_eq_true (by kernel_rfl)) ?_
  intro w8 hw1
  replace hS := Step.transNew hS hw1.step (fun _ _ _ => by omega)
  replace ho1 := ho1.step hw1.step (show ¬ b1 = b5 by omega)
  replace ho2 := ho2.step hw1.step (show ¬ b2 = b5 by omega)
  replace ho3 := ho3.step hw1.step (show ¬ b3 = b5 by omega)
  replace ho4 := ho4.step hw1.step (show ¬ b4 = b5 by omega)
  replace hbase1 := Nat.le_trans hbase1 (hw1.step).size
  replace hr1 := hr1.stepU hub1 hw1.step (fun k hk1 hk2 (hF : k = b5) => by omega)
  have ho6 : Own w8 b5 #[.int .u8 89, .slice A1 31 c1] 40 := Own.cast hw1.own (by kernel_rfl)
  have hzhw1 := hw1.same
  refine VL_pure 8 [4, 5, 6, 7, 9, 10] [(4, .pointer (some ⟨b1, 0, none⟩)), (5, .pointer (some ⟨b2, 0, none⟩)), (6, .pointer (some ⟨b3, 0, none⟩)), (7, .pointer (some ⟨b4, 0, none⟩)), (9, .pointer (some ⟨b5, 0, none⟩)), (10, .int .i64 0)] (by kernel_rfl) rfl ?_
  refine VL_end (by kernel_rfl) ?_
  refine VQ_next ?_
  refine VC_seq ?_
  refine VC_region ?_
  refine VL_load (d := 25) (t := 45) (a := ⟨b2, 0, none⟩) (v := .agg #[.int .i64 k', .int .i64 p', .int .i64 e', .int .i64 h', .int .i64 b', .int .i64 t']) (by kernel_rfl) (by kernel_rfl) (Loads.ownL ho2 (n := 6) (by kernel_rfl) (by kernel_rfl) (by kernel_rfl)) ?_
  have hzs8 := hS.size
  have hzl19 := ho1.lt
  have hzl20 := ho2.lt
  have hzl21 := ho3.lt
  have hzl22 := ho4.lt
  have hzl23 := ho6.lt
  refine VL_call (d := 26) (f := 18) (args := #[.agg #[.int .i64 k', .int .i64 p', .int .i64 e', .int .i64 h', .int .i64 b', .int .i64 t']]) (by kernel_rfl) (by kernel_rfl) (by kernel_rfl) Try.call18 (traffic_no k' p' e' h' b' t' _ hr') ?_
  rintro _ w9 ⟨rfl, hc3⟩
  replace hS := Step.trans hS hc3
  replace ho1 := ho1.no hc3
  replace ho2 := ho2.no hc3
  replace ho3 := ho3.no hc3
  replace ho4 := ho4.no hc3
  replace hbase1 := Nat.le_trans hbase1 (hc3).size
  replace hr1 := hr1.no hc3
  replace ho6 := ho6.no hc3
  refine VL_pure 5 [4, 5, 6, 7, 9, 10, 27, 28] [(4, .pointer (some ⟨b1, 0, none⟩)), (5, .pointer (some ⟨b2, 0, none⟩)), (6, .pointer (some ⟨b3, 0, none⟩)), (7, .pointer (some ⟨b4, 0, none⟩)), (9, .pointer (some ⟨b5, 0, none⟩)), (10, .int .i64 0), (27, .agg #[.int .u8 0, .slice none 0 0]), (28, .int .i64 (rightC k' p' e' h' b' t'))] (by kernel_rfl) rfl ?_
  have hzs9 := hS.size
  have hzl24 := ho1.lt
  have hzl25 := ho2.lt
  have hzl26 := ho3.lt
  have hzl27 := ho4.lt
  have hzk2 := hbase1
  have hzl28 := ho6.lt
  refine VL_box (d := 11) (t := 40) (c := #[.int .u8 0, .slice none 0 0]) (by kernel_rfl) (by kernel_rfl) ?_
  intro b6 w10 hn6
  replace hS := Step.trans hS (hn6.step No)
  replace ho1 := ho1.no (hn6.step No)
  replace ho2 := ho2.no (hn6.step No)
  replace ho3 := ho3.no (hn6.step No)
  replace ho4 := ho4.no (hn6.step No)
  replace hbase1 := Nat.le_trans hbase1 (hn6.step No).size
  replace hr1 := hr1.no (hn6.step No)
  replace ho6 := ho6.no (hn6.step No)
  have ho7 := hn6.own
  have hzhn6 := hn6.size
  have hqhn6 := hn6.eqb
  refine VL_store (b := b6) (o := 0) (vs := [.int .u8 0, .slice none 0 0]) (by kernel_rfl) (by kernel_rfl) ho7 (Nat.le_of_ble_eq_true (by kernel_rfl)) ?_
  intro w11 hw2
  replace hS := Step.transNew hS hw2.step (fun _ _ _ => by omega)
  replace ho1 := ho1.step hw2.step (show ¬ b1 = b6 by omega)
  replace ho2 := ho2.step hw2.step (show ¬ b2 = b6 by omega)
  replace ho3 := ho3.step hw2.step (show ¬ b3 = b6 by omega)
  replace ho4 := ho4.step hw2.step (show ¬ b4 = b6 by omega)
  replace hbase1 := Nat.le_trans hbase1 (hw2.step).size
  replace hr1 := hr1.stepU hub1 hw2.step (fun k hk1 hk2 (hF : k = b6) => by omega)
  replace ho6 := ho6.step hw2.step (show ¬ b5 = b6 by omega)
  have ho8 : Own w11 b6 #[.int .u8 0, .slice none 0 0] 40 := Own.cast hw2.own (by kernel_rfl)
  have hzhw2 := hw2.same
  refine VL_pure 8 [4, 5, 6, 7, 9, 10, 11, 12] [(4, .pointer (some ⟨b1, 0, none⟩)), (5, .pointer (some ⟨b2, 0, none⟩)), (6, .pointer (some ⟨b3, 0, none⟩)), (7, .pointer (some ⟨b4, 0, none⟩)), (9, .pointer (some ⟨b5, 0, none⟩)), (10, .int .i64 0), (11, .pointer (some ⟨b6, 0, none⟩)), (12, .int .i64 (rightC k' p' e' h' b' t'))] (by kernel_rfl) rfl ?_
  refine VL_end (by kernel_rfl) ?_
  refine VQ_next ?_
  refine VC_seq ?_
  refine VC_seq ?_
  have hs1 := drew_step w11
  have hs1z : w11.heap.size = w11.drew.heap.size := rfl
  refine VC_text [[], [0], [0, 1], [0, 1, 2], [0, 1, 2, 3], [0, 1, 2, 3, 4], [0, 1, 2, 3, 4, 5], [0, 1, 2, 3, 4, 5, 6], [0, 1, 2, 3, 4, 5, 6, 7], [0, 1, 2, 3, 4, 5, 6], [0, 1, 2, 3, 4, 5, 6, 9], [0, 1, 2, 3, 4, 5, 6, 7, 8, 9, 10], [0, 1, 2, 3, 4, 5, 6], [0, 1, 2, 3, 4, 5, 6], [0, 1, 2, 3, 4, 5, 6, 12, 13], [0, 1, 2, 3, 4, 5, 6, 7, 8, 9, 10, 11, 12, 13, 14], [0, 1, 2, 3, 4, 5, 6, 7, 8, 9, 10, 11, 12, 13, 14, 15]] 15 (fun x y => Step (fun k => w11.heap.size ≤ k) x y) [] [0, 1, 2, 3, 4, 5, 6, 7, 8, 9, 10, 11, 12, 13, 14] (by kernel_rfl) (by kernel_rfl) (by kernel_rfl) (by kernel_rfl) (fun x => Step.refl _ x) (fun h k => Step.trans h k) Step.weak ?_
  have hzs10 := hS.size
  have hzl29 := ho1.lt
  have hzl30 := ho2.lt
  have hzl31 := ho3.lt
  have hzl32 := ho4.lt
  have hzl33 := ho6.lt
  have hzl34 := ho8.lt
  generalize w11.drew = w12 at hs1 hs1z ⊢
  replace hS := Step.trans hS hs1
  replace ho1 := ho1.no hs1
  replace ho2 := ho2.no hs1
  replace ho3 := ho3.no hs1
  replace ho4 := ho4.no hs1
  replace hbase1 := Nat.le_trans hbase1 (hs1).size
  replace hr1 := hr1.no hs1
  replace ho6 := ho6.no hs1
  replace ho8 := ho8.no hs1
  refine VT_pures 7 (kn' := [(6, .bool ((rightC k' p' e' h' b' t') == 0)), (5, .bool ((rightC k' p' e' h' b' t') == 0)), (4, .bool ((rightC k' p' e' h' b' t') == 0)), (3, .int .i64 (rightC k' p' e' h' b' t')), (2, .bool true), (1, .bool true), (0, .int .i64 0)]) (by kernel_rfl) ?_
  have hg1 : ((rightC k' p' e' h' b' t') == 0) = false := (by first | (rw [hr']; rfl) | simpa using hr')
  refine VT_eq [(6, .bool false), (5, .bool false), (4, .bool false), (3, .int .i64 (rightC k' p' e' h' b' t')), (2, .bool true), (1, .bool true), (0, .int .i64 0)] (by simp only [hg1, Bool.not_true, Bool.not_false]) ?_
  refine VT_pures 8 (kn' := [(14, undef), (13, undef), (12, undef), (11, undef), (10, undef), (9, undef), (8, undef), (7, undef), (6, .bool false), (5, .bool false), (4, .bool false), (3, .int .i64 (rightC k' p' e' h' b' t')), (2, .bool true), (1, .bool true), (0, .int .i64 0)]) (by kernel_rfl) ?_
  refine VT_end ?_
  intro w13 hs2
  replace hS := Step.trans hS hs2
  replace ho1 := ho1.no hs2
  replace ho2 := ho2.no hs2
  replace ho3 := ho3.no hs2
  replace ho4 := ho4.no hs2
  replace hbase1 := Nat.le_trans hbase1 (hs2).size
  replace hr1 := hr1.no hs2
  replace ho6 := ho6.no hs2
  replace ho8 := ho8.no hs2
  refine VL_keep [6, 7, 35, 40, 43] [(6, .pointer (some ⟨b3, 0, none⟩)), (7, .pointer (some ⟨b4, 0, none⟩)), (35, .bool false), (40, undef), (43, undef)] (by kernel_rfl) ?_
  refine VL_pure 17 [6, 7, 45] [(6, .pointer (some ⟨b3, 0, none⟩)), (7, .pointer (some ⟨b4, 0, none⟩)), (45, .bool false)] (by kernel_rfl) rfl ?_
  refine VL_end (by kernel_rfl) ?_
  refine VQ_next ?_
  refine VC_false (by kernel_rfl) ?_
  refine VC_skip ?_
  refine VQ_next ?_
  refine VC_seq ?_
  refine VC_region ?_
  refine VL_load (d := 47) (t := 47) (a := ⟨b3, 0, none⟩) (v := .agg #[.int .i64 ((kp : Nat) : Int), .int .i64 ((kv : Nat) : Int), .int .i64 ((kc : Nat) : Int)]) (by kernel_rfl) (by kernel_rfl) (Loads.ownL ho3 (n := 3) (by kernel_rfl) (by kernel_rfl) (by kernel_rfl)) ?_
  have hzs11 := hS.size
  have hzl35 := ho1.lt
  have hzl36 := ho2.lt
  have hzl37 := ho3.lt
  have hzl38 := ho4.lt
  have hzl39 := ho6.lt
  have hzl40 := ho8.lt
  refine VL_call (d := 48) (f := 19) (by kernel_rfl) (by kernel_rfl) (by kernel_rfl) Try.call19 (key_yes kp kv kc _ hk) ?_
  rintro _ w14 ⟨A2, c2, rfl, hr2, hc4⟩
  replace hS := Step.trans hS hc4
  replace ho1 := ho1.no hc4
  replace ho2 := ho2.no hc4
  replace ho3 := ho3.no hc4
  replace ho4 := ho4.no hc4
  replace hbase1 := Nat.le_trans hbase1 (hc4).size
  replace hr1 := hr1.no hc4
  replace ho6 := ho6.no hc4
  replace ho8 := ho8.no hc4
  obtain ⟨base2, hbase2E⟩ : ∃ x, x = w13.heap.size := ⟨_, rfl⟩
  rw [← hbase2E] at hr2
  have hbase2 : base2 ≤ w14.heap.size := by rw [hbase2E]; exact hc4.size
  refine VL_pure 5 [6, 7, 49, 50] [(6, .pointer (some ⟨b3, 0, none⟩)), (7, .pointer (some ⟨b4, 0, none⟩)), (49, .agg #[.int .u8 90, .slice A2 5 c2]), (50, .int .i64 0)] (by kernel_rfl) rfl ?_
  have hzs12 := hS.size
  have hzl41 := ho1.lt
  have hzl42 := ho2.lt
  have hzl43 := ho3.lt
  have hzl44 := ho4.lt
  have hzk3 := hbase1
  have hzl45 := ho6.lt
  have hzl46 := ho8.lt
  have hzk4 := hbase2
  have hub2 := hr2.ub
  refine VL_box (d := 13) (t := 40) (c := #[.int .u8 0, .slice none 0 0]) (by kernel_rfl) (by kernel_rfl) ?_
  intro b7 w15 hn7
  replace hS := Step.trans hS (hn7.step No)
  replace ho1 := ho1.no (hn7.step No)
  replace ho2 := ho2.no (hn7.step No)
  replace ho3 := ho3.no (hn7.step No)
  replace ho4 := ho4.no (hn7.step No)
  replace hbase1 := Nat.le_trans hbase1 (hn7.step No).size
  replace hr1 := hr1.no (hn7.step No)
  replace ho6 := ho6.no (hn7.step No)
  replace ho8 := ho8.no (hn7.step No)
  replace hbase2 := Nat.le_trans hbase2 (hn7.step No).size
  replace hr2 := hr2.no (hn7.step No)
  have ho9 := hn7.own
  have hzhn7 := hn7.size
  have hqhn7 := hn7.eqb
  refine VL_store (b := b7) (o := 0) (vs := [.int .u8 90, .slice A2 5 c2]) (by kernel_rfl) (by kernel_rfl) ho9 (Nat.le_of_ble_eq_true (by kernel_rfl)) ?_
  intro w16 hw3
  replace hS := Step.transNew hS hw3.step (fun _ _ _ => by omega)
  replace ho1 := ho1.step hw3.step (show ¬ b1 = b7 by omega)
  replace ho2 := ho2.step hw3.step (show ¬ b2 = b7 by omega)
  replace ho3 := ho3.step hw3.step (show ¬ b3 = b7 by omega)
  replace ho4 := ho4.step hw3.step (show ¬ b4 = b7 by omega)
  replace hbase1 := Nat.le_trans hbase1 (hw3.step).size
  replace hr1 := hr1.stepU hub1 hw3.step (fun k hk1 hk2 (hF : k = b7) => by omega)
  replace ho6 := ho6.step hw3.step (show ¬ b5 = b7 by omega)
  replace ho8 := ho8.step hw3.step (show ¬ b6 = b7 by omega)
  replace hbase2 := Nat.le_trans hbase2 (hw3.step).size
  replace hr2 := hr2.stepU hub2 hw3.step (fun k hk1 hk2 (hF : k = b7) => by omega)
  have ho10 : Own w16 b7 #[.int .u8 90, .slice A2 5 c2] 40 := Own.cast hw3.own (by kernel_rfl)
  have hzhw3 := hw3.same
  refine VL_pure 8 [6, 7, 13, 14] [(6, .pointer (some ⟨b3, 0, none⟩)), (7, .pointer (some ⟨b4, 0, none⟩)), (13, .pointer (some ⟨b7, 0, none⟩)), (14, .int .i64 0)] (by kernel_rfl) rfl ?_
  refine VL_end (by kernel_rfl) ?_
  refine VQ_next ?_
  refine VC_seq ?_
  refine VC_region ?_
  refine VL_load (d := 52) (t := 47) (a := ⟨b4, 0, none⟩) (v := .agg #[.int .i64 ((kp' : Nat) : Int), .int .i64 ((kv' : Nat) : Int), .int .i64 ((kc' : Nat) : Int)]) (by kernel_rfl) (by kernel_rfl) (Loads.ownL ho4 (n := 3) (by kernel_rfl) (by kernel_rfl) (by kernel_rfl)) ?_
  have hzs13 := hS.size
  have hzl47 := ho1.lt
  have hzl48 := ho2.lt
  have hzl49 := ho3.lt
  have hzl50 := ho4.lt
  have hzl51 := ho6.lt
  have hzl52 := ho8.lt
  have hzl53 := ho10.lt
  refine VL_call (d := 53) (f := 19) (by kernel_rfl) (by kernel_rfl) (by kernel_rfl) Try.call19 (key_yes kp' kv' kc' _ hk') ?_
  rintro _ w17 ⟨A3, c3, rfl, hr3, hc5⟩
  replace hS := Step.trans hS hc5
  replace ho1 := ho1.no hc5
  replace ho2 := ho2.no hc5
  replace ho3 := ho3.no hc5
  replace ho4 := ho4.no hc5
  replace hbase1 := Nat.le_trans hbase1 (hc5).size
  replace hr1 := hr1.no hc5
  replace ho6 := ho6.no hc5
  replace ho8 := ho8.no hc5
  replace hbase2 := Nat.le_trans hbase2 (hc5).size
  replace hr2 := hr2.no hc5
  replace ho10 := ho10.no hc5
  obtain ⟨base3, hbase3E⟩ : ∃ x, x = w16.heap.size := ⟨_, rfl⟩
  rw [← hbase3E] at hr3
  have hbase3 : base3 ≤ w17.heap.size := by rw [hbase3E]; exact hc5.size
  refine VL_pure 5 [6, 7, 13, 14, 54, 55] [(6, .pointer (some ⟨b3, 0, none⟩)), (7, .pointer (some ⟨b4, 0, none⟩)), (13, .pointer (some ⟨b7, 0, none⟩)), (14, .int .i64 0), (54, .agg #[.int .u8 90, .slice A3 5 c3]), (55, .int .i64 0)] (by kernel_rfl) rfl ?_
  have hzs14 := hS.size
  have hzl54 := ho1.lt
  have hzl55 := ho2.lt
  have hzl56 := ho3.lt
  have hzl57 := ho4.lt
  have hzk5 := hbase1
  have hzl58 := ho6.lt
  have hzl59 := ho8.lt
  have hzk6 := hbase2
  have hzl60 := ho10.lt
  have hzk7 := hbase3
  have hub3 := hr3.ub
  refine VL_box (d := 15) (t := 40) (c := #[.int .u8 0, .slice none 0 0]) (by kernel_rfl) (by kernel_rfl) ?_
  intro b8 w18 hn8
  replace hS := Step.trans hS (hn8.step No)
  replace ho1 := ho1.no (hn8.step No)
  replace ho2 := ho2.no (hn8.step No)
  replace ho3 := ho3.no (hn8.step No)
  replace ho4 := ho4.no (hn8.step No)
  replace hbase1 := Nat.le_trans hbase1 (hn8.step No).size
  replace hr1 := hr1.no (hn8.step No)
  replace ho6 := ho6.no (hn8.step No)
  replace ho8 := ho8.no (hn8.step No)
  replace hbase2 := Nat.le_trans hbase2 (hn8.step No).size
  replace hr2 := hr2.no (hn8.step No)
  replace ho10 := ho10.no (hn8.step No)
  replace hbase3 := Nat.le_trans hbase3 (hn8.step No).size
  replace hr3 := hr3.no (hn8.step No)
  have ho11 := hn8.own
  have hzhn8 := hn8.size
  have hqhn8 := hn8.eqb
  refine VL_store (b := b8) (o := 0) (vs := [.int .u8 90, .slice A3 5 c3]) (by kernel_rfl) (by kernel_rfl) ho11 (Nat.le_of_ble_eq_true (by kernel_rfl)) ?_
  intro w19 hw4
  replace hS := Step.transNew hS hw4.step (fun _ _ _ => by omega)
  replace ho1 := ho1.step hw4.step (show ¬ b1 = b8 by omega)
  replace ho2 := ho2.step hw4.step (show ¬ b2 = b8 by omega)
  replace ho3 := ho3.step hw4.step (show ¬ b3 = b8 by omega)
  replace ho4 := ho4.step hw4.step (show ¬ b4 = b8 by omega)
  replace hbase1 := Nat.le_trans hbase1 (hw4.step).size
  replace hr1 := hr1.stepU hub1 hw4.step (fun k hk1 hk2 (hF : k = b8) => by omega)
  replace ho6 := ho6.step hw4.step (show ¬ b5 = b8 by omega)
  replace ho8 := ho8.step hw4.step (show ¬ b6 = b8 by omega)
  replace hbase2 := Nat.le_trans hbase2 (hw4.step).size
  replace hr2 := hr2.stepU hub2 hw4.step (fun k hk1 hk2 (hF : k = b8) => by omega)
  replace ho10 := ho10.step hw4.step (show ¬ b7 = b8 by omega)
  replace hbase3 := Nat.le_trans hbase3 (hw4.step).size
  replace hr3 := hr3.stepU hub3 hw4.step (fun k hk1 hk2 (hF : k = b8) => by omega)
  have ho12 : Own w19 b8 #[.int .u8 90, .slice A3 5 c3] 40 := Own.cast hw4.own (by kernel_rfl)
  have hzhw4 := hw4.same
  refine VL_pure 8 [6, 7, 13, 14, 15, 16] [(6, .pointer (some ⟨b3, 0, none⟩)), (7, .pointer (some ⟨b4, 0, none⟩)), (13, .pointer (some ⟨b7, 0, none⟩)), (14, .int .i64 0), (15, .pointer (some ⟨b8, 0, none⟩)), (16, .int .i64 0)] (by kernel_rfl) rfl ?_
  refine VL_end (by kernel_rfl) ?_
  refine VQ_next ?_
  refine VC_seq ?_
  have hs3 := drew_step w19
  have hs3z : w19.heap.size = w19.drew.heap.size := rfl
  refine VC_text [[], [0], [0, 1], [0, 1, 2], [0, 1, 2, 3], [0, 1, 2, 3, 4], [0, 1, 2, 3, 4, 5], [0, 1, 2, 3, 4, 5, 6], [0, 1, 2, 3, 4, 5, 6, 7], [0, 1, 2, 3, 4, 5, 6], [0, 1, 2, 3, 4, 5, 6, 9], [0, 1, 2, 3, 4, 5, 6, 7, 8, 9, 10], [0, 1, 2, 3, 4, 5, 6], [0, 1, 2, 3, 4, 5, 6], [0, 1, 2, 3, 4, 5, 6, 12, 13], [0, 1, 2, 3, 4, 5, 6, 7, 8, 9, 10, 11, 12, 13, 14], [0, 1, 2, 3, 4, 5, 6, 7, 8, 9, 10, 11, 12, 13, 14, 15], [0, 1, 2, 3, 4, 5, 6, 7, 8, 9, 10, 11, 12, 13, 14, 15, 16]] 15 (fun x y => Step (fun k => w19.heap.size ≤ k) x y) [] [0, 1, 2, 3, 4, 5, 6, 7, 8, 9, 10, 11, 12, 13, 14] (by kernel_rfl) (by kernel_rfl) (by kernel_rfl) (by kernel_rfl) (fun x => Step.refl _ x) (fun h k => Step.trans h k) Step.weak ?_
  have hzs15 := hS.size
  have hzl61 := ho1.lt
  have hzl62 := ho2.lt
  have hzl63 := ho3.lt
  have hzl64 := ho4.lt
  have hzl65 := ho6.lt
  have hzl66 := ho8.lt
  have hzl67 := ho10.lt
  have hzl68 := ho12.lt
  generalize w19.drew = w20 at hs3 hs3z ⊢
  replace hS := Step.trans hS hs3
  replace ho1 := ho1.no hs3
  replace ho2 := ho2.no hs3
  replace ho3 := ho3.no hs3
  replace ho4 := ho4.no hs3
  replace hbase1 := Nat.le_trans hbase1 (hs3).size
  replace hr1 := hr1.no hs3
  replace ho6 := ho6.no hs3
  replace ho8 := ho8.no hs3
  replace hbase2 := Nat.le_trans hbase2 (hs3).size
  replace hr2 := hr2.no hs3
  replace ho10 := ho10.no hs3
  replace hbase3 := Nat.le_trans hbase3 (hs3).size
  replace hr3 := hr3.no hs3
  replace ho12 := ho12.no hs3
  refine VT_pures 8 (kn' := [(7, .pointer (some ⟨b7, 1, none⟩)), (6, .bool false), (5, .bool false), (4, .bool false), (3, .int .i64 0), (2, .bool false), (1, .bool false), (0, .int .i64 0)]) (by kernel_rfl) ?_
  refine VT_load (d := 64) (t := 23) (a := ⟨b7, 1, none⟩) (v := .slice A2 5 c2) (by kernel_rfl) (by kernel_rfl) ?_ ?_
  · intro w21 hr4
    replace hS := Step.transNew hS hr4 (fun i hi hG => by (try simp only at hG); omega)
    replace ho1 := ho1.step hr4 (by (try simp only); omega)
    replace ho2 := ho2.step hr4 (by (try simp only); omega)
    replace ho3 := ho3.step hr4 (by (try simp only); omega)
    replace ho4 := ho4.step hr4 (by (try simp only); omega)
    replace hbase1 := Nat.le_trans hbase1 (hr4).size
    replace hr1 := hr1.stepU hub1 hr4 (fun k hk hk2 hG => by (try simp only at hG); omega)
    replace ho6 := ho6.step hr4 (by (try simp only); omega)
    replace ho8 := ho8.step hr4 (by (try simp only); omega)
    replace hbase2 := Nat.le_trans hbase2 (hr4).size
    replace hr2 := hr2.stepU hub2 hr4 (fun k hk hk2 hG => by (try simp only at hG); omega)
    replace ho10 := ho10.step hr4 (by (try simp only); omega)
    replace hbase3 := Nat.le_trans hbase3 (hr4).size
    replace hr3 := hr3.stepU hub3 hr4 (fun k hk hk2 hG => by (try simp only at hG); omega)
    replace ho12 := ho12.step hr4 (by (try simp only); omega)
    exact (Loads.own1 ho10 (by kernel_rfl) (by rfl))
  refine VT_pures 1 (kn' := [(9, .pointer (some ⟨b8, 1, none⟩)), (8, .slice A2 5 c2), (7, .pointer (some ⟨b7, 1, none⟩)), (6, .bool false), (5, .bool false), (4, .bool false), (3, .int .i64 0), (2, .bool false), (1, .bool false), (0, .int .i64 0)]) (by kernel_rfl) ?_
  refine VT_load (d := 66) (t := 23) (a := ⟨b8, 1, none⟩) (v := .slice A3 5 c3) (by kernel_rfl) (by kernel_rfl) ?_ ?_
  · intro w22 hr5
    replace hS := Step.transNew hS hr5 (fun i hi hG => by (try simp only at hG); omega)
    replace ho1 := ho1.step hr5 (by (try simp only); omega)
    replace ho2 := ho2.step hr5 (by (try simp only); omega)
    replace ho3 := ho3.step hr5 (by (try simp only); omega)
    replace ho4 := ho4.step hr5 (by (try simp only); omega)
    replace hbase1 := Nat.le_trans hbase1 (hr5).size
    replace hr1 := hr1.stepU hub1 hr5 (fun k hk hk2 hG => by (try simp only at hG); omega)
    replace ho6 := ho6.step hr5 (by (try simp only); omega)
    replace ho8 := ho8.step hr5 (by (try simp only); omega)
    replace hbase2 := Nat.le_trans hbase2 (hr5).size
    replace hr2 := hr2.stepU hub2 hr5 (fun k hk hk2 hG => by (try simp only at hG); omega)
    replace ho10 := ho10.step hr5 (by (try simp only); omega)
    replace hbase3 := Nat.le_trans hbase3 (hr5).size
    replace hr3 := hr3.stepU hub3 hr5 (fun k hk hk2 hG => by (try simp only at hG); omega)
    replace ho12 := ho12.step hr5 (by (try simp only); omega)
    exact (Loads.own1 ho12 (by kernel_rfl) (by rfl))
  refine VT_fcall (d := 67) (f := 14) (args := #[.slice A2 5 c2, .slice A3 5 c3]) (v := .bool ((keyL kp kv kc) == (keyL kp' kv' kc'))) (by kernel_rfl) (by kernel_rfl) (by kernel_rfl) Try.call14 ?_ ?_
  · intro w23 hr6
    replace hS := Step.transNew hS hr6 (fun i hi hG => by (try simp only at hG); omega)
    replace ho1 := ho1.step hr6 (by (try simp only); omega)
    replace ho2 := ho2.step hr6 (by (try simp only); omega)
    replace ho3 := ho3.step hr6 (by (try simp only); omega)
    replace ho4 := ho4.step hr6 (by (try simp only); omega)
    replace hbase1 := Nat.le_trans hbase1 (hr6).size
    replace hr1 := hr1.stepU hub1 hr6 (fun k hk hk2 hG => by (try simp only at hG); omega)
    replace ho6 := ho6.step hr6 (by (try simp only); omega)
    replace ho8 := ho8.step hr6 (by (try simp only); omega)
    replace hbase2 := Nat.le_trans hbase2 (hr6).size
    replace hr2 := hr2.stepU hub2 hr6 (fun k hk hk2 hG => by (try simp only at hG); omega)
    replace ho10 := ho10.step hr6 (by (try simp only); omega)
    replace hbase3 := Nat.le_trans hbase3 (hr6).size
    replace hr3 := hr3.stepU hub3 hr6 (fun k hk hk2 hG => by (try simp only at hG); omega)
    replace ho12 := ho12.step hr6 (by (try simp only); omega)
    exact same_any A2 5 c2 _ (keyL kp kv kc) A3 5 c3 _ (keyL kp' kv' kc') _ (Rw.lenI hr2) (Rw.slI hr2) (Rw.lenI hr3) (Rw.slI hr3) (by omega) (by omega) (by first | exact Nat.le_refl _ | omega) (by first | exact Nat.le_refl _ | omega)
  refine VT_load (d := 68) (t := 47) (a := ⟨b3, 0, none⟩) (v := .agg #[.int .i64 ((kp : Nat) : Int), .int .i64 ((kv : Nat) : Int), .int .i64 ((kc : Nat) : Int)]) (by kernel_rfl) (by kernel_rfl) ?_ ?_
  · intro w24 hr7
    replace hS := Step.transNew hS hr7 (fun i hi hG => by (try simp only at hG); omega)
    replace ho1 := ho1.step hr7 (by (try simp only); omega)
    replace ho2 := ho2.step hr7 (by (try simp only); omega)
    replace ho3 := ho3.step hr7 (by (try simp only); omega)
    replace ho4 := ho4.step hr7 (by (try simp only); omega)
    replace hbase1 := Nat.le_trans hbase1 (hr7).size
    replace hr1 := hr1.stepU hub1 hr7 (fun k hk hk2 hG => by (try simp only at hG); omega)
    replace ho6 := ho6.step hr7 (by (try simp only); omega)
    replace ho8 := ho8.step hr7 (by (try simp only); omega)
    replace hbase2 := Nat.le_trans hbase2 (hr7).size
    replace hr2 := hr2.stepU hub2 hr7 (fun k hk hk2 hG => by (try simp only at hG); omega)
    replace ho10 := ho10.step hr7 (by (try simp only); omega)
    replace hbase3 := Nat.le_trans hbase3 (hr7).size
    replace hr3 := hr3.stepU hub3 hr7 (fun k hk hk2 hG => by (try simp only at hG); omega)
    replace ho12 := ho12.step hr7 (by (try simp only); omega)
    exact (Loads.ownL ho3 (n := 3) (by kernel_rfl) (by kernel_rfl) (by kernel_rfl))
  refine VT_load (d := 69) (t := 47) (a := ⟨b4, 0, none⟩) (v := .agg #[.int .i64 ((kp' : Nat) : Int), .int .i64 ((kv' : Nat) : Int), .int .i64 ((kc' : Nat) : Int)]) (by kernel_rfl) (by kernel_rfl) ?_ ?_
  · intro w25 hr8
    replace hS := Step.transNew hS hr8 (fun i hi hG => by (try simp only at hG); omega)
    replace ho1 := ho1.step hr8 (by (try simp only); omega)
    replace ho2 := ho2.step hr8 (by (try simp only); omega)
    replace ho3 := ho3.step hr8 (by (try simp only); omega)
    replace ho4 := ho4.step hr8 (by (try simp only); omega)
    replace hbase1 := Nat.le_trans hbase1 (hr8).size
    replace hr1 := hr1.stepU hub1 hr8 (fun k hk hk2 hG => by (try simp only at hG); omega)
    replace ho6 := ho6.step hr8 (by (try simp only); omega)
    replace ho8 := ho8.step hr8 (by (try simp only); omega)
    replace hbase2 := Nat.le_trans hbase2 (hr8).size
    replace hr2 := hr2.stepU hub2 hr8 (fun k hk hk2 hG => by (try simp only at hG); omega)
    replace ho10 := ho10.step hr8 (by (try simp only); omega)
    replace hbase3 := Nat.le_trans hbase3 (hr8).size
    replace hr3 := hr3.stepU hub3 hr8 (fun k hk hk2 hG => by (try simp only at hG); omega)
    replace ho12 := ho12.step hr8 (by (try simp only); omega)
    exact (Loads.ownL ho4 (n := 3) (by kernel_rfl) (by kernel_rfl) (by kernel_rfl))
  refine VT_agEq (d := 70) (dd := 9) (ls := ([.int .i64] ++ [.int .i64] ++ [.int .i64] ++ [])) (pos := true) (t := 47) (xs := #[.int .i64 ((kp : Nat) : Int), .int .i64 ((kv : Nat) : Int), .int .i64 ((kc : Nat) : Int)]) (ys := #[.int .i64 ((kp' : Nat) : Int), .int .i64 ((kv' : Nat) : Int), .int .i64 ((kc' : Nat) : Int)]) (by kernel_rfl) (by kernel_rfl) (by kernel_rfl) (by kernel_rfl) (by first | exact ⟨⟨_, rfl⟩, ⟨_, rfl⟩, ⟨_, rfl⟩, trivial⟩ | trivial) (by first | exact ⟨⟨_, rfl⟩, ⟨_, rfl⟩, ⟨_, rfl⟩, trivial⟩ | trivial) (([((kp : Nat) : Int), ((kv : Nat) : Int), ((kc : Nat) : Int)] : List Int) == [((kp' : Nat) : Int), ((kv' : Nat) : Int), ((kc' : Nat) : Int)]) (iA_eq (k := .i64) (xs := [((kp : Nat) : Int), ((kv : Nat) : Int), ((kc : Nat) : Int)]) (bs := [((kp' : Nat) : Int), ((kv' : Nat) : Int), ((kc' : Nat) : Int)]) true) ?_
  refine VT_end ?_
  intro w26 hs4
  replace hS := Step.trans hS hs4
  replace ho1 := ho1.no hs4
  replace ho2 := ho2.no hs4
  replace ho3 := ho3.no hs4
  replace ho4 := ho4.no hs4
  replace hbase1 := Nat.le_trans hbase1 (hs4).size
  replace hr1 := hr1.no hs4
  replace ho6 := ho6.no hs4
  replace ho8 := ho8.no hs4
  replace hbase2 := Nat.le_trans hbase2 (hs4).size
  replace hr2 := hr2.no hs4
  replace ho10 := ho10.no hs4
  replace hbase3 := Nat.le_trans hbase3 (hs4).size
  replace hr3 := hr3.no hs4
  replace ho12 := ho12.no hs4
  refine VL_keep [62, 67, 70] [(62, .bool false), (67, .bool ((keyL kp kv kc) == (keyL kp' kv' kc'))), (70, .bool (([((kp : Nat) : Int), ((kv : Nat) : Int), ((kc : Nat) : Int)] : List Int) == [((kp' : Nat) : Int), ((kv' : Nat) : Int), ((kc' : Nat) : Int)]))] (by kernel_rfl) ?_
  refine VL_pure 18 [8] [(8, .bool (((keyL kp kv kc) == (keyL kp' kv' kc')) == (([((kp : Nat) : Int), ((kv : Nat) : Int), ((kc : Nat) : Int)] : List Int) == [((kp' : Nat) : Int), ((kv' : Nat) : Int), ((kc' : Nat) : Int)])))] (by kernel_rfl) rfl ?_
  refine VL_end (by kernel_rfl) ?_
  refine VQ_next ?_
  refine VC_ret ?_
  refine VQ_ret1 (.bool (((keyL kp kv kc) == (keyL kp' kv' kc')) == (([((kp : Nat) : Int), ((kv : Nat) : Int), ((kc : Nat) : Int)] : List Int) == [((kp' : Nat) : Int), ((kv' : Nat) : Int), ((kc' : Nat) : Int)]))) (.inr rfl) rfl rfl ?_
  exact ⟨by first | rfl | (congr 1; rw [key_iff hk hk']; simp), hS⟩

set_option maxRecDepth 100000 in
set_option maxHeartbeats 4000000 in
theorem apart_yn_yn (k : Int) (p e h b t : Nat) (k' p' e' h' b' t' : Int) (kp kv kc : Nat) (kp' kv' kc' : Int) (w : World) (hr : rightC k p e h b t = 0) (hr' : rightC k' p' e' h' b' t' ≠ 0) (hk : rightK kp kv kc = true) (hk' : rightK kp' kv' kc' = false)  :
    CV Try.prog 6 #[.agg #[.int .i64 k, .int .i64 ((p : Nat) : Int), .int .i64 ((e : Nat) : Int), .int .i64 ((h : Nat) : Int), .int .i64 ((b : Nat) : Int), .int .i64 ((t : Nat) : Int)], .agg #[.int .i64 k', .int .i64 p', .int .i64 e', .int .i64 h', .int .i64 b', .int .i64 t'], .agg #[.int .i64 ((kp : Nat) : Int), .int .i64 ((kv : Nat) : Int), .int .i64 ((kc : Nat) : Int)], .agg #[.int .i64 kp', .int .i64 kv', .int .i64 kc']] w (fun x w1 => x = .bool true ∧ Step No w w1) := by
  have hS : Step No w w := Step.refl _ _
  refine CV_enter Try.f6 _ 73 [(0, .agg #[.int .i64 k, .int .i64 ((p : Nat) : Int), .int .i64 ((e : Nat) : Int), .int .i64 ((h : Nat) : Int), .int .i64 ((b : Nat) : Int), .int .i64 ((t : Nat) : Int)]), (1, .agg #[.int .i64 k', .int .i64 p', .int .i64 e', .int .i64 h', .int .i64 b', .int .i64 t']), (2, .agg #[.int .i64 ((kp : Nat) : Int), .int .i64 ((kv : Nat) : Int), .int .i64 ((kc : Nat) : Int)]), (3, .agg #[.int .i64 kp', .int .i64 kv', .int .i64 kc'])] Try.func6 rfl rfl (by kernel_rfl) rfl ?_
  refine VC_seq ?_
  refine VC_region ?_
  have hzs1 := hS.size
  refine VL_box (d := 4) (t := 45) (c := #[.int .i64 k, .int .i64 ((p : Nat) : Int), .int .i64 ((e : Nat) : Int), .int .i64 ((h : Nat) : Int), .int .i64 ((b : Nat) : Int), .int .i64 ((t : Nat) : Int)]) (by kernel_rfl) (by kernel_rfl) ?_
  intro b1 w1 hn1
  replace hS := Step.trans hS (hn1.step No)
  have ho1 := hn1.own
  have hzhn1 := hn1.size
  have hqhn1 := hn1.eqb
  have hzs2 := hS.size
  have hzl1 := ho1.lt
  refine VL_box (d := 5) (t := 45) (c := #[.int .i64 k', .int .i64 p', .int .i64 e', .int .i64 h', .int .i64 b', .int .i64 t']) (by kernel_rfl) (by kernel_rfl) ?_
  intro b2 w2 hn2
  replace hS := Step.trans hS (hn2.step No)
  replace ho1 := ho1.no (hn2.step No)
  have ho2 := hn2.own
  have hzhn2 := hn2.size
  have hqhn2 := hn2.eqb
  have hzs3 := hS.size
  have hzl2 := ho1.lt
  have hzl3 := ho2.lt
  refine VL_box (d := 6) (t := 47) (c := #[.int .i64 ((kp : Nat) : Int), .int .i64 ((kv : Nat) : Int), .int .i64 ((kc : Nat) : Int)]) (by kernel_rfl) (by kernel_rfl) ?_
  intro b3 w3 hn3
  replace hS := Step.trans hS (hn3.step No)
  replace ho1 := ho1.no (hn3.step No)
  replace ho2 := ho2.no (hn3.step No)
  have ho3 := hn3.own
  have hzhn3 := hn3.size
  have hqhn3 := hn3.eqb
  have hzs4 := hS.size
  have hzl4 := ho1.lt
  have hzl5 := ho2.lt
  have hzl6 := ho3.lt
  refine VL_box (d := 7) (t := 47) (c := #[.int .i64 kp', .int .i64 kv', .int .i64 kc']) (by kernel_rfl) (by kernel_rfl) ?_
  intro b4 w4 hn4
  replace hS := Step.trans hS (hn4.step No)
  replace ho1 := ho1.no (hn4.step No)
  replace ho2 := ho2.no (hn4.step No)
  replace ho3 := ho3.no (hn4.step No)
  have ho4 := hn4.own
  have hzhn4 := hn4.size
  have hqhn4 := hn4.eqb
  refine VL_pure 5 [4, 5, 6, 7] [(4, .pointer (some ⟨b1, 0, none⟩)), (5, .pointer (some ⟨b2, 0, none⟩)), (6, .pointer (some ⟨b3, 0, none⟩)), (7, .pointer (some ⟨b4, 0, none⟩))] (by kernel_rfl) rfl ?_
  refine VL_end (by kernel_rfl) ?_
  refine VQ_next ?_
  refine VC_seq ?_
  refine VC_seq ?_
  refine VC_region ?_
  have hzs5 := hS.size
  have hzl7 := ho1.lt
  have hzl8 := ho2.lt
  have hzl9 := ho3.lt
  have hzl10 := ho4.lt
  refine VL_call (d := 17) (f := 9) (args := #[]) (by kernel_rfl) (by kernel_rfl) (by kernel_rfl) Try.call9 (awake_any _) ?_
  rintro _ w5 ⟨rfl, hc1⟩
  replace hS := Step.trans hS hc1
  replace ho1 := ho1.no hc1
  replace ho2 := ho2.no hc1
  replace ho3 := ho3.no hc1
  replace ho4 := ho4.no hc1
  refine VL_pure 2 [4, 5, 6, 7, 18] [(4, .pointer (some ⟨b1, 0, none⟩)), (5, .pointer (some ⟨b2, 0, none⟩)), (6, .pointer (some ⟨b3, 0, none⟩)), (7, .pointer (some ⟨b4, 0, none⟩)), (18, .bool false)] (by kernel_rfl) rfl ?_
  refine VL_end (by kernel_rfl) ?_
  refine VQ_next ?_
  refine VC_false (by kernel_rfl) ?_
  refine VC_skip ?_
  refine VQ_next ?_
  refine VC_seq ?_
  refine VC_region ?_
  refine VL_load (d := 20) (t := 45) (a := ⟨b1, 0, none⟩) (v := .agg #[.int .i64 k, .int .i64 ((p : Nat) : Int), .int .i64 ((e : Nat) : Int), .int .i64 ((h : Nat) : Int), .int .i64 ((b : Nat) : Int), .int .i64 ((t : Nat) : Int)]) (by kernel_rfl) (by kernel_rfl) (Loads.ownL ho1 (n := 6) (by kernel_rfl) (by kernel_rfl) (by kernel_rfl)) ?_
  have hzs6 := hS.size
  have hzl11 := ho1.lt
  have hzl12 := ho2.lt
  have hzl13 := ho3.lt
  have hzl14 := ho4.lt
  refine VL_call (d := 21) (f := 18) (by kernel_rfl) (by kernel_rfl) (by kernel_rfl) Try.call18 (traffic_yes k p e h b t _ hr) ?_
  rintro _ w6 ⟨A1, c1, rfl, hr1, hc2⟩
  replace hS := Step.trans hS hc2
  replace ho1 := ho1.no hc2
  replace ho2 := ho2.no hc2
  replace ho3 := ho3.no hc2
  replace ho4 := ho4.no hc2
  obtain ⟨base1, hbase1E⟩ : ∃ x, x = w5.heap.size := ⟨_, rfl⟩
  rw [← hbase1E] at hr1
  have hbase1 : base1 ≤ w6.heap.size := by rw [hbase1E]; exact hc2.size
  refine VL_pure 5 [4, 5, 6, 7, 22, 23] [(4, .pointer (some ⟨b1, 0, none⟩)), (5, .pointer (some ⟨b2, 0, none⟩)), (6, .pointer (some ⟨b3, 0, none⟩)), (7, .pointer (some ⟨b4, 0, none⟩)), (22, .agg #[.int .u8 89, .slice A1 31 c1]), (23, .int .i64 0)] (by kernel_rfl) rfl ?_
  have hzs7 := hS.size
  have hzl15 := ho1.lt
  have hzl16 := ho2.lt
  have hzl17 := ho3.lt
  have hzl18 := ho4.lt
  have hzk1 := hbase1
  have hub1 := hr1.ub
  refine VL_box (d := 9) (t := 40) (c := #[.int .u8 0, .slice none 0 0]) (by kernel_rfl) (by kernel_rfl) ?_
  intro b5 w7 hn5
  replace hS := Step.trans hS (hn5.step No)
  replace ho1 := ho1.no (hn5.step No)
  replace ho2 := ho2.no (hn5.step No)
  replace ho3 := ho3.no (hn5.step No)
  replace ho4 := ho4.no (hn5.step No)
  replace hbase1 := Nat.le_trans hbase1 (hn5.step No).size
  replace hr1 := hr1.no (hn5.step No)
  have ho5 := hn5.own
  have hzhn5 := hn5.size
  have hqhn5 := hn5.eqb
  refine VL_store (b := b5) (o := 0) (vs := [.int .u8 89, .slice A1 31 c1]) (by kernel_rfl) (by kernel_rfl) ho5 (Nat.le_of_ble_eq_true (by kernel_rfl)) ?_
  intro w8 hw1
  replace hS := Step.transNew hS hw1.step (fun _ _ _ => by omega)
  replace ho1 := ho1.step hw1.step (show ¬ b1 = b5 by omega)
  replace ho2 := ho2.step hw1.step (show ¬ b2 = b5 by omega)
  replace ho3 := ho3.step hw1.step (show ¬ b3 = b5 by omega)
  replace ho4 := ho4.step hw1.step (show ¬ b4 = b5 by omega)
  replace hbase1 := Nat.le_trans hbase1 (hw1.step).size
  replace hr1 := hr1.stepU hub1 hw1.step (fun k hk1 hk2 (hF : k = b5) => by omega)
  have ho6 : Own w8 b5 #[.int .u8 89, .slice A1 31 c1] 40 := Own.cast hw1.own (by kernel_rfl)
  have hzhw1 := hw1.same
  refine VL_pure 8 [4, 5, 6, 7, 9, 10] [(4, .pointer (some ⟨b1, 0, none⟩)), (5, .pointer (some ⟨b2, 0, none⟩)), (6, .pointer (some ⟨b3, 0, none⟩)), (7, .pointer (some ⟨b4, 0, none⟩)), (9, .pointer (some ⟨b5, 0, none⟩)), (10, .int .i64 0)] (by kernel_rfl) rfl ?_
  refine VL_end (by kernel_rfl) ?_
  refine VQ_next ?_
  refine VC_seq ?_
  refine VC_region ?_
  refine VL_load (d := 25) (t := 45) (a := ⟨b2, 0, none⟩) (v := .agg #[.int .i64 k', .int .i64 p', .int .i64 e', .int .i64 h', .int .i64 b', .int .i64 t']) (by kernel_rfl) (by kernel_rfl) (Loads.ownL ho2 (n := 6) (by kernel_rfl) (by kernel_rfl) (by kernel_rfl)) ?_
  have hzs8 := hS.size
  have hzl19 := ho1.lt
  have hzl20 := ho2.lt
  have hzl21 := ho3.lt
  have hzl22 := ho4.lt
  have hzl23 := ho6.lt
  refine VL_call (d := 26) (f := 18) (args := #[.agg #[.int .i64 k', .int .i64 p', .int .i64 e', .int .i64 h', .int .i64 b', .int .i64 t']]) (by kernel_rfl) (by kernel_rfl) (by kernel_rfl) Try.call18 (traffic_no k' p' e' h' b' t' _ hr') ?_
  rintro _ w9 ⟨rfl, hc3⟩
  replace hS := Step.trans hS hc3
  replace ho1 := ho1.no hc3
  replace ho2 := ho2.no hc3
  replace ho3 := ho3.no hc3
  replace ho4 := ho4.no hc3
  replace hbase1 := Nat.le_trans hbase1 (hc3).size
  replace hr1 := hr1.no hc3
  replace ho6 := ho6.no hc3
  refine VL_pure 5 [4, 5, 6, 7, 9, 10, 27, 28] [(4, .pointer (some ⟨b1, 0, none⟩)), (5, .pointer (some ⟨b2, 0, none⟩)), (6, .pointer (some ⟨b3, 0, none⟩)), (7, .pointer (some ⟨b4, 0, none⟩)), (9, .pointer (some ⟨b5, 0, none⟩)), (10, .int .i64 0), (27, .agg #[.int .u8 0, .slice none 0 0]), (28, .int .i64 (rightC k' p' e' h' b' t'))] (by kernel_rfl) rfl ?_
  have hzs9 := hS.size
  have hzl24 := ho1.lt
  have hzl25 := ho2.lt
  have hzl26 := ho3.lt
  have hzl27 := ho4.lt
  have hzk2 := hbase1
  have hzl28 := ho6.lt
  refine VL_box (d := 11) (t := 40) (c := #[.int .u8 0, .slice none 0 0]) (by kernel_rfl) (by kernel_rfl) ?_
  intro b6 w10 hn6
  replace hS := Step.trans hS (hn6.step No)
  replace ho1 := ho1.no (hn6.step No)
  replace ho2 := ho2.no (hn6.step No)
  replace ho3 := ho3.no (hn6.step No)
  replace ho4 := ho4.no (hn6.step No)
  replace hbase1 := Nat.le_trans hbase1 (hn6.step No).size
  replace hr1 := hr1.no (hn6.step No)
  replace ho6 := ho6.no (hn6.step No)
  have ho7 := hn6.own
  have hzhn6 := hn6.size
  have hqhn6 := hn6.eqb
  refine VL_store (b := b6) (o := 0) (vs := [.int .u8 0, .slice none 0 0]) (by kernel_rfl) (by kernel_rfl) ho7 (Nat.le_of_ble_eq_true (by kernel_rfl)) ?_
  intro w11 hw2
  replace hS := Step.transNew hS hw2.step (fun _ _ _ => by omega)
  replace ho1 := ho1.step hw2.step (show ¬ b1 = b6 by omega)
  replace ho2 := ho2.step hw2.step (show ¬ b2 = b6 by omega)
  replace ho3 := ho3.step hw2.step (show ¬ b3 = b6 by omega)
  replace ho4 := ho4.step hw2.step (show ¬ b4 = b6 by omega)
  replace hbase1 := Nat.le_trans hbase1 (hw2.step).size
  replace hr1 := hr1.stepU hub1 hw2.step (fun k hk1 hk2 (hF : k = b6) => by omega)
  replace ho6 := ho6.step hw2.step (show ¬ b5 = b6 by omega)
  have ho8 : Own w11 b6 #[.int .u8 0, .slice none 0 0] 40 := Own.cast hw2.own (by kernel_rfl)
  have hzhw2 := hw2.same
  refine VL_pure 8 [4, 5, 6, 7, 9, 10, 11, 12] [(4, .pointer (some ⟨b1, 0, none⟩)), (5, .pointer (some ⟨b2, 0, none⟩)), (6, .pointer (some ⟨b3, 0, none⟩)), (7, .pointer (some ⟨b4, 0, none⟩)), (9, .pointer (some ⟨b5, 0, none⟩)), (10, .int .i64 0), (11, .pointer (some ⟨b6, 0, none⟩)), (12, .int .i64 (rightC k' p' e' h' b' t'))] (by kernel_rfl) rfl ?_
  refine VL_end (by kernel_rfl) ?_
  refine VQ_next ?_
  refine VC_seq ?_
  refine VC_seq ?_
  have hs1 := drew_step w11
  have hs1z : w11.heap.size = w11.drew.heap.size := rfl
  refine VC_text [[], [0], [0, 1], [0, 1, 2], [0, 1, 2, 3], [0, 1, 2, 3, 4], [0, 1, 2, 3, 4, 5], [0, 1, 2, 3, 4, 5, 6], [0, 1, 2, 3, 4, 5, 6, 7], [0, 1, 2, 3, 4, 5, 6], [0, 1, 2, 3, 4, 5, 6, 9], [0, 1, 2, 3, 4, 5, 6, 7, 8, 9, 10], [0, 1, 2, 3, 4, 5, 6], [0, 1, 2, 3, 4, 5, 6], [0, 1, 2, 3, 4, 5, 6, 12, 13], [0, 1, 2, 3, 4, 5, 6, 7, 8, 9, 10, 11, 12, 13, 14], [0, 1, 2, 3, 4, 5, 6, 7, 8, 9, 10, 11, 12, 13, 14, 15]] 15 (fun x y => Step (fun k => w11.heap.size ≤ k) x y) [] [0, 1, 2, 3, 4, 5, 6, 7, 8, 9, 10, 11, 12, 13, 14] (by kernel_rfl) (by kernel_rfl) (by kernel_rfl) (by kernel_rfl) (fun x => Step.refl _ x) (fun h k => Step.trans h k) Step.weak ?_
  have hzs10 := hS.size
  have hzl29 := ho1.lt
  have hzl30 := ho2.lt
  have hzl31 := ho3.lt
  have hzl32 := ho4.lt
  have hzl33 := ho6.lt
  have hzl34 := ho8.lt
  generalize w11.drew = w12 at hs1 hs1z ⊢
  replace hS := Step.trans hS hs1
  replace ho1 := ho1.no hs1
  replace ho2 := ho2.no hs1
  replace ho3 := ho3.no hs1
  replace ho4 := ho4.no hs1
  replace hbase1 := Nat.le_trans hbase1 (hs1).size
  replace hr1 := hr1.no hs1
  replace ho6 := ho6.no hs1
  replace ho8 := ho8.no hs1
  refine VT_pures 7 (kn' := [(6, .bool ((rightC k' p' e' h' b' t') == 0)), (5, .bool ((rightC k' p' e' h' b' t') == 0)), (4, .bool ((rightC k' p' e' h' b' t') == 0)), (3, .int .i64 (rightC k' p' e' h' b' t')), (2, .bool true), (1, .bool true), (0, .int .i64 0)]) (by kernel_rfl) ?_
  have hg1 : ((rightC k' p' e' h' b' t') == 0) = false := (by first | (rw [hr']; rfl) | simpa using hr')
  refine VT_eq [(6, .bool false), (5, .bool false), (4, .bool false), (3, .int .i64 (rightC k' p' e' h' b' t')), (2, .bool true), (1, .bool true), (0, .int .i64 0)] (by simp only [hg1, Bool.not_true, Bool.not_false]) ?_
  refine VT_pures 8 (kn' := [(14, undef), (13, undef), (12, undef), (11, undef), (10, undef), (9, undef), (8, undef), (7, undef), (6, .bool false), (5, .bool false), (4, .bool false), (3, .int .i64 (rightC k' p' e' h' b' t')), (2, .bool true), (1, .bool true), (0, .int .i64 0)]) (by kernel_rfl) ?_
  refine VT_end ?_
  intro w13 hs2
  replace hS := Step.trans hS hs2
  replace ho1 := ho1.no hs2
  replace ho2 := ho2.no hs2
  replace ho3 := ho3.no hs2
  replace ho4 := ho4.no hs2
  replace hbase1 := Nat.le_trans hbase1 (hs2).size
  replace hr1 := hr1.no hs2
  replace ho6 := ho6.no hs2
  replace ho8 := ho8.no hs2
  refine VL_keep [6, 7, 35, 40, 43] [(6, .pointer (some ⟨b3, 0, none⟩)), (7, .pointer (some ⟨b4, 0, none⟩)), (35, .bool false), (40, undef), (43, undef)] (by kernel_rfl) ?_
  refine VL_pure 17 [6, 7, 45] [(6, .pointer (some ⟨b3, 0, none⟩)), (7, .pointer (some ⟨b4, 0, none⟩)), (45, .bool false)] (by kernel_rfl) rfl ?_
  refine VL_end (by kernel_rfl) ?_
  refine VQ_next ?_
  refine VC_false (by kernel_rfl) ?_
  refine VC_skip ?_
  refine VQ_next ?_
  refine VC_seq ?_
  refine VC_region ?_
  refine VL_load (d := 47) (t := 47) (a := ⟨b3, 0, none⟩) (v := .agg #[.int .i64 ((kp : Nat) : Int), .int .i64 ((kv : Nat) : Int), .int .i64 ((kc : Nat) : Int)]) (by kernel_rfl) (by kernel_rfl) (Loads.ownL ho3 (n := 3) (by kernel_rfl) (by kernel_rfl) (by kernel_rfl)) ?_
  have hzs11 := hS.size
  have hzl35 := ho1.lt
  have hzl36 := ho2.lt
  have hzl37 := ho3.lt
  have hzl38 := ho4.lt
  have hzl39 := ho6.lt
  have hzl40 := ho8.lt
  refine VL_call (d := 48) (f := 19) (by kernel_rfl) (by kernel_rfl) (by kernel_rfl) Try.call19 (key_yes kp kv kc _ hk) ?_
  rintro _ w14 ⟨A2, c2, rfl, hr2, hc4⟩
  replace hS := Step.trans hS hc4
  replace ho1 := ho1.no hc4
  replace ho2 := ho2.no hc4
  replace ho3 := ho3.no hc4
  replace ho4 := ho4.no hc4
  replace hbase1 := Nat.le_trans hbase1 (hc4).size
  replace hr1 := hr1.no hc4
  replace ho6 := ho6.no hc4
  replace ho8 := ho8.no hc4
  obtain ⟨base2, hbase2E⟩ : ∃ x, x = w13.heap.size := ⟨_, rfl⟩
  rw [← hbase2E] at hr2
  have hbase2 : base2 ≤ w14.heap.size := by rw [hbase2E]; exact hc4.size
  refine VL_pure 5 [6, 7, 49, 50] [(6, .pointer (some ⟨b3, 0, none⟩)), (7, .pointer (some ⟨b4, 0, none⟩)), (49, .agg #[.int .u8 90, .slice A2 5 c2]), (50, .int .i64 0)] (by kernel_rfl) rfl ?_
  have hzs12 := hS.size
  have hzl41 := ho1.lt
  have hzl42 := ho2.lt
  have hzl43 := ho3.lt
  have hzl44 := ho4.lt
  have hzk3 := hbase1
  have hzl45 := ho6.lt
  have hzl46 := ho8.lt
  have hzk4 := hbase2
  have hub2 := hr2.ub
  refine VL_box (d := 13) (t := 40) (c := #[.int .u8 0, .slice none 0 0]) (by kernel_rfl) (by kernel_rfl) ?_
  intro b7 w15 hn7
  replace hS := Step.trans hS (hn7.step No)
  replace ho1 := ho1.no (hn7.step No)
  replace ho2 := ho2.no (hn7.step No)
  replace ho3 := ho3.no (hn7.step No)
  replace ho4 := ho4.no (hn7.step No)
  replace hbase1 := Nat.le_trans hbase1 (hn7.step No).size
  replace hr1 := hr1.no (hn7.step No)
  replace ho6 := ho6.no (hn7.step No)
  replace ho8 := ho8.no (hn7.step No)
  replace hbase2 := Nat.le_trans hbase2 (hn7.step No).size
  replace hr2 := hr2.no (hn7.step No)
  have ho9 := hn7.own
  have hzhn7 := hn7.size
  have hqhn7 := hn7.eqb
  refine VL_store (b := b7) (o := 0) (vs := [.int .u8 90, .slice A2 5 c2]) (by kernel_rfl) (by kernel_rfl) ho9 (Nat.le_of_ble_eq_true (by kernel_rfl)) ?_
  intro w16 hw3
  replace hS := Step.transNew hS hw3.step (fun _ _ _ => by omega)
  replace ho1 := ho1.step hw3.step (show ¬ b1 = b7 by omega)
  replace ho2 := ho2.step hw3.step (show ¬ b2 = b7 by omega)
  replace ho3 := ho3.step hw3.step (show ¬ b3 = b7 by omega)
  replace ho4 := ho4.step hw3.step (show ¬ b4 = b7 by omega)
  replace hbase1 := Nat.le_trans hbase1 (hw3.step).size
  replace hr1 := hr1.stepU hub1 hw3.step (fun k hk1 hk2 (hF : k = b7) => by omega)
  replace ho6 := ho6.step hw3.step (show ¬ b5 = b7 by omega)
  replace ho8 := ho8.step hw3.step (show ¬ b6 = b7 by omega)
  replace hbase2 := Nat.le_trans hbase2 (hw3.step).size
  replace hr2 := hr2.stepU hub2 hw3.step (fun k hk1 hk2 (hF : k = b7) => by omega)
  have ho10 : Own w16 b7 #[.int .u8 90, .slice A2 5 c2] 40 := Own.cast hw3.own (by kernel_rfl)
  have hzhw3 := hw3.same
  refine VL_pure 8 [6, 7, 13, 14] [(6, .pointer (some ⟨b3, 0, none⟩)), (7, .pointer (some ⟨b4, 0, none⟩)), (13, .pointer (some ⟨b7, 0, none⟩)), (14, .int .i64 0)] (by kernel_rfl) rfl ?_
  refine VL_end (by kernel_rfl) ?_
  refine VQ_next ?_
  refine VC_seq ?_
  refine VC_region ?_
  refine VL_load (d := 52) (t := 47) (a := ⟨b4, 0, none⟩) (v := .agg #[.int .i64 kp', .int .i64 kv', .int .i64 kc']) (by kernel_rfl) (by kernel_rfl) (Loads.ownL ho4 (n := 3) (by kernel_rfl) (by kernel_rfl) (by kernel_rfl)) ?_
  have hzs13 := hS.size
  have hzl47 := ho1.lt
  have hzl48 := ho2.lt
  have hzl49 := ho3.lt
  have hzl50 := ho4.lt
  have hzl51 := ho6.lt
  have hzl52 := ho8.lt
  have hzl53 := ho10.lt
  refine VL_call (d := 53) (f := 19) (args := #[.agg #[.int .i64 kp', .int .i64 kv', .int .i64 kc']]) (by kernel_rfl) (by kernel_rfl) (by kernel_rfl) Try.call19 (key_no kp' kv' kc' _ hk') ?_
  rintro _ w17 ⟨rfl, hc5⟩
  replace hS := Step.trans hS hc5
  replace ho1 := ho1.no hc5
  replace ho2 := ho2.no hc5
  replace ho3 := ho3.no hc5
  replace ho4 := ho4.no hc5
  replace hbase1 := Nat.le_trans hbase1 (hc5).size
  replace hr1 := hr1.no hc5
  replace ho6 := ho6.no hc5
  replace ho8 := ho8.no hc5
  replace hbase2 := Nat.le_trans hbase2 (hc5).size
  replace hr2 := hr2.no hc5
  replace ho10 := ho10.no hc5
  refine VL_pure 5 [6, 7, 13, 14, 54, 55] [(6, .pointer (some ⟨b3, 0, none⟩)), (7, .pointer (some ⟨b4, 0, none⟩)), (13, .pointer (some ⟨b7, 0, none⟩)), (14, .int .i64 0), (54, .agg #[.int .u8 0, .slice none 0 0]), (55, .int .i64 1)] (by kernel_rfl) rfl ?_
  have hzs14 := hS.size
  have hzl54 := ho1.lt
  have hzl55 := ho2.lt
  have hzl56 := ho3.lt
  have hzl57 := ho4.lt
  have hzk5 := hbase1
  have hzl58 := ho6.lt
  have hzl59 := ho8.lt
  have hzk6 := hbase2
  have hzl60 := ho10.lt
  refine VL_box (d := 15) (t := 40) (c := #[.int .u8 0, .slice none 0 0]) (by kernel_rfl) (by kernel_rfl) ?_
  intro b8 w18 hn8
  replace hS := Step.trans hS (hn8.step No)
  replace ho1 := ho1.no (hn8.step No)
  replace ho2 := ho2.no (hn8.step No)
  replace ho3 := ho3.no (hn8.step No)
  replace ho4 := ho4.no (hn8.step No)
  replace hbase1 := Nat.le_trans hbase1 (hn8.step No).size
  replace hr1 := hr1.no (hn8.step No)
  replace ho6 := ho6.no (hn8.step No)
  replace ho8 := ho8.no (hn8.step No)
  replace hbase2 := Nat.le_trans hbase2 (hn8.step No).size
  replace hr2 := hr2.no (hn8.step No)
  replace ho10 := ho10.no (hn8.step No)
  have ho11 := hn8.own
  have hzhn8 := hn8.size
  have hqhn8 := hn8.eqb
  refine VL_store (b := b8) (o := 0) (vs := [.int .u8 0, .slice none 0 0]) (by kernel_rfl) (by kernel_rfl) ho11 (Nat.le_of_ble_eq_true (by kernel_rfl)) ?_
  intro w19 hw4
  replace hS := Step.transNew hS hw4.step (fun _ _ _ => by omega)
  replace ho1 := ho1.step hw4.step (show ¬ b1 = b8 by omega)
  replace ho2 := ho2.step hw4.step (show ¬ b2 = b8 by omega)
  replace ho3 := ho3.step hw4.step (show ¬ b3 = b8 by omega)
  replace ho4 := ho4.step hw4.step (show ¬ b4 = b8 by omega)
  replace hbase1 := Nat.le_trans hbase1 (hw4.step).size
  replace hr1 := hr1.stepU hub1 hw4.step (fun k hk1 hk2 (hF : k = b8) => by omega)
  replace ho6 := ho6.step hw4.step (show ¬ b5 = b8 by omega)
  replace ho8 := ho8.step hw4.step (show ¬ b6 = b8 by omega)
  replace hbase2 := Nat.le_trans hbase2 (hw4.step).size
  replace hr2 := hr2.stepU hub2 hw4.step (fun k hk1 hk2 (hF : k = b8) => by omega)
  replace ho10 := ho10.step hw4.step (show ¬ b7 = b8 by omega)
  have ho12 : Own w19 b8 #[.int .u8 0, .slice none 0 0] 40 := Own.cast hw4.own (by kernel_rfl)
  have hzhw4 := hw4.same
  refine VL_pure 8 [6, 7, 13, 14, 15, 16] [(6, .pointer (some ⟨b3, 0, none⟩)), (7, .pointer (some ⟨b4, 0, none⟩)), (13, .pointer (some ⟨b7, 0, none⟩)), (14, .int .i64 0), (15, .pointer (some ⟨b8, 0, none⟩)), (16, .int .i64 1)] (by kernel_rfl) rfl ?_
  refine VL_end (by kernel_rfl) ?_
  refine VQ_next ?_
  refine VC_seq ?_
  have hs3 := drew_step w19
  have hs3z : w19.heap.size = w19.drew.heap.size := rfl
  refine VC_text [[], [0], [0, 1], [0, 1, 2], [0, 1, 2, 3], [0, 1, 2, 3, 4], [0, 1, 2, 3, 4, 5], [0, 1, 2, 3, 4, 5, 6], [0, 1, 2, 3, 4, 5, 6, 7], [0, 1, 2, 3, 4, 5, 6], [0, 1, 2, 3, 4, 5, 6, 9], [0, 1, 2, 3, 4, 5, 6, 7, 8, 9, 10], [0, 1, 2, 3, 4, 5, 6], [0, 1, 2, 3, 4, 5, 6], [0, 1, 2, 3, 4, 5, 6, 12, 13], [0, 1, 2, 3, 4, 5, 6, 7, 8, 9, 10, 11, 12, 13, 14], [0, 1, 2, 3, 4, 5, 6, 7, 8, 9, 10, 11, 12, 13, 14, 15], [0, 1, 2, 3, 4, 5, 6, 7, 8, 9, 10, 11, 12, 13, 14, 15, 16]] 15 (fun x y => Step (fun k => w19.heap.size ≤ k) x y) [] [0, 1, 2, 3, 4, 5, 6, 7, 8, 9, 10, 11, 12, 13, 14] (by kernel_rfl) (by kernel_rfl) (by kernel_rfl) (by kernel_rfl) (fun x => Step.refl _ x) (fun h k => Step.trans h k) Step.weak ?_
  have hzs15 := hS.size
  have hzl61 := ho1.lt
  have hzl62 := ho2.lt
  have hzl63 := ho3.lt
  have hzl64 := ho4.lt
  have hzl65 := ho6.lt
  have hzl66 := ho8.lt
  have hzl67 := ho10.lt
  have hzl68 := ho12.lt
  generalize w19.drew = w20 at hs3 hs3z ⊢
  replace hS := Step.trans hS hs3
  replace ho1 := ho1.no hs3
  replace ho2 := ho2.no hs3
  replace ho3 := ho3.no hs3
  replace ho4 := ho4.no hs3
  replace hbase1 := Nat.le_trans hbase1 (hs3).size
  replace hr1 := hr1.no hs3
  replace ho6 := ho6.no hs3
  replace ho8 := ho8.no hs3
  replace hbase2 := Nat.le_trans hbase2 (hs3).size
  replace hr2 := hr2.no hs3
  replace ho10 := ho10.no hs3
  replace ho12 := ho12.no hs3
  refine VT_pures 15 (kn' := [(14, undef), (13, undef), (12, undef), (11, undef), (10, undef), (9, undef), (8, undef), (7, undef), (6, .bool true), (5, .bool true), (4, .bool true), (3, .int .i64 1), (2, .bool false), (1, .bool false), (0, .int .i64 0)]) (by kernel_rfl) ?_
  refine VT_end ?_
  intro w21 hs4
  replace hS := Step.trans hS hs4
  replace ho1 := ho1.no hs4
  replace ho2 := ho2.no hs4
  replace ho3 := ho3.no hs4
  replace ho4 := ho4.no hs4
  replace hbase1 := Nat.le_trans hbase1 (hs4).size
  replace hr1 := hr1.no hs4
  replace ho6 := ho6.no hs4
  replace ho8 := ho8.no hs4
  replace hbase2 := Nat.le_trans hbase2 (hs4).size
  replace hr2 := hr2.no hs4
  replace ho10 := ho10.no hs4
  replace ho12 := ho12.no hs4
  refine VL_keep [62, 67, 70] [(62, .bool true), (67, undef), (70, undef)] (by kernel_rfl) ?_
  refine VL_pure 18 [8] [(8, .bool true)] (by kernel_rfl) rfl ?_
  refine VL_end (by kernel_rfl) ?_
  refine VQ_next ?_
  refine VC_ret ?_
  refine VQ_ret1 (.bool true) (.inr rfl) rfl rfl ?_
  exact ⟨by first | rfl | (congr 1; rw [key_iff hk hk']; simp), hS⟩

set_option maxRecDepth 100000 in
set_option maxHeartbeats 4000000 in
theorem apart_yn_nU (k : Int) (p e h b t : Nat) (k' p' e' h' b' t' : Int) (kp kv kc : Int) (kp' kv' kc' : Int) (w : World) (hr : rightC k p e h b t = 0) (hr' : rightC k' p' e' h' b' t' ≠ 0) (hk : rightK kp kv kc = false)  :
    CV Try.prog 6 #[.agg #[.int .i64 k, .int .i64 ((p : Nat) : Int), .int .i64 ((e : Nat) : Int), .int .i64 ((h : Nat) : Int), .int .i64 ((b : Nat) : Int), .int .i64 ((t : Nat) : Int)], .agg #[.int .i64 k', .int .i64 p', .int .i64 e', .int .i64 h', .int .i64 b', .int .i64 t'], .agg #[.int .i64 kp, .int .i64 kv, .int .i64 kc], .agg #[.int .i64 kp', .int .i64 kv', .int .i64 kc']] w (fun x w1 => x = .bool true ∧ Step No w w1) := by
  have hS : Step No w w := Step.refl _ _
  refine CV_enter Try.f6 _ 73 [(0, .agg #[.int .i64 k, .int .i64 ((p : Nat) : Int), .int .i64 ((e : Nat) : Int), .int .i64 ((h : Nat) : Int), .int .i64 ((b : Nat) : Int), .int .i64 ((t : Nat) : Int)]), (1, .agg #[.int .i64 k', .int .i64 p', .int .i64 e', .int .i64 h', .int .i64 b', .int .i64 t']), (2, .agg #[.int .i64 kp, .int .i64 kv, .int .i64 kc]), (3, .agg #[.int .i64 kp', .int .i64 kv', .int .i64 kc'])] Try.func6 rfl rfl (by kernel_rfl) rfl ?_
  refine VC_seq ?_
  refine VC_region ?_
  have hzs1 := hS.size
  refine VL_box (d := 4) (t := 45) (c := #[.int .i64 k, .int .i64 ((p : Nat) : Int), .int .i64 ((e : Nat) : Int), .int .i64 ((h : Nat) : Int), .int .i64 ((b : Nat) : Int), .int .i64 ((t : Nat) : Int)]) (by kernel_rfl) (by kernel_rfl) ?_
  intro b1 w1 hn1
  replace hS := Step.trans hS (hn1.step No)
  have ho1 := hn1.own
  have hzhn1 := hn1.size
  have hqhn1 := hn1.eqb
  have hzs2 := hS.size
  have hzl1 := ho1.lt
  refine VL_box (d := 5) (t := 45) (c := #[.int .i64 k', .int .i64 p', .int .i64 e', .int .i64 h', .int .i64 b', .int .i64 t']) (by kernel_rfl) (by kernel_rfl) ?_
  intro b2 w2 hn2
  replace hS := Step.trans hS (hn2.step No)
  replace ho1 := ho1.no (hn2.step No)
  have ho2 := hn2.own
  have hzhn2 := hn2.size
  have hqhn2 := hn2.eqb
  have hzs3 := hS.size
  have hzl2 := ho1.lt
  have hzl3 := ho2.lt
  refine VL_box (d := 6) (t := 47) (c := #[.int .i64 kp, .int .i64 kv, .int .i64 kc]) (by kernel_rfl) (by kernel_rfl) ?_
  intro b3 w3 hn3
  replace hS := Step.trans hS (hn3.step No)
  replace ho1 := ho1.no (hn3.step No)
  replace ho2 := ho2.no (hn3.step No)
  have ho3 := hn3.own
  have hzhn3 := hn3.size
  have hqhn3 := hn3.eqb
  have hzs4 := hS.size
  have hzl4 := ho1.lt
  have hzl5 := ho2.lt
  have hzl6 := ho3.lt
  refine VL_box (d := 7) (t := 47) (c := #[.int .i64 kp', .int .i64 kv', .int .i64 kc']) (by kernel_rfl) (by kernel_rfl) ?_
  intro b4 w4 hn4
  replace hS := Step.trans hS (hn4.step No)
  replace ho1 := ho1.no (hn4.step No)
  replace ho2 := ho2.no (hn4.step No)
  replace ho3 := ho3.no (hn4.step No)
  have ho4 := hn4.own
  have hzhn4 := hn4.size
  have hqhn4 := hn4.eqb
  refine VL_pure 5 [4, 5, 6, 7] [(4, .pointer (some ⟨b1, 0, none⟩)), (5, .pointer (some ⟨b2, 0, none⟩)), (6, .pointer (some ⟨b3, 0, none⟩)), (7, .pointer (some ⟨b4, 0, none⟩))] (by kernel_rfl) rfl ?_
  refine VL_end (by kernel_rfl) ?_
  refine VQ_next ?_
  refine VC_seq ?_
  refine VC_seq ?_
  refine VC_region ?_
  have hzs5 := hS.size
  have hzl7 := ho1.lt
  have hzl8 := ho2.lt
  have hzl9 := ho3.lt
  have hzl10 := ho4.lt
  refine VL_call (d := 17) (f := 9) (args := #[]) (by kernel_rfl) (by kernel_rfl) (by kernel_rfl) Try.call9 (awake_any _) ?_
  rintro _ w5 ⟨rfl, hc1⟩
  replace hS := Step.trans hS hc1
  replace ho1 := ho1.no hc1
  replace ho2 := ho2.no hc1
  replace ho3 := ho3.no hc1
  replace ho4 := ho4.no hc1
  refine VL_pure 2 [4, 5, 6, 7, 18] [(4, .pointer (some ⟨b1, 0, none⟩)), (5, .pointer (some ⟨b2, 0, none⟩)), (6, .pointer (some ⟨b3, 0, none⟩)), (7, .pointer (some ⟨b4, 0, none⟩)), (18, .bool false)] (by kernel_rfl) rfl ?_
  refine VL_end (by kernel_rfl) ?_
  refine VQ_next ?_
  refine VC_false (by kernel_rfl) ?_
  refine VC_skip ?_
  refine VQ_next ?_
  refine VC_seq ?_
  refine VC_region ?_
  refine VL_load (d := 20) (t := 45) (a := ⟨b1, 0, none⟩) (v := .agg #[.int .i64 k, .int .i64 ((p : Nat) : Int), .int .i64 ((e : Nat) : Int), .int .i64 ((h : Nat) : Int), .int .i64 ((b : Nat) : Int), .int .i64 ((t : Nat) : Int)]) (by kernel_rfl) (by kernel_rfl) (Loads.ownL ho1 (n := 6) (by kernel_rfl) (by kernel_rfl) (by kernel_rfl)) ?_
  have hzs6 := hS.size
  have hzl11 := ho1.lt
  have hzl12 := ho2.lt
  have hzl13 := ho3.lt
  have hzl14 := ho4.lt
  refine VL_call (d := 21) (f := 18) (by kernel_rfl) (by kernel_rfl) (by kernel_rfl) Try.call18 (traffic_yes k p e h b t _ hr) ?_
  rintro _ w6 ⟨A1, c1, rfl, hr1, hc2⟩
  replace hS := Step.trans hS hc2
  replace ho1 := ho1.no hc2
  replace ho2 := ho2.no hc2
  replace ho3 := ho3.no hc2
  replace ho4 := ho4.no hc2
  obtain ⟨base1, hbase1E⟩ : ∃ x, x = w5.heap.size := ⟨_, rfl⟩
  rw [← hbase1E] at hr1
  have hbase1 : base1 ≤ w6.heap.size := by rw [hbase1E]; exact hc2.size
  refine VL_pure 5 [4, 5, 6, 7, 22, 23] [(4, .pointer (some ⟨b1, 0, none⟩)), (5, .pointer (some ⟨b2, 0, none⟩)), (6, .pointer (some ⟨b3, 0, none⟩)), (7, .pointer (some ⟨b4, 0, none⟩)), (22, .agg #[.int .u8 89, .slice A1 31 c1]), (23, .int .i64 0)] (by kernel_rfl) rfl ?_
  have hzs7 := hS.size
  have hzl15 := ho1.lt
  have hzl16 := ho2.lt
  have hzl17 := ho3.lt
  have hzl18 := ho4.lt
  have hzk1 := hbase1
  have hub1 := hr1.ub
  refine VL_box (d := 9) (t := 40) (c := #[.int .u8 0, .slice none 0 0]) (by kernel_rfl) (by kernel_rfl) ?_
  intro b5 w7 hn5
  replace hS := Step.trans hS (hn5.step No)
  replace ho1 := ho1.no (hn5.step No)
  replace ho2 := ho2.no (hn5.step No)
  replace ho3 := ho3.no (hn5.step No)
  replace ho4 := ho4.no (hn5.step No)
  replace hbase1 := Nat.le_trans hbase1 (hn5.step No).size
  replace hr1 := hr1.no (hn5.step No)
  have ho5 := hn5.own
  have hzhn5 := hn5.size
  have hqhn5 := hn5.eqb
  refine VL_store (b := b5) (o := 0) (vs := [.int .u8 89, .slice A1 31 c1]) (by kernel_rfl) (by kernel_rfl) ho5 (Nat.le_of_ble_eq_true (by kernel_rfl)) ?_
  intro w8 hw1
  replace hS := Step.transNew hS hw1.step (fun _ _ _ => by omega)
  replace ho1 := ho1.step hw1.step (show ¬ b1 = b5 by omega)
  replace ho2 := ho2.step hw1.step (show ¬ b2 = b5 by omega)
  replace ho3 := ho3.step hw1.step (show ¬ b3 = b5 by omega)
  replace ho4 := ho4.step hw1.step (show ¬ b4 = b5 by omega)
  replace hbase1 := Nat.le_trans hbase1 (hw1.step).size
  replace hr1 := hr1.stepU hub1 hw1.step (fun k hk1 hk2 (hF : k = b5) => by omega)
  have ho6 : Own w8 b5 #[.int .u8 89, .slice A1 31 c1] 40 := Own.cast hw1.own (by kernel_rfl)
  have hzhw1 := hw1.same
  refine VL_pure 8 [4, 5, 6, 7, 9, 10] [(4, .pointer (some ⟨b1, 0, none⟩)), (5, .pointer (some ⟨b2, 0, none⟩)), (6, .pointer (some ⟨b3, 0, none⟩)), (7, .pointer (some ⟨b4, 0, none⟩)), (9, .pointer (some ⟨b5, 0, none⟩)), (10, .int .i64 0)] (by kernel_rfl) rfl ?_
  refine VL_end (by kernel_rfl) ?_
  refine VQ_next ?_
  refine VC_seq ?_
  refine VC_region ?_
  refine VL_load (d := 25) (t := 45) (a := ⟨b2, 0, none⟩) (v := .agg #[.int .i64 k', .int .i64 p', .int .i64 e', .int .i64 h', .int .i64 b', .int .i64 t']) (by kernel_rfl) (by kernel_rfl) (Loads.ownL ho2 (n := 6) (by kernel_rfl) (by kernel_rfl) (by kernel_rfl)) ?_
  have hzs8 := hS.size
  have hzl19 := ho1.lt
  have hzl20 := ho2.lt
  have hzl21 := ho3.lt
  have hzl22 := ho4.lt
  have hzl23 := ho6.lt
  refine VL_call (d := 26) (f := 18) (args := #[.agg #[.int .i64 k', .int .i64 p', .int .i64 e', .int .i64 h', .int .i64 b', .int .i64 t']]) (by kernel_rfl) (by kernel_rfl) (by kernel_rfl) Try.call18 (traffic_no k' p' e' h' b' t' _ hr') ?_
  rintro _ w9 ⟨rfl, hc3⟩
  replace hS := Step.trans hS hc3
  replace ho1 := ho1.no hc3
  replace ho2 := ho2.no hc3
  replace ho3 := ho3.no hc3
  replace ho4 := ho4.no hc3
  replace hbase1 := Nat.le_trans hbase1 (hc3).size
  replace hr1 := hr1.no hc3
  replace ho6 := ho6.no hc3
  refine VL_pure 5 [4, 5, 6, 7, 9, 10, 27, 28] [(4, .pointer (some ⟨b1, 0, none⟩)), (5, .pointer (some ⟨b2, 0, none⟩)), (6, .pointer (some ⟨b3, 0, none⟩)), (7, .pointer (some ⟨b4, 0, none⟩)), (9, .pointer (some ⟨b5, 0, none⟩)), (10, .int .i64 0), (27, .agg #[.int .u8 0, .slice none 0 0]), (28, .int .i64 (rightC k' p' e' h' b' t'))] (by kernel_rfl) rfl ?_
  have hzs9 := hS.size
  have hzl24 := ho1.lt
  have hzl25 := ho2.lt
  have hzl26 := ho3.lt
  have hzl27 := ho4.lt
  have hzk2 := hbase1
  have hzl28 := ho6.lt
  refine VL_box (d := 11) (t := 40) (c := #[.int .u8 0, .slice none 0 0]) (by kernel_rfl) (by kernel_rfl) ?_
  intro b6 w10 hn6
  replace hS := Step.trans hS (hn6.step No)
  replace ho1 := ho1.no (hn6.step No)
  replace ho2 := ho2.no (hn6.step No)
  replace ho3 := ho3.no (hn6.step No)
  replace ho4 := ho4.no (hn6.step No)
  replace hbase1 := Nat.le_trans hbase1 (hn6.step No).size
  replace hr1 := hr1.no (hn6.step No)
  replace ho6 := ho6.no (hn6.step No)
  have ho7 := hn6.own
  have hzhn6 := hn6.size
  have hqhn6 := hn6.eqb
  refine VL_store (b := b6) (o := 0) (vs := [.int .u8 0, .slice none 0 0]) (by kernel_rfl) (by kernel_rfl) ho7 (Nat.le_of_ble_eq_true (by kernel_rfl)) ?_
  intro w11 hw2
  replace hS := Step.transNew hS hw2.step (fun _ _ _ => by omega)
  replace ho1 := ho1.step hw2.step (show ¬ b1 = b6 by omega)
  replace ho2 := ho2.step hw2.step (show ¬ b2 = b6 by omega)
  replace ho3 := ho3.step hw2.step (show ¬ b3 = b6 by omega)
  replace ho4 := ho4.step hw2.step (show ¬ b4 = b6 by omega)
  replace hbase1 := Nat.le_trans hbase1 (hw2.step).size
  replace hr1 := hr1.stepU hub1 hw2.step (fun k hk1 hk2 (hF : k = b6) => by omega)
  replace ho6 := ho6.step hw2.step (show ¬ b5 = b6 by omega)
  have ho8 : Own w11 b6 #[.int .u8 0, .slice none 0 0] 40 := Own.cast hw2.own (by kernel_rfl)
  have hzhw2 := hw2.same
  refine VL_pure 8 [4, 5, 6, 7, 9, 10, 11, 12] [(4, .pointer (some ⟨b1, 0, none⟩)), (5, .pointer (some ⟨b2, 0, none⟩)), (6, .pointer (some ⟨b3, 0, none⟩)), (7, .pointer (some ⟨b4, 0, none⟩)), (9, .pointer (some ⟨b5, 0, none⟩)), (10, .int .i64 0), (11, .pointer (some ⟨b6, 0, none⟩)), (12, .int .i64 (rightC k' p' e' h' b' t'))] (by kernel_rfl) rfl ?_
  refine VL_end (by kernel_rfl) ?_
  refine VQ_next ?_
  refine VC_seq ?_
  refine VC_seq ?_
  have hs1 := drew_step w11
  have hs1z : w11.heap.size = w11.drew.heap.size := rfl
  refine VC_text [[], [0], [0, 1], [0, 1, 2], [0, 1, 2, 3], [0, 1, 2, 3, 4], [0, 1, 2, 3, 4, 5], [0, 1, 2, 3, 4, 5, 6], [0, 1, 2, 3, 4, 5, 6, 7], [0, 1, 2, 3, 4, 5, 6], [0, 1, 2, 3, 4, 5, 6, 9], [0, 1, 2, 3, 4, 5, 6, 7, 8, 9, 10], [0, 1, 2, 3, 4, 5, 6], [0, 1, 2, 3, 4, 5, 6], [0, 1, 2, 3, 4, 5, 6, 12, 13], [0, 1, 2, 3, 4, 5, 6, 7, 8, 9, 10, 11, 12, 13, 14], [0, 1, 2, 3, 4, 5, 6, 7, 8, 9, 10, 11, 12, 13, 14, 15]] 15 (fun x y => Step (fun k => w11.heap.size ≤ k) x y) [] [0, 1, 2, 3, 4, 5, 6, 7, 8, 9, 10, 11, 12, 13, 14] (by kernel_rfl) (by kernel_rfl) (by kernel_rfl) (by kernel_rfl) (fun x => Step.refl _ x) (fun h k => Step.trans h k) Step.weak ?_
  have hzs10 := hS.size
  have hzl29 := ho1.lt
  have hzl30 := ho2.lt
  have hzl31 := ho3.lt
  have hzl32 := ho4.lt
  have hzl33 := ho6.lt
  have hzl34 := ho8.lt
  generalize w11.drew = w12 at hs1 hs1z ⊢
  replace hS := Step.trans hS hs1
  replace ho1 := ho1.no hs1
  replace ho2 := ho2.no hs1
  replace ho3 := ho3.no hs1
  replace ho4 := ho4.no hs1
  replace hbase1 := Nat.le_trans hbase1 (hs1).size
  replace hr1 := hr1.no hs1
  replace ho6 := ho6.no hs1
  replace ho8 := ho8.no hs1
  refine VT_pures 7 (kn' := [(6, .bool ((rightC k' p' e' h' b' t') == 0)), (5, .bool ((rightC k' p' e' h' b' t') == 0)), (4, .bool ((rightC k' p' e' h' b' t') == 0)), (3, .int .i64 (rightC k' p' e' h' b' t')), (2, .bool true), (1, .bool true), (0, .int .i64 0)]) (by kernel_rfl) ?_
  have hg1 : ((rightC k' p' e' h' b' t') == 0) = false := (by first | (rw [hr']; rfl) | simpa using hr')
  refine VT_eq [(6, .bool false), (5, .bool false), (4, .bool false), (3, .int .i64 (rightC k' p' e' h' b' t')), (2, .bool true), (1, .bool true), (0, .int .i64 0)] (by simp only [hg1, Bool.not_true, Bool.not_false]) ?_
  refine VT_pures 8 (kn' := [(14, undef), (13, undef), (12, undef), (11, undef), (10, undef), (9, undef), (8, undef), (7, undef), (6, .bool false), (5, .bool false), (4, .bool false), (3, .int .i64 (rightC k' p' e' h' b' t')), (2, .bool true), (1, .bool true), (0, .int .i64 0)]) (by kernel_rfl) ?_
  refine VT_end ?_
  intro w13 hs2
  replace hS := Step.trans hS hs2
  replace ho1 := ho1.no hs2
  replace ho2 := ho2.no hs2
  replace ho3 := ho3.no hs2
  replace ho4 := ho4.no hs2
  replace hbase1 := Nat.le_trans hbase1 (hs2).size
  replace hr1 := hr1.no hs2
  replace ho6 := ho6.no hs2
  replace ho8 := ho8.no hs2
  refine VL_keep [6, 7, 35, 40, 43] [(6, .pointer (some ⟨b3, 0, none⟩)), (7, .pointer (some ⟨b4, 0, none⟩)), (35, .bool false), (40, undef), (43, undef)] (by kernel_rfl) ?_
  refine VL_pure 17 [6, 7, 45] [(6, .pointer (some ⟨b3, 0, none⟩)), (7, .pointer (some ⟨b4, 0, none⟩)), (45, .bool false)] (by kernel_rfl) rfl ?_
  refine VL_end (by kernel_rfl) ?_
  refine VQ_next ?_
  refine VC_false (by kernel_rfl) ?_
  refine VC_skip ?_
  refine VQ_next ?_
  refine VC_seq ?_
  refine VC_region ?_
  refine VL_load (d := 47) (t := 47) (a := ⟨b3, 0, none⟩) (v := .agg #[.int .i64 kp, .int .i64 kv, .int .i64 kc]) (by kernel_rfl) (by kernel_rfl) (Loads.ownL ho3 (n := 3) (by kernel_rfl) (by kernel_rfl) (by kernel_rfl)) ?_
  have hzs11 := hS.size
  have hzl35 := ho1.lt
  have hzl36 := ho2.lt
  have hzl37 := ho3.lt
  have hzl38 := ho4.lt
  have hzl39 := ho6.lt
  have hzl40 := ho8.lt
  refine VL_call (d := 48) (f := 19) (args := #[.agg #[.int .i64 kp, .int .i64 kv, .int .i64 kc]]) (by kernel_rfl) (by kernel_rfl) (by kernel_rfl) Try.call19 (key_no kp kv kc _ hk) ?_
  rintro _ w14 ⟨rfl, hc4⟩
  replace hS := Step.trans hS hc4
  replace ho1 := ho1.no hc4
  replace ho2 := ho2.no hc4
  replace ho3 := ho3.no hc4
  replace ho4 := ho4.no hc4
  replace hbase1 := Nat.le_trans hbase1 (hc4).size
  replace hr1 := hr1.no hc4
  replace ho6 := ho6.no hc4
  replace ho8 := ho8.no hc4
  refine VL_pure 5 [6, 7, 49, 50] [(6, .pointer (some ⟨b3, 0, none⟩)), (7, .pointer (some ⟨b4, 0, none⟩)), (49, .agg #[.int .u8 0, .slice none 0 0]), (50, .int .i64 1)] (by kernel_rfl) rfl ?_
  have hzs12 := hS.size
  have hzl41 := ho1.lt
  have hzl42 := ho2.lt
  have hzl43 := ho3.lt
  have hzl44 := ho4.lt
  have hzk3 := hbase1
  have hzl45 := ho6.lt
  have hzl46 := ho8.lt
  refine VL_box (d := 13) (t := 40) (c := #[.int .u8 0, .slice none 0 0]) (by kernel_rfl) (by kernel_rfl) ?_
  intro b7 w15 hn7
  replace hS := Step.trans hS (hn7.step No)
  replace ho1 := ho1.no (hn7.step No)
  replace ho2 := ho2.no (hn7.step No)
  replace ho3 := ho3.no (hn7.step No)
  replace ho4 := ho4.no (hn7.step No)
  replace hbase1 := Nat.le_trans hbase1 (hn7.step No).size
  replace hr1 := hr1.no (hn7.step No)
  replace ho6 := ho6.no (hn7.step No)
  replace ho8 := ho8.no (hn7.step No)
  have ho9 := hn7.own
  have hzhn7 := hn7.size
  have hqhn7 := hn7.eqb
  refine VL_store (b := b7) (o := 0) (vs := [.int .u8 0, .slice none 0 0]) (by kernel_rfl) (by kernel_rfl) ho9 (Nat.le_of_ble_eq_true (by kernel_rfl)) ?_
  intro w16 hw3
  replace hS := Step.transNew hS hw3.step (fun _ _ _ => by omega)
  replace ho1 := ho1.step hw3.step (show ¬ b1 = b7 by omega)
  replace ho2 := ho2.step hw3.step (show ¬ b2 = b7 by omega)
  replace ho3 := ho3.step hw3.step (show ¬ b3 = b7 by omega)
  replace ho4 := ho4.step hw3.step (show ¬ b4 = b7 by omega)
  replace hbase1 := Nat.le_trans hbase1 (hw3.step).size
  replace hr1 := hr1.stepU hub1 hw3.step (fun k hk1 hk2 (hF : k = b7) => by omega)
  replace ho6 := ho6.step hw3.step (show ¬ b5 = b7 by omega)
  replace ho8 := ho8.step hw3.step (show ¬ b6 = b7 by omega)
  have ho10 : Own w16 b7 #[.int .u8 0, .slice none 0 0] 40 := Own.cast hw3.own (by kernel_rfl)
  have hzhw3 := hw3.same
  refine VL_pure 8 [6, 7, 13, 14] [(6, .pointer (some ⟨b3, 0, none⟩)), (7, .pointer (some ⟨b4, 0, none⟩)), (13, .pointer (some ⟨b7, 0, none⟩)), (14, .int .i64 1)] (by kernel_rfl) rfl ?_
  refine VL_end (by kernel_rfl) ?_
  refine VQ_next ?_
  refine VC_seq ?_
  refine VC_region ?_
  refine VL_load (d := 52) (t := 47) (a := ⟨b4, 0, none⟩) (v := .agg #[.int .i64 kp', .int .i64 kv', .int .i64 kc']) (by kernel_rfl) (by kernel_rfl) (Loads.ownL ho4 (n := 3) (by kernel_rfl) (by kernel_rfl) (by kernel_rfl)) ?_
  have hzs13 := hS.size
  have hzl47 := ho1.lt
  have hzl48 := ho2.lt
  have hzl49 := ho3.lt
  have hzl50 := ho4.lt
  have hzl51 := ho6.lt
  have hzl52 := ho8.lt
  have hzl53 := ho10.lt
  refine VL_call (d := 53) (f := 19) (by kernel_rfl) (by kernel_rfl) (by kernel_rfl) Try.call19 (keyU_any kp' kv' kc' _) ?_
  rintro _ w17 ⟨⟨ui1, uA1, un1, uc1, rfl⟩, hc5⟩
  replace hS := Step.trans hS hc5
  replace ho1 := ho1.no hc5
  replace ho2 := ho2.no hc5
  replace ho3 := ho3.no hc5
  replace ho4 := ho4.no hc5
  replace hbase1 := Nat.le_trans hbase1 (hc5).size
  replace hr1 := hr1.no hc5
  replace ho6 := ho6.no hc5
  replace ho8 := ho8.no hc5
  replace ho10 := ho10.no hc5
  refine VL_pure 5 [6, 7, 13, 14, 54, 55] [(6, .pointer (some ⟨b3, 0, none⟩)), (7, .pointer (some ⟨b4, 0, none⟩)), (13, .pointer (some ⟨b7, 0, none⟩)), (14, .int .i64 1), (54, .agg #[.int .u8 ui1, .slice uA1 un1 uc1]), (55, .int .i64 (keyE kp' kv' kc'))] (by kernel_rfl) rfl ?_
  have hzs14 := hS.size
  have hzl54 := ho1.lt
  have hzl55 := ho2.lt
  have hzl56 := ho3.lt
  have hzl57 := ho4.lt
  have hzk4 := hbase1
  have hzl58 := ho6.lt
  have hzl59 := ho8.lt
  have hzl60 := ho10.lt
  refine VL_box (d := 15) (t := 40) (c := #[.int .u8 0, .slice none 0 0]) (by kernel_rfl) (by kernel_rfl) ?_
  intro b8 w18 hn8
  replace hS := Step.trans hS (hn8.step No)
  replace ho1 := ho1.no (hn8.step No)
  replace ho2 := ho2.no (hn8.step No)
  replace ho3 := ho3.no (hn8.step No)
  replace ho4 := ho4.no (hn8.step No)
  replace hbase1 := Nat.le_trans hbase1 (hn8.step No).size
  replace hr1 := hr1.no (hn8.step No)
  replace ho6 := ho6.no (hn8.step No)
  replace ho8 := ho8.no (hn8.step No)
  replace ho10 := ho10.no (hn8.step No)
  have ho11 := hn8.own
  have hzhn8 := hn8.size
  have hqhn8 := hn8.eqb
  refine VL_store (b := b8) (o := 0) (vs := [.int .u8 ui1, .slice uA1 un1 uc1]) (by kernel_rfl) (by kernel_rfl) ho11 (Nat.le_of_ble_eq_true (by kernel_rfl)) ?_
  intro w19 hw4
  replace hS := Step.transNew hS hw4.step (fun _ _ _ => by omega)
  replace ho1 := ho1.step hw4.step (show ¬ b1 = b8 by omega)
  replace ho2 := ho2.step hw4.step (show ¬ b2 = b8 by omega)
  replace ho3 := ho3.step hw4.step (show ¬ b3 = b8 by omega)
  replace ho4 := ho4.step hw4.step (show ¬ b4 = b8 by omega)
  replace hbase1 := Nat.le_trans hbase1 (hw4.step).size
  replace hr1 := hr1.stepU hub1 hw4.step (fun k hk1 hk2 (hF : k = b8) => by omega)
  replace ho6 := ho6.step hw4.step (show ¬ b5 = b8 by omega)
  replace ho8 := ho8.step hw4.step (show ¬ b6 = b8 by omega)
  replace ho10 := ho10.step hw4.step (show ¬ b7 = b8 by omega)
  have ho12 : Own w19 b8 #[.int .u8 ui1, .slice uA1 un1 uc1] 40 := Own.cast hw4.own (by kernel_rfl)
  have hzhw4 := hw4.same
  refine VL_pure 8 [6, 7, 13, 14, 15, 16] [(6, .pointer (some ⟨b3, 0, none⟩)), (7, .pointer (some ⟨b4, 0, none⟩)), (13, .pointer (some ⟨b7, 0, none⟩)), (14, .int .i64 1), (15, .pointer (some ⟨b8, 0, none⟩)), (16, .int .i64 (keyE kp' kv' kc'))] (by kernel_rfl) rfl ?_
  refine VL_end (by kernel_rfl) ?_
  refine VQ_next ?_
  refine VC_seq ?_
  have hs3 := drew_step w19
  have hs3z : w19.heap.size = w19.drew.heap.size := rfl
  refine VC_text [[], [0], [0, 1], [0, 1, 2], [0, 1, 2, 3], [0, 1, 2, 3, 4], [0, 1, 2, 3, 4, 5], [0, 1, 2, 3, 4, 5, 6], [0, 1, 2, 3, 4, 5, 6, 7], [0, 1, 2, 3, 4, 5, 6], [0, 1, 2, 3, 4, 5, 6, 9], [0, 1, 2, 3, 4, 5, 6, 7, 8, 9, 10], [0, 1, 2, 3, 4, 5, 6], [0, 1, 2, 3, 4, 5, 6], [0, 1, 2, 3, 4, 5, 6, 12, 13], [0, 1, 2, 3, 4, 5, 6, 7, 8, 9, 10, 11, 12, 13, 14], [0, 1, 2, 3, 4, 5, 6, 7, 8, 9, 10, 11, 12, 13, 14, 15], [0, 1, 2, 3, 4, 5, 6, 7, 8, 9, 10, 11, 12, 13, 14, 15, 16]] 15 (fun x y => Step (fun k => w19.heap.size ≤ k) x y) [] [0, 1, 2, 3, 4, 5, 6, 7, 8, 9, 10, 11, 12, 13, 14] (by kernel_rfl) (by kernel_rfl) (by kernel_rfl) (by kernel_rfl) (fun x => Step.refl _ x) (fun h k => Step.trans h k) Step.weak ?_
  have hzs15 := hS.size
  have hzl61 := ho1.lt
  have hzl62 := ho2.lt
  have hzl63 := ho3.lt
  have hzl64 := ho4.lt
  have hzl65 := ho6.lt
  have hzl66 := ho8.lt
  have hzl67 := ho10.lt
  have hzl68 := ho12.lt
  generalize w19.drew = w20 at hs3 hs3z ⊢
  replace hS := Step.trans hS hs3
  replace ho1 := ho1.no hs3
  replace ho2 := ho2.no hs3
  replace ho3 := ho3.no hs3
  replace ho4 := ho4.no hs3
  replace hbase1 := Nat.le_trans hbase1 (hs3).size
  replace hr1 := hr1.no hs3
  replace ho6 := ho6.no hs3
  replace ho8 := ho8.no hs3
  replace ho10 := ho10.no hs3
  replace ho12 := ho12.no hs3
  refine VT_pures 15 (kn' := [(14, undef), (13, undef), (12, undef), (11, undef), (10, undef), (9, undef), (8, undef), (7, undef), (6, .bool true), (5, .bool true), (4, undef), (3, undef), (2, .bool true), (1, .bool true), (0, .int .i64 1)]) (by kernel_rfl) ?_
  refine VT_end ?_
  intro w21 hs4
  replace hS := Step.trans hS hs4
  replace ho1 := ho1.no hs4
  replace ho2 := ho2.no hs4
  replace ho3 := ho3.no hs4
  replace ho4 := ho4.no hs4
  replace hbase1 := Nat.le_trans hbase1 (hs4).size
  replace hr1 := hr1.no hs4
  replace ho6 := ho6.no hs4
  replace ho8 := ho8.no hs4
  replace ho10 := ho10.no hs4
  replace ho12 := ho12.no hs4
  refine VL_keep [62, 67, 70] [(62, .bool true), (67, undef), (70, undef)] (by kernel_rfl) ?_
  refine VL_pure 18 [8] [(8, .bool true)] (by kernel_rfl) rfl ?_
  refine VL_end (by kernel_rfl) ?_
  refine VQ_next ?_
  refine VC_ret ?_
  refine VQ_ret1 (.bool true) (.inr rfl) rfl rfl ?_
  exact ⟨by first | rfl | (congr 1; rw [key_iff hk hk']; simp), hS⟩

set_option maxRecDepth 100000 in
set_option maxHeartbeats 4000000 in
theorem apart_nU_yy (k p e h b t : Int) (k' p' e' h' b' t' : Int) (kp kv kc : Nat) (kp' kv' kc' : Nat) (w : World) (hr : rightC k p e h b t ≠ 0) (hk : rightK kp kv kc = true) (hk' : rightK kp' kv' kc' = true)  :
    CV Try.prog 6 #[.agg #[.int .i64 k, .int .i64 p, .int .i64 e, .int .i64 h, .int .i64 b, .int .i64 t], .agg #[.int .i64 k', .int .i64 p', .int .i64 e', .int .i64 h', .int .i64 b', .int .i64 t'], .agg #[.int .i64 ((kp : Nat) : Int), .int .i64 ((kv : Nat) : Int), .int .i64 ((kc : Nat) : Int)], .agg #[.int .i64 ((kp' : Nat) : Int), .int .i64 ((kv' : Nat) : Int), .int .i64 ((kc' : Nat) : Int)]] w (fun x w1 => x = .bool true ∧ Step No w w1) := by
  have hS : Step No w w := Step.refl _ _
  refine CV_enter Try.f6 _ 73 [(0, .agg #[.int .i64 k, .int .i64 p, .int .i64 e, .int .i64 h, .int .i64 b, .int .i64 t]), (1, .agg #[.int .i64 k', .int .i64 p', .int .i64 e', .int .i64 h', .int .i64 b', .int .i64 t']), (2, .agg #[.int .i64 ((kp : Nat) : Int), .int .i64 ((kv : Nat) : Int), .int .i64 ((kc : Nat) : Int)]), (3, .agg #[.int .i64 ((kp' : Nat) : Int), .int .i64 ((kv' : Nat) : Int), .int .i64 ((kc' : Nat) : Int)])] Try.func6 rfl rfl (by kernel_rfl) rfl ?_
  refine VC_seq ?_
  refine VC_region ?_
  have hzs1 := hS.size
  refine VL_box (d := 4) (t := 45) (c := #[.int .i64 k, .int .i64 p, .int .i64 e, .int .i64 h, .int .i64 b, .int .i64 t]) (by kernel_rfl) (by kernel_rfl) ?_
  intro b1 w1 hn1
  replace hS := Step.trans hS (hn1.step No)
  have ho1 := hn1.own
  have hzhn1 := hn1.size
  have hqhn1 := hn1.eqb
  have hzs2 := hS.size
  have hzl1 := ho1.lt
  refine VL_box (d := 5) (t := 45) (c := #[.int .i64 k', .int .i64 p', .int .i64 e', .int .i64 h', .int .i64 b', .int .i64 t']) (by kernel_rfl) (by kernel_rfl) ?_
  intro b2 w2 hn2
  replace hS := Step.trans hS (hn2.step No)
  replace ho1 := ho1.no (hn2.step No)
  have ho2 := hn2.own
  have hzhn2 := hn2.size
  have hqhn2 := hn2.eqb
  have hzs3 := hS.size
  have hzl2 := ho1.lt
  have hzl3 := ho2.lt
  refine VL_box (d := 6) (t := 47) (c := #[.int .i64 ((kp : Nat) : Int), .int .i64 ((kv : Nat) : Int), .int .i64 ((kc : Nat) : Int)]) (by kernel_rfl) (by kernel_rfl) ?_
  intro b3 w3 hn3
  replace hS := Step.trans hS (hn3.step No)
  replace ho1 := ho1.no (hn3.step No)
  replace ho2 := ho2.no (hn3.step No)
  have ho3 := hn3.own
  have hzhn3 := hn3.size
  have hqhn3 := hn3.eqb
  have hzs4 := hS.size
  have hzl4 := ho1.lt
  have hzl5 := ho2.lt
  have hzl6 := ho3.lt
  refine VL_box (d := 7) (t := 47) (c := #[.int .i64 ((kp' : Nat) : Int), .int .i64 ((kv' : Nat) : Int), .int .i64 ((kc' : Nat) : Int)]) (by kernel_rfl) (by kernel_rfl) ?_
  intro b4 w4 hn4
  replace hS := Step.trans hS (hn4.step No)
  replace ho1 := ho1.no (hn4.step No)
  replace ho2 := ho2.no (hn4.step No)
  replace ho3 := ho3.no (hn4.step No)
  have ho4 := hn4.own
  have hzhn4 := hn4.size
  have hqhn4 := hn4.eqb
  refine VL_pure 5 [4, 5, 6, 7] [(4, .pointer (some ⟨b1, 0, none⟩)), (5, .pointer (some ⟨b2, 0, none⟩)), (6, .pointer (some ⟨b3, 0, none⟩)), (7, .pointer (some ⟨b4, 0, none⟩))] (by kernel_rfl) rfl ?_
  refine VL_end (by kernel_rfl) ?_
  refine VQ_next ?_
  refine VC_seq ?_
  refine VC_seq ?_
  refine VC_region ?_
  have hzs5 := hS.size
  have hzl7 := ho1.lt
  have hzl8 := ho2.lt
  have hzl9 := ho3.lt
  have hzl10 := ho4.lt
  refine VL_call (d := 17) (f := 9) (args := #[]) (by kernel_rfl) (by kernel_rfl) (by kernel_rfl) Try.call9 (awake_any _) ?_
  rintro _ w5 ⟨rfl, hc1⟩
  replace hS := Step.trans hS hc1
  replace ho1 := ho1.no hc1
  replace ho2 := ho2.no hc1
  replace ho3 := ho3.no hc1
  replace ho4 := ho4.no hc1
  refine VL_pure 2 [4, 5, 6, 7, 18] [(4, .pointer (some ⟨b1, 0, none⟩)), (5, .pointer (some ⟨b2, 0, none⟩)), (6, .pointer (some ⟨b3, 0, none⟩)), (7, .pointer (some ⟨b4, 0, none⟩)), (18, .bool false)] (by kernel_rfl) rfl ?_
  refine VL_end (by kernel_rfl) ?_
  refine VQ_next ?_
  refine VC_false (by kernel_rfl) ?_
  refine VC_skip ?_
  refine VQ_next ?_
  refine VC_seq ?_
  refine VC_region ?_
  refine VL_load (d := 20) (t := 45) (a := ⟨b1, 0, none⟩) (v := .agg #[.int .i64 k, .int .i64 p, .int .i64 e, .int .i64 h, .int .i64 b, .int .i64 t]) (by kernel_rfl) (by kernel_rfl) (Loads.ownL ho1 (n := 6) (by kernel_rfl) (by kernel_rfl) (by kernel_rfl)) ?_
  have hzs6 := hS.size
  have hzl11 := ho1.lt
  have hzl12 := ho2.lt
  have hzl13 := ho3.lt
  have hzl14 := ho4.lt
  refine VL_call (d := 21) (f := 18) (args := #[.agg #[.int .i64 k, .int .i64 p, .int .i64 e, .int .i64 h, .int .i64 b, .int .i64 t]]) (by kernel_rfl) (by kernel_rfl) (by kernel_rfl) Try.call18 (traffic_no k p e h b t _ hr) ?_
  rintro _ w6 ⟨rfl, hc2⟩
  replace hS := Step.trans hS hc2
  replace ho1 := ho1.no hc2
  replace ho2 := ho2.no hc2
  replace ho3 := ho3.no hc2
  replace ho4 := ho4.no hc2
  refine VL_pure 5 [4, 5, 6, 7, 22, 23] [(4, .pointer (some ⟨b1, 0, none⟩)), (5, .pointer (some ⟨b2, 0, none⟩)), (6, .pointer (some ⟨b3, 0, none⟩)), (7, .pointer (some ⟨b4, 0, none⟩)), (22, .agg #[.int .u8 0, .slice none 0 0]), (23, .int .i64 (rightC k p e h b t))] (by kernel_rfl) rfl ?_
  have hzs7 := hS.size
  have hzl15 := ho1.lt
  have hzl16 := ho2.lt
  have hzl17 := ho3.lt
  have hzl18 := ho4.lt
  refine VL_box (d := 9) (t := 40) (c := #[.int .u8 0, .slice none 0 0]) (by kernel_rfl) (by kernel_rfl) ?_
  intro b5 w7 hn5
  replace hS := Step.trans hS (hn5.step No)
  replace ho1 := ho1.no (hn5.step No)
  replace ho2 := ho2.no (hn5.step No)
  replace ho3 := ho3.no (hn5.step No)
  replace ho4 := ho4.no (hn5.step No)
  have ho5 := hn5.own
  have hzhn5 := hn5.size
  have hqhn5 := hn5.eqb
  refine VL_store (b := b5) (o := 0) (vs := [.int .u8 0, .slice none 0 0]) (by kernel_rfl) (by kernel_rfl) ho5 (Nat.le_of_ble_eq_true (by kernel_rfl)) ?_
  intro w8 hw1
  replace hS := Step.transNew hS hw1.step (fun _ _ _ => by omega)
  replace ho1 := ho1.step hw1.step (show ¬ b1 = b5 by omega)
  replace ho2 := ho2.step hw1.step (show ¬ b2 = b5 by omega)
  replace ho3 := ho3.step hw1.step (show ¬ b3 = b5 by omega)
  replace ho4 := ho4.step hw1.step (show ¬ b4 = b5 by omega)
  have ho6 : Own w8 b5 #[.int .u8 0, .slice none 0 0] 40 := Own.cast hw1.own (by kernel_rfl)
  have hzhw1 := hw1.same
  refine VL_pure 8 [4, 5, 6, 7, 9, 10] [(4, .pointer (some ⟨b1, 0, none⟩)), (5, .pointer (some ⟨b2, 0, none⟩)), (6, .pointer (some ⟨b3, 0, none⟩)), (7, .pointer (some ⟨b4, 0, none⟩)), (9, .pointer (some ⟨b5, 0, none⟩)), (10, .int .i64 (rightC k p e h b t))] (by kernel_rfl) rfl ?_
  refine VL_end (by kernel_rfl) ?_
  refine VQ_next ?_
  refine VC_seq ?_
  refine VC_region ?_
  refine VL_load (d := 25) (t := 45) (a := ⟨b2, 0, none⟩) (v := .agg #[.int .i64 k', .int .i64 p', .int .i64 e', .int .i64 h', .int .i64 b', .int .i64 t']) (by kernel_rfl) (by kernel_rfl) (Loads.ownL ho2 (n := 6) (by kernel_rfl) (by kernel_rfl) (by kernel_rfl)) ?_
  have hzs8 := hS.size
  have hzl19 := ho1.lt
  have hzl20 := ho2.lt
  have hzl21 := ho3.lt
  have hzl22 := ho4.lt
  have hzl23 := ho6.lt
  refine VL_call (d := 26) (f := 18) (by kernel_rfl) (by kernel_rfl) (by kernel_rfl) Try.call18 (trafU_any k' p' e' h' b' t' _) ?_
  rintro _ w9 ⟨⟨ui1, uA1, un1, uc1, rfl⟩, hc3⟩
  replace hS := Step.trans hS hc3
  replace ho1 := ho1.no hc3
  replace ho2 := ho2.no hc3
  replace ho3 := ho3.no hc3
  replace ho4 := ho4.no hc3
  replace ho6 := ho6.no hc3
  refine VL_pure 5 [4, 5, 6, 7, 9, 10, 27, 28] [(4, .pointer (some ⟨b1, 0, none⟩)), (5, .pointer (some ⟨b2, 0, none⟩)), (6, .pointer (some ⟨b3, 0, none⟩)), (7, .pointer (some ⟨b4, 0, none⟩)), (9, .pointer (some ⟨b5, 0, none⟩)), (10, .int .i64 (rightC k p e h b t)), (27, .agg #[.int .u8 ui1, .slice uA1 un1 uc1]), (28, .int .i64 (rightC k' p' e' h' b' t'))] (by kernel_rfl) rfl ?_
  have hzs9 := hS.size
  have hzl24 := ho1.lt
  have hzl25 := ho2.lt
  have hzl26 := ho3.lt
  have hzl27 := ho4.lt
  have hzl28 := ho6.lt
  refine VL_box (d := 11) (t := 40) (c := #[.int .u8 0, .slice none 0 0]) (by kernel_rfl) (by kernel_rfl) ?_
  intro b6 w10 hn6
  replace hS := Step.trans hS (hn6.step No)
  replace ho1 := ho1.no (hn6.step No)
  replace ho2 := ho2.no (hn6.step No)
  replace ho3 := ho3.no (hn6.step No)
  replace ho4 := ho4.no (hn6.step No)
  replace ho6 := ho6.no (hn6.step No)
  have ho7 := hn6.own
  have hzhn6 := hn6.size
  have hqhn6 := hn6.eqb
  refine VL_store (b := b6) (o := 0) (vs := [.int .u8 ui1, .slice uA1 un1 uc1]) (by kernel_rfl) (by kernel_rfl) ho7 (Nat.le_of_ble_eq_true (by kernel_rfl)) ?_
  intro w11 hw2
  replace hS := Step.transNew hS hw2.step (fun _ _ _ => by omega)
  replace ho1 := ho1.step hw2.step (show ¬ b1 = b6 by omega)
  replace ho2 := ho2.step hw2.step (show ¬ b2 = b6 by omega)
  replace ho3 := ho3.step hw2.step (show ¬ b3 = b6 by omega)
  replace ho4 := ho4.step hw2.step (show ¬ b4 = b6 by omega)
  replace ho6 := ho6.step hw2.step (show ¬ b5 = b6 by omega)
  have ho8 : Own w11 b6 #[.int .u8 ui1, .slice uA1 un1 uc1] 40 := Own.cast hw2.own (by kernel_rfl)
  have hzhw2 := hw2.same
  refine VL_pure 8 [4, 5, 6, 7, 9, 10, 11, 12] [(4, .pointer (some ⟨b1, 0, none⟩)), (5, .pointer (some ⟨b2, 0, none⟩)), (6, .pointer (some ⟨b3, 0, none⟩)), (7, .pointer (some ⟨b4, 0, none⟩)), (9, .pointer (some ⟨b5, 0, none⟩)), (10, .int .i64 (rightC k p e h b t)), (11, .pointer (some ⟨b6, 0, none⟩)), (12, .int .i64 (rightC k' p' e' h' b' t'))] (by kernel_rfl) rfl ?_
  refine VL_end (by kernel_rfl) ?_
  refine VQ_next ?_
  refine VC_seq ?_
  refine VC_seq ?_
  have hs1 := drew_step w11
  have hs1z : w11.heap.size = w11.drew.heap.size := rfl
  refine VC_text [[], [0], [0, 1], [0, 1, 2], [0, 1, 2, 3], [0, 1, 2, 3, 4], [0, 1, 2, 3, 4, 5], [0, 1, 2, 3, 4, 5, 6], [0, 1, 2, 3, 4, 5, 6, 7], [0, 1, 2, 3, 4, 5, 6], [0, 1, 2, 3, 4, 5, 6, 9], [0, 1, 2, 3, 4, 5, 6, 7, 8, 9, 10], [0, 1, 2, 3, 4, 5, 6], [0, 1, 2, 3, 4, 5, 6], [0, 1, 2, 3, 4, 5, 6, 12, 13], [0, 1, 2, 3, 4, 5, 6, 7, 8, 9, 10, 11, 12, 13, 14], [0, 1, 2, 3, 4, 5, 6, 7, 8, 9, 10, 11, 12, 13, 14, 15]] 15 (fun x y => Step (fun k => w11.heap.size ≤ k) x y) [] [0, 1, 2, 3, 4, 5, 6, 7, 8, 9, 10, 11, 12, 13, 14] (by kernel_rfl) (by kernel_rfl) (by kernel_rfl) (by kernel_rfl) (fun x => Step.refl _ x) (fun h k => Step.trans h k) Step.weak ?_
  have hzs10 := hS.size
  have hzl29 := ho1.lt
  have hzl30 := ho2.lt
  have hzl31 := ho3.lt
  have hzl32 := ho4.lt
  have hzl33 := ho6.lt
  have hzl34 := ho8.lt
  generalize w11.drew = w12 at hs1 hs1z ⊢
  replace hS := Step.trans hS hs1
  replace ho1 := ho1.no hs1
  replace ho2 := ho2.no hs1
  replace ho3 := ho3.no hs1
  replace ho4 := ho4.no hs1
  replace ho6 := ho6.no hs1
  replace ho8 := ho8.no hs1
  refine VT_pures 3 (kn' := [(2, .bool ((rightC k p e h b t) == 0)), (1, .bool ((rightC k p e h b t) == 0)), (0, .int .i64 (rightC k p e h b t))]) (by kernel_rfl) ?_
  have hg1 : ((rightC k p e h b t) == 0) = false := (by first | (rw [hr]; rfl) | simpa using hr)
  refine VT_eq [(2, .bool false), (1, .bool false), (0, .int .i64 (rightC k p e h b t))] (by simp only [hg1, Bool.not_true, Bool.not_false]) ?_
  refine VT_pures 12 (kn' := [(14, undef), (13, undef), (12, undef), (11, undef), (10, undef), (9, undef), (8, undef), (7, undef), (6, .bool false), (5, .bool false), (4, undef), (3, undef), (2, .bool false), (1, .bool false), (0, .int .i64 (rightC k p e h b t))]) (by kernel_rfl) ?_
  refine VT_end ?_
  intro w13 hs2
  replace hS := Step.trans hS hs2
  replace ho1 := ho1.no hs2
  replace ho2 := ho2.no hs2
  replace ho3 := ho3.no hs2
  replace ho4 := ho4.no hs2
  replace ho6 := ho6.no hs2
  replace ho8 := ho8.no hs2
  refine VL_keep [6, 7, 35, 40, 43] [(6, .pointer (some ⟨b3, 0, none⟩)), (7, .pointer (some ⟨b4, 0, none⟩)), (35, .bool false), (40, undef), (43, undef)] (by kernel_rfl) ?_
  refine VL_pure 17 [6, 7, 45] [(6, .pointer (some ⟨b3, 0, none⟩)), (7, .pointer (some ⟨b4, 0, none⟩)), (45, .bool false)] (by kernel_rfl) rfl ?_
  refine VL_end (by kernel_rfl) ?_
  refine VQ_next ?_
  refine VC_false (by kernel_rfl) ?_
  refine VC_skip ?_
  refine VQ_next ?_
  refine VC_seq ?_
  refine VC_region ?_
  refine VL_load (d := 47) (t := 47) (a := ⟨b3, 0, none⟩) (v := .agg #[.int .i64 ((kp : Nat) : Int), .int .i64 ((kv : Nat) : Int), .int .i64 ((kc : Nat) : Int)]) (by kernel_rfl) (by kernel_rfl) (Loads.ownL ho3 (n := 3) (by kernel_rfl) (by kernel_rfl) (by kernel_rfl)) ?_
  have hzs11 := hS.size
  have hzl35 := ho1.lt
  have hzl36 := ho2.lt
  have hzl37 := ho3.lt
  have hzl38 := ho4.lt
  have hzl39 := ho6.lt
  have hzl40 := ho8.lt
  refine VL_call (d := 48) (f := 19) (by kernel_rfl) (by kernel_rfl) (by kernel_rfl) Try.call19 (key_yes kp kv kc _ hk) ?_
  rintro _ w14 ⟨A1, c1, rfl, hr1, hc4⟩
  replace hS := Step.trans hS hc4
  replace ho1 := ho1.no hc4
  replace ho2 := ho2.no hc4
  replace ho3 := ho3.no hc4
  replace ho4 := ho4.no hc4
  replace ho6 := ho6.no hc4
  replace ho8 := ho8.no hc4
  obtain ⟨base1, hbase1E⟩ : ∃ x, x = w13.heap.size := ⟨_, rfl⟩
  rw [← hbase1E] at hr1
  have hbase1 : base1 ≤ w14.heap.size := by rw [hbase1E]; exact hc4.size
  refine VL_pure 5 [6, 7, 49, 50] [(6, .pointer (some ⟨b3, 0, none⟩)), (7, .pointer (some ⟨b4, 0, none⟩)), (49, .agg #[.int .u8 90, .slice A1 5 c1]), (50, .int .i64 0)] (by kernel_rfl) rfl ?_
  have hzs12 := hS.size
  have hzl41 := ho1.lt
  have hzl42 := ho2.lt
  have hzl43 := ho3.lt
  have hzl44 := ho4.lt
  have hzl45 := ho6.lt
  have hzl46 := ho8.lt
  have hzk1 := hbase1
  have hub1 := hr1.ub
  refine VL_box (d := 13) (t := 40) (c := #[.int .u8 0, .slice none 0 0]) (by kernel_rfl) (by kernel_rfl) ?_
  intro b7 w15 hn7
  replace hS := Step.trans hS (hn7.step No)
  replace ho1 := ho1.no (hn7.step No)
  replace ho2 := ho2.no (hn7.step No)
  replace ho3 := ho3.no (hn7.step No)
  replace ho4 := ho4.no (hn7.step No)
  replace ho6 := ho6.no (hn7.step No)
  replace ho8 := ho8.no (hn7.step No)
  replace hbase1 := Nat.le_trans hbase1 (hn7.step No).size
  replace hr1 := hr1.no (hn7.step No)
  have ho9 := hn7.own
  have hzhn7 := hn7.size
  have hqhn7 := hn7.eqb
  refine VL_store (b := b7) (o := 0) (vs := [.int .u8 90, .slice A1 5 c1]) (by kernel_rfl) (by kernel_rfl) ho9 (Nat.le_of_ble_eq_true (by kernel_rfl)) ?_
  intro w16 hw3
  replace hS := Step.transNew hS hw3.step (fun _ _ _ => by omega)
  replace ho1 := ho1.step hw3.step (show ¬ b1 = b7 by omega)
  replace ho2 := ho2.step hw3.step (show ¬ b2 = b7 by omega)
  replace ho3 := ho3.step hw3.step (show ¬ b3 = b7 by omega)
  replace ho4 := ho4.step hw3.step (show ¬ b4 = b7 by omega)
  replace ho6 := ho6.step hw3.step (show ¬ b5 = b7 by omega)
  replace ho8 := ho8.step hw3.step (show ¬ b6 = b7 by omega)
  replace hbase1 := Nat.le_trans hbase1 (hw3.step).size
  replace hr1 := hr1.stepU hub1 hw3.step (fun k hk1 hk2 (hF : k = b7) => by omega)
  have ho10 : Own w16 b7 #[.int .u8 90, .slice A1 5 c1] 40 := Own.cast hw3.own (by kernel_rfl)
  have hzhw3 := hw3.same
  refine VL_pure 8 [6, 7, 13, 14] [(6, .pointer (some ⟨b3, 0, none⟩)), (7, .pointer (some ⟨b4, 0, none⟩)), (13, .pointer (some ⟨b7, 0, none⟩)), (14, .int .i64 0)] (by kernel_rfl) rfl ?_
  refine VL_end (by kernel_rfl) ?_
  refine VQ_next ?_
  refine VC_seq ?_
  refine VC_region ?_
  refine VL_load (d := 52) (t := 47) (a := ⟨b4, 0, none⟩) (v := .agg #[.int .i64 ((kp' : Nat) : Int), .int .i64 ((kv' : Nat) : Int), .int .i64 ((kc' : Nat) : Int)]) (by kernel_rfl) (by kernel_rfl) (Loads.ownL ho4 (n := 3) (by kernel_rfl) (by kernel_rfl) (by kernel_rfl)) ?_
  have hzs13 := hS.size
  have hzl47 := ho1.lt
  have hzl48 := ho2.lt
  have hzl49 := ho3.lt
  have hzl50 := ho4.lt
  have hzl51 := ho6.lt
  have hzl52 := ho8.lt
  have hzl53 := ho10.lt
  refine VL_call (d := 53) (f := 19) (by kernel_rfl) (by kernel_rfl) (by kernel_rfl) Try.call19 (key_yes kp' kv' kc' _ hk') ?_
  rintro _ w17 ⟨A2, c2, rfl, hr2, hc5⟩
  replace hS := Step.trans hS hc5
  replace ho1 := ho1.no hc5
  replace ho2 := ho2.no hc5
  replace ho3 := ho3.no hc5
  replace ho4 := ho4.no hc5
  replace ho6 := ho6.no hc5
  replace ho8 := ho8.no hc5
  replace hbase1 := Nat.le_trans hbase1 (hc5).size
  replace hr1 := hr1.no hc5
  replace ho10 := ho10.no hc5
  obtain ⟨base2, hbase2E⟩ : ∃ x, x = w16.heap.size := ⟨_, rfl⟩
  rw [← hbase2E] at hr2
  have hbase2 : base2 ≤ w17.heap.size := by rw [hbase2E]; exact hc5.size
  refine VL_pure 5 [6, 7, 13, 14, 54, 55] [(6, .pointer (some ⟨b3, 0, none⟩)), (7, .pointer (some ⟨b4, 0, none⟩)), (13, .pointer (some ⟨b7, 0, none⟩)), (14, .int .i64 0), (54, .agg #[.int .u8 90, .slice A2 5 c2]), (55, .int .i64 0)] (by kernel_rfl) rfl ?_
  have hzs14 := hS.size
  have hzl54 := ho1.lt
  have hzl55 := ho2.lt
  have hzl56 := ho3.lt
  have hzl57 := ho4.lt
  have hzl58 := ho6.lt
  have hzl59 := ho8.lt
  have hzk2 := hbase1
  have hzl60 := ho10.lt
  have hzk3 := hbase2
  have hub2 := hr2.ub
  refine VL_box (d := 15) (t := 40) (c := #[.int .u8 0, .slice none 0 0]) (by kernel_rfl) (by kernel_rfl) ?_
  intro b8 w18 hn8
  replace hS := Step.trans hS (hn8.step No)
  replace ho1 := ho1.no (hn8.step No)
  replace ho2 := ho2.no (hn8.step No)
  replace ho3 := ho3.no (hn8.step No)
  replace ho4 := ho4.no (hn8.step No)
  replace ho6 := ho6.no (hn8.step No)
  replace ho8 := ho8.no (hn8.step No)
  replace hbase1 := Nat.le_trans hbase1 (hn8.step No).size
  replace hr1 := hr1.no (hn8.step No)
  replace ho10 := ho10.no (hn8.step No)
  replace hbase2 := Nat.le_trans hbase2 (hn8.step No).size
  replace hr2 := hr2.no (hn8.step No)
  have ho11 := hn8.own
  have hzhn8 := hn8.size
  have hqhn8 := hn8.eqb
  refine VL_store (b := b8) (o := 0) (vs := [.int .u8 90, .slice A2 5 c2]) (by kernel_rfl) (by kernel_rfl) ho11 (Nat.le_of_ble_eq_true (by kernel_rfl)) ?_
  intro w19 hw4
  replace hS := Step.transNew hS hw4.step (fun _ _ _ => by omega)
  replace ho1 := ho1.step hw4.step (show ¬ b1 = b8 by omega)
  replace ho2 := ho2.step hw4.step (show ¬ b2 = b8 by omega)
  replace ho3 := ho3.step hw4.step (show ¬ b3 = b8 by omega)
  replace ho4 := ho4.step hw4.step (show ¬ b4 = b8 by omega)
  replace ho6 := ho6.step hw4.step (show ¬ b5 = b8 by omega)
  replace ho8 := ho8.step hw4.step (show ¬ b6 = b8 by omega)
  replace hbase1 := Nat.le_trans hbase1 (hw4.step).size
  replace hr1 := hr1.stepU hub1 hw4.step (fun k hk1 hk2 (hF : k = b8) => by omega)
  replace ho10 := ho10.step hw4.step (show ¬ b7 = b8 by omega)
  replace hbase2 := Nat.le_trans hbase2 (hw4.step).size
  replace hr2 := hr2.stepU hub2 hw4.step (fun k hk1 hk2 (hF : k = b8) => by omega)
  have ho12 : Own w19 b8 #[.int .u8 90, .slice A2 5 c2] 40 := Own.cast hw4.own (by kernel_rfl)
  have hzhw4 := hw4.same
  refine VL_pure 8 [6, 7, 13, 14, 15, 16] [(6, .pointer (some ⟨b3, 0, none⟩)), (7, .pointer (some ⟨b4, 0, none⟩)), (13, .pointer (some ⟨b7, 0, none⟩)), (14, .int .i64 0), (15, .pointer (some ⟨b8, 0, none⟩)), (16, .int .i64 0)] (by kernel_rfl) rfl ?_
  refine VL_end (by kernel_rfl) ?_
  refine VQ_next ?_
  refine VC_seq ?_
  have hs3 := drew_step w19
  have hs3z : w19.heap.size = w19.drew.heap.size := rfl
  refine VC_text [[], [0], [0, 1], [0, 1, 2], [0, 1, 2, 3], [0, 1, 2, 3, 4], [0, 1, 2, 3, 4, 5], [0, 1, 2, 3, 4, 5, 6], [0, 1, 2, 3, 4, 5, 6, 7], [0, 1, 2, 3, 4, 5, 6], [0, 1, 2, 3, 4, 5, 6, 9], [0, 1, 2, 3, 4, 5, 6, 7, 8, 9, 10], [0, 1, 2, 3, 4, 5, 6], [0, 1, 2, 3, 4, 5, 6], [0, 1, 2, 3, 4, 5, 6, 12, 13], [0, 1, 2, 3, 4, 5, 6, 7, 8, 9, 10, 11, 12, 13, 14], [0, 1, 2, 3, 4, 5, 6, 7, 8, 9, 10, 11, 12, 13, 14, 15], [0, 1, 2, 3, 4, 5, 6, 7, 8, 9, 10, 11, 12, 13, 14, 15, 16]] 15 (fun x y => Step (fun k => w19.heap.size ≤ k) x y) [] [0, 1, 2, 3, 4, 5, 6, 7, 8, 9, 10, 11, 12, 13, 14] (by kernel_rfl) (by kernel_rfl) (by kernel_rfl) (by kernel_rfl) (fun x => Step.refl _ x) (fun h k => Step.trans h k) Step.weak ?_
  have hzs15 := hS.size
  have hzl61 := ho1.lt
  have hzl62 := ho2.lt
  have hzl63 := ho3.lt
  have hzl64 := ho4.lt
  have hzl65 := ho6.lt
  have hzl66 := ho8.lt
  have hzl67 := ho10.lt
  have hzl68 := ho12.lt
  generalize w19.drew = w20 at hs3 hs3z ⊢
  replace hS := Step.trans hS hs3
  replace ho1 := ho1.no hs3
  replace ho2 := ho2.no hs3
  replace ho3 := ho3.no hs3
  replace ho4 := ho4.no hs3
  replace ho6 := ho6.no hs3
  replace ho8 := ho8.no hs3
  replace hbase1 := Nat.le_trans hbase1 (hs3).size
  replace hr1 := hr1.no hs3
  replace ho10 := ho10.no hs3
  replace hbase2 := Nat.le_trans hbase2 (hs3).size
  replace hr2 := hr2.no hs3
  replace ho12 := ho12.no hs3
  refine VT_pures 8 (kn' := [(7, .pointer (some ⟨b7, 1, none⟩)), (6, .bool false), (5, .bool false), (4, .bool false), (3, .int .i64 0), (2, .bool false), (1, .bool false), (0, .int .i64 0)]) (by kernel_rfl) ?_
  refine VT_load (d := 64) (t := 23) (a := ⟨b7, 1, none⟩) (v := .slice A1 5 c1) (by kernel_rfl) (by kernel_rfl) ?_ ?_
  · intro w21 hr3
    replace hS := Step.transNew hS hr3 (fun i hi hG => by (try simp only at hG); omega)
    replace ho1 := ho1.step hr3 (by (try simp only); omega)
    replace ho2 := ho2.step hr3 (by (try simp only); omega)
    replace ho3 := ho3.step hr3 (by (try simp only); omega)
    replace ho4 := ho4.step hr3 (by (try simp only); omega)
    replace ho6 := ho6.step hr3 (by (try simp only); omega)
    replace ho8 := ho8.step hr3 (by (try simp only); omega)
    replace hbase1 := Nat.le_trans hbase1 (hr3).size
    replace hr1 := hr1.stepU hub1 hr3 (fun k hk hk2 hG => by (try simp only at hG); omega)
    replace ho10 := ho10.step hr3 (by (try simp only); omega)
    replace hbase2 := Nat.le_trans hbase2 (hr3).size
    replace hr2 := hr2.stepU hub2 hr3 (fun k hk hk2 hG => by (try simp only at hG); omega)
    replace ho12 := ho12.step hr3 (by (try simp only); omega)
    exact (Loads.own1 ho10 (by kernel_rfl) (by rfl))
  refine VT_pures 1 (kn' := [(9, .pointer (some ⟨b8, 1, none⟩)), (8, .slice A1 5 c1), (7, .pointer (some ⟨b7, 1, none⟩)), (6, .bool false), (5, .bool false), (4, .bool false), (3, .int .i64 0), (2, .bool false), (1, .bool false), (0, .int .i64 0)]) (by kernel_rfl) ?_
  refine VT_load (d := 66) (t := 23) (a := ⟨b8, 1, none⟩) (v := .slice A2 5 c2) (by kernel_rfl) (by kernel_rfl) ?_ ?_
  · intro w22 hr4
    replace hS := Step.transNew hS hr4 (fun i hi hG => by (try simp only at hG); omega)
    replace ho1 := ho1.step hr4 (by (try simp only); omega)
    replace ho2 := ho2.step hr4 (by (try simp only); omega)
    replace ho3 := ho3.step hr4 (by (try simp only); omega)
    replace ho4 := ho4.step hr4 (by (try simp only); omega)
    replace ho6 := ho6.step hr4 (by (try simp only); omega)
    replace ho8 := ho8.step hr4 (by (try simp only); omega)
    replace hbase1 := Nat.le_trans hbase1 (hr4).size
    replace hr1 := hr1.stepU hub1 hr4 (fun k hk hk2 hG => by (try simp only at hG); omega)
    replace ho10 := ho10.step hr4 (by (try simp only); omega)
    replace hbase2 := Nat.le_trans hbase2 (hr4).size
    replace hr2 := hr2.stepU hub2 hr4 (fun k hk hk2 hG => by (try simp only at hG); omega)
    replace ho12 := ho12.step hr4 (by (try simp only); omega)
    exact (Loads.own1 ho12 (by kernel_rfl) (by rfl))
  refine VT_fcall (d := 67) (f := 14) (args := #[.slice A1 5 c1, .slice A2 5 c2]) (v := .bool ((keyL kp kv kc) == (keyL kp' kv' kc'))) (by kernel_rfl) (by kernel_rfl) (by kernel_rfl) Try.call14 ?_ ?_
  · intro w23 hr5
    replace hS := Step.transNew hS hr5 (fun i hi hG => by (try simp only at hG); omega)
    replace ho1 := ho1.step hr5 (by (try simp only); omega)
    replace ho2 := ho2.step hr5 (by (try simp only); omega)
    replace ho3 := ho3.step hr5 (by (try simp only); omega)
    replace ho4 := ho4.step hr5 (by (try simp only); omega)
    replace ho6 := ho6.step hr5 (by (try simp only); omega)
    replace ho8 := ho8.step hr5 (by (try simp only); omega)
    replace hbase1 := Nat.le_trans hbase1 (hr5).size
    replace hr1 := hr1.stepU hub1 hr5 (fun k hk hk2 hG => by (try simp only at hG); omega)
    replace ho10 := ho10.step hr5 (by (try simp only); omega)
    replace hbase2 := Nat.le_trans hbase2 (hr5).size
    replace hr2 := hr2.stepU hub2 hr5 (fun k hk hk2 hG => by (try simp only at hG); omega)
    replace ho12 := ho12.step hr5 (by (try simp only); omega)
    exact same_any A1 5 c1 _ (keyL kp kv kc) A2 5 c2 _ (keyL kp' kv' kc') _ (Rw.lenI hr1) (Rw.slI hr1) (Rw.lenI hr2) (Rw.slI hr2) (by omega) (by omega) (by first | exact Nat.le_refl _ | omega) (by first | exact Nat.le_refl _ | omega)
  refine VT_load (d := 68) (t := 47) (a := ⟨b3, 0, none⟩) (v := .agg #[.int .i64 ((kp : Nat) : Int), .int .i64 ((kv : Nat) : Int), .int .i64 ((kc : Nat) : Int)]) (by kernel_rfl) (by kernel_rfl) ?_ ?_
  · intro w24 hr6
    replace hS := Step.transNew hS hr6 (fun i hi hG => by (try simp only at hG); omega)
    replace ho1 := ho1.step hr6 (by (try simp only); omega)
    replace ho2 := ho2.step hr6 (by (try simp only); omega)
    replace ho3 := ho3.step hr6 (by (try simp only); omega)
    replace ho4 := ho4.step hr6 (by (try simp only); omega)
    replace ho6 := ho6.step hr6 (by (try simp only); omega)
    replace ho8 := ho8.step hr6 (by (try simp only); omega)
    replace hbase1 := Nat.le_trans hbase1 (hr6).size
    replace hr1 := hr1.stepU hub1 hr6 (fun k hk hk2 hG => by (try simp only at hG); omega)
    replace ho10 := ho10.step hr6 (by (try simp only); omega)
    replace hbase2 := Nat.le_trans hbase2 (hr6).size
    replace hr2 := hr2.stepU hub2 hr6 (fun k hk hk2 hG => by (try simp only at hG); omega)
    replace ho12 := ho12.step hr6 (by (try simp only); omega)
    exact (Loads.ownL ho3 (n := 3) (by kernel_rfl) (by kernel_rfl) (by kernel_rfl))
  refine VT_load (d := 69) (t := 47) (a := ⟨b4, 0, none⟩) (v := .agg #[.int .i64 ((kp' : Nat) : Int), .int .i64 ((kv' : Nat) : Int), .int .i64 ((kc' : Nat) : Int)]) (by kernel_rfl) (by kernel_rfl) ?_ ?_
  · intro w25 hr7
    replace hS := Step.transNew hS hr7 (fun i hi hG => by (try simp only at hG); omega)
    replace ho1 := ho1.step hr7 (by (try simp only); omega)
    replace ho2 := ho2.step hr7 (by (try simp only); omega)
    replace ho3 := ho3.step hr7 (by (try simp only); omega)
    replace ho4 := ho4.step hr7 (by (try simp only); omega)
    replace ho6 := ho6.step hr7 (by (try simp only); omega)
    replace ho8 := ho8.step hr7 (by (try simp only); omega)
    replace hbase1 := Nat.le_trans hbase1 (hr7).size
    replace hr1 := hr1.stepU hub1 hr7 (fun k hk hk2 hG => by (try simp only at hG); omega)
    replace ho10 := ho10.step hr7 (by (try simp only); omega)
    replace hbase2 := Nat.le_trans hbase2 (hr7).size
    replace hr2 := hr2.stepU hub2 hr7 (fun k hk hk2 hG => by (try simp only at hG); omega)
    replace ho12 := ho12.step hr7 (by (try simp only); omega)
    exact (Loads.ownL ho4 (n := 3) (by kernel_rfl) (by kernel_rfl) (by kernel_rfl))
  refine VT_agEq (d := 70) (dd := 9) (ls := ([.int .i64] ++ [.int .i64] ++ [.int .i64] ++ [])) (pos := true) (t := 47) (xs := #[.int .i64 ((kp : Nat) : Int), .int .i64 ((kv : Nat) : Int), .int .i64 ((kc : Nat) : Int)]) (ys := #[.int .i64 ((kp' : Nat) : Int), .int .i64 ((kv' : Nat) : Int), .int .i64 ((kc' : Nat) : Int)]) (by kernel_rfl) (by kernel_rfl) (by kernel_rfl) (by kernel_rfl) (by first | exact ⟨⟨_, rfl⟩, ⟨_, rfl⟩, ⟨_, rfl⟩, trivial⟩ | trivial) (by first | exact ⟨⟨_, rfl⟩, ⟨_, rfl⟩, ⟨_, rfl⟩, trivial⟩ | trivial) (([((kp : Nat) : Int), ((kv : Nat) : Int), ((kc : Nat) : Int)] : List Int) == [((kp' : Nat) : Int), ((kv' : Nat) : Int), ((kc' : Nat) : Int)]) (iA_eq (k := .i64) (xs := [((kp : Nat) : Int), ((kv : Nat) : Int), ((kc : Nat) : Int)]) (bs := [((kp' : Nat) : Int), ((kv' : Nat) : Int), ((kc' : Nat) : Int)]) true) ?_
  refine VT_end ?_
  intro w26 hs4
  replace hS := Step.trans hS hs4
  replace ho1 := ho1.no hs4
  replace ho2 := ho2.no hs4
  replace ho3 := ho3.no hs4
  replace ho4 := ho4.no hs4
  replace ho6 := ho6.no hs4
  replace ho8 := ho8.no hs4
  replace hbase1 := Nat.le_trans hbase1 (hs4).size
  replace hr1 := hr1.no hs4
  replace ho10 := ho10.no hs4
  replace hbase2 := Nat.le_trans hbase2 (hs4).size
  replace hr2 := hr2.no hs4
  replace ho12 := ho12.no hs4
  refine VL_keep [62, 67, 70] [(62, .bool false), (67, .bool ((keyL kp kv kc) == (keyL kp' kv' kc'))), (70, .bool (([((kp : Nat) : Int), ((kv : Nat) : Int), ((kc : Nat) : Int)] : List Int) == [((kp' : Nat) : Int), ((kv' : Nat) : Int), ((kc' : Nat) : Int)]))] (by kernel_rfl) ?_
  refine VL_pure 18 [8] [(8, .bool (((keyL kp kv kc) == (keyL kp' kv' kc')) == (([((kp : Nat) : Int), ((kv : Nat) : Int), ((kc : Nat) : Int)] : List Int) == [((kp' : Nat) : Int), ((kv' : Nat) : Int), ((kc' : Nat) : Int)])))] (by kernel_rfl) rfl ?_
  refine VL_end (by kernel_rfl) ?_
  refine VQ_next ?_
  refine VC_ret ?_
  refine VQ_ret1 (.bool (((keyL kp kv kc) == (keyL kp' kv' kc')) == (([((kp : Nat) : Int), ((kv : Nat) : Int), ((kc : Nat) : Int)] : List Int) == [((kp' : Nat) : Int), ((kv' : Nat) : Int), ((kc' : Nat) : Int)]))) (.inr rfl) rfl rfl ?_
  exact ⟨by first | rfl | (congr 1; rw [key_iff hk hk']; simp), hS⟩

set_option maxRecDepth 100000 in
set_option maxHeartbeats 4000000 in
theorem apart_nU_yn (k p e h b t : Int) (k' p' e' h' b' t' : Int) (kp kv kc : Nat) (kp' kv' kc' : Int) (w : World) (hr : rightC k p e h b t ≠ 0) (hk : rightK kp kv kc = true) (hk' : rightK kp' kv' kc' = false)  :
    CV Try.prog 6 #[.agg #[.int .i64 k, .int .i64 p, .int .i64 e, .int .i64 h, .int .i64 b, .int .i64 t], .agg #[.int .i64 k', .int .i64 p', .int .i64 e', .int .i64 h', .int .i64 b', .int .i64 t'], .agg #[.int .i64 ((kp : Nat) : Int), .int .i64 ((kv : Nat) : Int), .int .i64 ((kc : Nat) : Int)], .agg #[.int .i64 kp', .int .i64 kv', .int .i64 kc']] w (fun x w1 => x = .bool true ∧ Step No w w1) := by
  have hS : Step No w w := Step.refl _ _
  refine CV_enter Try.f6 _ 73 [(0, .agg #[.int .i64 k, .int .i64 p, .int .i64 e, .int .i64 h, .int .i64 b, .int .i64 t]), (1, .agg #[.int .i64 k', .int .i64 p', .int .i64 e', .int .i64 h', .int .i64 b', .int .i64 t']), (2, .agg #[.int .i64 ((kp : Nat) : Int), .int .i64 ((kv : Nat) : Int), .int .i64 ((kc : Nat) : Int)]), (3, .agg #[.int .i64 kp', .int .i64 kv', .int .i64 kc'])] Try.func6 rfl rfl (by kernel_rfl) rfl ?_
  refine VC_seq ?_
  refine VC_region ?_
  have hzs1 := hS.size
  refine VL_box (d := 4) (t := 45) (c := #[.int .i64 k, .int .i64 p, .int .i64 e, .int .i64 h, .int .i64 b, .int .i64 t]) (by kernel_rfl) (by kernel_rfl) ?_
  intro b1 w1 hn1
  replace hS := Step.trans hS (hn1.step No)
  have ho1 := hn1.own
  have hzhn1 := hn1.size
  have hqhn1 := hn1.eqb
  have hzs2 := hS.size
  have hzl1 := ho1.lt
  refine VL_box (d := 5) (t := 45) (c := #[.int .i64 k', .int .i64 p', .int .i64 e', .int .i64 h', .int .i64 b', .int .i64 t']) (by kernel_rfl) (by kernel_rfl) ?_
  intro b2 w2 hn2
  replace hS := Step.trans hS (hn2.step No)
  replace ho1 := ho1.no (hn2.step No)
  have ho2 := hn2.own
  have hzhn2 := hn2.size
  have hqhn2 := hn2.eqb
  have hzs3 := hS.size
  have hzl2 := ho1.lt
  have hzl3 := ho2.lt
  refine VL_box (d := 6) (t := 47) (c := #[.int .i64 ((kp : Nat) : Int), .int .i64 ((kv : Nat) : Int), .int .i64 ((kc : Nat) : Int)]) (by kernel_rfl) (by kernel_rfl) ?_
  intro b3 w3 hn3
  replace hS := Step.trans hS (hn3.step No)
  replace ho1 := ho1.no (hn3.step No)
  replace ho2 := ho2.no (hn3.step No)
  have ho3 := hn3.own
  have hzhn3 := hn3.size
  have hqhn3 := hn3.eqb
  have hzs4 := hS.size
  have hzl4 := ho1.lt
  have hzl5 := ho2.lt
  have hzl6 := ho3.lt
  refine VL_box (d := 7) (t := 47) (c := #[.int .i64 kp', .int .i64 kv', .int .i64 kc']) (by kernel_rfl) (by kernel_rfl) ?_
  intro b4 w4 hn4
  replace hS := Step.trans hS (hn4.step No)
  replace ho1 := ho1.no (hn4.step No)
  replace ho2 := ho2.no (hn4.step No)
  replace ho3 := ho3.no (hn4.step No)
  have ho4 := hn4.own
  have hzhn4 := hn4.size
  have hqhn4 := hn4.eqb
  refine VL_pure 5 [4, 5, 6, 7] [(4, .pointer (some ⟨b1, 0, none⟩)), (5, .pointer (some ⟨b2, 0, none⟩)), (6, .pointer (some ⟨b3, 0, none⟩)), (7, .pointer (some ⟨b4, 0, none⟩))] (by kernel_rfl) rfl ?_
  refine VL_end (by kernel_rfl) ?_
  refine VQ_next ?_
  refine VC_seq ?_
  refine VC_seq ?_
  refine VC_region ?_
  have hzs5 := hS.size
  have hzl7 := ho1.lt
  have hzl8 := ho2.lt
  have hzl9 := ho3.lt
  have hzl10 := ho4.lt
  refine VL_call (d := 17) (f := 9) (args := #[]) (by kernel_rfl) (by kernel_rfl) (by kernel_rfl) Try.call9 (awake_any _) ?_
  rintro _ w5 ⟨rfl, hc1⟩
  replace hS := Step.trans hS hc1
  replace ho1 := ho1.no hc1
  replace ho2 := ho2.no hc1
  replace ho3 := ho3.no hc1
  replace ho4 := ho4.no hc1
  refine VL_pure 2 [4, 5, 6, 7, 18] [(4, .pointer (some ⟨b1, 0, none⟩)), (5, .pointer (some ⟨b2, 0, none⟩)), (6, .pointer (some ⟨b3, 0, none⟩)), (7, .pointer (some ⟨b4, 0, none⟩)), (18, .bool false)] (by kernel_rfl) rfl ?_
  refine VL_end (by kernel_rfl) ?_
  refine VQ_next ?_
  refine VC_false (by kernel_rfl) ?_
  refine VC_skip ?_
  refine VQ_next ?_
  refine VC_seq ?_
  refine VC_region ?_
  refine VL_load (d := 20) (t := 45) (a := ⟨b1, 0, none⟩) (v := .agg #[.int .i64 k, .int .i64 p, .int .i64 e, .int .i64 h, .int .i64 b, .int .i64 t]) (by kernel_rfl) (by kernel_rfl) (Loads.ownL ho1 (n := 6) (by kernel_rfl) (by kernel_rfl) (by kernel_rfl)) ?_
  have hzs6 := hS.size
  have hzl11 := ho1.lt
  have hzl12 := ho2.lt
  have hzl13 := ho3.lt
  have hzl14 := ho4.lt
  refine VL_call (d := 21) (f := 18) (args := #[.agg #[.int .i64 k, .int .i64 p, .int .i64 e, .int .i64 h, .int .i64 b, .int .i64 t]]) (by kernel_rfl) (by kernel_rfl) (by kernel_rfl) Try.call18 (traffic_no k p e h b t _ hr) ?_
  rintro _ w6 ⟨rfl, hc2⟩
  replace hS := Step.trans hS hc2
  replace ho1 := ho1.no hc2
  replace ho2 := ho2.no hc2
  replace ho3 := ho3.no hc2
  replace ho4 := ho4.no hc2
  refine VL_pure 5 [4, 5, 6, 7, 22, 23] [(4, .pointer (some ⟨b1, 0, none⟩)), (5, .pointer (some ⟨b2, 0, none⟩)), (6, .pointer (some ⟨b3, 0, none⟩)), (7, .pointer (some ⟨b4, 0, none⟩)), (22, .agg #[.int .u8 0, .slice none 0 0]), (23, .int .i64 (rightC k p e h b t))] (by kernel_rfl) rfl ?_
  have hzs7 := hS.size
  have hzl15 := ho1.lt
  have hzl16 := ho2.lt
  have hzl17 := ho3.lt
  have hzl18 := ho4.lt
  refine VL_box (d := 9) (t := 40) (c := #[.int .u8 0, .slice none 0 0]) (by kernel_rfl) (by kernel_rfl) ?_
  intro b5 w7 hn5
  replace hS := Step.trans hS (hn5.step No)
  replace ho1 := ho1.no (hn5.step No)
  replace ho2 := ho2.no (hn5.step No)
  replace ho3 := ho3.no (hn5.step No)
  replace ho4 := ho4.no (hn5.step No)
  have ho5 := hn5.own
  have hzhn5 := hn5.size
  have hqhn5 := hn5.eqb
  refine VL_store (b := b5) (o := 0) (vs := [.int .u8 0, .slice none 0 0]) (by kernel_rfl) (by kernel_rfl) ho5 (Nat.le_of_ble_eq_true (by kernel_rfl)) ?_
  intro w8 hw1
  replace hS := Step.transNew hS hw1.step (fun _ _ _ => by omega)
  replace ho1 := ho1.step hw1.step (show ¬ b1 = b5 by omega)
  replace ho2 := ho2.step hw1.step (show ¬ b2 = b5 by omega)
  replace ho3 := ho3.step hw1.step (show ¬ b3 = b5 by omega)
  replace ho4 := ho4.step hw1.step (show ¬ b4 = b5 by omega)
  have ho6 : Own w8 b5 #[.int .u8 0, .slice none 0 0] 40 := Own.cast hw1.own (by kernel_rfl)
  have hzhw1 := hw1.same
  refine VL_pure 8 [4, 5, 6, 7, 9, 10] [(4, .pointer (some ⟨b1, 0, none⟩)), (5, .pointer (some ⟨b2, 0, none⟩)), (6, .pointer (some ⟨b3, 0, none⟩)), (7, .pointer (some ⟨b4, 0, none⟩)), (9, .pointer (some ⟨b5, 0, none⟩)), (10, .int .i64 (rightC k p e h b t))] (by kernel_rfl) rfl ?_
  refine VL_end (by kernel_rfl) ?_
  refine VQ_next ?_
  refine VC_seq ?_
  refine VC_region ?_
  refine VL_load (d := 25) (t := 45) (a := ⟨b2, 0, none⟩) (v := .agg #[.int .i64 k', .int .i64 p', .int .i64 e', .int .i64 h', .int .i64 b', .int .i64 t']) (by kernel_rfl) (by kernel_rfl) (Loads.ownL ho2 (n := 6) (by kernel_rfl) (by kernel_rfl) (by kernel_rfl)) ?_
  have hzs8 := hS.size
  have hzl19 := ho1.lt
  have hzl20 := ho2.lt
  have hzl21 := ho3.lt
  have hzl22 := ho4.lt
  have hzl23 := ho6.lt
  refine VL_call (d := 26) (f := 18) (by kernel_rfl) (by kernel_rfl) (by kernel_rfl) Try.call18 (trafU_any k' p' e' h' b' t' _) ?_
  rintro _ w9 ⟨⟨ui1, uA1, un1, uc1, rfl⟩, hc3⟩
  replace hS := Step.trans hS hc3
  replace ho1 := ho1.no hc3
  replace ho2 := ho2.no hc3
  replace ho3 := ho3.no hc3
  replace ho4 := ho4.no hc3
  replace ho6 := ho6.no hc3
  refine VL_pure 5 [4, 5, 6, 7, 9, 10, 27, 28] [(4, .pointer (some ⟨b1, 0, none⟩)), (5, .pointer (some ⟨b2, 0, none⟩)), (6, .pointer (some ⟨b3, 0, none⟩)), (7, .pointer (some ⟨b4, 0, none⟩)), (9, .pointer (some ⟨b5, 0, none⟩)), (10, .int .i64 (rightC k p e h b t)), (27, .agg #[.int .u8 ui1, .slice uA1 un1 uc1]), (28, .int .i64 (rightC k' p' e' h' b' t'))] (by kernel_rfl) rfl ?_
  have hzs9 := hS.size
  have hzl24 := ho1.lt
  have hzl25 := ho2.lt
  have hzl26 := ho3.lt
  have hzl27 := ho4.lt
  have hzl28 := ho6.lt
  refine VL_box (d := 11) (t := 40) (c := #[.int .u8 0, .slice none 0 0]) (by kernel_rfl) (by kernel_rfl) ?_
  intro b6 w10 hn6
  replace hS := Step.trans hS (hn6.step No)
  replace ho1 := ho1.no (hn6.step No)
  replace ho2 := ho2.no (hn6.step No)
  replace ho3 := ho3.no (hn6.step No)
  replace ho4 := ho4.no (hn6.step No)
  replace ho6 := ho6.no (hn6.step No)
  have ho7 := hn6.own
  have hzhn6 := hn6.size
  have hqhn6 := hn6.eqb
  refine VL_store (b := b6) (o := 0) (vs := [.int .u8 ui1, .slice uA1 un1 uc1]) (by kernel_rfl) (by kernel_rfl) ho7 (Nat.le_of_ble_eq_true (by kernel_rfl)) ?_
  intro w11 hw2
  replace hS := Step.transNew hS hw2.step (fun _ _ _ => by omega)
  replace ho1 := ho1.step hw2.step (show ¬ b1 = b6 by omega)
  replace ho2 := ho2.step hw2.step (show ¬ b2 = b6 by omega)
  replace ho3 := ho3.step hw2.step (show ¬ b3 = b6 by omega)
  replace ho4 := ho4.step hw2.step (show ¬ b4 = b6 by omega)
  replace ho6 := ho6.step hw2.step (show ¬ b5 = b6 by omega)
  have ho8 : Own w11 b6 #[.int .u8 ui1, .slice uA1 un1 uc1] 40 := Own.cast hw2.own (by kernel_rfl)
  have hzhw2 := hw2.same
  refine VL_pure 8 [4, 5, 6, 7, 9, 10, 11, 12] [(4, .pointer (some ⟨b1, 0, none⟩)), (5, .pointer (some ⟨b2, 0, none⟩)), (6, .pointer (some ⟨b3, 0, none⟩)), (7, .pointer (some ⟨b4, 0, none⟩)), (9, .pointer (some ⟨b5, 0, none⟩)), (10, .int .i64 (rightC k p e h b t)), (11, .pointer (some ⟨b6, 0, none⟩)), (12, .int .i64 (rightC k' p' e' h' b' t'))] (by kernel_rfl) rfl ?_
  refine VL_end (by kernel_rfl) ?_
  refine VQ_next ?_
  refine VC_seq ?_
  refine VC_seq ?_
  have hs1 := drew_step w11
  have hs1z : w11.heap.size = w11.drew.heap.size := rfl
  refine VC_text [[], [0], [0, 1], [0, 1, 2], [0, 1, 2, 3], [0, 1, 2, 3, 4], [0, 1, 2, 3, 4, 5], [0, 1, 2, 3, 4, 5, 6], [0, 1, 2, 3, 4, 5, 6, 7], [0, 1, 2, 3, 4, 5, 6], [0, 1, 2, 3, 4, 5, 6, 9], [0, 1, 2, 3, 4, 5, 6, 7, 8, 9, 10], [0, 1, 2, 3, 4, 5, 6], [0, 1, 2, 3, 4, 5, 6], [0, 1, 2, 3, 4, 5, 6, 12, 13], [0, 1, 2, 3, 4, 5, 6, 7, 8, 9, 10, 11, 12, 13, 14], [0, 1, 2, 3, 4, 5, 6, 7, 8, 9, 10, 11, 12, 13, 14, 15]] 15 (fun x y => Step (fun k => w11.heap.size ≤ k) x y) [] [0, 1, 2, 3, 4, 5, 6, 7, 8, 9, 10, 11, 12, 13, 14] (by kernel_rfl) (by kernel_rfl) (by kernel_rfl) (by kernel_rfl) (fun x => Step.refl _ x) (fun h k => Step.trans h k) Step.weak ?_
  have hzs10 := hS.size
  have hzl29 := ho1.lt
  have hzl30 := ho2.lt
  have hzl31 := ho3.lt
  have hzl32 := ho4.lt
  have hzl33 := ho6.lt
  have hzl34 := ho8.lt
  generalize w11.drew = w12 at hs1 hs1z ⊢
  replace hS := Step.trans hS hs1
  replace ho1 := ho1.no hs1
  replace ho2 := ho2.no hs1
  replace ho3 := ho3.no hs1
  replace ho4 := ho4.no hs1
  replace ho6 := ho6.no hs1
  replace ho8 := ho8.no hs1
  refine VT_pures 3 (kn' := [(2, .bool ((rightC k p e h b t) == 0)), (1, .bool ((rightC k p e h b t) == 0)), (0, .int .i64 (rightC k p e h b t))]) (by kernel_rfl) ?_
  have hg1 : ((rightC k p e h b t) == 0) = false := (by first | (rw [hr]; rfl) | simpa using hr)
  refine VT_eq [(2, .bool false), (1, .bool false), (0, .int .i64 (rightC k p e h b t))] (by simp only [hg1, Bool.not_true, Bool.not_false]) ?_
  refine VT_pures 12 (kn' := [(14, undef), (13, undef), (12, undef), (11, undef), (10, undef), (9, undef), (8, undef), (7, undef), (6, .bool false), (5, .bool false), (4, undef), (3, undef), (2, .bool false), (1, .bool false), (0, .int .i64 (rightC k p e h b t))]) (by kernel_rfl) ?_
  refine VT_end ?_
  intro w13 hs2
  replace hS := Step.trans hS hs2
  replace ho1 := ho1.no hs2
  replace ho2 := ho2.no hs2
  replace ho3 := ho3.no hs2
  replace ho4 := ho4.no hs2
  replace ho6 := ho6.no hs2
  replace ho8 := ho8.no hs2
  refine VL_keep [6, 7, 35, 40, 43] [(6, .pointer (some ⟨b3, 0, none⟩)), (7, .pointer (some ⟨b4, 0, none⟩)), (35, .bool false), (40, undef), (43, undef)] (by kernel_rfl) ?_
  refine VL_pure 17 [6, 7, 45] [(6, .pointer (some ⟨b3, 0, none⟩)), (7, .pointer (some ⟨b4, 0, none⟩)), (45, .bool false)] (by kernel_rfl) rfl ?_
  refine VL_end (by kernel_rfl) ?_
  refine VQ_next ?_
  refine VC_false (by kernel_rfl) ?_
  refine VC_skip ?_
  refine VQ_next ?_
  refine VC_seq ?_
  refine VC_region ?_
  refine VL_load (d := 47) (t := 47) (a := ⟨b3, 0, none⟩) (v := .agg #[.int .i64 ((kp : Nat) : Int), .int .i64 ((kv : Nat) : Int), .int .i64 ((kc : Nat) : Int)]) (by kernel_rfl) (by kernel_rfl) (Loads.ownL ho3 (n := 3) (by kernel_rfl) (by kernel_rfl) (by kernel_rfl)) ?_
  have hzs11 := hS.size
  have hzl35 := ho1.lt
  have hzl36 := ho2.lt
  have hzl37 := ho3.lt
  have hzl38 := ho4.lt
  have hzl39 := ho6.lt
  have hzl40 := ho8.lt
  refine VL_call (d := 48) (f := 19) (by kernel_rfl) (by kernel_rfl) (by kernel_rfl) Try.call19 (key_yes kp kv kc _ hk) ?_
  rintro _ w14 ⟨A1, c1, rfl, hr1, hc4⟩
  replace hS := Step.trans hS hc4
  replace ho1 := ho1.no hc4
  replace ho2 := ho2.no hc4
  replace ho3 := ho3.no hc4
  replace ho4 := ho4.no hc4
  replace ho6 := ho6.no hc4
  replace ho8 := ho8.no hc4
  obtain ⟨base1, hbase1E⟩ : ∃ x, x = w13.heap.size := ⟨_, rfl⟩
  rw [← hbase1E] at hr1
  have hbase1 : base1 ≤ w14.heap.size := by rw [hbase1E]; exact hc4.size
  refine VL_pure 5 [6, 7, 49, 50] [(6, .pointer (some ⟨b3, 0, none⟩)), (7, .pointer (some ⟨b4, 0, none⟩)), (49, .agg #[.int .u8 90, .slice A1 5 c1]), (50, .int .i64 0)] (by kernel_rfl) rfl ?_
  have hzs12 := hS.size
  have hzl41 := ho1.lt
  have hzl42 := ho2.lt
  have hzl43 := ho3.lt
  have hzl44 := ho4.lt
  have hzl45 := ho6.lt
  have hzl46 := ho8.lt
  have hzk1 := hbase1
  have hub1 := hr1.ub
  refine VL_box (d := 13) (t := 40) (c := #[.int .u8 0, .slice none 0 0]) (by kernel_rfl) (by kernel_rfl) ?_
  intro b7 w15 hn7
  replace hS := Step.trans hS (hn7.step No)
  replace ho1 := ho1.no (hn7.step No)
  replace ho2 := ho2.no (hn7.step No)
  replace ho3 := ho3.no (hn7.step No)
  replace ho4 := ho4.no (hn7.step No)
  replace ho6 := ho6.no (hn7.step No)
  replace ho8 := ho8.no (hn7.step No)
  replace hbase1 := Nat.le_trans hbase1 (hn7.step No).size
  replace hr1 := hr1.no (hn7.step No)
  have ho9 := hn7.own
  have hzhn7 := hn7.size
  have hqhn7 := hn7.eqb
  refine VL_store (b := b7) (o := 0) (vs := [.int .u8 90, .slice A1 5 c1]) (by kernel_rfl) (by kernel_rfl) ho9 (Nat.le_of_ble_eq_true (by kernel_rfl)) ?_
  intro w16 hw3
  replace hS := Step.transNew hS hw3.step (fun _ _ _ => by omega)
  replace ho1 := ho1.step hw3.step (show ¬ b1 = b7 by omega)
  replace ho2 := ho2.step hw3.step (show ¬ b2 = b7 by omega)
  replace ho3 := ho3.step hw3.step (show ¬ b3 = b7 by omega)
  replace ho4 := ho4.step hw3.step (show ¬ b4 = b7 by omega)
  replace ho6 := ho6.step hw3.step (show ¬ b5 = b7 by omega)
  replace ho8 := ho8.step hw3.step (show ¬ b6 = b7 by omega)
  replace hbase1 := Nat.le_trans hbase1 (hw3.step).size
  replace hr1 := hr1.stepU hub1 hw3.step (fun k hk1 hk2 (hF : k = b7) => by omega)
  have ho10 : Own w16 b7 #[.int .u8 90, .slice A1 5 c1] 40 := Own.cast hw3.own (by kernel_rfl)
  have hzhw3 := hw3.same
  refine VL_pure 8 [6, 7, 13, 14] [(6, .pointer (some ⟨b3, 0, none⟩)), (7, .pointer (some ⟨b4, 0, none⟩)), (13, .pointer (some ⟨b7, 0, none⟩)), (14, .int .i64 0)] (by kernel_rfl) rfl ?_
  refine VL_end (by kernel_rfl) ?_
  refine VQ_next ?_
  refine VC_seq ?_
  refine VC_region ?_
  refine VL_load (d := 52) (t := 47) (a := ⟨b4, 0, none⟩) (v := .agg #[.int .i64 kp', .int .i64 kv', .int .i64 kc']) (by kernel_rfl) (by kernel_rfl) (Loads.ownL ho4 (n := 3) (by kernel_rfl) (by kernel_rfl) (by kernel_rfl)) ?_
  have hzs13 := hS.size
  have hzl47 := ho1.lt
  have hzl48 := ho2.lt
  have hzl49 := ho3.lt
  have hzl50 := ho4.lt
  have hzl51 := ho6.lt
  have hzl52 := ho8.lt
  have hzl53 := ho10.lt
  refine VL_call (d := 53) (f := 19) (args := #[.agg #[.int .i64 kp', .int .i64 kv', .int .i64 kc']]) (by kernel_rfl) (by kernel_rfl) (by kernel_rfl) Try.call19 (key_no kp' kv' kc' _ hk') ?_
  rintro _ w17 ⟨rfl, hc5⟩
  replace hS := Step.trans hS hc5
  replace ho1 := ho1.no hc5
  replace ho2 := ho2.no hc5
  replace ho3 := ho3.no hc5
  replace ho4 := ho4.no hc5
  replace ho6 := ho6.no hc5
  replace ho8 := ho8.no hc5
  replace hbase1 := Nat.le_trans hbase1 (hc5).size
  replace hr1 := hr1.no hc5
  replace ho10 := ho10.no hc5
  refine VL_pure 5 [6, 7, 13, 14, 54, 55] [(6, .pointer (some ⟨b3, 0, none⟩)), (7, .pointer (some ⟨b4, 0, none⟩)), (13, .pointer (some ⟨b7, 0, none⟩)), (14, .int .i64 0), (54, .agg #[.int .u8 0, .slice none 0 0]), (55, .int .i64 1)] (by kernel_rfl) rfl ?_
  have hzs14 := hS.size
  have hzl54 := ho1.lt
  have hzl55 := ho2.lt
  have hzl56 := ho3.lt
  have hzl57 := ho4.lt
  have hzl58 := ho6.lt
  have hzl59 := ho8.lt
  have hzk2 := hbase1
  have hzl60 := ho10.lt
  refine VL_box (d := 15) (t := 40) (c := #[.int .u8 0, .slice none 0 0]) (by kernel_rfl) (by kernel_rfl) ?_
  intro b8 w18 hn8
  replace hS := Step.trans hS (hn8.step No)
  replace ho1 := ho1.no (hn8.step No)
  replace ho2 := ho2.no (hn8.step No)
  replace ho3 := ho3.no (hn8.step No)
  replace ho4 := ho4.no (hn8.step No)
  replace ho6 := ho6.no (hn8.step No)
  replace ho8 := ho8.no (hn8.step No)
  replace hbase1 := Nat.le_trans hbase1 (hn8.step No).size
  replace hr1 := hr1.no (hn8.step No)
  replace ho10 := ho10.no (hn8.step No)
  have ho11 := hn8.own
  have hzhn8 := hn8.size
  have hqhn8 := hn8.eqb
  refine VL_store (b := b8) (o := 0) (vs := [.int .u8 0, .slice none 0 0]) (by kernel_rfl) (by kernel_rfl) ho11 (Nat.le_of_ble_eq_true (by kernel_rfl)) ?_
  intro w19 hw4
  replace hS := Step.transNew hS hw4.step (fun _ _ _ => by omega)
  replace ho1 := ho1.step hw4.step (show ¬ b1 = b8 by omega)
  replace ho2 := ho2.step hw4.step (show ¬ b2 = b8 by omega)
  replace ho3 := ho3.step hw4.step (show ¬ b3 = b8 by omega)
  replace ho4 := ho4.step hw4.step (show ¬ b4 = b8 by omega)
  replace ho6 := ho6.step hw4.step (show ¬ b5 = b8 by omega)
  replace ho8 := ho8.step hw4.step (show ¬ b6 = b8 by omega)
  replace hbase1 := Nat.le_trans hbase1 (hw4.step).size
  replace hr1 := hr1.stepU hub1 hw4.step (fun k hk1 hk2 (hF : k = b8) => by omega)
  replace ho10 := ho10.step hw4.step (show ¬ b7 = b8 by omega)
  have ho12 : Own w19 b8 #[.int .u8 0, .slice none 0 0] 40 := Own.cast hw4.own (by kernel_rfl)
  have hzhw4 := hw4.same
  refine VL_pure 8 [6, 7, 13, 14, 15, 16] [(6, .pointer (some ⟨b3, 0, none⟩)), (7, .pointer (some ⟨b4, 0, none⟩)), (13, .pointer (some ⟨b7, 0, none⟩)), (14, .int .i64 0), (15, .pointer (some ⟨b8, 0, none⟩)), (16, .int .i64 1)] (by kernel_rfl) rfl ?_
  refine VL_end (by kernel_rfl) ?_
  refine VQ_next ?_
  refine VC_seq ?_
  have hs3 := drew_step w19
  have hs3z : w19.heap.size = w19.drew.heap.size := rfl
  refine VC_text [[], [0], [0, 1], [0, 1, 2], [0, 1, 2, 3], [0, 1, 2, 3, 4], [0, 1, 2, 3, 4, 5], [0, 1, 2, 3, 4, 5, 6], [0, 1, 2, 3, 4, 5, 6, 7], [0, 1, 2, 3, 4, 5, 6], [0, 1, 2, 3, 4, 5, 6, 9], [0, 1, 2, 3, 4, 5, 6, 7, 8, 9, 10], [0, 1, 2, 3, 4, 5, 6], [0, 1, 2, 3, 4, 5, 6], [0, 1, 2, 3, 4, 5, 6, 12, 13], [0, 1, 2, 3, 4, 5, 6, 7, 8, 9, 10, 11, 12, 13, 14], [0, 1, 2, 3, 4, 5, 6, 7, 8, 9, 10, 11, 12, 13, 14, 15], [0, 1, 2, 3, 4, 5, 6, 7, 8, 9, 10, 11, 12, 13, 14, 15, 16]] 15 (fun x y => Step (fun k => w19.heap.size ≤ k) x y) [] [0, 1, 2, 3, 4, 5, 6, 7, 8, 9, 10, 11, 12, 13, 14] (by kernel_rfl) (by kernel_rfl) (by kernel_rfl) (by kernel_rfl) (fun x => Step.refl _ x) (fun h k => Step.trans h k) Step.weak ?_
  have hzs15 := hS.size
  have hzl61 := ho1.lt
  have hzl62 := ho2.lt
  have hzl63 := ho3.lt
  have hzl64 := ho4.lt
  have hzl65 := ho6.lt
  have hzl66 := ho8.lt
  have hzl67 := ho10.lt
  have hzl68 := ho12.lt
  generalize w19.drew = w20 at hs3 hs3z ⊢
  replace hS := Step.trans hS hs3
  replace ho1 := ho1.no hs3
  replace ho2 := ho2.no hs3
  replace ho3 := ho3.no hs3
  replace ho4 := ho4.no hs3
  replace ho6 := ho6.no hs3
  replace ho8 := ho8.no hs3
  replace hbase1 := Nat.le_trans hbase1 (hs3).size
  replace hr1 := hr1.no hs3
  replace ho10 := ho10.no hs3
  replace ho12 := ho12.no hs3
  refine VT_pures 15 (kn' := [(14, undef), (13, undef), (12, undef), (11, undef), (10, undef), (9, undef), (8, undef), (7, undef), (6, .bool true), (5, .bool true), (4, .bool true), (3, .int .i64 1), (2, .bool false), (1, .bool false), (0, .int .i64 0)]) (by kernel_rfl) ?_
  refine VT_end ?_
  intro w21 hs4
  replace hS := Step.trans hS hs4
  replace ho1 := ho1.no hs4
  replace ho2 := ho2.no hs4
  replace ho3 := ho3.no hs4
  replace ho4 := ho4.no hs4
  replace ho6 := ho6.no hs4
  replace ho8 := ho8.no hs4
  replace hbase1 := Nat.le_trans hbase1 (hs4).size
  replace hr1 := hr1.no hs4
  replace ho10 := ho10.no hs4
  replace ho12 := ho12.no hs4
  refine VL_keep [62, 67, 70] [(62, .bool true), (67, undef), (70, undef)] (by kernel_rfl) ?_
  refine VL_pure 18 [8] [(8, .bool true)] (by kernel_rfl) rfl ?_
  refine VL_end (by kernel_rfl) ?_
  refine VQ_next ?_
  refine VC_ret ?_
  refine VQ_ret1 (.bool true) (.inr rfl) rfl rfl ?_
  exact ⟨by first | rfl | (congr 1; rw [key_iff hk hk']; simp), hS⟩

set_option maxRecDepth 100000 in
set_option maxHeartbeats 4000000 in
theorem apart_nU_nU (k p e h b t : Int) (k' p' e' h' b' t' : Int) (kp kv kc : Int) (kp' kv' kc' : Int) (w : World) (hr : rightC k p e h b t ≠ 0) (hk : rightK kp kv kc = false)  :
    CV Try.prog 6 #[.agg #[.int .i64 k, .int .i64 p, .int .i64 e, .int .i64 h, .int .i64 b, .int .i64 t], .agg #[.int .i64 k', .int .i64 p', .int .i64 e', .int .i64 h', .int .i64 b', .int .i64 t'], .agg #[.int .i64 kp, .int .i64 kv, .int .i64 kc], .agg #[.int .i64 kp', .int .i64 kv', .int .i64 kc']] w (fun x w1 => x = .bool true ∧ Step No w w1) := by
  have hS : Step No w w := Step.refl _ _
  refine CV_enter Try.f6 _ 73 [(0, .agg #[.int .i64 k, .int .i64 p, .int .i64 e, .int .i64 h, .int .i64 b, .int .i64 t]), (1, .agg #[.int .i64 k', .int .i64 p', .int .i64 e', .int .i64 h', .int .i64 b', .int .i64 t']), (2, .agg #[.int .i64 kp, .int .i64 kv, .int .i64 kc]), (3, .agg #[.int .i64 kp', .int .i64 kv', .int .i64 kc'])] Try.func6 rfl rfl (by kernel_rfl) rfl ?_
  refine VC_seq ?_
  refine VC_region ?_
  have hzs1 := hS.size
  refine VL_box (d := 4) (t := 45) (c := #[.int .i64 k, .int .i64 p, .int .i64 e, .int .i64 h, .int .i64 b, .int .i64 t]) (by kernel_rfl) (by kernel_rfl) ?_
  intro b1 w1 hn1
  replace hS := Step.trans hS (hn1.step No)
  have ho1 := hn1.own
  have hzhn1 := hn1.size
  have hqhn1 := hn1.eqb
  have hzs2 := hS.size
  have hzl1 := ho1.lt
  refine VL_box (d := 5) (t := 45) (c := #[.int .i64 k', .int .i64 p', .int .i64 e', .int .i64 h', .int .i64 b', .int .i64 t']) (by kernel_rfl) (by kernel_rfl) ?_
  intro b2 w2 hn2
  replace hS := Step.trans hS (hn2.step No)
  replace ho1 := ho1.no (hn2.step No)
  have ho2 := hn2.own
  have hzhn2 := hn2.size
  have hqhn2 := hn2.eqb
  have hzs3 := hS.size
  have hzl2 := ho1.lt
  have hzl3 := ho2.lt
  refine VL_box (d := 6) (t := 47) (c := #[.int .i64 kp, .int .i64 kv, .int .i64 kc]) (by kernel_rfl) (by kernel_rfl) ?_
  intro b3 w3 hn3
  replace hS := Step.trans hS (hn3.step No)
  replace ho1 := ho1.no (hn3.step No)
  replace ho2 := ho2.no (hn3.step No)
  have ho3 := hn3.own
  have hzhn3 := hn3.size
  have hqhn3 := hn3.eqb
  have hzs4 := hS.size
  have hzl4 := ho1.lt
  have hzl5 := ho2.lt
  have hzl6 := ho3.lt
  refine VL_box (d := 7) (t := 47) (c := #[.int .i64 kp', .int .i64 kv', .int .i64 kc']) (by kernel_rfl) (by kernel_rfl) ?_
  intro b4 w4 hn4
  replace hS := Step.trans hS (hn4.step No)
  replace ho1 := ho1.no (hn4.step No)
  replace ho2 := ho2.no (hn4.step No)
  replace ho3 := ho3.no (hn4.step No)
  have ho4 := hn4.own
  have hzhn4 := hn4.size
  have hqhn4 := hn4.eqb
  refine VL_pure 5 [4, 5, 6, 7] [(4, .pointer (some ⟨b1, 0, none⟩)), (5, .pointer (some ⟨b2, 0, none⟩)), (6, .pointer (some ⟨b3, 0, none⟩)), (7, .pointer (some ⟨b4, 0, none⟩))] (by kernel_rfl) rfl ?_
  refine VL_end (by kernel_rfl) ?_
  refine VQ_next ?_
  refine VC_seq ?_
  refine VC_seq ?_
  refine VC_region ?_
  have hzs5 := hS.size
  have hzl7 := ho1.lt
  have hzl8 := ho2.lt
  have hzl9 := ho3.lt
  have hzl10 := ho4.lt
  refine VL_call (d := 17) (f := 9) (args := #[]) (by kernel_rfl) (by kernel_rfl) (by kernel_rfl) Try.call9 (awake_any _) ?_
  rintro _ w5 ⟨rfl, hc1⟩
  replace hS := Step.trans hS hc1
  replace ho1 := ho1.no hc1
  replace ho2 := ho2.no hc1
  replace ho3 := ho3.no hc1
  replace ho4 := ho4.no hc1
  refine VL_pure 2 [4, 5, 6, 7, 18] [(4, .pointer (some ⟨b1, 0, none⟩)), (5, .pointer (some ⟨b2, 0, none⟩)), (6, .pointer (some ⟨b3, 0, none⟩)), (7, .pointer (some ⟨b4, 0, none⟩)), (18, .bool false)] (by kernel_rfl) rfl ?_
  refine VL_end (by kernel_rfl) ?_
  refine VQ_next ?_
  refine VC_false (by kernel_rfl) ?_
  refine VC_skip ?_
  refine VQ_next ?_
  refine VC_seq ?_
  refine VC_region ?_
  refine VL_load (d := 20) (t := 45) (a := ⟨b1, 0, none⟩) (v := .agg #[.int .i64 k, .int .i64 p, .int .i64 e, .int .i64 h, .int .i64 b, .int .i64 t]) (by kernel_rfl) (by kernel_rfl) (Loads.ownL ho1 (n := 6) (by kernel_rfl) (by kernel_rfl) (by kernel_rfl)) ?_
  have hzs6 := hS.size
  have hzl11 := ho1.lt
  have hzl12 := ho2.lt
  have hzl13 := ho3.lt
  have hzl14 := ho4.lt
  refine VL_call (d := 21) (f := 18) (args := #[.agg #[.int .i64 k, .int .i64 p, .int .i64 e, .int .i64 h, .int .i64 b, .int .i64 t]]) (by kernel_rfl) (by kernel_rfl) (by kernel_rfl) Try.call18 (traffic_no k p e h b t _ hr) ?_
  rintro _ w6 ⟨rfl, hc2⟩
  replace hS := Step.trans hS hc2
  replace ho1 := ho1.no hc2
  replace ho2 := ho2.no hc2
  replace ho3 := ho3.no hc2
  replace ho4 := ho4.no hc2
  refine VL_pure 5 [4, 5, 6, 7, 22, 23] [(4, .pointer (some ⟨b1, 0, none⟩)), (5, .pointer (some ⟨b2, 0, none⟩)), (6, .pointer (some ⟨b3, 0, none⟩)), (7, .pointer (some ⟨b4, 0, none⟩)), (22, .agg #[.int .u8 0, .slice none 0 0]), (23, .int .i64 (rightC k p e h b t))] (by kernel_rfl) rfl ?_
  have hzs7 := hS.size
  have hzl15 := ho1.lt
  have hzl16 := ho2.lt
  have hzl17 := ho3.lt
  have hzl18 := ho4.lt
  refine VL_box (d := 9) (t := 40) (c := #[.int .u8 0, .slice none 0 0]) (by kernel_rfl) (by kernel_rfl) ?_
  intro b5 w7 hn5
  replace hS := Step.trans hS (hn5.step No)
  replace ho1 := ho1.no (hn5.step No)
  replace ho2 := ho2.no (hn5.step No)
  replace ho3 := ho3.no (hn5.step No)
  replace ho4 := ho4.no (hn5.step No)
  have ho5 := hn5.own
  have hzhn5 := hn5.size
  have hqhn5 := hn5.eqb
  refine VL_store (b := b5) (o := 0) (vs := [.int .u8 0, .slice none 0 0]) (by kernel_rfl) (by kernel_rfl) ho5 (Nat.le_of_ble_eq_true (by kernel_rfl)) ?_
  intro w8 hw1
  replace hS := Step.transNew hS hw1.step (fun _ _ _ => by omega)
  replace ho1 := ho1.step hw1.step (show ¬ b1 = b5 by omega)
  replace ho2 := ho2.step hw1.step (show ¬ b2 = b5 by omega)
  replace ho3 := ho3.step hw1.step (show ¬ b3 = b5 by omega)
  replace ho4 := ho4.step hw1.step (show ¬ b4 = b5 by omega)
  have ho6 : Own w8 b5 #[.int .u8 0, .slice none 0 0] 40 := Own.cast hw1.own (by kernel_rfl)
  have hzhw1 := hw1.same
  refine VL_pure 8 [4, 5, 6, 7, 9, 10] [(4, .pointer (some ⟨b1, 0, none⟩)), (5, .pointer (some ⟨b2, 0, none⟩)), (6, .pointer (some ⟨b3, 0, none⟩)), (7, .pointer (some ⟨b4, 0, none⟩)), (9, .pointer (some ⟨b5, 0, none⟩)), (10, .int .i64 (rightC k p e h b t))] (by kernel_rfl) rfl ?_
  refine VL_end (by kernel_rfl) ?_
  refine VQ_next ?_
  refine VC_seq ?_
  refine VC_region ?_
  refine VL_load (d := 25) (t := 45) (a := ⟨b2, 0, none⟩) (v := .agg #[.int .i64 k', .int .i64 p', .int .i64 e', .int .i64 h', .int .i64 b', .int .i64 t']) (by kernel_rfl) (by kernel_rfl) (Loads.ownL ho2 (n := 6) (by kernel_rfl) (by kernel_rfl) (by kernel_rfl)) ?_
  have hzs8 := hS.size
  have hzl19 := ho1.lt
  have hzl20 := ho2.lt
  have hzl21 := ho3.lt
  have hzl22 := ho4.lt
  have hzl23 := ho6.lt
  refine VL_call (d := 26) (f := 18) (by kernel_rfl) (by kernel_rfl) (by kernel_rfl) Try.call18 (trafU_any k' p' e' h' b' t' _) ?_
  rintro _ w9 ⟨⟨ui1, uA1, un1, uc1, rfl⟩, hc3⟩
  replace hS := Step.trans hS hc3
  replace ho1 := ho1.no hc3
  replace ho2 := ho2.no hc3
  replace ho3 := ho3.no hc3
  replace ho4 := ho4.no hc3
  replace ho6 := ho6.no hc3
  refine VL_pure 5 [4, 5, 6, 7, 9, 10, 27, 28] [(4, .pointer (some ⟨b1, 0, none⟩)), (5, .pointer (some ⟨b2, 0, none⟩)), (6, .pointer (some ⟨b3, 0, none⟩)), (7, .pointer (some ⟨b4, 0, none⟩)), (9, .pointer (some ⟨b5, 0, none⟩)), (10, .int .i64 (rightC k p e h b t)), (27, .agg #[.int .u8 ui1, .slice uA1 un1 uc1]), (28, .int .i64 (rightC k' p' e' h' b' t'))] (by kernel_rfl) rfl ?_
  have hzs9 := hS.size
  have hzl24 := ho1.lt
  have hzl25 := ho2.lt
  have hzl26 := ho3.lt
  have hzl27 := ho4.lt
  have hzl28 := ho6.lt
  refine VL_box (d := 11) (t := 40) (c := #[.int .u8 0, .slice none 0 0]) (by kernel_rfl) (by kernel_rfl) ?_
  intro b6 w10 hn6
  replace hS := Step.trans hS (hn6.step No)
  replace ho1 := ho1.no (hn6.step No)
  replace ho2 := ho2.no (hn6.step No)
  replace ho3 := ho3.no (hn6.step No)
  replace ho4 := ho4.no (hn6.step No)
  replace ho6 := ho6.no (hn6.step No)
  have ho7 := hn6.own
  have hzhn6 := hn6.size
  have hqhn6 := hn6.eqb
  refine VL_store (b := b6) (o := 0) (vs := [.int .u8 ui1, .slice uA1 un1 uc1]) (by kernel_rfl) (by kernel_rfl) ho7 (Nat.le_of_ble_eq_true (by kernel_rfl)) ?_
  intro w11 hw2
  replace hS := Step.transNew hS hw2.step (fun _ _ _ => by omega)
  replace ho1 := ho1.step hw2.step (show ¬ b1 = b6 by omega)
  replace ho2 := ho2.step hw2.step (show ¬ b2 = b6 by omega)
  replace ho3 := ho3.step hw2.step (show ¬ b3 = b6 by omega)
  replace ho4 := ho4.step hw2.step (show ¬ b4 = b6 by omega)
  replace ho6 := ho6.step hw2.step (show ¬ b5 = b6 by omega)
  have ho8 : Own w11 b6 #[.int .u8 ui1, .slice uA1 un1 uc1] 40 := Own.cast hw2.own (by kernel_rfl)
  have hzhw2 := hw2.same
  refine VL_pure 8 [4, 5, 6, 7, 9, 10, 11, 12] [(4, .pointer (some ⟨b1, 0, none⟩)), (5, .pointer (some ⟨b2, 0, none⟩)), (6, .pointer (some ⟨b3, 0, none⟩)), (7, .pointer (some ⟨b4, 0, none⟩)), (9, .pointer (some ⟨b5, 0, none⟩)), (10, .int .i64 (rightC k p e h b t)), (11, .pointer (some ⟨b6, 0, none⟩)), (12, .int .i64 (rightC k' p' e' h' b' t'))] (by kernel_rfl) rfl ?_
  refine VL_end (by kernel_rfl) ?_
  refine VQ_next ?_
  refine VC_seq ?_
  refine VC_seq ?_
  have hs1 := drew_step w11
  have hs1z : w11.heap.size = w11.drew.heap.size := rfl
  refine VC_text [[], [0], [0, 1], [0, 1, 2], [0, 1, 2, 3], [0, 1, 2, 3, 4], [0, 1, 2, 3, 4, 5], [0, 1, 2, 3, 4, 5, 6], [0, 1, 2, 3, 4, 5, 6, 7], [0, 1, 2, 3, 4, 5, 6], [0, 1, 2, 3, 4, 5, 6, 9], [0, 1, 2, 3, 4, 5, 6, 7, 8, 9, 10], [0, 1, 2, 3, 4, 5, 6], [0, 1, 2, 3, 4, 5, 6], [0, 1, 2, 3, 4, 5, 6, 12, 13], [0, 1, 2, 3, 4, 5, 6, 7, 8, 9, 10, 11, 12, 13, 14], [0, 1, 2, 3, 4, 5, 6, 7, 8, 9, 10, 11, 12, 13, 14, 15]] 15 (fun x y => Step (fun k => w11.heap.size ≤ k) x y) [] [0, 1, 2, 3, 4, 5, 6, 7, 8, 9, 10, 11, 12, 13, 14] (by kernel_rfl) (by kernel_rfl) (by kernel_rfl) (by kernel_rfl) (fun x => Step.refl _ x) (fun h k => Step.trans h k) Step.weak ?_
  have hzs10 := hS.size
  have hzl29 := ho1.lt
  have hzl30 := ho2.lt
  have hzl31 := ho3.lt
  have hzl32 := ho4.lt
  have hzl33 := ho6.lt
  have hzl34 := ho8.lt
  generalize w11.drew = w12 at hs1 hs1z ⊢
  replace hS := Step.trans hS hs1
  replace ho1 := ho1.no hs1
  replace ho2 := ho2.no hs1
  replace ho3 := ho3.no hs1
  replace ho4 := ho4.no hs1
  replace ho6 := ho6.no hs1
  replace ho8 := ho8.no hs1
  refine VT_pures 3 (kn' := [(2, .bool ((rightC k p e h b t) == 0)), (1, .bool ((rightC k p e h b t) == 0)), (0, .int .i64 (rightC k p e h b t))]) (by kernel_rfl) ?_
  have hg1 : ((rightC k p e h b t) == 0) = false := (by first | (rw [hr]; rfl) | simpa using hr)
  refine VT_eq [(2, .bool false), (1, .bool false), (0, .int .i64 (rightC k p e h b t))] (by simp only [hg1, Bool.not_true, Bool.not_false]) ?_
  refine VT_pures 12 (kn' := [(14, undef), (13, undef), (12, undef), (11, undef), (10, undef), (9, undef), (8, undef), (7, undef), (6, .bool false), (5, .bool false), (4, undef), (3, undef), (2, .bool false), (1, .bool false), (0, .int .i64 (rightC k p e h b t))]) (by kernel_rfl) ?_
  refine VT_end ?_
  intro w13 hs2
  replace hS := Step.trans hS hs2
  replace ho1 := ho1.no hs2
  replace ho2 := ho2.no hs2
  replace ho3 := ho3.no hs2
  replace ho4 := ho4.no hs2
  replace ho6 := ho6.no hs2
  replace ho8 := ho8.no hs2
  refine VL_keep [6, 7, 35, 40, 43] [(6, .pointer (some ⟨b3, 0, none⟩)), (7, .pointer (some ⟨b4, 0, none⟩)), (35, .bool false), (40, undef), (43, undef)] (by kernel_rfl) ?_
  refine VL_pure 17 [6, 7, 45] [(6, .pointer (some ⟨b3, 0, none⟩)), (7, .pointer (some ⟨b4, 0, none⟩)), (45, .bool false)] (by kernel_rfl) rfl ?_
  refine VL_end (by kernel_rfl) ?_
  refine VQ_next ?_
  refine VC_false (by kernel_rfl) ?_
  refine VC_skip ?_
  refine VQ_next ?_
  refine VC_seq ?_
  refine VC_region ?_
  refine VL_load (d := 47) (t := 47) (a := ⟨b3, 0, none⟩) (v := .agg #[.int .i64 kp, .int .i64 kv, .int .i64 kc]) (by kernel_rfl) (by kernel_rfl) (Loads.ownL ho3 (n := 3) (by kernel_rfl) (by kernel_rfl) (by kernel_rfl)) ?_
  have hzs11 := hS.size
  have hzl35 := ho1.lt
  have hzl36 := ho2.lt
  have hzl37 := ho3.lt
  have hzl38 := ho4.lt
  have hzl39 := ho6.lt
  have hzl40 := ho8.lt
  refine VL_call (d := 48) (f := 19) (args := #[.agg #[.int .i64 kp, .int .i64 kv, .int .i64 kc]]) (by kernel_rfl) (by kernel_rfl) (by kernel_rfl) Try.call19 (key_no kp kv kc _ hk) ?_
  rintro _ w14 ⟨rfl, hc4⟩
  replace hS := Step.trans hS hc4
  replace ho1 := ho1.no hc4
  replace ho2 := ho2.no hc4
  replace ho3 := ho3.no hc4
  replace ho4 := ho4.no hc4
  replace ho6 := ho6.no hc4
  replace ho8 := ho8.no hc4
  refine VL_pure 5 [6, 7, 49, 50] [(6, .pointer (some ⟨b3, 0, none⟩)), (7, .pointer (some ⟨b4, 0, none⟩)), (49, .agg #[.int .u8 0, .slice none 0 0]), (50, .int .i64 1)] (by kernel_rfl) rfl ?_
  have hzs12 := hS.size
  have hzl41 := ho1.lt
  have hzl42 := ho2.lt
  have hzl43 := ho3.lt
  have hzl44 := ho4.lt
  have hzl45 := ho6.lt
  have hzl46 := ho8.lt
  refine VL_box (d := 13) (t := 40) (c := #[.int .u8 0, .slice none 0 0]) (by kernel_rfl) (by kernel_rfl) ?_
  intro b7 w15 hn7
  replace hS := Step.trans hS (hn7.step No)
  replace ho1 := ho1.no (hn7.step No)
  replace ho2 := ho2.no (hn7.step No)
  replace ho3 := ho3.no (hn7.step No)
  replace ho4 := ho4.no (hn7.step No)
  replace ho6 := ho6.no (hn7.step No)
  replace ho8 := ho8.no (hn7.step No)
  have ho9 := hn7.own
  have hzhn7 := hn7.size
  have hqhn7 := hn7.eqb
  refine VL_store (b := b7) (o := 0) (vs := [.int .u8 0, .slice none 0 0]) (by kernel_rfl) (by kernel_rfl) ho9 (Nat.le_of_ble_eq_true (by kernel_rfl)) ?_
  intro w16 hw3
  replace hS := Step.transNew hS hw3.step (fun _ _ _ => by omega)
  replace ho1 := ho1.step hw3.step (show ¬ b1 = b7 by omega)
  replace ho2 := ho2.step hw3.step (show ¬ b2 = b7 by omega)
  replace ho3 := ho3.step hw3.step (show ¬ b3 = b7 by omega)
  replace ho4 := ho4.step hw3.step (show ¬ b4 = b7 by omega)
  replace ho6 := ho6.step hw3.step (show ¬ b5 = b7 by omega)
  replace ho8 := ho8.step hw3.step (show ¬ b6 = b7 by omega)
  have ho10 : Own w16 b7 #[.int .u8 0, .slice none 0 0] 40 := Own.cast hw3.own (by kernel_rfl)
  have hzhw3 := hw3.same
  refine VL_pure 8 [6, 7, 13, 14] [(6, .pointer (some ⟨b3, 0, none⟩)), (7, .pointer (some ⟨b4, 0, none⟩)), (13, .pointer (some ⟨b7, 0, none⟩)), (14, .int .i64 1)] (by kernel_rfl) rfl ?_
  refine VL_end (by kernel_rfl) ?_
  refine VQ_next ?_
  refine VC_seq ?_
  refine VC_region ?_
  refine VL_load (d := 52) (t := 47) (a := ⟨b4, 0, none⟩) (v := .agg #[.int .i64 kp', .int .i64 kv', .int .i64 kc']) (by kernel_rfl) (by kernel_rfl) (Loads.ownL ho4 (n := 3) (by kernel_rfl) (by kernel_rfl) (by kernel_rfl)) ?_
  have hzs13 := hS.size
  have hzl47 := ho1.lt
  have hzl48 := ho2.lt
  have hzl49 := ho3.lt
  have hzl50 := ho4.lt
  have hzl51 := ho6.lt
  have hzl52 := ho8.lt
  have hzl53 := ho10.lt
  refine VL_call (d := 53) (f := 19) (by kernel_rfl) (by kernel_rfl) (by kernel_rfl) Try.call19 (keyU_any kp' kv' kc' _) ?_
  rintro _ w17 ⟨⟨ui2, uA2, un2, uc2, rfl⟩, hc5⟩
  replace hS := Step.trans hS hc5
  replace ho1 := ho1.no hc5
  replace ho2 := ho2.no hc5
  replace ho3 := ho3.no hc5
  replace ho4 := ho4.no hc5
  replace ho6 := ho6.no hc5
  replace ho8 := ho8.no hc5
  replace ho10 := ho10.no hc5
  refine VL_pure 5 [6, 7, 13, 14, 54, 55] [(6, .pointer (some ⟨b3, 0, none⟩)), (7, .pointer (some ⟨b4, 0, none⟩)), (13, .pointer (some ⟨b7, 0, none⟩)), (14, .int .i64 1), (54, .agg #[.int .u8 ui2, .slice uA2 un2 uc2]), (55, .int .i64 (keyE kp' kv' kc'))] (by kernel_rfl) rfl ?_
  have hzs14 := hS.size
  have hzl54 := ho1.lt
  have hzl55 := ho2.lt
  have hzl56 := ho3.lt
  have hzl57 := ho4.lt
  have hzl58 := ho6.lt
  have hzl59 := ho8.lt
  have hzl60 := ho10.lt
  refine VL_box (d := 15) (t := 40) (c := #[.int .u8 0, .slice none 0 0]) (by kernel_rfl) (by kernel_rfl) ?_
  intro b8 w18 hn8
  replace hS := Step.trans hS (hn8.step No)
  replace ho1 := ho1.no (hn8.step No)
  replace ho2 := ho2.no (hn8.step No)
  replace ho3 := ho3.no (hn8.step No)
  replace ho4 := ho4.no (hn8.step No)
  replace ho6 := ho6.no (hn8.step No)
  replace ho8 := ho8.no (hn8.step No)
  replace ho10 := ho10.no (hn8.step No)
  have ho11 := hn8.own
  have hzhn8 := hn8.size
  have hqhn8 := hn8.eqb
  refine VL_store (b := b8) (o := 0) (vs := [.int .u8 ui2, .slice uA2 un2 uc2]) (by kernel_rfl) (by kernel_rfl) ho11 (Nat.le_of_ble_eq_true (by kernel_rfl)) ?_
  intro w19 hw4
  replace hS := Step.transNew hS hw4.step (fun _ _ _ => by omega)
  replace ho1 := ho1.step hw4.step (show ¬ b1 = b8 by omega)
  replace ho2 := ho2.step hw4.step (show ¬ b2 = b8 by omega)
  replace ho3 := ho3.step hw4.step (show ¬ b3 = b8 by omega)
  replace ho4 := ho4.step hw4.step (show ¬ b4 = b8 by omega)
  replace ho6 := ho6.step hw4.step (show ¬ b5 = b8 by omega)
  replace ho8 := ho8.step hw4.step (show ¬ b6 = b8 by omega)
  replace ho10 := ho10.step hw4.step (show ¬ b7 = b8 by omega)
  have ho12 : Own w19 b8 #[.int .u8 ui2, .slice uA2 un2 uc2] 40 := Own.cast hw4.own (by kernel_rfl)
  have hzhw4 := hw4.same
  refine VL_pure 8 [6, 7, 13, 14, 15, 16] [(6, .pointer (some ⟨b3, 0, none⟩)), (7, .pointer (some ⟨b4, 0, none⟩)), (13, .pointer (some ⟨b7, 0, none⟩)), (14, .int .i64 1), (15, .pointer (some ⟨b8, 0, none⟩)), (16, .int .i64 (keyE kp' kv' kc'))] (by kernel_rfl) rfl ?_
  refine VL_end (by kernel_rfl) ?_
  refine VQ_next ?_
  refine VC_seq ?_
  have hs3 := drew_step w19
  have hs3z : w19.heap.size = w19.drew.heap.size := rfl
  refine VC_text [[], [0], [0, 1], [0, 1, 2], [0, 1, 2, 3], [0, 1, 2, 3, 4], [0, 1, 2, 3, 4, 5], [0, 1, 2, 3, 4, 5, 6], [0, 1, 2, 3, 4, 5, 6, 7], [0, 1, 2, 3, 4, 5, 6], [0, 1, 2, 3, 4, 5, 6, 9], [0, 1, 2, 3, 4, 5, 6, 7, 8, 9, 10], [0, 1, 2, 3, 4, 5, 6], [0, 1, 2, 3, 4, 5, 6], [0, 1, 2, 3, 4, 5, 6, 12, 13], [0, 1, 2, 3, 4, 5, 6, 7, 8, 9, 10, 11, 12, 13, 14], [0, 1, 2, 3, 4, 5, 6, 7, 8, 9, 10, 11, 12, 13, 14, 15], [0, 1, 2, 3, 4, 5, 6, 7, 8, 9, 10, 11, 12, 13, 14, 15, 16]] 15 (fun x y => Step (fun k => w19.heap.size ≤ k) x y) [] [0, 1, 2, 3, 4, 5, 6, 7, 8, 9, 10, 11, 12, 13, 14] (by kernel_rfl) (by kernel_rfl) (by kernel_rfl) (by kernel_rfl) (fun x => Step.refl _ x) (fun h k => Step.trans h k) Step.weak ?_
  have hzs15 := hS.size
  have hzl61 := ho1.lt
  have hzl62 := ho2.lt
  have hzl63 := ho3.lt
  have hzl64 := ho4.lt
  have hzl65 := ho6.lt
  have hzl66 := ho8.lt
  have hzl67 := ho10.lt
  have hzl68 := ho12.lt
  generalize w19.drew = w20 at hs3 hs3z ⊢
  replace hS := Step.trans hS hs3
  replace ho1 := ho1.no hs3
  replace ho2 := ho2.no hs3
  replace ho3 := ho3.no hs3
  replace ho4 := ho4.no hs3
  replace ho6 := ho6.no hs3
  replace ho8 := ho8.no hs3
  replace ho10 := ho10.no hs3
  replace ho12 := ho12.no hs3
  refine VT_pures 15 (kn' := [(14, undef), (13, undef), (12, undef), (11, undef), (10, undef), (9, undef), (8, undef), (7, undef), (6, .bool true), (5, .bool true), (4, undef), (3, undef), (2, .bool true), (1, .bool true), (0, .int .i64 1)]) (by kernel_rfl) ?_
  refine VT_end ?_
  intro w21 hs4
  replace hS := Step.trans hS hs4
  replace ho1 := ho1.no hs4
  replace ho2 := ho2.no hs4
  replace ho3 := ho3.no hs4
  replace ho4 := ho4.no hs4
  replace ho6 := ho6.no hs4
  replace ho8 := ho8.no hs4
  replace ho10 := ho10.no hs4
  replace ho12 := ho12.no hs4
  refine VL_keep [62, 67, 70] [(62, .bool true), (67, undef), (70, undef)] (by kernel_rfl) ?_
  refine VL_pure 18 [8] [(8, .bool true)] (by kernel_rfl) rfl ?_
  refine VL_end (by kernel_rfl) ?_
  refine VQ_next ?_
  refine VC_ret ?_
  refine VQ_ret1 (.bool true) (.inr rfl) rfl rfl ?_
  exact ⟨by first | rfl | (congr 1; rw [key_iff hk hk']; simp), hS⟩

end Go.Proofs.Ytpfggjaoinfegaa
