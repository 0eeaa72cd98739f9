/- Layer 15: ElementKinds. -/
import Derived.Test.YtpfggjaoinfegaaProg
import Derived.Test.YtpfggjaoinfegaaEl4
import Derived.Test.YtpfggjaoinfegaaEl6
set_option linter.unusedVariables false
set_option linter.unusedSimpArgs false
namespace Go.Proofs.Ytpfggjaoinfegaa
open Go.Vc Go.RowKit

theorem traf_same {k : Int} {p e h b t : Nat} (hr : rightC k p e h b t = 0) : [rtV 89 (trafL k p e h b t) (IntKind.wrap .i64 (List.getD (trafL k p e h b t) 0 0)), rtV 89 (trafL k p e h b t) (fld (trafL k p e h b t) 0), rtV 89 (trafL k p e h b t) (fld (trafL k p e h b t) 1), rtV 89 (trafL k p e h b t) (fld (trafL k p e h b t) 2), rtV 89 (trafL k p e h b t) (fld (trafL k p e h b t) 3), rtV 89 (trafL k p e h b t) (fld (trafL k p e h b t) 4)] = [k, ((p : Nat) : Int), ((e : Nat) : Int), ((h : Nat) : Int), ((b : Nat) : Int), ((t : Nat) : Int)] := by
  obtain ⟨h0, h1, h2, h3, h4, h5, h6⟩ := traf_back hr
  simp only [rtV_0 h0]
  rw [h1, h2, h3, h4, h5, h6]
theorem key_same {p v c : Nat} (hr : rightK p v c = true) : [rkV 90 (keyL p v c) (fk (keyL p v c) 0 1), rkV 90 (keyL p v c) (fk (keyL p v c) 1 2), rkV 90 (keyL p v c) (fk (keyL p v c) 3 2)] = [((p : Nat) : Int), ((v : Nat) : Int), ((c : Nat) : Int)] := by
  obtain ⟨h0, h1, h2, h3⟩ := key_back hr
  simp only [rkV_0 h0]
  rw [h1, h2, h3]
theorem cause_back {m : Nat} (hm : m ≤ 127) : rcE 8 [0, ((m : Nat) : Int)] = 0 ∧ rcV 8 [0, ((m : Nat) : Int)] = ((m : Nat) : Int) := by
  have h : rcE 8 [0, ((m : Nat) : Int)] = 0 := rc_0 rfl rfl rfl (by show ¬ ((m : Nat) : Int) > 127; omega)
  exact ⟨h, by rw [rcV_0 h, show List.getD [0, ((m : Nat) : Int)] 1 0 = ((m : Nat) : Int) from rfl, wrap_i64 _ (by omega) (by omega)]⟩
theorem bytes_cause {m : Nat} (hm : m ≤ 127) : Bytes [0, ((m : Nat) : Int)] := by
  intro x hx; simp only [List.mem_cons, List.mem_nil_iff, or_false] at hx; omega
set_option maxRecDepth 100000 in
set_option maxHeartbeats 4000000 in
theorem kinds_yes_yes (k : Int) (p e h b t : Nat) (kp kv kc : Nat) (m : Nat) (w : World) (hm : m < 256) (hr : rightC k p e h b t = 0) (hk : rightK kp kv kc = true)  :
    CV Try.prog 8 #[.agg #[.int .i64 k, .int .i64 ((p : Nat) : Int), .int .i64 ((e : Nat) : Int), .int .i64 ((h : Nat) : Int), .int .i64 ((b : Nat) : Int), .int .i64 ((t : Nat) : Int)], .agg #[.int .i64 ((kp : Nat) : Int), .int .i64 ((kv : Nat) : Int), .int .i64 ((kc : Nat) : Int)], .int .u8 ((m : Nat) : Int)] w (fun x w1 => x = .bool true ∧ Step No w w1) := by
  have hS : Step No w w := Step.refl _ _
  refine CV_enter Try.f8 _ 126 [(0, .agg #[.int .i64 k, .int .i64 ((p : Nat) : Int), .int .i64 ((e : Nat) : Int), .int .i64 ((h : Nat) : Int), .int .i64 ((b : Nat) : Int), .int .i64 ((t : Nat) : Int)]), (1, .agg #[.int .i64 ((kp : Nat) : Int), .int .i64 ((kv : Nat) : Int), .int .i64 ((kc : Nat) : Int)]), (2, .int .u8 ((m : Nat) : Int))] Try.func8 rfl rfl (by kernel_rfl) rfl ?_
  refine VC_seq ?_
  refine VC_region ?_
  have hzs1 := hS.size
  refine VL_box (d := 3) (t := 45) (c := #[.int .i64 k, .int .i64 ((p : Nat) : Int), .int .i64 ((e : Nat) : Int), .int .i64 ((h : Nat) : Int), .int .i64 ((b : Nat) : Int), .int .i64 ((t : Nat) : Int)]) (by kernel_rfl) (by kernel_rfl) ?_
  intro b1 w1 hn1
  replace hS := Step.trans hS (hn1.step No)
  have ho1 := hn1.own
  have hzhn1 := hn1.size
  have hqhn1 := hn1.eqb
  have hzs2 := hS.size
  have hzl1 := ho1.lt
  refine VL_box (d := 4) (t := 47) (c := #[.int .i64 ((kp : Nat) : Int), .int .i64 ((kv : Nat) : Int), .int .i64 ((kc : Nat) : Int)]) (by kernel_rfl) (by kernel_rfl) ?_
  intro b2 w2 hn2
  replace hS := Step.trans hS (hn2.step No)
  replace ho1 := ho1.no (hn2.step No)
  have ho2 := hn2.own
  have hzhn2 := hn2.size
  have hqhn2 := hn2.eqb
  refine VL_pure 3 [2, 3, 4] [(2, .int .u8 ((m : Nat) : Int)), (3, .pointer (some ⟨b1, 0, none⟩)), (4, .pointer (some ⟨b2, 0, none⟩))] (by kernel_rfl) rfl ?_
  refine VL_end (by kernel_rfl) ?_
  refine VQ_next ?_
  refine VC_seq ?_
  refine VC_seq ?_
  refine VC_region ?_
  have hzs3 := hS.size
  have hzl2 := ho1.lt
  have hzl3 := ho2.lt
  refine VL_call (d := 23) (f := 9) (args := #[]) (by kernel_rfl) (by kernel_rfl) (by kernel_rfl) Try.call9 (awake_any _) ?_
  rintro _ w3 ⟨rfl, hc1⟩
  replace hS := Step.trans hS hc1
  replace ho1 := ho1.no hc1
  replace ho2 := ho2.no hc1
  refine VL_pure 2 [2, 3, 4, 24] [(2, .int .u8 ((m : Nat) : Int)), (3, .pointer (some ⟨b1, 0, none⟩)), (4, .pointer (some ⟨b2, 0, none⟩)), (24, .bool false)] (by kernel_rfl) rfl ?_
  refine VL_end (by kernel_rfl) ?_
  refine VQ_next ?_
  refine VC_false (by kernel_rfl) ?_
  refine VC_skip ?_
  refine VQ_next ?_
  refine VC_seq ?_
  refine VC_region ?_
  refine VL_load (d := 26) (t := 45) (a := ⟨b1, 0, none⟩) (v := .agg #[.int .i64 k, .int .i64 ((p : Nat) : Int), .int .i64 ((e : Nat) : Int), .int .i64 ((h : Nat) : Int), .int .i64 ((b : Nat) : Int), .int .i64 ((t : Nat) : Int)]) (by kernel_rfl) (by kernel_rfl) (Loads.ownL ho1 (n := 6) (by kernel_rfl) (by kernel_rfl) (by kernel_rfl)) ?_
  have hzs4 := hS.size
  have hzl4 := ho1.lt
  have hzl5 := ho2.lt
  refine VL_call (d := 27) (f := 18) (by kernel_rfl) (by kernel_rfl) (by kernel_rfl) Try.call18 (traffic_yes k p e h b t _ hr) ?_
  rintro _ w4 ⟨A1, c1, rfl, hr1, hc2⟩
  replace hS := Step.trans hS hc2
  replace ho1 := ho1.no hc2
  replace ho2 := ho2.no hc2
  obtain ⟨base1, hbase1E⟩ : ∃ x, x = w3.heap.size := ⟨_, rfl⟩
  rw [← hbase1E] at hr1
  have hbase1 : base1 ≤ w4.heap.size := by rw [hbase1E]; exact hc2.size
  refine VL_pure 5 [2, 3, 4, 28, 29] [(2, .int .u8 ((m : Nat) : Int)), (3, .pointer (some ⟨b1, 0, none⟩)), (4, .pointer (some ⟨b2, 0, none⟩)), (28, .agg #[.int .u8 89, .slice A1 31 c1]), (29, .int .i64 0)] (by kernel_rfl) rfl ?_
  have hzs5 := hS.size
  have hzl6 := ho1.lt
  have hzl7 := ho2.lt
  have hzk1 := hbase1
  have hub1 := hr1.ub
  refine VL_box (d := 7) (t := 40) (c := #[.int .u8 0, .slice none 0 0]) (by kernel_rfl) (by kernel_rfl) ?_
  intro b3 w5 hn3
  replace hS := Step.trans hS (hn3.step No)
  replace ho1 := ho1.no (hn3.step No)
  replace ho2 := ho2.no (hn3.step No)
  replace hbase1 := Nat.le_trans hbase1 (hn3.step No).size
  replace hr1 := hr1.no (hn3.step No)
  have ho3 := hn3.own
  have hzhn3 := hn3.size
  have hqhn3 := hn3.eqb
  refine VL_store (b := b3) (o := 0) (vs := [.int .u8 89, .slice A1 31 c1]) (by kernel_rfl) (by kernel_rfl) ho3 (Nat.le_of_ble_eq_true (by kernel_rfl)) ?_
  intro w6 hw1
  replace hS := Step.transNew hS hw1.step (fun _ _ _ => by omega)
  replace ho1 := ho1.step hw1.step (show ¬ b1 = b3 by omega)
  replace ho2 := ho2.step hw1.step (show ¬ b2 = b3 by omega)
  replace hbase1 := Nat.le_trans hbase1 (hw1.step).size
  replace hr1 := hr1.stepU hub1 hw1.step (fun k hk1 hk2 (hF : k = b3) => by omega)
  have ho4 : Own w6 b3 #[.int .u8 89, .slice A1 31 c1] 40 := Own.cast hw1.own (by kernel_rfl)
  have hzhw1 := hw1.same
  refine VL_pure 8 [2, 3, 4, 7, 8] [(2, .int .u8 ((m : Nat) : Int)), (3, .pointer (some ⟨b1, 0, none⟩)), (4, .pointer (some ⟨b2, 0, none⟩)), (7, .pointer (some ⟨b3, 0, none⟩)), (8, .int .i64 0)] (by kernel_rfl) rfl ?_
  refine VL_end (by kernel_rfl) ?_
  refine VQ_next ?_
  refine VC_seq ?_
  refine VC_seq ?_
  refine VC_region ?_
  refine VL_pure 2 [2, 3, 4, 7, 31] [(2, .int .u8 ((m : Nat) : Int)), (3, .pointer (some ⟨b1, 0, none⟩)), (4, .pointer (some ⟨b2, 0, none⟩)), (7, .pointer (some ⟨b3, 0, none⟩)), (31, .bool true)] (by kernel_rfl) rfl ?_
  refine VL_end (by kernel_rfl) ?_
  refine VQ_next ?_
  refine VC_true (by kernel_rfl) ?_
  refine VC_seq ?_
  refine VC_region ?_
  refine VL_load (d := 33) (t := 40) (a := ⟨b3, 0, none⟩) (v := .agg #[.int .u8 89, .slice A1 31 c1]) (by kernel_rfl) (by kernel_rfl) (Loads.ownL ho4 (n := 2) (by kernel_rfl) (by kernel_rfl) (by kernel_rfl)) ?_
  have hzs6 := hS.size
  have hzl8 := ho1.lt
  have hzl9 := ho2.lt
  have hzl10 := ho4.lt
  refine VL_call (d := 34) (f := 21) (by kernel_rfl) (by kernel_rfl) (by kernel_rfl) Try.call21 (rdtraf_any 89 A1 31 c1 _ (trafL k p e h b t) _ (Rw.lenI hr1) (Rw.cap hr1) (Rw.slI hr1) (trafL_bytes _ _ _ _ _ _) (by first | exact Nat.le_refl _ | omega)) ?_
  rintro _ w7 ⟨rfl, hc3⟩
  replace hS := Step.trans hS hc3
  replace ho1 := ho1.no hc3
  replace ho2 := ho2.no hc3
  replace hbase1 := Nat.le_trans hbase1 (hc3).size
  replace hr1 := hr1.no hc3
  replace ho4 := ho4.no hc3
  refine VL_pure 5 [2, 3, 4, 7, 35, 36] [(2, .int .u8 ((m : Nat) : Int)), (3, .pointer (some ⟨b1, 0, none⟩)), (4, .pointer (some ⟨b2, 0, none⟩)), (7, .pointer (some ⟨b3, 0, none⟩)), (35, .agg #[.int .i64 (rtV 89 (trafL k p e h b t) (IntKind.wrap .i64 (List.getD (trafL k p e h b t) 0 0))), .int .i64 (rtV 89 (trafL k p e h b t) (fld (trafL k p e h b t) 0)), .int .i64 (rtV 89 (trafL k p e h b t) (fld (trafL k p e h b t) 1)), .int .i64 (rtV 89 (trafL k p e h b t) (fld (trafL k p e h b t) 2)), .int .i64 (rtV 89 (trafL k p e h b t) (fld (trafL k p e h b t) 3)), .int .i64 (rtV 89 (trafL k p e h b t) (fld (trafL k p e h b t) 4))]), (36, .int .i64 (rtE 89 (trafL k p e h b t)))] (by kernel_rfl) rfl ?_
  have hzs7 := hS.size
  have hzl11 := ho1.lt
  have hzl12 := ho2.lt
  have hzk2 := hbase1
  have hzl13 := ho4.lt
  refine VL_box (d := 9) (t := 45) (c := #[.int .i64 0, .int .i64 0, .int .i64 0, .int .i64 0, .int .i64 0, .int .i64 0]) (by kernel_rfl) (by kernel_rfl) ?_
  intro b4 w8 hn4
  replace hS := Step.trans hS (hn4.step No)
  replace ho1 := ho1.no (hn4.step No)
  replace ho2 := ho2.no (hn4.step No)
  replace hbase1 := Nat.le_trans hbase1 (hn4.step No).size
  replace hr1 := hr1.no (hn4.step No)
  replace ho4 := ho4.no (hn4.step No)
  have ho5 := hn4.own
  have hzhn4 := hn4.size
  have hqhn4 := hn4.eqb
  refine VL_store (b := b4) (o := 0) (vs := [.int .i64 (rtV 89 (trafL k p e h b t) (IntKind.wrap .i64 (List.getD (trafL k p e h b t) 0 0))), .int .i64 (rtV 89 (trafL k p e h b t) (fld (trafL k p e h b t) 0)), .int .i64 (rtV 89 (trafL k p e h b t) (fld (trafL k p e h b t) 1)), .int .i64 (rtV 89 (trafL k p e h b t) (fld (trafL k p e h b t) 2)), .int .i64 (rtV 89 (trafL k p e h b t) (fld (trafL k p e h b t) 3)), .int .i64 (rtV 89 (trafL k p e h b t) (fld (trafL k p e h b t) 4))]) (by kernel_rfl) (by kernel_rfl) ho5 (Nat.le_of_ble_eq_true (by kernel_rfl)) ?_
  intro w9 hw2
  replace hS := Step.transNew hS hw2.step (fun _ _ _ => by omega)
  replace ho1 := ho1.step hw2.step (show ¬ b1 = b4 by omega)
  replace ho2 := ho2.step hw2.step (show ¬ b2 = b4 by omega)
  replace hbase1 := Nat.le_trans hbase1 (hw2.step).size
  replace hr1 := hr1.stepU hub1 hw2.step (fun k hk1 hk2 (hF : k = b4) => by omega)
  replace ho4 := ho4.step hw2.step (show ¬ b3 = b4 by omega)
  have ho6 : Own w9 b4 #[.int .i64 (rtV 89 (trafL k p e h b t) (IntKind.wrap .i64 (List.getD (trafL k p e h b t) 0 0))), .int .i64 (rtV 89 (trafL k p e h b t) (fld (trafL k p e h b t) 0)), .int .i64 (rtV 89 (trafL k p e h b t) (fld (trafL k p e h b t) 1)), .int .i64 (rtV 89 (trafL k p e h b t) (fld (trafL k p e h b t) 2)), .int .i64 (rtV 89 (trafL k p e h b t) (fld (trafL k p e h b t) 3)), .int .i64 (rtV 89 (trafL k p e h b t) (fld (trafL k p e h b t) 4))] 45 := Own.cast hw2.own (by kernel_rfl)
  have hzhw2 := hw2.same
  refine VL_pure 8 [2, 3, 4, 7, 9, 10] [(2, .int .u8 ((m : Nat) : Int)), (3, .pointer (some ⟨b1, 0, none⟩)), (4, .pointer (some ⟨b2, 0, none⟩)), (7, .pointer (some ⟨b3, 0, none⟩)), (9, .pointer (some ⟨b4, 0, none⟩)), (10, .int .i64 (rtE 89 (trafL k p e h b t)))] (by kernel_rfl) rfl ?_
  refine VL_end (by kernel_rfl) ?_
  refine VQ_next ?_
  refine VC_seq ?_
  refine VC_region ?_
  refine VL_load (d := 38) (t := 40) (a := ⟨b3, 0, none⟩) (v := .agg #[.int .u8 89, .slice A1 31 c1]) (by kernel_rfl) (by kernel_rfl) (Loads.ownL ho4 (n := 2) (by kernel_rfl) (by kernel_rfl) (by kernel_rfl)) ?_
  have hzs8 := hS.size
  have hzl14 := ho1.lt
  have hzl15 := ho2.lt
  have hzl16 := ho4.lt
  have hzl17 := ho6.lt
  refine VL_call (d := 39) (f := 23) (by kernel_rfl) (by kernel_rfl) (by kernel_rfl) Try.call23 (rdkey_any 89 A1 31 c1 _ (trafL k p e h b t) _ (Rw.lenI hr1) (Rw.cap hr1) (Rw.slI hr1) (trafL_bytes _ _ _ _ _ _) (by first | exact Nat.le_refl _ | omega)) ?_
  rintro _ w10 ⟨rfl, hc4⟩
  replace hS := Step.trans hS hc4
  replace ho1 := ho1.no hc4
  replace ho2 := ho2.no hc4
  replace hbase1 := Nat.le_trans hbase1 (hc4).size
  replace hr1 := hr1.no hc4
  replace ho4 := ho4.no hc4
  replace ho6 := ho6.no hc4
  refine VL_pure 5 [2, 3, 4, 7, 9, 10, 40, 41] [(2, .int .u8 ((m : Nat) : Int)), (3, .pointer (some ⟨b1, 0, none⟩)), (4, .pointer (some ⟨b2, 0, none⟩)), (7, .pointer (some ⟨b3, 0, none⟩)), (9, .pointer (some ⟨b4, 0, none⟩)), (10, .int .i64 (rtE 89 (trafL k p e h b t))), (40, .agg #[.int .i64 (rkV 89 (trafL k p e h b t) (fk (trafL k p e h b t) 0 1)), .int .i64 (rkV 89 (trafL k p e h b t) (fk (trafL k p e h b t) 1 2)), .int .i64 (rkV 89 (trafL k p e h b t) (fk (trafL k p e h b t) 3 2))]), (41, .int .i64 (rkE 89 (trafL k p e h b t)))] (by kernel_rfl) rfl ?_
  have hzs9 := hS.size
  have hzl18 := ho1.lt
  have hzl19 := ho2.lt
  have hzk3 := hbase1
  have hzl20 := ho4.lt
  have hzl21 := ho6.lt
  refine VL_box (d := 11) (t := 47) (c := #[.int .i64 0, .int .i64 0, .int .i64 0]) (by kernel_rfl) (by kernel_rfl) ?_
  intro b5 w11 hn5
  replace hS := Step.trans hS (hn5.step No)
  replace ho1 := ho1.no (hn5.step No)
  replace ho2 := ho2.no (hn5.step No)
  replace hbase1 := Nat.le_trans hbase1 (hn5.step No).size
  replace hr1 := hr1.no (hn5.step No)
  replace ho4 := ho4.no (hn5.step No)
  replace ho6 := ho6.no (hn5.step No)
  have ho7 := hn5.own
  have hzhn5 := hn5.size
  have hqhn5 := hn5.eqb
  refine VL_store (b := b5) (o := 0) (vs := [.int .i64 (rkV 89 (trafL k p e h b t) (fk (trafL k p e h b t) 0 1)), .int .i64 (rkV 89 (trafL k p e h b t) (fk (trafL k p e h b t) 1 2)), .int .i64 (rkV 89 (trafL k p e h b t) (fk (trafL k p e h b t) 3 2))]) (by kernel_rfl) (by kernel_rfl) ho7 (Nat.le_of_ble_eq_true (by kernel_rfl)) ?_
  intro w12 hw3
  replace hS := Step.transNew hS hw3.step (fun _ _ _ => by omega)
  replace ho1 := ho1.step hw3.step (show ¬ b1 = b5 by omega)
  replace ho2 := ho2.step hw3.step (show ¬ b2 = b5 by omega)
  replace hbase1 := Nat.le_trans hbase1 (hw3.step).size
  replace hr1 := hr1.stepU hub1 hw3.step (fun k hk1 hk2 (hF : k = b5) => by omega)
  replace ho4 := ho4.step hw3.step (show ¬ b3 = b5 by omega)
  replace ho6 := ho6.step hw3.step (show ¬ b4 = b5 by omega)
  have ho8 : Own w12 b5 #[.int .i64 (rkV 89 (trafL k p e h b t) (fk (trafL k p e h b t) 0 1)), .int .i64 (rkV 89 (trafL k p e h b t) (fk (trafL k p e h b t) 1 2)), .int .i64 (rkV 89 (trafL k p e h b t) (fk (trafL k p e h b t) 3 2))] 47 := Own.cast hw3.own (by kernel_rfl)
  have hzhw3 := hw3.same
  refine VL_pure 8 [2, 3, 4, 7, 9, 10, 12] [(2, .int .u8 ((m : Nat) : Int)), (3, .pointer (some ⟨b1, 0, none⟩)), (4, .pointer (some ⟨b2, 0, none⟩)), (7, .pointer (some ⟨b3, 0, none⟩)), (9, .pointer (some ⟨b4, 0, none⟩)), (10, .int .i64 (rtE 89 (trafL k p e h b t))), (12, .int .i64 (rkE 89 (trafL k p e h b t)))] (by kernel_rfl) rfl ?_
  refine VL_end (by kernel_rfl) ?_
  refine VQ_next ?_
  refine VC_seq ?_
  refine VC_region ?_
  refine VL_load (d := 43) (t := 40) (a := ⟨b3, 0, none⟩) (v := .agg #[.int .u8 89, .slice A1 31 c1]) (by kernel_rfl) (by kernel_rfl) (Loads.ownL ho4 (n := 2) (by kernel_rfl) (by kernel_rfl) (by kernel_rfl)) ?_
  have hzs10 := hS.size
  have hzl22 := ho1.lt
  have hzl23 := ho2.lt
  have hzl24 := ho4.lt
  have hzl25 := ho6.lt
  have hzl26 := ho8.lt
  refine VL_call (d := 44) (f := 25) (by kernel_rfl) (by kernel_rfl) (by kernel_rfl) Try.call25 (rdcause_any 89 A1 31 c1 _ (trafL k p e h b t) _ (Rw.lenI hr1) (Rw.cap hr1) (Rw.slI hr1) (trafL_bytes _ _ _ _ _ _) (by first | exact Nat.le_refl _ | omega)) ?_
  rintro _ w13 ⟨rfl, hc5⟩
  replace hS := Step.trans hS hc5
  replace ho1 := ho1.no hc5
  replace ho2 := ho2.no hc5
  replace hbase1 := Nat.le_trans hbase1 (hc5).size
  replace hr1 := hr1.no hc5
  replace ho4 := ho4.no hc5
  replace ho6 := ho6.no hc5
  replace ho8 := ho8.no hc5
  refine VL_pure 7 [2, 3, 4, 7, 9, 10, 12, 14] [(2, .int .u8 ((m : Nat) : Int)), (3, .pointer (some ⟨b1, 0, none⟩)), (4, .pointer (some ⟨b2, 0, none⟩)), (7, .pointer (some ⟨b3, 0, none⟩)), (9, .pointer (some ⟨b4, 0, none⟩)), (10, .int .i64 (rtE 89 (trafL k p e h b t))), (12, .int .i64 (rkE 89 (trafL k p e h b t))), (14, .int .i64 (rcE 89 (trafL k p e h b t)))] (by kernel_rfl) rfl ?_
  refine VL_end (by kernel_rfl) ?_
  refine VQ_next ?_
  refine VC_seq ?_
  refine VC_region ?_
  refine VL_pure 3 [2, 3, 4, 7, 9, 12, 14, 49] [(2, .int .u8 ((m : Nat) : Int)), (3, .pointer (some ⟨b1, 0, none⟩)), (4, .pointer (some ⟨b2, 0, none⟩)), (7, .pointer (some ⟨b3, 0, none⟩)), (9, .pointer (some ⟨b4, 0, none⟩)), (12, .int .i64 (rkE 89 (trafL k p e h b t))), (14, .int .i64 (rcE 89 (trafL k p e h b t))), (49, .bool ((rtE 89 (trafL k p e h b t)) != 0))] (by kernel_rfl) rfl ?_
  refine VL_known ((rtE 89 (trafL k p e h b t)) != 0) (fun bV => [(2, .int .u8 ((m : Nat) : Int)), (3, .pointer (some ⟨b1, 0, none⟩)), (4, .pointer (some ⟨b2, 0, none⟩)), (7, .pointer (some ⟨b3, 0, none⟩)), (9, .pointer (some ⟨b4, 0, none⟩)), (12, .int .i64 (rkE 89 (trafL k p e h b t))), (14, .int .i64 (rcE 89 (trafL k p e h b t))), (49, .bool bV)]) false rfl (by rw [(traf_back hr).1]; rfl) ?_
  refine VL_load (d := 50) (t := 45) (a := ⟨b4, 0, none⟩) (v := .agg #[.int .i64 (rtV 89 (trafL k p e h b t) (IntKind.wrap .i64 (List.getD (trafL k p e h b t) 0 0))), .int .i64 (rtV 89 (trafL k p e h b t) (fld (trafL k p e h b t) 0)), .int .i64 (rtV 89 (trafL k p e h b t) (fld (trafL k p e h b t) 1)), .int .i64 (rtV 89 (trafL k p e h b t) (fld (trafL k p e h b t) 2)), .int .i64 (rtV 89 (trafL k p e h b t) (fld (trafL k p e h b t) 3)), .int .i64 (rtV 89 (trafL k p e h b t) (fld (trafL k p e h b t) 4))]) (by kernel_rfl) (by kernel_rfl) (Loads.ownL ho6 (n := 6) (by kernel_rfl) (by kernel_rfl) (by kernel_rfl)) ?_
  refine VL_load (d := 51) (t := 45) (a := ⟨b1, 0, none⟩) (v := .agg #[.int .i64 k, .int .i64 ((p : Nat) : Int), .int .i64 ((e : Nat) : Int), .int .i64 ((h : Nat) : Int), .int .i64 ((b : Nat) : Int), .int .i64 ((t : Nat) : Int)]) (by kernel_rfl) (by kernel_rfl) (Loads.ownL ho1 (n := 6) (by kernel_rfl) (by kernel_rfl) (by kernel_rfl)) ?_
  refine VL_agEq (d := 52) (dd := 9) (ls := ([.int .i64] ++ [.int .i64] ++ [.int .i64] ++ [.int .i64] ++ [.int .i64] ++ [.int .i64] ++ [])) (pos := false) (t := 45) (xs := #[.int .i64 (rtV 89 (trafL k p e h b t) (IntKind.wrap .i64 (List.getD (trafL k p e h b t) 0 0))), .int .i64 (rtV 89 (trafL k p e h b t) (fld (trafL k p e h b t) 0)), .int .i64 (rtV 89 (trafL k p e h b t) (fld (trafL k p e h b t) 1)), .int .i64 (rtV 89 (trafL k p e h b t) (fld (trafL k p e h b t) 2)), .int .i64 (rtV 89 (trafL k p e h b t) (fld (trafL k p e h b t) 3)), .int .i64 (rtV 89 (trafL k p e h b t) (fld (trafL k p e h b t) 4))]) (ys := #[.int .i64 k, .int .i64 ((p : Nat) : Int), .int .i64 ((e : Nat) : Int), .int .i64 ((h : Nat) : Int), .int .i64 ((b : Nat) : Int), .int .i64 ((t : Nat) : Int)]) (by kernel_rfl) (by kernel_rfl) (by kernel_rfl) (by kernel_rfl) (by first | exact ⟨⟨_, rfl⟩, ⟨_, rfl⟩, ⟨_, rfl⟩, ⟨_, rfl⟩, ⟨_, rfl⟩, ⟨_, rfl⟩, trivial⟩ | trivial) (by first | exact ⟨⟨_, rfl⟩, ⟨_, rfl⟩, ⟨_, rfl⟩, ⟨_, rfl⟩, ⟨_, rfl⟩, ⟨_, rfl⟩, trivial⟩ | trivial) (!(([rtV 89 (trafL k p e h b t) (IntKind.wrap .i64 (List.getD (trafL k p e h b t) 0 0)), rtV 89 (trafL k p e h b t) (fld (trafL k p e h b t) 0), rtV 89 (trafL k p e h b t) (fld (trafL k p e h b t) 1), rtV 89 (trafL k p e h b t) (fld (trafL k p e h b t) 2), rtV 89 (trafL k p e h b t) (fld (trafL k p e h b t) 3), rtV 89 (trafL k p e h b t) (fld (trafL k p e h b t) 4)] : List Int) == [k, ((p : Nat) : Int), ((e : Nat) : Int), ((h : Nat) : Int), ((b : Nat) : Int), ((t : Nat) : Int)])) (iA_eq (k := .i64) (xs := [rtV 89 (trafL k p e h b t) (IntKind.wrap .i64 (List.getD (trafL k p e h b t) 0 0)), rtV 89 (trafL k p e h b t) (fld (trafL k p e h b t) 0), rtV 89 (trafL k p e h b t) (fld (trafL k p e h b t) 1), rtV 89 (trafL k p e h b t) (fld (trafL k p e h b t) 2), rtV 89 (trafL k p e h b t) (fld (trafL k p e h b t) 3), rtV 89 (trafL k p e h b t) (fld (trafL k p e h b t) 4)]) (bs := [k, ((p : Nat) : Int), ((e : Nat) : Int), ((h : Nat) : Int), ((b : Nat) : Int), ((t : Nat) : Int)]) false) ?_
  refine VL_pure 8 [2, 3, 4, 7, 12, 14, 54] [(2, .int .u8 ((m : Nat) : Int)), (3, .pointer (some ⟨b1, 0, none⟩)), (4, .pointer (some ⟨b2, 0, none⟩)), (7, .pointer (some ⟨b3, 0, none⟩)), (12, .int .i64 (rkE 89 (trafL k p e h b t))), (14, .int .i64 (rcE 89 (trafL k p e h b t))), (54, .bool (!(([rtV 89 (trafL k p e h b t) (IntKind.wrap .i64 (List.getD (trafL k p e h b t) 0 0)), rtV 89 (trafL k p e h b t) (fld (trafL k p e h b t) 0), rtV 89 (trafL k p e h b t) (fld (trafL k p e h b t) 1), rtV 89 (trafL k p e h b t) (fld (trafL k p e h b t) 2), rtV 89 (trafL k p e h b t) (fld (trafL k p e h b t) 3), rtV 89 (trafL k p e h b t) (fld (trafL k p e h b t) 4)] : List Int) == [k, ((p : Nat) : Int), ((e : Nat) : Int), ((h : Nat) : Int), ((b : Nat) : Int), ((t : Nat) : Int)])))] (by kernel_rfl) rfl ?_
  refine VL_known (!(([rtV 89 (trafL k p e h b t) (IntKind.wrap .i64 (List.getD (trafL k p e h b t) 0 0)), rtV 89 (trafL k p e h b t) (fld (trafL k p e h b t) 0), rtV 89 (trafL k p e h b t) (fld (trafL k p e h b t) 1), rtV 89 (trafL k p e h b t) (fld (trafL k p e h b t) 2), rtV 89 (trafL k p e h b t) (fld (trafL k p e h b t) 3), rtV 89 (trafL k p e h b t) (fld (trafL k p e h b t) 4)] : List Int) == [k, ((p : Nat) : Int), ((e : Nat) : Int), ((h : Nat) : Int), ((b : Nat) : Int), ((t : Nat) : Int)])) (fun bV => [(2, .int .u8 ((m : Nat) : Int)), (3, .pointer (some ⟨b1, 0, none⟩)), (4, .pointer (some ⟨b2, 0, none⟩)), (7, .pointer (some ⟨b3, 0, none⟩)), (12, .int .i64 (rkE 89 (trafL k p e h b t))), (14, .int .i64 (rcE 89 (trafL k p e h b t))), (54, .bool bV)]) false rfl (by rw [traf_same hr]; simp) ?_
  refine VL_pure 12 [2, 3, 4, 7, 14, 58] [(2, .int .u8 ((m : Nat) : Int)), (3, .pointer (some ⟨b1, 0, none⟩)), (4, .pointer (some ⟨b2, 0, none⟩)), (7, .pointer (some ⟨b3, 0, none⟩)), (14, .int .i64 (rcE 89 (trafL k p e h b t))), (58, .bool ((rkE 89 (trafL k p e h b t)) != 12))] (by kernel_rfl) rfl ?_
  refine VL_known ((rkE 89 (trafL k p e h b t)) != 12) (fun bV => [(2, .int .u8 ((m : Nat) : Int)), (3, .pointer (some ⟨b1, 0, none⟩)), (4, .pointer (some ⟨b2, 0, none⟩)), (7, .pointer (some ⟨b3, 0, none⟩)), (14, .int .i64 (rcE 89 (trafL k p e h b t))), (58, .bool bV)]) false rfl (by rw [rk_12 (by decide)]; rfl) ?_
  refine VL_pure 15 [2, 3, 4, 7, 61] [(2, .int .u8 ((m : Nat) : Int)), (3, .pointer (some ⟨b1, 0, none⟩)), (4, .pointer (some ⟨b2, 0, none⟩)), (7, .pointer (some ⟨b3, 0, none⟩)), (61, .bool ((rcE 89 (trafL k p e h b t)) != 12))] (by kernel_rfl) rfl ?_
  refine VL_end (by kernel_rfl) ?_
  refine VQ_next ?_
  refine VC_is (b := (rcE 89 (trafL k p e h b t)) != 12) false (by kernel_rfl) (by rw [rc_12 (by decide)]; rfl) ?_
  refine VC_ite_false ?_
  refine VC_skip ?_
  refine VQ_next ?_
  refine VC_seq ?_
  refine VC_region ?_
  refine VL_load (d := 63) (t := 47) (a := ⟨b2, 0, none⟩) (v := .agg #[.int .i64 ((kp : Nat) : Int), .int .i64 ((kv : Nat) : Int), .int .i64 ((kc : Nat) : Int)]) (by kernel_rfl) (by kernel_rfl) (Loads.ownL ho2 (n := 3) (by kernel_rfl) (by kernel_rfl) (by kernel_rfl)) ?_
  have hzs11 := hS.size
  have hzl27 := ho1.lt
  have hzl28 := ho2.lt
  have hzl29 := ho4.lt
  have hzl30 := ho6.lt
  have hzl31 := ho8.lt
  refine VL_call (d := 64) (f := 19) (by kernel_rfl) (by kernel_rfl) (by kernel_rfl) Try.call19 (key_yes kp kv kc _ hk) ?_
  rintro _ w14 ⟨A2, c2, rfl, hr2, hc6⟩
  replace hS := Step.trans hS hc6
  replace ho1 := ho1.no hc6
  replace ho2 := ho2.no hc6
  replace hbase1 := Nat.le_trans hbase1 (hc6).size
  replace hr1 := hr1.no hc6
  replace ho4 := ho4.no hc6
  replace ho6 := ho6.no hc6
  replace ho8 := ho8.no hc6
  obtain ⟨base2, hbase2E⟩ : ∃ x, x = w13.heap.size := ⟨_, rfl⟩
  rw [← hbase2E] at hr2
  have hbase2 : base2 ≤ w14.heap.size := by rw [hbase2E]; exact hc6.size
  refine VL_pure 5 [2, 3, 4, 7, 65, 66] [(2, .int .u8 ((m : Nat) : Int)), (3, .pointer (some ⟨b1, 0, none⟩)), (4, .pointer (some ⟨b2, 0, none⟩)), (7, .pointer (some ⟨b3, 0, none⟩)), (65, .agg #[.int .u8 90, .slice A2 5 c2]), (66, .int .i64 0)] (by kernel_rfl) rfl ?_
  have hzs12 := hS.size
  have hzl32 := ho1.lt
  have hzl33 := ho2.lt
  have hzk4 := hbase1
  have hzl34 := ho4.lt
  have hzl35 := ho6.lt
  have hzl36 := ho8.lt
  have hzk5 := hbase2
  have hub2 := hr2.ub
  refine VL_box (d := 15) (t := 40) (c := #[.int .u8 0, .slice none 0 0]) (by kernel_rfl) (by kernel_rfl) ?_
  intro b6 w15 hn6
  replace hS := Step.trans hS (hn6.step No)
  replace ho1 := ho1.no (hn6.step No)
  replace ho2 := ho2.no (hn6.step No)
  replace hbase1 := Nat.le_trans hbase1 (hn6.step No).size
  replace hr1 := hr1.no (hn6.step No)
  replace ho4 := ho4.no (hn6.step No)
  replace ho6 := ho6.no (hn6.step No)
  replace ho8 := ho8.no (hn6.step No)
  replace hbase2 := Nat.le_trans hbase2 (hn6.step No).size
  replace hr2 := hr2.no (hn6.step No)
  have ho9 := hn6.own
  have hzhn6 := hn6.size
  have hqhn6 := hn6.eqb
  refine VL_store (b := b6) (o := 0) (vs := [.int .u8 90, .slice A2 5 c2]) (by kernel_rfl) (by kernel_rfl) ho9 (Nat.le_of_ble_eq_true (by kernel_rfl)) ?_
  intro w16 hw4
  replace hS := Step.transNew hS hw4.step (fun _ _ _ => by omega)
  replace ho1 := ho1.step hw4.step (show ¬ b1 = b6 by omega)
  replace ho2 := ho2.step hw4.step (show ¬ b2 = b6 by omega)
  replace hbase1 := Nat.le_trans hbase1 (hw4.step).size
  replace hr1 := hr1.stepU hub1 hw4.step (fun k hk1 hk2 (hF : k = b6) => by omega)
  replace ho4 := ho4.step hw4.step (show ¬ b3 = b6 by omega)
  replace ho6 := ho6.step hw4.step (show ¬ b4 = b6 by omega)
  replace ho8 := ho8.step hw4.step (show ¬ b5 = b6 by omega)
  replace hbase2 := Nat.le_trans hbase2 (hw4.step).size
  replace hr2 := hr2.stepU hub2 hw4.step (fun k hk1 hk2 (hF : k = b6) => by omega)
  have ho10 : Own w16 b6 #[.int .u8 90, .slice A2 5 c2] 40 := Own.cast hw4.own (by kernel_rfl)
  have hzhw4 := hw4.same
  refine VL_pure 8 [2, 3, 4, 7, 15, 8] [(2, .int .u8 ((m : Nat) : Int)), (3, .pointer (some ⟨b1, 0, none⟩)), (4, .pointer (some ⟨b2, 0, none⟩)), (7, .pointer (some ⟨b3, 0, none⟩)), (15, .pointer (some ⟨b6, 0, none⟩)), (8, .int .i64 0)] (by kernel_rfl) rfl ?_
  refine VL_end (by kernel_rfl) ?_
  refine VQ_next ?_
  refine VC_seq ?_
  refine VC_seq ?_
  refine VC_region ?_
  refine VL_pure 2 [2, 3, 4, 7, 15, 68] [(2, .int .u8 ((m : Nat) : Int)), (3, .pointer (some ⟨b1, 0, none⟩)), (4, .pointer (some ⟨b2, 0, none⟩)), (7, .pointer (some ⟨b3, 0, none⟩)), (15, .pointer (some ⟨b6, 0, none⟩)), (68, .bool true)] (by kernel_rfl) rfl ?_
  refine VL_end (by kernel_rfl) ?_
  refine VQ_next ?_
  refine VC_true (by kernel_rfl) ?_
  refine VC_seq ?_
  refine VC_region ?_
  refine VL_load (d := 70) (t := 40) (a := ⟨b6, 0, none⟩) (v := .agg #[.int .u8 90, .slice A2 5 c2]) (by kernel_rfl) (by kernel_rfl) (Loads.ownL ho10 (n := 2) (by kernel_rfl) (by kernel_rfl) (by kernel_rfl)) ?_
  have hzs13 := hS.size
  have hzl37 := ho1.lt
  have hzl38 := ho2.lt
  have hzl39 := ho4.lt
  have hzl40 := ho6.lt
  have hzl41 := ho8.lt
  have hzl42 := ho10.lt
  refine VL_call (d := 71) (f := 23) (by kernel_rfl) (by kernel_rfl) (by kernel_rfl) Try.call23 (rdkey_any 90 A2 5 c2 _ (keyL kp kv kc) _ (Rw.lenI hr2) (Rw.cap hr2) (Rw.slI hr2) (keyL_bytes _ _ _) (by first | exact Nat.le_refl _ | omega)) ?_
  rintro _ w17 ⟨rfl, hc7⟩
  replace hS := Step.trans hS hc7
  replace ho1 := ho1.no hc7
  replace ho2 := ho2.no hc7
  replace hbase1 := Nat.le_trans hbase1 (hc7).size
  replace hr1 := hr1.no hc7
  replace ho4 := ho4.no hc7
  replace ho6 := ho6.no hc7
  replace ho8 := ho8.no hc7
  replace hbase2 := Nat.le_trans hbase2 (hc7).size
  replace hr2 := hr2.no hc7
  replace ho10 := ho10.no hc7
  refine VL_pure 5 [2, 3, 4, 7, 15, 72, 73] [(2, .int .u8 ((m : Nat) : Int)), (3, .pointer (some ⟨b1, 0, none⟩)), (4, .pointer (some ⟨b2, 0, none⟩)), (7, .pointer (some ⟨b3, 0, none⟩)), (15, .pointer (some ⟨b6, 0, none⟩)), (72, .agg #[.int .i64 (rkV 90 (keyL kp kv kc) (fk (keyL kp kv kc) 0 1)), .int .i64 (rkV 90 (keyL kp kv kc) (fk (keyL kp kv kc) 1 2)), .int .i64 (rkV 90 (keyL kp kv kc) (fk (keyL kp kv kc) 3 2))]), (73, .int .i64 (rkE 90 (keyL kp kv kc)))] (by kernel_rfl) rfl ?_
  have hzs14 := hS.size
  have hzl43 := ho1.lt
  have hzl44 := ho2.lt
  have hzk6 := hbase1
  have hzl45 := ho4.lt
  have hzl46 := ho6.lt
  have hzl47 := ho8.lt
  have hzk7 := hbase2
  have hzl48 := ho10.lt
  refine VL_box (d := 16) (t := 47) (c := #[.int .i64 0, .int .i64 0, .int .i64 0]) (by kernel_rfl) (by kernel_rfl) ?_
  intro b7 w18 hn7
  replace hS := Step.trans hS (hn7.step No)
  replace ho1 := ho1.no (hn7.step No)
  replace ho2 := ho2.no (hn7.step No)
  replace hbase1 := Nat.le_trans hbase1 (hn7.step No).size
  replace hr1 := hr1.no (hn7.step No)
  replace ho4 := ho4.no (hn7.step No)
  replace ho6 := ho6.no (hn7.step No)
  replace ho8 := ho8.no (hn7.step No)
  replace hbase2 := Nat.le_trans hbase2 (hn7.step No).size
  replace hr2 := hr2.no (hn7.step No)
  replace ho10 := ho10.no (hn7.step No)
  have ho11 := hn7.own
  have hzhn7 := hn7.size
  have hqhn7 := hn7.eqb
  refine VL_store (b := b7) (o := 0) (vs := [.int .i64 (rkV 90 (keyL kp kv kc) (fk (keyL kp kv kc) 0 1)), .int .i64 (rkV 90 (keyL kp kv kc) (fk (keyL kp kv kc) 1 2)), .int .i64 (rkV 90 (keyL kp kv kc) (fk (keyL kp kv kc) 3 2))]) (by kernel_rfl) (by kernel_rfl) ho11 (Nat.le_of_ble_eq_true (by kernel_rfl)) ?_
  intro w19 hw5
  replace hS := Step.transNew hS hw5.step (fun _ _ _ => by omega)
  replace ho1 := ho1.step hw5.step (show ¬ b1 = b7 by omega)
  replace ho2 := ho2.step hw5.step (show ¬ b2 = b7 by omega)
  replace hbase1 := Nat.le_trans hbase1 (hw5.step).size
  replace hr1 := hr1.stepU hub1 hw5.step (fun k hk1 hk2 (hF : k = b7) => by omega)
  replace ho4 := ho4.step hw5.step (show ¬ b3 = b7 by omega)
  replace ho6 := ho6.step hw5.step (show ¬ b4 = b7 by omega)
  replace ho8 := ho8.step hw5.step (show ¬ b5 = b7 by omega)
  replace hbase2 := Nat.le_trans hbase2 (hw5.step).size
  replace hr2 := hr2.stepU hub2 hw5.step (fun k hk1 hk2 (hF : k = b7) => by omega)
  replace ho10 := ho10.step hw5.step (show ¬ b6 = b7 by omega)
  have ho12 : Own w19 b7 #[.int .i64 (rkV 90 (keyL kp kv kc) (fk (keyL kp kv kc) 0 1)), .int .i64 (rkV 90 (keyL kp kv kc) (fk (keyL kp kv kc) 1 2)), .int .i64 (rkV 90 (keyL kp kv kc) (fk (keyL kp kv kc) 3 2))] 47 := Own.cast hw5.own (by kernel_rfl)
  have hzhw5 := hw5.same
  refine VL_pure 8 [2, 3, 4, 7, 15, 16, 17] [(2, .int .u8 ((m : Nat) : Int)), (3, .pointer (some ⟨b1, 0, none⟩)), (4, .pointer (some ⟨b2, 0, none⟩)), (7, .pointer (some ⟨b3, 0, none⟩)), (15, .pointer (some ⟨b6, 0, none⟩)), (16, .pointer (some ⟨b7, 0, none⟩)), (17, .int .i64 (rkE 90 (keyL kp kv kc)))] (by kernel_rfl) rfl ?_
  refine VL_end (by kernel_rfl) ?_
  refine VQ_next ?_
  refine VC_seq ?_
  refine VC_region ?_
  refine VL_load (d := 75) (t := 40) (a := ⟨b6, 0, none⟩) (v := .agg #[.int .u8 90, .slice A2 5 c2]) (by kernel_rfl) (by kernel_rfl) (Loads.ownL ho10 (n := 2) (by kernel_rfl) (by kernel_rfl) (by kernel_rfl)) ?_
  have hzs15 := hS.size
  have hzl49 := ho1.lt
  have hzl50 := ho2.lt
  have hzl51 := ho4.lt
  have hzl52 := ho6.lt
  have hzl53 := ho8.lt
  have hzl54 := ho10.lt
  have hzl55 := ho12.lt
  refine VL_call (d := 76) (f := 21) (by kernel_rfl) (by kernel_rfl) (by kernel_rfl) Try.call21 (rdtraf_any 90 A2 5 c2 _ (keyL kp kv kc) _ (Rw.lenI hr2) (Rw.cap hr2) (Rw.slI hr2) (keyL_bytes _ _ _) (by first | exact Nat.le_refl _ | omega)) ?_
  rintro _ w20 ⟨rfl, hc8⟩
  replace hS := Step.trans hS hc8
  replace ho1 := ho1.no hc8
  replace ho2 := ho2.no hc8
  replace hbase1 := Nat.le_trans hbase1 (hc8).size
  replace hr1 := hr1.no hc8
  replace ho4 := ho4.no hc8
  replace ho6 := ho6.no hc8
  replace ho8 := ho8.no hc8
  replace hbase2 := Nat.le_trans hbase2 (hc8).size
  replace hr2 := hr2.no hc8
  replace ho10 := ho10.no hc8
  replace ho12 := ho12.no hc8
  refine VL_pure 5 [2, 3, 4, 7, 16, 17, 77, 78] [(2, .int .u8 ((m : Nat) : Int)), (3, .pointer (some ⟨b1, 0, none⟩)), (4, .pointer (some ⟨b2, 0, none⟩)), (7, .pointer (some ⟨b3, 0, none⟩)), (16, .pointer (some ⟨b7, 0, none⟩)), (17, .int .i64 (rkE 90 (keyL kp kv kc))), (77, .agg #[.int .i64 (rtV 90 (keyL kp kv kc) (IntKind.wrap .i64 (List.getD (keyL kp kv kc) 0 0))), .int .i64 (rtV 90 (keyL kp kv kc) (fld (keyL kp kv kc) 0)), .int .i64 (rtV 90 (keyL kp kv kc) (fld (keyL kp kv kc) 1)), .int .i64 (rtV 90 (keyL kp kv kc) (fld (keyL kp kv kc) 2)), .int .i64 (rtV 90 (keyL kp kv kc) (fld (keyL kp kv kc) 3)), .int .i64 (rtV 90 (keyL kp kv kc) (fld (keyL kp kv kc) 4))]), (78, .int .i64 (rtE 90 (keyL kp kv kc)))] (by kernel_rfl) rfl ?_
  have hzs16 := hS.size
  have hzl56 := ho1.lt
  have hzl57 := ho2.lt
  have hzk8 := hbase1
  have hzl58 := ho4.lt
  have hzl59 := ho6.lt
  have hzl60 := ho8.lt
  have hzk9 := hbase2
  have hzl61 := ho10.lt
  have hzl62 := ho12.lt
  refine VL_box (d := 18) (t := 45) (c := #[.int .i64 0, .int .i64 0, .int .i64 0, .int .i64 0, .int .i64 0, .int .i64 0]) (by kernel_rfl) (by kernel_rfl) ?_
  intro b8 w21 hn8
  replace hS := Step.trans hS (hn8.step No)
  replace ho1 := ho1.no (hn8.step No)
  replace ho2 := ho2.no (hn8.step No)
  replace hbase1 := Nat.le_trans hbase1 (hn8.step No).size
  replace hr1 := hr1.no (hn8.step No)
  replace ho4 := ho4.no (hn8.step No)
  replace ho6 := ho6.no (hn8.step No)
  replace ho8 := ho8.no (hn8.step No)
  replace hbase2 := Nat.le_trans hbase2 (hn8.step No).size
  replace hr2 := hr2.no (hn8.step No)
  replace ho10 := ho10.no (hn8.step No)
  replace ho12 := ho12.no (hn8.step No)
  have ho13 := hn8.own
  have hzhn8 := hn8.size
  have hqhn8 := hn8.eqb
  refine VL_store (b := b8) (o := 0) (vs := [.int .i64 (rtV 90 (keyL kp kv kc) (IntKind.wrap .i64 (List.getD (keyL kp kv kc) 0 0))), .int .i64 (rtV 90 (keyL kp kv kc) (fld (keyL kp kv kc) 0)), .int .i64 (rtV 90 (keyL kp kv kc) (fld (keyL kp kv kc) 1)), .int .i64 (rtV 90 (keyL kp kv kc) (fld (keyL kp kv kc) 2)), .int .i64 (rtV 90 (keyL kp kv kc) (fld (keyL kp kv kc) 3)), .int .i64 (rtV 90 (keyL kp kv kc) (fld (keyL kp kv kc) 4))]) (by kernel_rfl) (by kernel_rfl) ho13 (Nat.le_of_ble_eq_true (by kernel_rfl)) ?_
  intro w22 hw6
  replace hS := Step.transNew hS hw6.step (fun _ _ _ => by omega)
  replace ho1 := ho1.step hw6.step (show ¬ b1 = b8 by omega)
  replace ho2 := ho2.step hw6.step (show ¬ b2 = b8 by omega)
  replace hbase1 := Nat.le_trans hbase1 (hw6.step).size
  replace hr1 := hr1.stepU hub1 hw6.step (fun k hk1 hk2 (hF : k = b8) => by omega)
  replace ho4 := ho4.step hw6.step (show ¬ b3 = b8 by omega)
  replace ho6 := ho6.step hw6.step (show ¬ b4 = b8 by omega)
  replace ho8 := ho8.step hw6.step (show ¬ b5 = b8 by omega)
  replace hbase2 := Nat.le_trans hbase2 (hw6.step).size
  replace hr2 := hr2.stepU hub2 hw6.step (fun k hk1 hk2 (hF : k = b8) => by omega)
  replace ho10 := ho10.step hw6.step (show ¬ b6 = b8 by omega)
  replace ho12 := ho12.step hw6.step (show ¬ b7 = b8 by omega)
  have ho14 : Own w22 b8 #[.int .i64 (rtV 90 (keyL kp kv kc) (IntKind.wrap .i64 (List.getD (keyL kp kv kc) 0 0))), .int .i64 (rtV 90 (keyL kp kv kc) (fld (keyL kp kv kc) 0)), .int .i64 (rtV 90 (keyL kp kv kc) (fld (keyL kp kv kc) 1)), .int .i64 (rtV 90 (keyL kp kv kc) (fld (keyL kp kv kc) 2)), .int .i64 (rtV 90 (keyL kp kv kc) (fld (keyL kp kv kc) 3)), .int .i64 (rtV 90 (keyL kp kv kc) (fld (keyL kp kv kc) 4))] 45 := Own.cast hw6.own (by kernel_rfl)
  have hzhw6 := hw6.same
  refine VL_pure 8 [2, 3, 4, 7, 16, 17, 19] [(2, .int .u8 ((m : Nat) : Int)), (3, .pointer (some ⟨b1, 0, none⟩)), (4, .pointer (some ⟨b2, 0, none⟩)), (7, .pointer (some ⟨b3, 0, none⟩)), (16, .pointer (some ⟨b7, 0, none⟩)), (17, .int .i64 (rkE 90 (keyL kp kv kc))), (19, .int .i64 (rtE 90 (keyL kp kv kc)))] (by kernel_rfl) rfl ?_
  refine VL_end (by kernel_rfl) ?_
  refine VQ_next ?_
  refine VC_seq ?_
  refine VC_region ?_
  refine VL_pure 3 [2, 3, 4, 7, 16, 19, 81] [(2, .int .u8 ((m : Nat) : Int)), (3, .pointer (some ⟨b1, 0, none⟩)), (4, .pointer (some ⟨b2, 0, none⟩)), (7, .pointer (some ⟨b3, 0, none⟩)), (16, .pointer (some ⟨b7, 0, none⟩)), (19, .int .i64 (rtE 90 (keyL kp kv kc))), (81, .bool ((rkE 90 (keyL kp kv kc)) != 0))] (by kernel_rfl) rfl ?_
  refine VL_known ((rkE 90 (keyL kp kv kc)) != 0) (fun bV => [(2, .int .u8 ((m : Nat) : Int)), (3, .pointer (some ⟨b1, 0, none⟩)), (4, .pointer (some ⟨b2, 0, none⟩)), (7, .pointer (some ⟨b3, 0, none⟩)), (16, .pointer (some ⟨b7, 0, none⟩)), (19, .int .i64 (rtE 90 (keyL kp kv kc))), (81, .bool bV)]) false rfl (by rw [(key_back hk).1]; rfl) ?_
  refine VL_load (d := 82) (t := 47) (a := ⟨b7, 0, none⟩) (v := .agg #[.int .i64 (rkV 90 (keyL kp kv kc) (fk (keyL kp kv kc) 0 1)), .int .i64 (rkV 90 (keyL kp kv kc) (fk (keyL kp kv kc) 1 2)), .int .i64 (rkV 90 (keyL kp kv kc) (fk (keyL kp kv kc) 3 2))]) (by kernel_rfl) (by kernel_rfl) (Loads.ownL ho12 (n := 3) (by kernel_rfl) (by kernel_rfl) (by kernel_rfl)) ?_
  refine VL_load (d := 83) (t := 47) (a := ⟨b2, 0, none⟩) (v := .agg #[.int .i64 ((kp : Nat) : Int), .int .i64 ((kv : Nat) : Int), .int .i64 ((kc : Nat) : Int)]) (by kernel_rfl) (by kernel_rfl) (Loads.ownL ho2 (n := 3) (by kernel_rfl) (by kernel_rfl) (by kernel_rfl)) ?_
  refine VL_agEq (d := 84) (dd := 9) (ls := ([.int .i64] ++ [.int .i64] ++ [.int .i64] ++ [])) (pos := false) (t := 47) (xs := #[.int .i64 (rkV 90 (keyL kp kv kc) (fk (keyL kp kv kc) 0 1)), .int .i64 (rkV 90 (keyL kp kv kc) (fk (keyL kp kv kc) 1 2)), .int .i64 (rkV 90 (keyL kp kv kc) (fk (keyL kp kv kc) 3 2))]) (ys := #[.int .i64 ((kp : Nat) : Int), .int .i64 ((kv : Nat) : Int), .int .i64 ((kc : Nat) : Int)]) (by kernel_rfl) (by kernel_rfl) (by kernel_rfl) (by kernel_rfl) (by first | exact ⟨⟨_, rfl⟩, ⟨_, rfl⟩, ⟨_, rfl⟩, trivial⟩ | trivial) (by first | exact ⟨⟨_, rfl⟩, ⟨_, rfl⟩, ⟨_, rfl⟩, trivial⟩ | trivial) (!(([rkV 90 (keyL kp kv kc) (fk (keyL kp kv kc) 0 1), rkV 90 (keyL kp kv kc) (fk (keyL kp kv kc) 1 2), rkV 90 (keyL kp kv kc) (fk (keyL kp kv kc) 3 2)] : List Int) == [((kp : Nat) : Int), ((kv : Nat) : Int), ((kc : Nat) : Int)])) (iA_eq (k := .i64) (xs := [rkV 90 (keyL kp kv kc) (fk (keyL kp kv kc) 0 1), rkV 90 (keyL kp kv kc) (fk (keyL kp kv kc) 1 2), rkV 90 (keyL kp kv kc) (fk (keyL kp kv kc) 3 2)]) (bs := [((kp : Nat) : Int), ((kv : Nat) : Int), ((kc : Nat) : Int)]) false) ?_
  refine VL_pure 8 [2, 3, 7, 19, 86] [(2, .int .u8 ((m : Nat) : Int)), (3, .pointer (some ⟨b1, 0, none⟩)), (7, .pointer (some ⟨b3, 0, none⟩)), (19, .int .i64 (rtE 90 (keyL kp kv kc))), (86, .bool (!(([rkV 90 (keyL kp kv kc) (fk (keyL kp kv kc) 0 1), rkV 90 (keyL kp kv kc) (fk (keyL kp kv kc) 1 2), rkV 90 (keyL kp kv kc) (fk (keyL kp kv kc) 3 2)] : List Int) == [((kp : Nat) : Int), ((kv : Nat) : Int), ((kc : Nat) : Int)])))] (by kernel_rfl) rfl ?_
  refine VL_known (!(([rkV 90 (keyL kp kv kc) (fk (keyL kp kv kc) 0 1), rkV 90 (keyL kp kv kc) (fk (keyL kp kv kc) 1 2), rkV 90 (keyL kp kv kc) (fk (keyL kp kv kc) 3 2)] : List Int) == [((kp : Nat) : Int), ((kv : Nat) : Int), ((kc : Nat) : Int)])) (fun bV => [(2, .int .u8 ((m : Nat) : Int)), (3, .pointer (some ⟨b1, 0, none⟩)), (7, .pointer (some ⟨b3, 0, none⟩)), (19, .int .i64 (rtE 90 (keyL kp kv kc))), (86, .bool bV)]) false rfl (by rw [key_same hk]; simp) ?_
  refine VL_pure 11 [2, 3, 7, 89] [(2, .int .u8 ((m : Nat) : Int)), (3, .pointer (some ⟨b1, 0, none⟩)), (7, .pointer (some ⟨b3, 0, none⟩)), (89, .bool ((rtE 90 (keyL kp kv kc)) != 12))] (by kernel_rfl) rfl ?_
  refine VL_end (by kernel_rfl) ?_
  refine VQ_next ?_
  refine VC_is (b := (rtE 90 (keyL kp kv kc)) != 12) false (by kernel_rfl) (by rw [rt_12 (by decide)]; rfl) ?_
  refine VC_ite_false ?_
  refine VC_skip ?_
  refine VQ_next ?_
  refine VC_seq ?_
  refine VC_region ?_
  refine VL_pure 2 [2, 3, 7, 92] [(2, .int .u8 ((m : Nat) : Int)), (3, .pointer (some ⟨b1, 0, none⟩)), (7, .pointer (some ⟨b3, 0, none⟩)), (92, .int .i64 (IntKind.wrap .i64 ((m : Nat) : Int)))] (by kernel_rfl) rfl ?_
  have he1 : IntKind.wrap .i64 ((m : Nat) : Int) = ((m : Nat) : Int) := (by rw [wrap_i64 _ (by omega) (by omega)])
  refine VL_eq [(2, .int .u8 ((m : Nat) : Int)), (3, .pointer (some ⟨b1, 0, none⟩)), (7, .pointer (some ⟨b3, 0, none⟩)), (92, .int .i64 ((m : Nat) : Int))] (by rw [he1]) ?_
  refine VL_pure 3 [2, 3, 7, 93] [(2, .int .u8 ((m : Nat) : Int)), (3, .pointer (some ⟨b1, 0, none⟩)), (7, .pointer (some ⟨b3, 0, none⟩)), (93, .int .i64 (((m : Nat) : Int).tmod 128))] (by kernel_rfl) rfl ?_
  have he2 : ((m : Nat) : Int).tmod 128 = ((m % 128 : Nat) : Int) := (tmod_nat m 128)
  refine VL_eq [(2, .int .u8 ((m : Nat) : Int)), (3, .pointer (some ⟨b1, 0, none⟩)), (7, .pointer (some ⟨b3, 0, none⟩)), (93, .int .i64 ((m % 128 : Nat) : Int))] (by rw [he2]) ?_
  have hzs17 := hS.size
  have hzl63 := ho1.lt
  have hzl64 := ho2.lt
  have hzl65 := ho4.lt
  have hzl66 := ho6.lt
  have hzl67 := ho8.lt
  have hzl68 := ho10.lt
  have hzl69 := ho12.lt
  have hzl70 := ho14.lt
  refine VL_call (d := 94) (f := 27) (by kernel_rfl) (by kernel_rfl) (by kernel_rfl) Try.call27 (cause_yes (m % 128) _ (by omega)) ?_
  rintro _ w23 ⟨A3, rfl, hr3, hc9⟩
  replace hS := Step.trans hS hc9
  replace ho1 := ho1.no hc9
  replace ho2 := ho2.no hc9
  replace hbase1 := Nat.le_trans hbase1 (hc9).size
  replace hr1 := hr1.no hc9
  replace ho4 := ho4.no hc9
  replace ho6 := ho6.no hc9
  replace ho8 := ho8.no hc9
  replace hbase2 := Nat.le_trans hbase2 (hc9).size
  replace hr2 := hr2.no hc9
  replace ho10 := ho10.no hc9
  replace ho12 := ho12.no hc9
  replace ho14 := ho14.no hc9
  obtain ⟨base3, hbase3E⟩ : ∃ x, x = w22.heap.size := ⟨_, rfl⟩
  rw [← hbase3E] at hr3
  have hbase3 : base3 ≤ w23.heap.size := by rw [hbase3E]; exact hc9.size
  refine VL_pure 7 [2, 3, 7, 95, 96] [(2, .int .u8 ((m : Nat) : Int)), (3, .pointer (some ⟨b1, 0, none⟩)), (7, .pointer (some ⟨b3, 0, none⟩)), (95, .agg #[.int .u8 8, .slice A3 2 2]), (96, .int .i64 0)] (by kernel_rfl) rfl ?_
  have hzs18 := hS.size
  have hzl71 := ho1.lt
  have hzl72 := ho2.lt
  have hzk10 := hbase1
  have hzl73 := ho4.lt
  have hzl74 := ho6.lt
  have hzl75 := ho8.lt
  have hzk11 := hbase2
  have hzl76 := ho10.lt
  have hzl77 := ho12.lt
  have hzl78 := ho14.lt
  have hzk12 := hbase3
  have hub3 := hr3.ub
  refine VL_box (d := 20) (t := 40) (c := #[.int .u8 0, .slice none 0 0]) (by kernel_rfl) (by kernel_rfl) ?_
  intro b9 w24 hn9
  replace hS := Step.trans hS (hn9.step No)
  replace ho1 := ho1.no (hn9.step No)
  replace ho2 := ho2.no (hn9.step No)
  replace hbase1 := Nat.le_trans hbase1 (hn9.step No).size
  replace hr1 := hr1.no (hn9.step No)
  replace ho4 := ho4.no (hn9.step No)
  replace ho6 := ho6.no (hn9.step No)
  replace ho8 := ho8.no (hn9.step No)
  replace hbase2 := Nat.le_trans hbase2 (hn9.step No).size
  replace hr2 := hr2.no (hn9.step No)
  replace ho10 := ho10.no (hn9.step No)
  replace ho12 := ho12.no (hn9.step No)
  replace ho14 := ho14.no (hn9.step No)
  replace hbase3 := Nat.le_trans hbase3 (hn9.step No).size
  replace hr3 := hr3.no (hn9.step No)
  have ho15 := hn9.own
  have hzhn9 := hn9.size
  have hqhn9 := hn9.eqb
  refine VL_store (b := b9) (o := 0) (vs := [.int .u8 8, .slice A3 2 2]) (by kernel_rfl) (by kernel_rfl) ho15 (Nat.le_of_ble_eq_true (by kernel_rfl)) ?_
  intro w25 hw7
  replace hS := Step.transNew hS hw7.step (fun _ _ _ => by omega)
  replace ho1 := ho1.step hw7.step (show ¬ b1 = b9 by omega)
  replace ho2 := ho2.step hw7.step (show ¬ b2 = b9 by omega)
  replace hbase1 := Nat.le_trans hbase1 (hw7.step).size
  replace hr1 := hr1.stepU hub1 hw7.step (fun k hk1 hk2 (hF : k = b9) => by omega)
  replace ho4 := ho4.step hw7.step (show ¬ b3 = b9 by omega)
  replace ho6 := ho6.step hw7.step (show ¬ b4 = b9 by omega)
  replace ho8 := ho8.step hw7.step (show ¬ b5 = b9 by omega)
  replace hbase2 := Nat.le_trans hbase2 (hw7.step).size
  replace hr2 := hr2.stepU hub2 hw7.step (fun k hk1 hk2 (hF : k = b9) => by omega)
  replace ho10 := ho10.step hw7.step (show ¬ b6 = b9 by omega)
  replace ho12 := ho12.step hw7.step (show ¬ b7 = b9 by omega)
  replace ho14 := ho14.step hw7.step (show ¬ b8 = b9 by omega)
  replace hbase3 := Nat.le_trans hbase3 (hw7.step).size
  replace hr3 := hr3.stepU hub3 hw7.step (fun k hk1 hk2 (hF : k = b9) => by omega)
  have ho16 : Own w25 b9 #[.int .u8 8, .slice A3 2 2] 40 := Own.cast hw7.own (by kernel_rfl)
  have hzhw7 := hw7.same
  refine VL_pure 10 [2, 3, 7, 20, 8] [(2, .int .u8 ((m : Nat) : Int)), (3, .pointer (some ⟨b1, 0, none⟩)), (7, .pointer (some ⟨b3, 0, none⟩)), (20, .pointer (some ⟨b9, 0, none⟩)), (8, .int .i64 0)] (by kernel_rfl) rfl ?_
  refine VL_end (by kernel_rfl) ?_
  refine VQ_next ?_
  refine VC_seq ?_
  refine VC_region ?_
  refine VL_load (d := 98) (t := 40) (a := ⟨b9, 0, none⟩) (v := .agg #[.int .u8 8, .slice A3 2 2]) (by kernel_rfl) (by kernel_rfl) (Loads.ownL ho16 (n := 2) (by kernel_rfl) (by kernel_rfl) (by kernel_rfl)) ?_
  have hzs19 := hS.size
  have hzl79 := ho1.lt
  have hzl80 := ho2.lt
  have hzl81 := ho4.lt
  have hzl82 := ho6.lt
  have hzl83 := ho8.lt
  have hzl84 := ho10.lt
  have hzl85 := ho12.lt
  have hzl86 := ho14.lt
  have hzl87 := ho16.lt
  refine VL_call (d := 99) (f := 25) (by kernel_rfl) (by kernel_rfl) (by kernel_rfl) Try.call25 (rdcause_any 8 A3 2 2 _ ([0, ((m % 128 : Nat) : Int)]) _ (Rw.lenI hr3) (Rw.cap hr3) (Rw.slI hr3) (bytes_cause (by omega)) (by first | exact Nat.le_refl _ | omega)) ?_
  rintro _ w26 ⟨rfl, hc10⟩
  replace hS := Step.trans hS hc10
  replace ho1 := ho1.no hc10
  replace ho2 := ho2.no hc10
  replace hbase1 := Nat.le_trans hbase1 (hc10).size
  replace hr1 := hr1.no hc10
  replace ho4 := ho4.no hc10
  replace ho6 := ho6.no hc10
  replace ho8 := ho8.no hc10
  replace hbase2 := Nat.le_trans hbase2 (hc10).size
  replace hr2 := hr2.no hc10
  replace ho10 := ho10.no hc10
  replace ho12 := ho12.no hc10
  replace ho14 := ho14.no hc10
  replace hbase3 := Nat.le_trans hbase3 (hc10).size
  replace hr3 := hr3.no hc10
  replace ho16 := ho16.no hc10
  refine VL_pure 7 [2, 3, 7, 8, 21, 22] [(2, .int .u8 ((m : Nat) : Int)), (3, .pointer (some ⟨b1, 0, none⟩)), (7, .pointer (some ⟨b3, 0, none⟩)), (8, .int .i64 0), (21, .int .i64 (rcV 8 ([0, ((m % 128 : Nat) : Int)]))), (22, .int .i64 (rcE 8 ([0, ((m % 128 : Nat) : Int)])))] (by kernel_rfl) rfl ?_
  refine VL_end (by kernel_rfl) ?_
  refine VQ_next ?_
  refine VC_seq ?_
  refine VC_region ?_
  refine VL_pure 7 [2, 3, 7, 21, 108] [(2, .int .u8 ((m : Nat) : Int)), (3, .pointer (some ⟨b1, 0, none⟩)), (7, .pointer (some ⟨b3, 0, none⟩)), (21, .int .i64 (rcV 8 ([0, ((m % 128 : Nat) : Int)]))), (108, .bool ((rcE 8 ([0, ((m % 128 : Nat) : Int)])) == 0))] (by kernel_rfl) rfl ?_
  refine VL_known ((rcE 8 ([0, ((m % 128 : Nat) : Int)])) == 0) (fun bV => [(2, .int .u8 ((m : Nat) : Int)), (3, .pointer (some ⟨b1, 0, none⟩)), (7, .pointer (some ⟨b3, 0, none⟩)), (21, .int .i64 (rcV 8 ([0, ((m % 128 : Nat) : Int)]))), (108, .bool bV)]) true rfl (by rw [(cause_back (by omega)).1]; rfl) ?_
  refine VL_pure 10 [3, 7, 108, 109, 111] [(3, .pointer (some ⟨b1, 0, none⟩)), (7, .pointer (some ⟨b3, 0, none⟩)), (108, .bool true), (109, .int .i64 (rcV 8 ([0, ((m % 128 : Nat) : Int)]))), (111, .int .i64 (IntKind.wrap .i64 ((m : Nat) : Int)))] (by kernel_rfl) rfl ?_
  have he3 : IntKind.wrap .i64 ((m : Nat) : Int) = ((m : Nat) : Int) := (by rw [wrap_i64 _ (by omega) (by omega)])
  refine VL_eq [(3, .pointer (some ⟨b1, 0, none⟩)), (7, .pointer (some ⟨b3, 0, none⟩)), (108, .bool true), (109, .int .i64 (rcV 8 ([0, ((m % 128 : Nat) : Int)]))), (111, .int .i64 ((m : Nat) : Int))] (by rw [he3]) ?_
  refine VL_pure 11 [3, 7, 108, 109, 112] [(3, .pointer (some ⟨b1, 0, none⟩)), (7, .pointer (some ⟨b3, 0, none⟩)), (108, .bool true), (109, .int .i64 (rcV 8 ([0, ((m % 128 : Nat) : Int)]))), (112, .int .i64 (((m : Nat) : Int).tmod 128))] (by kernel_rfl) rfl ?_
  have he4 : ((m : Nat) : Int).tmod 128 = ((m % 128 : Nat) : Int) := (tmod_nat m 128)
  refine VL_eq [(3, .pointer (some ⟨b1, 0, none⟩)), (7, .pointer (some ⟨b3, 0, none⟩)), (108, .bool true), (109, .int .i64 (rcV 8 ([0, ((m % 128 : Nat) : Int)]))), (112, .int .i64 ((m % 128 : Nat) : Int))] (by rw [he4]) ?_
  refine VL_pure 14 [3, 7, 115] [(3, .pointer (some ⟨b1, 0, none⟩)), (7, .pointer (some ⟨b3, 0, none⟩)), (115, .bool ((rcV 8 ([0, ((m % 128 : Nat) : Int)])) == ((m % 128 : Nat) : Int)))] (by kernel_rfl) rfl ?_
  refine VL_known ((rcV 8 ([0, ((m % 128 : Nat) : Int)])) == ((m % 128 : Nat) : Int)) (fun bV => [(3, .pointer (some ⟨b1, 0, none⟩)), (7, .pointer (some ⟨b3, 0, none⟩)), (115, .bool bV)]) true rfl (by rw [(cause_back (by omega)).2]; simp) ?_
  refine VL_load (d := 116) (t := 45) (a := ⟨b1, 0, none⟩) (v := .agg #[.int .i64 k, .int .i64 ((p : Nat) : Int), .int .i64 ((e : Nat) : Int), .int .i64 ((h : Nat) : Int), .int .i64 ((b : Nat) : Int), .int .i64 ((t : Nat) : Int)]) (by kernel_rfl) (by kernel_rfl) (Loads.ownL ho1 (n := 6) (by kernel_rfl) (by kernel_rfl) (by kernel_rfl)) ?_
  have hzs20 := hS.size
  have hzl88 := ho1.lt
  have hzl89 := ho2.lt
  have hzl90 := ho4.lt
  have hzl91 := ho6.lt
  have hzl92 := ho8.lt
  have hzl93 := ho10.lt
  have hzl94 := ho12.lt
  have hzl95 := ho14.lt
  have hzl96 := ho16.lt
  refine VL_call (d := 117) (f := 29) (args := #[.agg #[.int .i64 k, .int .i64 ((p : Nat) : Int), .int .i64 ((e : Nat) : Int), .int .i64 ((h : Nat) : Int), .int .i64 ((b : Nat) : Int), .int .i64 ((t : Nat) : Int)]]) (by kernel_rfl) (by kernel_rfl) (by kernel_rfl) Try.call29 (rright_any k ((p : Nat) : Int) ((e : Nat) : Int) ((h : Nat) : Int) ((b : Nat) : Int) ((t : Nat) : Int) _) ?_
  rintro _ w27 ⟨rfl, hc11⟩
  replace hS := Step.trans hS hc11
  replace ho1 := ho1.no hc11
  replace ho2 := ho2.no hc11
  replace hbase1 := Nat.le_trans hbase1 (hc11).size
  replace hr1 := hr1.no hc11
  replace ho4 := ho4.no hc11
  replace ho6 := ho6.no hc11
  replace ho8 := ho8.no hc11
  replace hbase2 := Nat.le_trans hbase2 (hc11).size
  replace hr2 := hr2.no hc11
  replace ho10 := ho10.no hc11
  replace ho12 := ho12.no hc11
  replace ho14 := ho14.no hc11
  replace hbase3 := Nat.le_trans hbase3 (hc11).size
  replace hr3 := hr3.no hc11
  replace ho16 := ho16.no hc11
  refine VL_pure 18 [7, 115, 119] [(7, .pointer (some ⟨b3, 0, none⟩)), (115, .bool true), (119, .bool ((rightC k ((p : Nat) : Int) ((e : Nat) : Int) ((h : Nat) : Int) ((b : Nat) : Int) ((t : Nat) : Int)) == 0))] (by kernel_rfl) rfl ?_
  refine VL_known ((rightC k ((p : Nat) : Int) ((e : Nat) : Int) ((h : Nat) : Int) ((b : Nat) : Int) ((t : Nat) : Int)) == 0) (fun bV => [(7, .pointer (some ⟨b3, 0, none⟩)), (115, .bool true), (119, .bool bV)]) true rfl (by first | (rw [hr]; rfl) | simpa using hr) ?_
  refine VL_pure 25 [6] [(6, .bool true)] (by kernel_rfl) rfl ?_
  refine VL_end (by kernel_rfl) ?_
  refine VQ_next ?_
  refine VC_ret ?_
  refine VQ_ret1 (.bool true) (.inr rfl) rfl rfl ?_
  exact ⟨by first | rfl | simp [*], hS⟩

set_option maxRecDepth 100000 in
set_option maxHeartbeats 4000000 in
theorem kinds_yes_no (k : Int) (p e h b t : Nat) (kp kv kc : Int) (m : Nat) (w : World) (hm : m < 256) (hr : rightC k p e h b t = 0) (hk : rightK kp kv kc = false)  :
    CV Try.prog 8 #[.agg #[.int .i64 k, .int .i64 ((p : Nat) : Int), .int .i64 ((e : Nat) : Int), .int .i64 ((h : Nat) : Int), .int .i64 ((b : Nat) : Int), .int .i64 ((t : Nat) : Int)], .agg #[.int .i64 kp, .int .i64 kv, .int .i64 kc], .int .u8 ((m : Nat) : Int)] w (fun x w1 => x = .bool true ∧ Step No w w1) := by
  have hS : Step No w w := Step.refl _ _
  refine CV_enter Try.f8 _ 126 [(0, .agg #[.int .i64 k, .int .i64 ((p : Nat) : Int), .int .i64 ((e : Nat) : Int), .int .i64 ((h : Nat) : Int), .int .i64 ((b : Nat) : Int), .int .i64 ((t : Nat) : Int)]), (1, .agg #[.int .i64 kp, .int .i64 kv, .int .i64 kc]), (2, .int .u8 ((m : Nat) : Int))] Try.func8 rfl rfl (by kernel_rfl) rfl ?_
  refine VC_seq ?_
  refine VC_region ?_
  have hzs1 := hS.size
  refine VL_box (d := 3) (t := 45) (c := #[.int .i64 k, .int .i64 ((p : Nat) : Int), .int .i64 ((e : Nat) : Int), .int .i64 ((h : Nat) : Int), .int .i64 ((b : Nat) : Int), .int .i64 ((t : Nat) : Int)]) (by kernel_rfl) (by kernel_rfl) ?_
  intro b1 w1 hn1
  replace hS := Step.trans hS (hn1.step No)
  have ho1 := hn1.own
  have hzhn1 := hn1.size
  have hqhn1 := hn1.eqb
  have hzs2 := hS.size
  have hzl1 := ho1.lt
  refine VL_box (d := 4) (t := 47) (c := #[.int .i64 kp, .int .i64 kv, .int .i64 kc]) (by kernel_rfl) (by kernel_rfl) ?_
  intro b2 w2 hn2
  replace hS := Step.trans hS (hn2.step No)
  replace ho1 := ho1.no (hn2.step No)
  have ho2 := hn2.own
  have hzhn2 := hn2.size
  have hqhn2 := hn2.eqb
  refine VL_pure 3 [2, 3, 4] [(2, .int .u8 ((m : Nat) : Int)), (3, .pointer (some ⟨b1, 0, none⟩)), (4, .pointer (some ⟨b2, 0, none⟩))] (by kernel_rfl) rfl ?_
  refine VL_end (by kernel_rfl) ?_
  refine VQ_next ?_
  refine VC_seq ?_
  refine VC_seq ?_
  refine VC_region ?_
  have hzs3 := hS.size
  have hzl2 := ho1.lt
  have hzl3 := ho2.lt
  refine VL_call (d := 23) (f := 9) (args := #[]) (by kernel_rfl) (by kernel_rfl) (by kernel_rfl) Try.call9 (awake_any _) ?_
  rintro _ w3 ⟨rfl, hc1⟩
  replace hS := Step.trans hS hc1
  replace ho1 := ho1.no hc1
  replace ho2 := ho2.no hc1
  refine VL_pure 2 [2, 3, 4, 24] [(2, .int .u8 ((m : Nat) : Int)), (3, .pointer (some ⟨b1, 0, none⟩)), (4, .pointer (some ⟨b2, 0, none⟩)), (24, .bool false)] (by kernel_rfl) rfl ?_
  refine VL_end (by kernel_rfl) ?_
  refine VQ_next ?_
  refine VC_false (by kernel_rfl) ?_
  refine VC_skip ?_
  refine VQ_next ?_
  refine VC_seq ?_
  refine VC_region ?_
  refine VL_load (d := 26) (t := 45) (a := ⟨b1, 0, none⟩) (v := .agg #[.int .i64 k, .int .i64 ((p : Nat) : Int), .int .i64 ((e : Nat) : Int), .int .i64 ((h : Nat) : Int), .int .i64 ((b : Nat) : Int), .int .i64 ((t : Nat) : Int)]) (by kernel_rfl) (by kernel_rfl) (Loads.ownL ho1 (n := 6) (by kernel_rfl) (by kernel_rfl) (by kernel_rfl)) ?_
  have hzs4 := hS.size
  have hzl4 := ho1.lt
  have hzl5 := ho2.lt
  refine VL_call (d := 27) (f := 18) (by kernel_rfl) (by kernel_rfl) (by kernel_rfl) Try.call18 (traffic_yes k p e h b t _ hr) ?_
  rintro _ w4 ⟨A1, c1, rfl, hr1, hc2⟩
  replace hS := Step.trans hS hc2
  replace ho1 := ho1.no hc2
  replace ho2 := ho2.no hc2
  obtain ⟨base1, hbase1E⟩ : ∃ x, x = w3.heap.size := ⟨_, rfl⟩
  rw [← hbase1E] at hr1
  have hbase1 : base1 ≤ w4.heap.size := by rw [hbase1E]; exact hc2.size
  refine VL_pure 5 [2, 3, 4, 28, 29] [(2, .int .u8 ((m : Nat) : Int)), (3, .pointer (some ⟨b1, 0, none⟩)), (4, .pointer (some ⟨b2, 0, none⟩)), (28, .agg #[.int .u8 89, .slice A1 31 c1]), (29, .int .i64 0)] (by kernel_rfl) rfl ?_
  have hzs5 := hS.size
  have hzl6 := ho1.lt
  have hzl7 := ho2.lt
  have hzk1 := hbase1
  have hub1 := hr1.ub
  refine VL_box (d := 7) (t := 40) (c := #[.int .u8 0, .slice none 0 0]) (by kernel_rfl) (by kernel_rfl) ?_
  intro b3 w5 hn3
  replace hS := Step.trans hS (hn3.step No)
  replace ho1 := ho1.no (hn3.step No)
  replace ho2 := ho2.no (hn3.step No)
  replace hbase1 := Nat.le_trans hbase1 (hn3.step No).size
  replace hr1 := hr1.no (hn3.step No)
  have ho3 := hn3.own
  have hzhn3 := hn3.size
  have hqhn3 := hn3.eqb
  refine VL_store (b := b3) (o := 0) (vs := [.int .u8 89, .slice A1 31 c1]) (by kernel_rfl) (by kernel_rfl) ho3 (Nat.le_of_ble_eq_true (by kernel_rfl)) ?_
  intro w6 hw1
  replace hS := Step.transNew hS hw1.step (fun _ _ _ => by omega)
  replace ho1 := ho1.step hw1.step (show ¬ b1 = b3 by omega)
  replace ho2 := ho2.step hw1.step (show ¬ b2 = b3 by omega)
  replace hbase1 := Nat.le_trans hbase1 (hw1.step).size
  replace hr1 := hr1.stepU hub1 hw1.step (fun k hk1 hk2 (hF : k = b3) => by omega)
  have ho4 : Own w6 b3 #[.int .u8 89, .slice A1 31 c1] 40 := Own.cast hw1.own (by kernel_rfl)
  have hzhw1 := hw1.same
  refine VL_pure 8 [2, 3, 4, 7, 8] [(2, .int .u8 ((m : Nat) : Int)), (3, .pointer (some ⟨b1, 0, none⟩)), (4, .pointer (some ⟨b2, 0, none⟩)), (7, .pointer (some ⟨b3, 0, none⟩)), (8, .int .i64 0)] (by kernel_rfl) rfl ?_
  refine VL_end (by kernel_rfl) ?_
  refine VQ_next ?_
  refine VC_seq ?_
  refine VC_seq ?_
  refine VC_region ?_
  refine VL_pure 2 [2, 3, 4, 7, 31] [(2, .int .u8 ((m : Nat) : Int)), (3, .pointer (some ⟨b1, 0, none⟩)), (4, .pointer (some ⟨b2, 0, none⟩)), (7, .pointer (some ⟨b3, 0, none⟩)), (31, .bool true)] (by kernel_rfl) rfl ?_
  refine VL_end (by kernel_rfl) ?_
  refine VQ_next ?_
  refine VC_true (by kernel_rfl) ?_
  refine VC_seq ?_
  refine VC_region ?_
  refine VL_load (d := 33) (t := 40) (a := ⟨b3, 0, none⟩) (v := .agg #[.int .u8 89, .slice A1 31 c1]) (by kernel_rfl) (by kernel_rfl) (Loads.ownL ho4 (n := 2) (by kernel_rfl) (by kernel_rfl) (by kernel_rfl)) ?_
  have hzs6 := hS.size
  have hzl8 := ho1.lt
  have hzl9 := ho2.lt
  have hzl10 := ho4.lt
  refine VL_call (d := 34) (f := 21) (by kernel_rfl) (by kernel_rfl) (by kernel_rfl) Try.call21 (rdtraf_any 89 A1 31 c1 _ (trafL k p e h b t) _ (Rw.lenI hr1) (Rw.cap hr1) (Rw.slI hr1) (trafL_bytes _ _ _ _ _ _) (by first | exact Nat.le_refl _ | omega)) ?_
  rintro _ w7 ⟨rfl, hc3⟩
  replace hS := Step.trans hS hc3
  replace ho1 := ho1.no hc3
  replace ho2 := ho2.no hc3
  replace hbase1 := Nat.le_trans hbase1 (hc3).size
  replace hr1 := hr1.no hc3
  replace ho4 := ho4.no hc3
  refine VL_pure 5 [2, 3, 4, 7, 35, 36] [(2, .int .u8 ((m : Nat) : Int)), (3, .pointer (some ⟨b1, 0, none⟩)), (4, .pointer (some ⟨b2, 0, none⟩)), (7, .pointer (some ⟨b3, 0, none⟩)), (35, .agg #[.int .i64 (rtV 89 (trafL k p e h b t) (IntKind.wrap .i64 (List.getD (trafL k p e h b t) 0 0))), .int .i64 (rtV 89 (trafL k p e h b t) (fld (trafL k p e h b t) 0)), .int .i64 (rtV 89 (trafL k p e h b t) (fld (trafL k p e h b t) 1)), .int .i64 (rtV 89 (trafL k p e h b t) (fld (trafL k p e h b t) 2)), .int .i64 (rtV 89 (trafL k p e h b t) (fld (trafL k p e h b t) 3)), .int .i64 (rtV 89 (trafL k p e h b t) (fld (trafL k p e h b t) 4))]), (36, .int .i64 (rtE 89 (trafL k p e h b t)))] (by kernel_rfl) rfl ?_
  have hzs7 := hS.size
  have hzl11 := ho1.lt
  have hzl12 := ho2.lt
  have hzk2 := hbase1
  have hzl13 := ho4.lt
  refine VL_box (d := 9) (t := 45) (c := #[.int .i64 0, .int .i64 0, .int .i64 0, .int .i64 0, .int .i64 0, .int .i64 0]) (by kernel_rfl) (by kernel_rfl) ?_
  intro b4 w8 hn4
  replace hS := Step.trans hS (hn4.step No)
  replace ho1 := ho1.no (hn4.step No)
  replace ho2 := ho2.no (hn4.step No)
  replace hbase1 := Nat.le_trans hbase1 (hn4.step No).size
  replace hr1 := hr1.no (hn4.step No)
  replace ho4 := ho4.no (hn4.step No)
  have ho5 := hn4.own
  have hzhn4 := hn4.size
  have hqhn4 := hn4.eqb
  refine VL_store (b := b4) (o := 0) (vs := [.int .i64 (rtV 89 (trafL k p e h b t) (IntKind.wrap .i64 (List.getD (trafL k p e h b t) 0 0))), .int .i64 (rtV 89 (trafL k p e h b t) (fld (trafL k p e h b t) 0)), .int .i64 (rtV 89 (trafL k p e h b t) (fld (trafL k p e h b t) 1)), .int .i64 (rtV 89 (trafL k p e h b t) (fld (trafL k p e h b t) 2)), .int .i64 (rtV 89 (trafL k p e h b t) (fld (trafL k p e h b t) 3)), .int .i64 (rtV 89 (trafL k p e h b t) (fld (trafL k p e h b t) 4))]) (by kernel_rfl) (by kernel_rfl) ho5 (Nat.le_of_ble_eq_true (by kernel_rfl)) ?_
  intro w9 hw2
  replace hS := Step.transNew hS hw2.step (fun _ _ _ => by omega)
  replace ho1 := ho1.step hw2.step (show ¬ b1 = b4 by omega)
  replace ho2 := ho2.step hw2.step (show ¬ b2 = b4 by omega)
  replace hbase1 := Nat.le_trans hbase1 (hw2.step).size
  replace hr1 := hr1.stepU hub1 hw2.step (fun k hk1 hk2 (hF : k = b4) => by omega)
  replace ho4 := ho4.step hw2.step (show ¬ b3 = b4 by omega)
  have ho6 : Own w9 b4 #[.int .i64 (rtV 89 (trafL k p e h b t) (IntKind.wrap .i64 (List.getD (trafL k p e h b t) 0 0))), .int .i64 (rtV 89 (trafL k p e h b t) (fld (trafL k p e h b t) 0)), .int .i64 (rtV 89 (trafL k p e h b t) (fld (trafL k p e h b t) 1)), .int .i64 (rtV 89 (trafL k p e h b t) (fld (trafL k p e h b t) 2)), .int .i64 (rtV 89 (trafL k p e h b t) (fld (trafL k p e h b t) 3)), .int .i64 (rtV 89 (trafL k p e h b t) (fld (trafL k p e h b t) 4))] 45 := Own.cast hw2.own (by kernel_rfl)
  have hzhw2 := hw2.same
  refine VL_pure 8 [2, 3, 4, 7, 9, 10] [(2, .int .u8 ((m : Nat) : Int)), (3, .pointer (some ⟨b1, 0, none⟩)), (4, .pointer (some ⟨b2, 0, none⟩)), (7, .pointer (some ⟨b3, 0, none⟩)), (9, .pointer (some ⟨b4, 0, none⟩)), (10, .int .i64 (rtE 89 (trafL k p e h b t)))] (by kernel_rfl) rfl ?_
  refine VL_end (by kernel_rfl) ?_
  refine VQ_next ?_
  refine VC_seq ?_
  refine VC_region ?_
  refine VL_load (d := 38) (t := 40) (a := ⟨b3, 0, none⟩) (v := .agg #[.int .u8 89, .slice A1 31 c1]) (by kernel_rfl) (by kernel_rfl) (Loads.ownL ho4 (n := 2) (by kernel_rfl) (by kernel_rfl) (by kernel_rfl)) ?_
  have hzs8 := hS.size
  have hzl14 := ho1.lt
  have hzl15 := ho2.lt
  have hzl16 := ho4.lt
  have hzl17 := ho6.lt
  refine VL_call (d := 39) (f := 23) (by kernel_rfl) (by kernel_rfl) (by kernel_rfl) Try.call23 (rdkey_any 89 A1 31 c1 _ (trafL k p e h b t) _ (Rw.lenI hr1) (Rw.cap hr1) (Rw.slI hr1) (trafL_bytes _ _ _ _ _ _) (by first | exact Nat.le_refl _ | omega)) ?_
  rintro _ w10 ⟨rfl, hc4⟩
  replace hS := Step.trans hS hc4
  replace ho1 := ho1.no hc4
  replace ho2 := ho2.no hc4
  replace hbase1 := Nat.le_trans hbase1 (hc4).size
  replace hr1 := hr1.no hc4
  replace ho4 := ho4.no hc4
  replace ho6 := ho6.no hc4
  refine VL_pure 5 [2, 3, 4, 7, 9, 10, 40, 41] [(2, .int .u8 ((m : Nat) : Int)), (3, .pointer (some ⟨b1, 0, none⟩)), (4, .pointer (some ⟨b2, 0, none⟩)), (7, .pointer (some ⟨b3, 0, none⟩)), (9, .pointer (some ⟨b4, 0, none⟩)), (10, .int .i64 (rtE 89 (trafL k p e h b t))), (40, .agg #[.int .i64 (rkV 89 (trafL k p e h b t) (fk (trafL k p e h b t) 0 1)), .int .i64 (rkV 89 (trafL k p e h b t) (fk (trafL k p e h b t) 1 2)), .int .i64 (rkV 89 (trafL k p e h b t) (fk (trafL k p e h b t) 3 2))]), (41, .int .i64 (rkE 89 (trafL k p e h b t)))] (by kernel_rfl) rfl ?_
  have hzs9 := hS.size
  have hzl18 := ho1.lt
  have hzl19 := ho2.lt
  have hzk3 := hbase1
  have hzl20 := ho4.lt
  have hzl21 := ho6.lt
  refine VL_box (d := 11) (t := 47) (c := #[.int .i64 0, .int .i64 0, .int .i64 0]) (by kernel_rfl) (by kernel_rfl) ?_
  intro b5 w11 hn5
  replace hS := Step.trans hS (hn5.step No)
  replace ho1 := ho1.no (hn5.step No)
  replace ho2 := ho2.no (hn5.step No)
  replace hbase1 := Nat.le_trans hbase1 (hn5.step No).size
  replace hr1 := hr1.no (hn5.step No)
  replace ho4 := ho4.no (hn5.step No)
  replace ho6 := ho6.no (hn5.step No)
  have ho7 := hn5.own
  have hzhn5 := hn5.size
  have hqhn5 := hn5.eqb
  refine VL_store (b := b5) (o := 0) (vs := [.int .i64 (rkV 89 (trafL k p e h b t) (fk (trafL k p e h b t) 0 1)), .int .i64 (rkV 89 (trafL k p e h b t) (fk (trafL k p e h b t) 1 2)), .int .i64 (rkV 89 (trafL k p e h b t) (fk (trafL k p e h b t) 3 2))]) (by kernel_rfl) (by kernel_rfl) ho7 (Nat.le_of_ble_eq_true (by kernel_rfl)) ?_
  intro w12 hw3
  replace hS := Step.transNew hS hw3.step (fun _ _ _ => by omega)
  replace ho1 := ho1.step hw3.step (show ¬ b1 = b5 by omega)
  replace ho2 := ho2.step hw3.step (show ¬ b2 = b5 by omega)
  replace hbase1 := Nat.le_trans hbase1 (hw3.step).size
  replace hr1 := hr1.stepU hub1 hw3.step (fun k hk1 hk2 (hF : k = b5) => by omega)
  replace ho4 := ho4.step hw3.step (show ¬ b3 = b5 by omega)
  replace ho6 := ho6.step hw3.step (show ¬ b4 = b5 by omega)
  have ho8 : Own w12 b5 #[.int .i64 (rkV 89 (trafL k p e h b t) (fk (trafL k p e h b t) 0 1)), .int .i64 (rkV 89 (trafL k p e h b t) (fk (trafL k p e h b t) 1 2)), .int .i64 (rkV 89 (trafL k p e h b t) (fk (trafL k p e h b t) 3 2))] 47 := Own.cast hw3.own (by kernel_rfl)
  have hzhw3 := hw3.same
  refine VL_pure 8 [2, 3, 4, 7, 9, 10, 12] [(2, .int .u8 ((m : Nat) : Int)), (3, .pointer (some ⟨b1, 0, none⟩)), (4, .pointer (some ⟨b2, 0, none⟩)), (7, .pointer (some ⟨b3, 0, none⟩)), (9, .pointer (some ⟨b4, 0, none⟩)), (10, .int .i64 (rtE 89 (trafL k p e h b t))), (12, .int .i64 (rkE 89 (trafL k p e h b t)))] (by kernel_rfl) rfl ?_
  refine VL_end (by kernel_rfl) ?_
  refine VQ_next ?_
  refine VC_seq ?_
  refine VC_region ?_
  refine VL_load (d := 43) (t := 40) (a := ⟨b3, 0, none⟩) (v := .agg #[.int .u8 89, .slice A1 31 c1]) (by kernel_rfl) (by kernel_rfl) (Loads.ownL ho4 (n := 2) (by kernel_rfl) (by kernel_rfl) (by kernel_rfl)) ?_
  have hzs10 := hS.size
  have hzl22 := ho1.lt
  have hzl23 := ho2.lt
  have hzl24 := ho4.lt
  have hzl25 := ho6.lt
  have hzl26 := ho8.lt
  refine VL_call (d := 44) (f := 25) (by kernel_rfl) (by kernel_rfl) (by kernel_rfl) Try.call25 (rdcause_any 89 A1 31 c1 _ (trafL k p e h b t) _ (Rw.lenI hr1) (Rw.cap hr1) (Rw.slI hr1) (trafL_bytes _ _ _ _ _ _) (by first | exact Nat.le_refl _ | omega)) ?_
  rintro _ w13 ⟨rfl, hc5⟩
  replace hS := Step.trans hS hc5
  replace ho1 := ho1.no hc5
  replace ho2 := ho2.no hc5
  replace hbase1 := Nat.le_trans hbase1 (hc5).size
  replace hr1 := hr1.no hc5
  replace ho4 := ho4.no hc5
  replace ho6 := ho6.no hc5
  replace ho8 := ho8.no hc5
  refine VL_pure 7 [2, 3, 4, 7, 9, 10, 12, 14] [(2, .int .u8 ((m : Nat) : Int)), (3, .pointer (some ⟨b1, 0, none⟩)), (4, .pointer (some ⟨b2, 0, none⟩)), (7, .pointer (some ⟨b3, 0, none⟩)), (9, .pointer (some ⟨b4, 0, none⟩)), (10, .int .i64 (rtE 89 (trafL k p e h b t))), (12, .int .i64 (rkE 89 (trafL k p e h b t))), (14, .int .i64 (rcE 89 (trafL k p e h b t)))] (by kernel_rfl) rfl ?_
  refine VL_end (by kernel_rfl) ?_
  refine VQ_next ?_
  refine VC_seq ?_
  refine VC_region ?_
  refine VL_pure 3 [2, 3, 4, 7, 9, 12, 14, 49] [(2, .int .u8 ((m : Nat) : Int)), (3, .pointer (some ⟨b1, 0, none⟩)), (4, .pointer (some ⟨b2, 0, none⟩)), (7, .pointer (some ⟨b3, 0, none⟩)), (9, .pointer (some ⟨b4, 0, none⟩)), (12, .int .i64 (rkE 89 (trafL k p e h b t))), (14, .int .i64 (rcE 89 (trafL k p e h b t))), (49, .bool ((rtE 89 (trafL k p e h b t)) != 0))] (by kernel_rfl) rfl ?_
  refine VL_known ((rtE 89 (trafL k p e h b t)) != 0) (fun bV => [(2, .int .u8 ((m : Nat) : Int)), (3, .pointer (some ⟨b1, 0, none⟩)), (4, .pointer (some ⟨b2, 0, none⟩)), (7, .pointer (some ⟨b3, 0, none⟩)), (9, .pointer (some ⟨b4, 0, none⟩)), (12, .int .i64 (rkE 89 (trafL k p e h b t))), (14, .int .i64 (rcE 89 (trafL k p e h b t))), (49, .bool bV)]) false rfl (by rw [(traf_back hr).1]; rfl) ?_
  refine VL_load (d := 50) (t := 45) (a := ⟨b4, 0, none⟩) (v := .agg #[.int .i64 (rtV 89 (trafL k p e h b t) (IntKind.wrap .i64 (List.getD (trafL k p e h b t) 0 0))), .int .i64 (rtV 89 (trafL k p e h b t) (fld (trafL k p e h b t) 0)), .int .i64 (rtV 89 (trafL k p e h b t) (fld (trafL k p e h b t) 1)), .int .i64 (rtV 89 (trafL k p e h b t) (fld (trafL k p e h b t) 2)), .int .i64 (rtV 89 (trafL k p e h b t) (fld (trafL k p e h b t) 3)), .int .i64 (rtV 89 (trafL k p e h b t) (fld (trafL k p e h b t) 4))]) (by kernel_rfl) (by kernel_rfl) (Loads.ownL ho6 (n := 6) (by kernel_rfl) (by kernel_rfl) (by kernel_rfl)) ?_
  refine VL_load (d := 51) (t := 45) (a := ⟨b1, 0, none⟩) (v := .agg #[.int .i64 k, .int .i64 ((p : Nat) : Int), .int .i64 ((e : Nat) : Int), .int .i64 ((h : Nat) : Int), .int .i64 ((b : Nat) : Int), .int .i64 ((t : Nat) : Int)]) (by kernel_rfl) (by kernel_rfl) (Loads.ownL ho1 (n := 6) (by kernel_rfl) (by kernel_rfl) (by kernel_rfl)) ?_
  refine VL_agEq (d := 52) (dd := 9) (ls := ([.int .i64] ++ [.int .i64] ++ [.int .i64] ++ [.int .i64] ++ [.int .i64] ++ [.int .i64] ++ [])) (pos := false) (t := 45) (xs := #[.int .i64 (rtV 89 (trafL k p e h b t) (IntKind.wrap .i64 (List.getD (trafL k p e h b t) 0 0))), .int .i64 (rtV 89 (trafL k p e h b t) (fld (trafL k p e h b t) 0)), .int .i64 (rtV 89 (trafL k p e h b t) (fld (trafL k p e h b t) 1)), .int .i64 (rtV 89 (trafL k p e h b t) (fld (trafL k p e h b t) 2)), .int .i64 (rtV 89 (trafL k p e h b t) (fld (trafL k p e h b t) 3)), .int .i64 (rtV 89 (trafL k p e h b t) (fld (trafL k p e h b t) 4))]) (ys := #[.int .i64 k, .int .i64 ((p : Nat) : Int), .int .i64 ((e : Nat) : Int), .int .i64 ((h : Nat) : Int), .int .i64 ((b : Nat) : Int), .int .i64 ((t : Nat) : Int)]) (by kernel_rfl) (by kernel_rfl) (by kernel_rfl) (by kernel_rfl) (by first | exact ⟨⟨_, rfl⟩, ⟨_, rfl⟩, ⟨_, rfl⟩, ⟨_, rfl⟩, ⟨_, rfl⟩, ⟨_, rfl⟩, trivial⟩ | trivial) (by first | exact ⟨⟨_, rfl⟩, ⟨_, rfl⟩, ⟨_, rfl⟩, ⟨_, rfl⟩, ⟨_, rfl⟩, ⟨_, rfl⟩, trivial⟩ | trivial) (!(([rtV 89 (trafL k p e h b t) (IntKind.wrap .i64 (List.getD (trafL k p e h b t) 0 0)), rtV 89 (trafL k p e h b t) (fld (trafL k p e h b t) 0), rtV 89 (trafL k p e h b t) (fld (trafL k p e h b t) 1), rtV 89 (trafL k p e h b t) (fld (trafL k p e h b t) 2), rtV 89 (trafL k p e h b t) (fld (trafL k p e h b t) 3), rtV 89 (trafL k p e h b t) (fld (trafL k p e h b t) 4)] : List Int) == [k, ((p : Nat) : Int), ((e : Nat) : Int), ((h : Nat) : Int), ((b : Nat) : Int), ((t : Nat) : Int)])) (iA_eq (k := .i64) (xs := [rtV 89 (trafL k p e h b t) (IntKind.wrap .i64 (List.getD (trafL k p e h b t) 0 0)), rtV 89 (trafL k p e h b t) (fld (trafL k p e h b t) 0), rtV 89 (trafL k p e h b t) (fld (trafL k p e h b t) 1), rtV 89 (trafL k p e h b t) (fld (trafL k p e h b t) 2), rtV 89 (trafL k p e h b t) (fld (trafL k p e h b t) 3), rtV 89 (trafL k p e h b t) (fld (trafL k p e h b t) 4)]) (bs := [k, ((p : Nat) : Int), ((e : Nat) : Int), ((h : Nat) : Int), ((b : Nat) : Int), ((t : Nat) : Int)]) false) ?_
  refine VL_pure 8 [2, 3, 4, 7, 12, 14, 54] [(2, .int .u8 ((m : Nat) : Int)), (3, .pointer (some ⟨b1, 0, none⟩)), (4, .pointer (some ⟨b2, 0, none⟩)), (7, .pointer (some ⟨b3, 0, none⟩)), (12, .int .i64 (rkE 89 (trafL k p e h b t))), (14, .int .i64 (rcE 89 (trafL k p e h b t))), (54, .bool (!(([rtV 89 (trafL k p e h b t) (IntKind.wrap .i64 (List.getD (trafL k p e h b t) 0 0)), rtV 89 (trafL k p e h b t) (fld (trafL k p e h b t) 0), rtV 89 (trafL k p e h b t) (fld (trafL k p e h b t) 1), rtV 89 (trafL k p e h b t) (fld (trafL k p e h b t) 2), rtV 89 (trafL k p e h b t) (fld (trafL k p e h b t) 3), rtV 89 (trafL k p e h b t) (fld (trafL k p e h b t) 4)] : List Int) == [k, ((p : Nat) : Int), ((e : Nat) : Int), ((h : Nat) : Int), ((b : Nat) : Int), ((t : Nat) : Int)])))] (by kernel_rfl) rfl ?_
  refine VL_known (!(([rtV 89 (trafL k p e h b t) (IntKind.wrap .i64 (List.getD (trafL k p e h b t) 0 0)), rtV 89 (trafL k p e h b t) (fld (trafL k p e h b t) 0), rtV 89 (trafL k p e h b t) (fld (trafL k p e h b t) 1), rtV 89 (trafL k p e h b t) (fld (trafL k p e h b t) 2), rtV 89 (trafL k p e h b t) (fld (trafL k p e h b t) 3), rtV 89 (trafL k p e h b t) (fld (trafL k p e h b t) 4)] : List Int) == [k, ((p : Nat) : Int), ((e : Nat) : Int), ((h : Nat) : Int), ((b : Nat) : Int), ((t : Nat) : Int)])) (fun bV => [(2, .int .u8 ((m : Nat) : Int)), (3, .pointer (some ⟨b1, 0, none⟩)), (4, .pointer (some ⟨b2, 0, none⟩)), (7, .pointer (some ⟨b3, 0, none⟩)), (12, .int .i64 (rkE 89 (trafL k p e h b t))), (14, .int .i64 (rcE 89 (trafL k p e h b t))), (54, .bool bV)]) false rfl (by rw [traf_same hr]; simp) ?_
  refine VL_pure 12 [2, 3, 4, 7, 14, 58] [(2, .int .u8 ((m : Nat) : Int)), (3, .pointer (some ⟨b1, 0, none⟩)), (4, .pointer (some ⟨b2, 0, none⟩)), (7, .pointer (some ⟨b3, 0, none⟩)), (14, .int .i64 (rcE 89 (trafL k p e h b t))), (58, .bool ((rkE 89 (trafL k p e h b t)) != 12))] (by kernel_rfl) rfl ?_
  refine VL_known ((rkE 89 (trafL k p e h b t)) != 12) (fun bV => [(2, .int .u8 ((m : Nat) : Int)), (3, .pointer (some ⟨b1, 0, none⟩)), (4, .pointer (some ⟨b2, 0, none⟩)), (7, .pointer (some ⟨b3, 0, none⟩)), (14, .int .i64 (rcE 89 (trafL k p e h b t))), (58, .bool bV)]) false rfl (by rw [rk_12 (by decide)]; rfl) ?_
  refine VL_pure 15 [2, 3, 4, 7, 61] [(2, .int .u8 ((m : Nat) : Int)), (3, .pointer (some ⟨b1, 0, none⟩)), (4, .pointer (some ⟨b2, 0, none⟩)), (7, .pointer (some ⟨b3, 0, none⟩)), (61, .bool ((rcE 89 (trafL k p e h b t)) != 12))] (by kernel_rfl) rfl ?_
  refine VL_end (by kernel_rfl) ?_
  refine VQ_next ?_
  refine VC_is (b := (rcE 89 (trafL k p e h b t)) != 12) false (by kernel_rfl) (by rw [rc_12 (by decide)]; rfl) ?_
  refine VC_ite_false ?_
  refine VC_skip ?_
  refine VQ_next ?_
  refine VC_seq ?_
  refine VC_region ?_
  refine VL_load (d := 63) (t := 47) (a := ⟨b2, 0, none⟩) (v := .agg #[.int .i64 kp, .int .i64 kv, .int .i64 kc]) (by kernel_rfl) (by kernel_rfl) (Loads.ownL ho2 (n := 3) (by kernel_rfl) (by kernel_rfl) (by kernel_rfl)) ?_
  have hzs11 := hS.size
  have hzl27 := ho1.lt
  have hzl28 := ho2.lt
  have hzl29 := ho4.lt
  have hzl30 := ho6.lt
  have hzl31 := ho8.lt
  refine VL_call (d := 64) (f := 19) (args := #[.agg #[.int .i64 kp, .int .i64 kv, .int .i64 kc]]) (by kernel_rfl) (by kernel_rfl) (by kernel_rfl) Try.call19 (key_no kp kv kc _ hk) ?_
  rintro _ w14 ⟨rfl, hc6⟩
  replace hS := Step.trans hS hc6
  replace ho1 := ho1.no hc6
  replace ho2 := ho2.no hc6
  replace hbase1 := Nat.le_trans hbase1 (hc6).size
  replace hr1 := hr1.no hc6
  replace ho4 := ho4.no hc6
  replace ho6 := ho6.no hc6
  replace ho8 := ho8.no hc6
  refine VL_pure 5 [2, 3, 4, 7, 65, 66] [(2, .int .u8 ((m : Nat) : Int)), (3, .pointer (some ⟨b1, 0, none⟩)), (4, .pointer (some ⟨b2, 0, none⟩)), (7, .pointer (some ⟨b3, 0, none⟩)), (65, .agg #[.int .u8 0, .slice none 0 0]), (66, .int .i64 1)] (by kernel_rfl) rfl ?_
  have hzs12 := hS.size
  have hzl32 := ho1.lt
  have hzl33 := ho2.lt
  have hzk4 := hbase1
  have hzl34 := ho4.lt
  have hzl35 := ho6.lt
  have hzl36 := ho8.lt
  refine VL_box (d := 15) (t := 40) (c := #[.int .u8 0, .slice none 0 0]) (by kernel_rfl) (by kernel_rfl) ?_
  intro b6 w15 hn6
  replace hS := Step.trans hS (hn6.step No)
  replace ho1 := ho1.no (hn6.step No)
  replace ho2 := ho2.no (hn6.step No)
  replace hbase1 := Nat.le_trans hbase1 (hn6.step No).size
  replace hr1 := hr1.no (hn6.step No)
  replace ho4 := ho4.no (hn6.step No)
  replace ho6 := ho6.no (hn6.step No)
  replace ho8 := ho8.no (hn6.step No)
  have ho9 := hn6.own
  have hzhn6 := hn6.size
  have hqhn6 := hn6.eqb
  refine VL_store (b := b6) (o := 0) (vs := [.int .u8 0, .slice none 0 0]) (by kernel_rfl) (by kernel_rfl) ho9 (Nat.le_of_ble_eq_true (by kernel_rfl)) ?_
  intro w16 hw4
  replace hS := Step.transNew hS hw4.step (fun _ _ _ => by omega)
  replace ho1 := ho1.step hw4.step (show ¬ b1 = b6 by omega)
  replace ho2 := ho2.step hw4.step (show ¬ b2 = b6 by omega)
  replace hbase1 := Nat.le_trans hbase1 (hw4.step).size
  replace hr1 := hr1.stepU hub1 hw4.step (fun k hk1 hk2 (hF : k = b6) => by omega)
  replace ho4 := ho4.step hw4.step (show ¬ b3 = b6 by omega)
  replace ho6 := ho6.step hw4.step (show ¬ b4 = b6 by omega)
  replace ho8 := ho8.step hw4.step (show ¬ b5 = b6 by omega)
  have ho10 : Own w16 b6 #[.int .u8 0, .slice none 0 0] 40 := Own.cast hw4.own (by kernel_rfl)
  have hzhw4 := hw4.same
  refine VL_pure 8 [2, 3, 4, 7, 15, 8] [(2, .int .u8 ((m : Nat) : Int)), (3, .pointer (some ⟨b1, 0, none⟩)), (4, .pointer (some ⟨b2, 0, none⟩)), (7, .pointer (some ⟨b3, 0, none⟩)), (15, .pointer (some ⟨b6, 0, none⟩)), (8, .int .i64 1)] (by kernel_rfl) rfl ?_
  refine VL_end (by kernel_rfl) ?_
  refine VQ_next ?_
  refine VC_seq ?_
  refine VC_seq ?_
  refine VC_region ?_
  refine VL_pure 2 [2, 3, 4, 7, 15, 68] [(2, .int .u8 ((m : Nat) : Int)), (3, .pointer (some ⟨b1, 0, none⟩)), (4, .pointer (some ⟨b2, 0, none⟩)), (7, .pointer (some ⟨b3, 0, none⟩)), (15, .pointer (some ⟨b6, 0, none⟩)), (68, .bool false)] (by kernel_rfl) rfl ?_
  refine VL_end (by kernel_rfl) ?_
  refine VQ_next ?_
  refine VC_false (by kernel_rfl) ?_
  refine VC_skip ?_
  refine VQ_next ?_
  refine VC_seq ?_
  refine VC_region ?_
  refine VL_pure 2 [2, 3, 7, 92] [(2, .int .u8 ((m : Nat) : Int)), (3, .pointer (some ⟨b1, 0, none⟩)), (7, .pointer (some ⟨b3, 0, none⟩)), (92, .int .i64 (IntKind.wrap .i64 ((m : Nat) : Int)))] (by kernel_rfl) rfl ?_
  have he1 : IntKind.wrap .i64 ((m : Nat) : Int) = ((m : Nat) : Int) := (by rw [wrap_i64 _ (by omega) (by omega)])
  refine VL_eq [(2, .int .u8 ((m : Nat) : Int)), (3, .pointer (some ⟨b1, 0, none⟩)), (7, .pointer (some ⟨b3, 0, none⟩)), (92, .int .i64 ((m : Nat) : Int))] (by rw [he1]) ?_
  refine VL_pure 3 [2, 3, 7, 93] [(2, .int .u8 ((m : Nat) : Int)), (3, .pointer (some ⟨b1, 0, none⟩)), (7, .pointer (some ⟨b3, 0, none⟩)), (93, .int .i64 (((m : Nat) : Int).tmod 128))] (by kernel_rfl) rfl ?_
  have he2 : ((m : Nat) : Int).tmod 128 = ((m % 128 : Nat) : Int) := (tmod_nat m 128)
  refine VL_eq [(2, .int .u8 ((m : Nat) : Int)), (3, .pointer (some ⟨b1, 0, none⟩)), (7, .pointer (some ⟨b3, 0, none⟩)), (93, .int .i64 ((m % 128 : Nat) : Int))] (by rw [he2]) ?_
  have hzs13 := hS.size
  have hzl37 := ho1.lt
  have hzl38 := ho2.lt
  have hzl39 := ho4.lt
  have hzl40 := ho6.lt
  have hzl41 := ho8.lt
  have hzl42 := ho10.lt
  refine VL_call (d := 94) (f := 27) (by kernel_rfl) (by kernel_rfl) (by kernel_rfl) Try.call27 (cause_yes (m % 128) _ (by omega)) ?_
  rintro _ w17 ⟨A2, rfl, hr2, hc7⟩
  replace hS := Step.trans hS hc7
  replace ho1 := ho1.no hc7
  replace ho2 := ho2.no hc7
  replace hbase1 := Nat.le_trans hbase1 (hc7).size
  replace hr1 := hr1.no hc7
  replace ho4 := ho4.no hc7
  replace ho6 := ho6.no hc7
  replace ho8 := ho8.no hc7
  replace ho10 := ho10.no hc7
  obtain ⟨base2, hbase2E⟩ : ∃ x, x = w16.heap.size := ⟨_, rfl⟩
  rw [← hbase2E] at hr2
  have hbase2 : base2 ≤ w17.heap.size := by rw [hbase2E]; exact hc7.size
  refine VL_pure 7 [2, 3, 7, 95, 96] [(2, .int .u8 ((m : Nat) : Int)), (3, .pointer (some ⟨b1, 0, none⟩)), (7, .pointer (some ⟨b3, 0, none⟩)), (95, .agg #[.int .u8 8, .slice A2 2 2]), (96, .int .i64 0)] (by kernel_rfl) rfl ?_
  have hzs14 := hS.size
  have hzl43 := ho1.lt
  have hzl44 := ho2.lt
  have hzk5 := hbase1
  have hzl45 := ho4.lt
  have hzl46 := ho6.lt
  have hzl47 := ho8.lt
  have hzl48 := ho10.lt
  have hzk6 := hbase2
  have hub2 := hr2.ub
  refine VL_box (d := 20) (t := 40) (c := #[.int .u8 0, .slice none 0 0]) (by kernel_rfl) (by kernel_rfl) ?_
  intro b7 w18 hn7
  replace hS := Step.trans hS (hn7.step No)
  replace ho1 := ho1.no (hn7.step No)
  replace ho2 := ho2.no (hn7.step No)
  replace hbase1 := Nat.le_trans hbase1 (hn7.step No).size
  replace hr1 := hr1.no (hn7.step No)
  replace ho4 := ho4.no (hn7.step No)
  replace ho6 := ho6.no (hn7.step No)
  replace ho8 := ho8.no (hn7.step No)
  replace ho10 := ho10.no (hn7.step No)
  replace hbase2 := Nat.le_trans hbase2 (hn7.step No).size
  replace hr2 := hr2.no (hn7.step No)
  have ho11 := hn7.own
  have hzhn7 := hn7.size
  have hqhn7 := hn7.eqb
  refine VL_store (b := b7) (o := 0) (vs := [.int .u8 8, .slice A2 2 2]) (by kernel_rfl) (by kernel_rfl) ho11 (Nat.le_of_ble_eq_true (by kernel_rfl)) ?_
  intro w19 hw5
  replace hS := Step.transNew hS hw5.step (fun _ _ _ => by omega)
  replace ho1 := ho1.step hw5.step (show ¬ b1 = b7 by omega)
  replace ho2 := ho2.step hw5.step (show ¬ b2 = b7 by omega)
  replace hbase1 := Nat.le_trans hbase1 (hw5.step).size
  replace hr1 := hr1.stepU hub1 hw5.step (fun k hk1 hk2 (hF : k = b7) => by omega)
  replace ho4 := ho4.step hw5.step (show ¬ b3 = b7 by omega)
  replace ho6 := ho6.step hw5.step (show ¬ b4 = b7 by omega)
  replace ho8 := ho8.step hw5.step (show ¬ b5 = b7 by omega)
  replace ho10 := ho10.step hw5.step (show ¬ b6 = b7 by omega)
  replace hbase2 := Nat.le_trans hbase2 (hw5.step).size
  replace hr2 := hr2.stepU hub2 hw5.step (fun k hk1 hk2 (hF : k = b7) => by omega)
  have ho12 : Own w19 b7 #[.int .u8 8, .slice A2 2 2] 40 := Own.cast hw5.own (by kernel_rfl)
  have hzhw5 := hw5.same
  refine VL_pure 10 [2, 3, 7, 20, 8] [(2, .int .u8 ((m : Nat) : Int)), (3, .pointer (some ⟨b1, 0, none⟩)), (7, .pointer (some ⟨b3, 0, none⟩)), (20, .pointer (some ⟨b7, 0, none⟩)), (8, .int .i64 0)] (by kernel_rfl) rfl ?_
  refine VL_end (by kernel_rfl) ?_
  refine VQ_next ?_
  refine VC_seq ?_
  refine VC_region ?_
  refine VL_load (d := 98) (t := 40) (a := ⟨b7, 0, none⟩) (v := .agg #[.int .u8 8, .slice A2 2 2]) (by kernel_rfl) (by kernel_rfl) (Loads.ownL ho12 (n := 2) (by kernel_rfl) (by kernel_rfl) (by kernel_rfl)) ?_
  have hzs15 := hS.size
  have hzl49 := ho1.lt
  have hzl50 := ho2.lt
  have hzl51 := ho4.lt
  have hzl52 := ho6.lt
  have hzl53 := ho8.lt
  have hzl54 := ho10.lt
  have hzl55 := ho12.lt
  refine VL_call (d := 99) (f := 25) (by kernel_rfl) (by kernel_rfl) (by kernel_rfl) Try.call25 (rdcause_any 8 A2 2 2 _ ([0, ((m % 128 : Nat) : Int)]) _ (Rw.lenI hr2) (Rw.cap hr2) (Rw.slI hr2) (bytes_cause (by omega)) (by first | exact Nat.le_refl _ | omega)) ?_
  rintro _ w20 ⟨rfl, hc8⟩
  replace hS := Step.trans hS hc8
  replace ho1 := ho1.no hc8
  replace ho2 := ho2.no hc8
  replace hbase1 := Nat.le_trans hbase1 (hc8).size
  replace hr1 := hr1.no hc8
  replace ho4 := ho4.no hc8
  replace ho6 := ho6.no hc8
  replace ho8 := ho8.no hc8
  replace ho10 := ho10.no hc8
  replace hbase2 := Nat.le_trans hbase2 (hc8).size
  replace hr2 := hr2.no hc8
  replace ho12 := ho12.no hc8
  refine VL_pure 7 [2, 3, 7, 8, 21, 22] [(2, .int .u8 ((m : Nat) : Int)), (3, .pointer (some ⟨b1, 0, none⟩)), (7, .pointer (some ⟨b3, 0, none⟩)), (8, .int .i64 0), (21, .int .i64 (rcV 8 ([0, ((m % 128 : Nat) : Int)]))), (22, .int .i64 (rcE 8 ([0, ((m % 128 : Nat) : Int)])))] (by kernel_rfl) rfl ?_
  refine VL_end (by kernel_rfl) ?_
  refine VQ_next ?_
  refine VC_seq ?_
  refine VC_region ?_
  refine VL_pure 7 [2, 3, 7, 21, 108] [(2, .int .u8 ((m : Nat) : Int)), (3, .pointer (some ⟨b1, 0, none⟩)), (7, .pointer (some ⟨b3, 0, none⟩)), (21, .int .i64 (rcV 8 ([0, ((m % 128 : Nat) : Int)]))), (108, .bool ((rcE 8 ([0, ((m % 128 : Nat) : Int)])) == 0))] (by kernel_rfl) rfl ?_
  refine VL_known ((rcE 8 ([0, ((m % 128 : Nat) : Int)])) == 0) (fun bV => [(2, .int .u8 ((m : Nat) : Int)), (3, .pointer (some ⟨b1, 0, none⟩)), (7, .pointer (some ⟨b3, 0, none⟩)), (21, .int .i64 (rcV 8 ([0, ((m % 128 : Nat) : Int)]))), (108, .bool bV)]) true rfl (by rw [(cause_back (by omega)).1]; rfl) ?_
  refine VL_pure 10 [3, 7, 108, 109, 111] [(3, .pointer (some ⟨b1, 0, none⟩)), (7, .pointer (some ⟨b3, 0, none⟩)), (108, .bool true), (109, .int .i64 (rcV 8 ([0, ((m % 128 : Nat) : Int)]))), (111, .int .i64 (IntKind.wrap .i64 ((m : Nat) : Int)))] (by kernel_rfl) rfl ?_
  have he3 : IntKind.wrap .i64 ((m : Nat) : Int) = ((m : Nat) : Int) := (by rw [wrap_i64 _ (by omega) (by omega)])
  refine VL_eq [(3, .pointer (some ⟨b1, 0, none⟩)), (7, .pointer (some ⟨b3, 0, none⟩)), (108, .bool true), (109, .int .i64 (rcV 8 ([0, ((m % 128 : Nat) : Int)]))), (111, .int .i64 ((m : Nat) : Int))] (by rw [he3]) ?_
  refine VL_pure 11 [3, 7, 108, 109, 112] [(3, .pointer (some ⟨b1, 0, none⟩)), (7, .pointer (some ⟨b3, 0, none⟩)), (108, .bool true), (109, .int .i64 (rcV 8 ([0, ((m % 128 : Nat) : Int)]))), (112, .int .i64 (((m : Nat) : Int).tmod 128))] (by kernel_rfl) rfl ?_
  have he4 : ((m : Nat) : Int).tmod 128 = ((m % 128 : Nat) : Int) := (tmod_nat m 128)
  refine VL_eq [(3, .pointer (some ⟨b1, 0, none⟩)), (7, .pointer (some ⟨b3, 0, none⟩)), (108, .bool true), (109, .int .i64 (rcV 8 ([0, ((m % 128 : Nat) : Int)]))), (112, .int .i64 ((m % 128 : Nat) : Int))] (by rw [he4]) ?_
  refine VL_pure 14 [3, 7, 115] [(3, .pointer (some ⟨b1, 0, none⟩)), (7, .pointer (some ⟨b3, 0, none⟩)), (115, .bool ((rcV 8 ([0, ((m % 128 : Nat) : Int)])) == ((m % 128 : Nat) : Int)))] (by kernel_rfl) rfl ?_
  refine VL_known ((rcV 8 ([0, ((m % 128 : Nat) : Int)])) == ((m % 128 : Nat) : Int)) (fun bV => [(3, .pointer (some ⟨b1, 0, none⟩)), (7, .pointer (some ⟨b3, 0, none⟩)), (115, .bool bV)]) true rfl (by rw [(cause_back (by omega)).2]; simp) ?_
  refine VL_load (d := 116) (t := 45) (a := ⟨b1, 0, none⟩) (v := .agg #[.int .i64 k, .int .i64 ((p : Nat) : Int), .int .i64 ((e : Nat) : Int), .int .i64 ((h : Nat) : Int), .int .i64 ((b : Nat) : Int), .int .i64 ((t : Nat) : Int)]) (by kernel_rfl) (by kernel_rfl) (Loads.ownL ho1 (n := 6) (by kernel_rfl) (by kernel_rfl) (by kernel_rfl)) ?_
  have hzs16 := hS.size
  have hzl56 := ho1.lt
  have hzl57 := ho2.lt
  have hzl58 := ho4.lt
  have hzl59 := ho6.lt
  have hzl60 := ho8.lt
  have hzl61 := ho10.lt
  have hzl62 := ho12.lt
  refine VL_call (d := 117) (f := 29) (args := #[.agg #[.int .i64 k, .int .i64 ((p : Nat) : Int), .int .i64 ((e : Nat) : Int), .int .i64 ((h : Nat) : Int), .int .i64 ((b : Nat) : Int), .int .i64 ((t : Nat) : Int)]]) (by kernel_rfl) (by kernel_rfl) (by kernel_rfl) Try.call29 (rright_any k ((p : Nat) : Int) ((e : Nat) : Int) ((h : Nat) : Int) ((b : Nat) : Int) ((t : Nat) : Int) _) ?_
  rintro _ w21 ⟨rfl, hc9⟩
  replace hS := Step.trans hS hc9
  replace ho1 := ho1.no hc9
  replace ho2 := ho2.no hc9
  replace hbase1 := Nat.le_trans hbase1 (hc9).size
  replace hr1 := hr1.no hc9
  replace ho4 := ho4.no hc9
  replace ho6 := ho6.no hc9
  replace ho8 := ho8.no hc9
  replace ho10 := ho10.no hc9
  replace hbase2 := Nat.le_trans hbase2 (hc9).size
  replace hr2 := hr2.no hc9
  replace ho12 := ho12.no hc9
  refine VL_pure 18 [7, 115, 119] [(7, .pointer (some ⟨b3, 0, none⟩)), (115, .bool true), (119, .bool ((rightC k ((p : Nat) : Int) ((e : Nat) : Int) ((h : Nat) : Int) ((b : Nat) : Int) ((t : Nat) : Int)) == 0))] (by kernel_rfl) rfl ?_
  refine VL_known ((rightC k ((p : Nat) : Int) ((e : Nat) : Int) ((h : Nat) : Int) ((b : Nat) : Int) ((t : Nat) : Int)) == 0) (fun bV => [(7, .pointer (some ⟨b3, 0, none⟩)), (115, .bool true), (119, .bool bV)]) true rfl (by first | (rw [hr]; rfl) | simpa using hr) ?_
  refine VL_pure 25 [6] [(6, .bool true)] (by kernel_rfl) rfl ?_
  refine VL_end (by kernel_rfl) ?_
  refine VQ_next ?_
  refine VC_ret ?_
  refine VQ_ret1 (.bool true) (.inr rfl) rfl rfl ?_
  exact ⟨by first | rfl | simp [*], hS⟩

set_option maxRecDepth 100000 in
set_option maxHeartbeats 4000000 in
theorem kinds_no_yes (k p e h b t : Int) (kp kv kc : Nat) (m : Nat) (w : World) (hm : m < 256) (hr : rightC k p e h b t ≠ 0) (hk : rightK kp kv kc = true)  :
    CV Try.prog 8 #[.agg #[.int .i64 k, .int .i64 p, .int .i64 e, .int .i64 h, .int .i64 b, .int .i64 t], .agg #[.int .i64 ((kp : Nat) : Int), .int .i64 ((kv : Nat) : Int), .int .i64 ((kc : Nat) : Int)], .int .u8 ((m : Nat) : Int)] w (fun x w1 => x = .bool true ∧ Step No w w1) := by
  have hS : Step No w w := Step.refl _ _
  refine CV_enter Try.f8 _ 126 [(0, .agg #[.int .i64 k, .int .i64 p, .int .i64 e, .int .i64 h, .int .i64 b, .int .i64 t]), (1, .agg #[.int .i64 ((kp : Nat) : Int), .int .i64 ((kv : Nat) : Int), .int .i64 ((kc : Nat) : Int)]), (2, .int .u8 ((m : Nat) : Int))] Try.func8 rfl rfl (by kernel_rfl) rfl ?_
  refine VC_seq ?_
  refine VC_region ?_
  have hzs1 := hS.size
  refine VL_box (d := 3) (t := 45) (c := #[.int .i64 k, .int .i64 p, .int .i64 e, .int .i64 h, .int .i64 b, .int .i64 t]) (by kernel_rfl) (by kernel_rfl) ?_
  intro b1 w1 hn1
  replace hS := Step.trans hS (hn1.step No)
  have ho1 := hn1.own
  have hzhn1 := hn1.size
  have hqhn1 := hn1.eqb
  have hzs2 := hS.size
  have hzl1 := ho1.lt
  refine VL_box (d := 4) (t := 47) (c := #[.int .i64 ((kp : Nat) : Int), .int .i64 ((kv : Nat) : Int), .int .i64 ((kc : Nat) : Int)]) (by kernel_rfl) (by kernel_rfl) ?_
  intro b2 w2 hn2
  replace hS := Step.trans hS (hn2.step No)
  replace ho1 := ho1.no (hn2.step No)
  have ho2 := hn2.own
  have hzhn2 := hn2.size
  have hqhn2 := hn2.eqb
  refine VL_pure 3 [2, 3, 4] [(2, .int .u8 ((m : Nat) : Int)), (3, .pointer (some ⟨b1, 0, none⟩)), (4, .pointer (some ⟨b2, 0, none⟩))] (by kernel_rfl) rfl ?_
  refine VL_end (by kernel_rfl) ?_
  refine VQ_next ?_
  refine VC_seq ?_
  refine VC_seq ?_
  refine VC_region ?_
  have hzs3 := hS.size
  have hzl2 := ho1.lt
  have hzl3 := ho2.lt
  refine VL_call (d := 23) (f := 9) (args := #[]) (by kernel_rfl) (by kernel_rfl) (by kernel_rfl) Try.call9 (awake_any _) ?_
  rintro _ w3 ⟨rfl, hc1⟩
  replace hS := Step.trans hS hc1
  replace ho1 := ho1.no hc1
  replace ho2 := ho2.no hc1
  refine VL_pure 2 [2, 3, 4, 24] [(2, .int .u8 ((m : Nat) : Int)), (3, .pointer (some ⟨b1, 0, none⟩)), (4, .pointer (some ⟨b2, 0, none⟩)), (24, .bool false)] (by kernel_rfl) rfl ?_
  refine VL_end (by kernel_rfl) ?_
  refine VQ_next ?_
  refine VC_false (by kernel_rfl) ?_
  refine VC_skip ?_
  refine VQ_next ?_
  refine VC_seq ?_
  refine VC_region ?_
  refine VL_load (d := 26) (t := 45) (a := ⟨b1, 0, none⟩) (v := .agg #[.int .i64 k, .int .i64 p, .int .i64 e, .int .i64 h, .int .i64 b, .int .i64 t]) (by kernel_rfl) (by kernel_rfl) (Loads.ownL ho1 (n := 6) (by kernel_rfl) (by kernel_rfl) (by kernel_rfl)) ?_
  have hzs4 := hS.size
  have hzl4 := ho1.lt
  have hzl5 := ho2.lt
  refine VL_call (d := 27) (f := 18) (args := #[.agg #[.int .i64 k, .int .i64 p, .int .i64 e, .int .i64 h, .int .i64 b, .int .i64 t]]) (by kernel_rfl) (by kernel_rfl) (by kernel_rfl) Try.call18 (traffic_no k p e h b t _ hr) ?_
  rintro _ w4 ⟨rfl, hc2⟩
  replace hS := Step.trans hS hc2
  replace ho1 := ho1.no hc2
  replace ho2 := ho2.no hc2
  refine VL_pure 5 [2, 3, 4, 28, 29] [(2, .int .u8 ((m : Nat) : Int)), (3, .pointer (some ⟨b1, 0, none⟩)), (4, .pointer (some ⟨b2, 0, none⟩)), (28, .agg #[.int .u8 0, .slice none 0 0]), (29, .int .i64 (rightC k p e h b t))] (by kernel_rfl) rfl ?_
  have hzs5 := hS.size
  have hzl6 := ho1.lt
  have hzl7 := ho2.lt
  refine VL_box (d := 7) (t := 40) (c := #[.int .u8 0, .slice none 0 0]) (by kernel_rfl) (by kernel_rfl) ?_
  intro b3 w5 hn3
  replace hS := Step.trans hS (hn3.step No)
  replace ho1 := ho1.no (hn3.step No)
  replace ho2 := ho2.no (hn3.step No)
  have ho3 := hn3.own
  have hzhn3 := hn3.size
  have hqhn3 := hn3.eqb
  refine VL_store (b := b3) (o := 0) (vs := [.int .u8 0, .slice none 0 0]) (by kernel_rfl) (by kernel_rfl) ho3 (Nat.le_of_ble_eq_true (by kernel_rfl)) ?_
  intro w6 hw1
  replace hS := Step.transNew hS hw1.step (fun _ _ _ => by omega)
  replace ho1 := ho1.step hw1.step (show ¬ b1 = b3 by omega)
  replace ho2 := ho2.step hw1.step (show ¬ b2 = b3 by omega)
  have ho4 : Own w6 b3 #[.int .u8 0, .slice none 0 0] 40 := Own.cast hw1.own (by kernel_rfl)
  have hzhw1 := hw1.same
  refine VL_pure 8 [2, 3, 4, 7, 8] [(2, .int .u8 ((m : Nat) : Int)), (3, .pointer (some ⟨b1, 0, none⟩)), (4, .pointer (some ⟨b2, 0, none⟩)), (7, .pointer (some ⟨b3, 0, none⟩)), (8, .int .i64 (rightC k p e h b t))] (by kernel_rfl) rfl ?_
  refine VL_end (by kernel_rfl) ?_
  refine VQ_next ?_
  refine VC_seq ?_
  refine VC_seq ?_
  refine VC_region ?_
  refine VL_pure 2 [2, 3, 4, 7, 31] [(2, .int .u8 ((m : Nat) : Int)), (3, .pointer (some ⟨b1, 0, none⟩)), (4, .pointer (some ⟨b2, 0, none⟩)), (7, .pointer (some ⟨b3, 0, none⟩)), (31, .bool ((rightC k p e h b t) == 0))] (by kernel_rfl) rfl ?_
  refine VL_end (by kernel_rfl) ?_
  refine VQ_next ?_
  refine VC_is (b := (rightC k p e h b t) == 0) false (by kernel_rfl) (by first | (rw [hr]; rfl) | simpa using hr) ?_
  refine VC_ite_false ?_
  refine VC_skip ?_
  refine VQ_next ?_
  refine VC_seq ?_
  refine VC_region ?_
  refine VL_load (d := 63) (t := 47) (a := ⟨b2, 0, none⟩) (v := .agg #[.int .i64 ((kp : Nat) : Int), .int .i64 ((kv : Nat) : Int), .int .i64 ((kc : Nat) : Int)]) (by kernel_rfl) (by kernel_rfl) (Loads.ownL ho2 (n := 3) (by kernel_rfl) (by kernel_rfl) (by kernel_rfl)) ?_
  have hzs6 := hS.size
  have hzl8 := ho1.lt
  have hzl9 := ho2.lt
  have hzl10 := ho4.lt
  refine VL_call (d := 64) (f := 19) (by kernel_rfl) (by kernel_rfl) (by kernel_rfl) Try.call19 (key_yes kp kv kc _ hk) ?_
  rintro _ w7 ⟨A1, c1, rfl, hr1, hc3⟩
  replace hS := Step.trans hS hc3
  replace ho1 := ho1.no hc3
  replace ho2 := ho2.no hc3
  replace ho4 := ho4.no hc3
  obtain ⟨base1, hbase1E⟩ : ∃ x, x = w6.heap.size := ⟨_, rfl⟩
  rw [← hbase1E] at hr1
  have hbase1 : base1 ≤ w7.heap.size := by rw [hbase1E]; exact hc3.size
  refine VL_pure 5 [2, 3, 4, 7, 65, 66] [(2, .int .u8 ((m : Nat) : Int)), (3, .pointer (some ⟨b1, 0, none⟩)), (4, .pointer (some ⟨b2, 0, none⟩)), (7, .pointer (some ⟨b3, 0, none⟩)), (65, .agg #[.int .u8 90, .slice A1 5 c1]), (66, .int .i64 0)] (by kernel_rfl) rfl ?_
  have hzs7 := hS.size
  have hzl11 := ho1.lt
  have hzl12 := ho2.lt
  have hzl13 := ho4.lt
  have hzk1 := hbase1
  have hub1 := hr1.ub
  refine VL_box (d := 15) (t := 40) (c := #[.int .u8 0, .slice none 0 0]) (by kernel_rfl) (by kernel_rfl) ?_
  intro b4 w8 hn4
  replace hS := Step.trans hS (hn4.step No)
  replace ho1 := ho1.no (hn4.step No)
  replace ho2 := ho2.no (hn4.step No)
  replace ho4 := ho4.no (hn4.step No)
  replace hbase1 := Nat.le_trans hbase1 (hn4.step No).size
  replace hr1 := hr1.no (hn4.step No)
  have ho5 := hn4.own
  have hzhn4 := hn4.size
  have hqhn4 := hn4.eqb
  refine VL_store (b := b4) (o := 0) (vs := [.int .u8 90, .slice A1 5 c1]) (by kernel_rfl) (by kernel_rfl) ho5 (Nat.le_of_ble_eq_true (by kernel_rfl)) ?_
  intro w9 hw2
  replace hS := Step.transNew hS hw2.step (fun _ _ _ => by omega)
  replace ho1 := ho1.step hw2.step (show ¬ b1 = b4 by omega)
  replace ho2 := ho2.step hw2.step (show ¬ b2 = b4 by omega)
  replace ho4 := ho4.step hw2.step (show ¬ b3 = b4 by omega)
  replace hbase1 := Nat.le_trans hbase1 (hw2.step).size
  replace hr1 := hr1.stepU hub1 hw2.step (fun k hk1 hk2 (hF : k = b4) => by omega)
  have ho6 : Own w9 b4 #[.int .u8 90, .slice A1 5 c1] 40 := Own.cast hw2.own (by kernel_rfl)
  have hzhw2 := hw2.same
  refine VL_pure 8 [2, 3, 4, 7, 15, 8] [(2, .int .u8 ((m : Nat) : Int)), (3, .pointer (some ⟨b1, 0, none⟩)), (4, .pointer (some ⟨b2, 0, none⟩)), (7, .pointer (some ⟨b3, 0, none⟩)), (15, .pointer (some ⟨b4, 0, none⟩)), (8, .int .i64 0)] (by kernel_rfl) rfl ?_
  refine VL_end (by kernel_rfl) ?_
  refine VQ_next ?_
  refine VC_seq ?_
  refine VC_seq ?_
  refine VC_region ?_
  refine VL_pure 2 [2, 3, 4, 7, 15, 68] [(2, .int .u8 ((m : Nat) : Int)), (3, .pointer (some ⟨b1, 0, none⟩)), (4, .pointer (some ⟨b2, 0, none⟩)), (7, .pointer (some ⟨b3, 0, none⟩)), (15, .pointer (some ⟨b4, 0, none⟩)), (68, .bool true)] (by kernel_rfl) rfl ?_
  refine VL_end (by kernel_rfl) ?_
  refine VQ_next ?_
  refine VC_true (by kernel_rfl) ?_
  refine VC_seq ?_
  refine VC_region ?_
  refine VL_load (d := 70) (t := 40) (a := ⟨b4, 0, none⟩) (v := .agg #[.int .u8 90, .slice A1 5 c1]) (by kernel_rfl) (by kernel_rfl) (Loads.ownL ho6 (n := 2) (by kernel_rfl) (by kernel_rfl) (by kernel_rfl)) ?_
  have hzs8 := hS.size
  have hzl14 := ho1.lt
  have hzl15 := ho2.lt
  have hzl16 := ho4.lt
  have hzl17 := ho6.lt
  refine VL_call (d := 71) (f := 23) (by kernel_rfl) (by kernel_rfl) (by kernel_rfl) Try.call23 (rdkey_any 90 A1 5 c1 _ (keyL kp kv kc) _ (Rw.lenI hr1) (Rw.cap hr1) (Rw.slI hr1) (keyL_bytes _ _ _) (by first | exact Nat.le_refl _ | omega)) ?_
  rintro _ w10 ⟨rfl, hc4⟩
  replace hS := Step.trans hS hc4
  replace ho1 := ho1.no hc4
  replace ho2 := ho2.no hc4
  replace ho4 := ho4.no hc4
  replace hbase1 := Nat.le_trans hbase1 (hc4).size
  replace hr1 := hr1.no hc4
  replace ho6 := ho6.no hc4
  refine VL_pure 5 [2, 3, 4, 7, 15, 72, 73] [(2, .int .u8 ((m : Nat) : Int)), (3, .pointer (some ⟨b1, 0, none⟩)), (4, .pointer (some ⟨b2, 0, none⟩)), (7, .pointer (some ⟨b3, 0, none⟩)), (15, .pointer (some ⟨b4, 0, none⟩)), (72, .agg #[.int .i64 (rkV 90 (keyL kp kv kc) (fk (keyL kp kv kc) 0 1)), .int .i64 (rkV 90 (keyL kp kv kc) (fk (keyL kp kv kc) 1 2)), .int .i64 (rkV 90 (keyL kp kv kc) (fk (keyL kp kv kc) 3 2))]), (73, .int .i64 (rkE 90 (keyL kp kv kc)))] (by kernel_rfl) rfl ?_
  have hzs9 := hS.size
  have hzl18 := ho1.lt
  have hzl19 := ho2.lt
  have hzl20 := ho4.lt
  have hzk2 := hbase1
  have hzl21 := ho6.lt
  refine VL_box (d := 16) (t := 47) (c := #[.int .i64 0, .int .i64 0, .int .i64 0]) (by kernel_rfl) (by kernel_rfl) ?_
  intro b5 w11 hn5
  replace hS := Step.trans hS (hn5.step No)
  replace ho1 := ho1.no (hn5.step No)
  replace ho2 := ho2.no (hn5.step No)
  replace ho4 := ho4.no (hn5.step No)
  replace hbase1 := Nat.le_trans hbase1 (hn5.step No).size
  replace hr1 := hr1.no (hn5.step No)
  replace ho6 := ho6.no (hn5.step No)
  have ho7 := hn5.own
  have hzhn5 := hn5.size
  have hqhn5 := hn5.eqb
  refine VL_store (b := b5) (o := 0) (vs := [.int .i64 (rkV 90 (keyL kp kv kc) (fk (keyL kp kv kc) 0 1)), .int .i64 (rkV 90 (keyL kp kv kc) (fk (keyL kp kv kc) 1 2)), .int .i64 (rkV 90 (keyL kp kv kc) (fk (keyL kp kv kc) 3 2))]) (by kernel_rfl) (by kernel_rfl) ho7 (Nat.le_of_ble_eq_true (by kernel_rfl)) ?_
  intro w12 hw3
  replace hS := Step.transNew hS hw3.step (fun _ _ _ => by omega)
  replace ho1 := ho1.step hw3.step (show ¬ b1 = b5 by omega)
  replace ho2 := ho2.step hw3.step (show ¬ b2 = b5 by omega)
  replace ho4 := ho4.step hw3.step (show ¬ b3 = b5 by omega)
  replace hbase1 := Nat.le_trans hbase1 (hw3.step).size
  replace hr1 := hr1.stepU hub1 hw3.step (fun k hk1 hk2 (hF : k = b5) => by omega)
  replace ho6 := ho6.step hw3.step (show ¬ b4 = b5 by omega)
  have ho8 : Own w12 b5 #[.int .i64 (rkV 90 (keyL kp kv kc) (fk (keyL kp kv kc) 0 1)), .int .i64 (rkV 90 (keyL kp kv kc) (fk (keyL kp kv kc) 1 2)), .int .i64 (rkV 90 (keyL kp kv kc) (fk (keyL kp kv kc) 3 2))] 47 := Own.cast hw3.own (by kernel_rfl)
  have hzhw3 := hw3.same
  refine VL_pure 8 [2, 3, 4, 7, 15, 16, 17] [(2, .int .u8 ((m : Nat) : Int)), (3, .pointer (some ⟨b1, 0, none⟩)), (4, .pointer (some ⟨b2, 0, none⟩)), (7, .pointer (some ⟨b3, 0, none⟩)), (15, .pointer (some ⟨b4, 0, none⟩)), (16, .pointer (some ⟨b5, 0, none⟩)), (17, .int .i64 (rkE 90 (keyL kp kv kc)))] (by kernel_rfl) rfl ?_
  refine VL_end (by kernel_rfl) ?_
  refine VQ_next ?_
  refine VC_seq ?_
  refine VC_region ?_
  refine VL_load (d := 75) (t := 40) (a := ⟨b4, 0, none⟩) (v := .agg #[.int .u8 90, .slice A1 5 c1]) (by kernel_rfl) (by kernel_rfl) (Loads.ownL ho6 (n := 2) (by kernel_rfl) (by kernel_rfl) (by kernel_rfl)) ?_
  have hzs10 := hS.size
  have hzl22 := ho1.lt
  have hzl23 := ho2.lt
  have hzl24 := ho4.lt
  have hzl25 := ho6.lt
  have hzl26 := ho8.lt
  refine VL_call (d := 76) (f := 21) (by kernel_rfl) (by kernel_rfl) (by kernel_rfl) Try.call21 (rdtraf_any 90 A1 5 c1 _ (keyL kp kv kc) _ (Rw.lenI hr1) (Rw.cap hr1) (Rw.slI hr1) (keyL_bytes _ _ _) (by first | exact Nat.le_refl _ | omega)) ?_
  rintro _ w13 ⟨rfl, hc5⟩
  replace hS := Step.trans hS hc5
  replace ho1 := ho1.no hc5
  replace ho2 := ho2.no hc5
  replace ho4 := ho4.no hc5
  replace hbase1 := Nat.le_trans hbase1 (hc5).size
  replace hr1 := hr1.no hc5
  replace ho6 := ho6.no hc5
  replace ho8 := ho8.no hc5
  refine VL_pure 5 [2, 3, 4, 7, 16, 17, 77, 78] [(2, .int .u8 ((m : Nat) : Int)), (3, .pointer (some ⟨b1, 0, none⟩)), (4, .pointer (some ⟨b2, 0, none⟩)), (7, .pointer (some ⟨b3, 0, none⟩)), (16, .pointer (some ⟨b5, 0, none⟩)), (17, .int .i64 (rkE 90 (keyL kp kv kc))), (77, .agg #[.int .i64 (rtV 90 (keyL kp kv kc) (IntKind.wrap .i64 (List.getD (keyL kp kv kc) 0 0))), .int .i64 (rtV 90 (keyL kp kv kc) (fld (keyL kp kv kc) 0)), .int .i64 (rtV 90 (keyL kp kv kc) (fld (keyL kp kv kc) 1)), .int .i64 (rtV 90 (keyL kp kv kc) (fld (keyL kp kv kc) 2)), .int .i64 (rtV 90 (keyL kp kv kc) (fld (keyL kp kv kc) 3)), .int .i64 (rtV 90 (keyL kp kv kc) (fld (keyL kp kv kc) 4))]), (78, .int .i64 (rtE 90 (keyL kp kv kc)))] (by kernel_rfl) rfl ?_
  have hzs11 := hS.size
  have hzl27 := ho1.lt
  have hzl28 := ho2.lt
  have hzl29 := ho4.lt
  have hzk3 := hbase1
  have hzl30 := ho6.lt
  have hzl31 := ho8.lt
  refine VL_box (d := 18) (t := 45) (c := #[.int .i64 0, .int .i64 0, .int .i64 0, .int .i64 0, .int .i64 0, .int .i64 0]) (by kernel_rfl) (by kernel_rfl) ?_
  intro b6 w14 hn6
  replace hS := Step.trans hS (hn6.step No)
  replace ho1 := ho1.no (hn6.step No)
  replace ho2 := ho2.no (hn6.step No)
  replace ho4 := ho4.no (hn6.step No)
  replace hbase1 := Nat.le_trans hbase1 (hn6.step No).size
  replace hr1 := hr1.no (hn6.step No)
  replace ho6 := ho6.no (hn6.step No)
  replace ho8 := ho8.no (hn6.step No)
  have ho9 := hn6.own
  have hzhn6 := hn6.size
  have hqhn6 := hn6.eqb
  refine VL_store (b := b6) (o := 0) (vs := [.int .i64 (rtV 90 (keyL kp kv kc) (IntKind.wrap .i64 (List.getD (keyL kp kv kc) 0 0))), .int .i64 (rtV 90 (keyL kp kv kc) (fld (keyL kp kv kc) 0)), .int .i64 (rtV 90 (keyL kp kv kc) (fld (keyL kp kv kc) 1)), .int .i64 (rtV 90 (keyL kp kv kc) (fld (keyL kp kv kc) 2)), .int .i64 (rtV 90 (keyL kp kv kc) (fld (keyL kp kv kc) 3)), .int .i64 (rtV 90 (keyL kp kv kc) (fld (keyL kp kv kc) 4))]) (by kernel_rfl) (by kernel_rfl) ho9 (Nat.le_of_ble_eq_true (by kernel_rfl)) ?_
  intro w15 hw4
  replace hS := Step.transNew hS hw4.step (fun _ _ _ => by omega)
  replace ho1 := ho1.step hw4.step (show ¬ b1 = b6 by omega)
  replace ho2 := ho2.step hw4.step (show ¬ b2 = b6 by omega)
  replace ho4 := ho4.step hw4.step (show ¬ b3 = b6 by omega)
  replace hbase1 := Nat.le_trans hbase1 (hw4.step).size
  replace hr1 := hr1.stepU hub1 hw4.step (fun k hk1 hk2 (hF : k = b6) => by omega)
  replace ho6 := ho6.step hw4.step (show ¬ b4 = b6 by omega)
  replace ho8 := ho8.step hw4.step (show ¬ b5 = b6 by omega)
  have ho10 : Own w15 b6 #[.int .i64 (rtV 90 (keyL kp kv kc) (IntKind.wrap .i64 (List.getD (keyL kp kv kc) 0 0))), .int .i64 (rtV 90 (keyL kp kv kc) (fld (keyL kp kv kc) 0)), .int .i64 (rtV 90 (keyL kp kv kc) (fld (keyL kp kv kc) 1)), .int .i64 (rtV 90 (keyL kp kv kc) (fld (keyL kp kv kc) 2)), .int .i64 (rtV 90 (keyL kp kv kc) (fld (keyL kp kv kc) 3)), .int .i64 (rtV 90 (keyL kp kv kc) (fld (keyL kp kv kc) 4))] 45 := Own.cast hw4.own (by kernel_rfl)
  have hzhw4 := hw4.same
  refine VL_pure 8 [2, 3, 4, 7, 16, 17, 19] [(2, .int .u8 ((m : Nat) : Int)), (3, .pointer (some ⟨b1, 0, none⟩)), (4, .pointer (some ⟨b2, 0, none⟩)), (7, .pointer (some ⟨b3, 0, none⟩)), (16, .pointer (some ⟨b5, 0, none⟩)), (17, .int .i64 (rkE 90 (keyL kp kv kc))), (19, .int .i64 (rtE 90 (keyL kp kv kc)))] (by kernel_rfl) rfl ?_
  refine VL_end (by kernel_rfl) ?_
  refine VQ_next ?_
  refine VC_seq ?_
  refine VC_region ?_
  refine VL_pure 3 [2, 3, 4, 7, 16, 19, 81] [(2, .int .u8 ((m : Nat) : Int)), (3, .pointer (some ⟨b1, 0, none⟩)), (4, .pointer (some ⟨b2, 0, none⟩)), (7, .pointer (some ⟨b3, 0, none⟩)), (16, .pointer (some ⟨b5, 0, none⟩)), (19, .int .i64 (rtE 90 (keyL kp kv kc))), (81, .bool ((rkE 90 (keyL kp kv kc)) != 0))] (by kernel_rfl) rfl ?_
  refine VL_known ((rkE 90 (keyL kp kv kc)) != 0) (fun bV => [(2, .int .u8 ((m : Nat) : Int)), (3, .pointer (some ⟨b1, 0, none⟩)), (4, .pointer (some ⟨b2, 0, none⟩)), (7, .pointer (some ⟨b3, 0, none⟩)), (16, .pointer (some ⟨b5, 0, none⟩)), (19, .int .i64 (rtE 90 (keyL kp kv kc))), (81, .bool bV)]) false rfl (by rw [(key_back hk).1]; rfl) ?_
  refine VL_load (d := 82) (t := 47) (a := ⟨b5, 0, none⟩) (v := .agg #[.int .i64 (rkV 90 (keyL kp kv kc) (fk (keyL kp kv kc) 0 1)), .int .i64 (rkV 90 (keyL kp kv kc) (fk (keyL kp kv kc) 1 2)), .int .i64 (rkV 90 (keyL kp kv kc) (fk (keyL kp kv kc) 3 2))]) (by kernel_rfl) (by kernel_rfl) (Loads.ownL ho8 (n := 3) (by kernel_rfl) (by kernel_rfl) (by kernel_rfl)) ?_
  refine VL_load (d := 83) (t := 47) (a := ⟨b2, 0, none⟩) (v := .agg #[.int .i64 ((kp : Nat) : Int), .int .i64 ((kv : Nat) : Int), .int .i64 ((kc : Nat) : Int)]) (by kernel_rfl) (by kernel_rfl) (Loads.ownL ho2 (n := 3) (by kernel_rfl) (by kernel_rfl) (by kernel_rfl)) ?_
  refine VL_agEq (d := 84) (dd := 9) (ls := ([.int .i64] ++ [.int .i64] ++ [.int .i64] ++ [])) (pos := false) (t := 47) (xs := #[.int .i64 (rkV 90 (keyL kp kv kc) (fk (keyL kp kv kc) 0 1)), .int .i64 (rkV 90 (keyL kp kv kc) (fk (keyL kp kv kc) 1 2)), .int .i64 (rkV 90 (keyL kp kv kc) (fk (keyL kp kv kc) 3 2))]) (ys := #[.int .i64 ((kp : Nat) : Int), .int .i64 ((kv : Nat) : Int), .int .i64 ((kc : Nat) : Int)]) (by kernel_rfl) (by kernel_rfl) (by kernel_rfl) (by kernel_rfl) (by first | exact ⟨⟨_, rfl⟩, ⟨_, rfl⟩, ⟨_, rfl⟩, trivial⟩ | trivial) (by first | exact ⟨⟨_, rfl⟩, ⟨_, rfl⟩, ⟨_, rfl⟩, trivial⟩ | trivial) (!(([rkV 90 (keyL kp kv kc) (fk (keyL kp kv kc) 0 1), rkV 90 (keyL kp kv kc) (fk (keyL kp kv kc) 1 2), rkV 90 (keyL kp kv kc) (fk (keyL kp kv kc) 3 2)] : List Int) == [((kp : Nat) : Int), ((kv : Nat) : Int), ((kc : Nat) : Int)])) (iA_eq (k := .i64) (xs := [rkV 90 (keyL kp kv kc) (fk (keyL kp kv kc) 0 1), rkV 90 (keyL kp kv kc) (fk (keyL kp kv kc) 1 2), rkV 90 (keyL kp kv kc) (fk (keyL kp kv kc) 3 2)]) (bs := [((kp : Nat) : Int), ((kv : Nat) : Int), ((kc : Nat) : Int)]) false) ?_
  refine VL_pure 8 [2, 3, 7, 19, 86] [(2, .int .u8 ((m : Nat) : Int)), (3, .pointer (some ⟨b1, 0, none⟩)), (7, .pointer (some ⟨b3, 0, none⟩)), (19, .int .i64 (rtE 90 (keyL kp kv kc))), (86, .bool (!(([rkV 90 (keyL kp kv kc) (fk (keyL kp kv kc) 0 1), rkV 90 (keyL kp kv kc) (fk (keyL kp kv kc) 1 2), rkV 90 (keyL kp kv kc) (fk (keyL kp kv kc) 3 2)] : List Int) == [((kp : Nat) : Int), ((kv : Nat) : Int), ((kc : Nat) : Int)])))] (by kernel_rfl) rfl ?_
  refine VL_known (!(([rkV 90 (keyL kp kv kc) (fk (keyL kp kv kc) 0 1), rkV 90 (keyL kp kv kc) (fk (keyL kp kv kc) 1 2), rkV 90 (keyL kp kv kc) (fk (keyL kp kv kc) 3 2)] : List Int) == [((kp : Nat) : Int), ((kv : Nat) : Int), ((kc : Nat) : Int)])) (fun bV => [(2, .int .u8 ((m : Nat) : Int)), (3, .pointer (some ⟨b1, 0, none⟩)), (7, .pointer (some ⟨b3, 0, none⟩)), (19, .int .i64 (rtE 90 (keyL kp kv kc))), (86, .bool bV)]) false rfl (by rw [key_same hk]; simp) ?_
  refine VL_pure 11 [2, 3, 7, 89] [(2, .int .u8 ((m : Nat) : Int)), (3, .pointer (some ⟨b1, 0, none⟩)), (7, .pointer (some ⟨b3, 0, none⟩)), (89, .bool ((rtE 90 (keyL kp kv kc)) != 12))] (by kernel_rfl) rfl ?_
  refine VL_end (by kernel_rfl) ?_
  refine VQ_next ?_
  refine VC_is (b := (rtE 90 (keyL kp kv kc)) != 12) false (by kernel_rfl) (by rw [rt_12 (by decide)]; rfl) ?_
  refine VC_ite_false ?_
  refine VC_skip ?_
  refine VQ_next ?_
  refine VC_seq ?_
  refine VC_region ?_
  refine VL_pure 2 [2, 3, 7, 92] [(2, .int .u8 ((m : Nat) : Int)), (3, .pointer (some ⟨b1, 0, none⟩)), (7, .pointer (some ⟨b3, 0, none⟩)), (92, .int .i64 (IntKind.wrap .i64 ((m : Nat) : Int)))] (by kernel_rfl) rfl ?_
  have he1 : IntKind.wrap .i64 ((m : Nat) : Int) = ((m : Nat) : Int) := (by rw [wrap_i64 _ (by omega) (by omega)])
  refine VL_eq [(2, .int .u8 ((m : Nat) : Int)), (3, .pointer (some ⟨b1, 0, none⟩)), (7, .pointer (some ⟨b3, 0, none⟩)), (92, .int .i64 ((m : Nat) : Int))] (by rw [he1]) ?_
  refine VL_pure 3 [2, 3, 7, 93] [(2, .int .u8 ((m : Nat) : Int)), (3, .pointer (some ⟨b1, 0, none⟩)), (7, .pointer (some ⟨b3, 0, none⟩)), (93, .int .i64 (((m : Nat) : Int).tmod 128))] (by kernel_rfl) rfl ?_
  have he2 : ((m : Nat) : Int).tmod 128 = ((m % 128 : Nat) : Int) := (tmod_nat m 128)
  refine VL_eq [(2, .int .u8 ((m : Nat) : Int)), (3, .pointer (some ⟨b1, 0, none⟩)), (7, .pointer (some ⟨b3, 0, none⟩)), (93, .int .i64 ((m % 128 : Nat) : Int))] (by rw [he2]) ?_
  have hzs12 := hS.size
  have hzl32 := ho1.lt
  have hzl33 := ho2.lt
  have hzl34 := ho4.lt
  have hzl35 := ho6.lt
  have hzl36 := ho8.lt
  have hzl37 := ho10.lt
  refine VL_call (d := 94) (f := 27) (by kernel_rfl) (by kernel_rfl) (by kernel_rfl) Try.call27 (cause_yes (m % 128) _ (by omega)) ?_
  rintro _ w16 ⟨A2, rfl, hr2, hc6⟩
  replace hS := Step.trans hS hc6
  replace ho1 := ho1.no hc6
  replace ho2 := ho2.no hc6
  replace ho4 := ho4.no hc6
  replace hbase1 := Nat.le_trans hbase1 (hc6).size
  replace hr1 := hr1.no hc6
  replace ho6 := ho6.no hc6
  replace ho8 := ho8.no hc6
  replace ho10 := ho10.no hc6
  obtain ⟨base2, hbase2E⟩ : ∃ x, x = w15.heap.size := ⟨_, rfl⟩
  rw [← hbase2E] at hr2
  have hbase2 : base2 ≤ w16.heap.size := by rw [hbase2E]; exact hc6.size
  refine VL_pure 7 [2, 3, 7, 95, 96] [(2, .int .u8 ((m : Nat) : Int)), (3, .pointer (some ⟨b1, 0, none⟩)), (7, .pointer (some ⟨b3, 0, none⟩)), (95, .agg #[.int .u8 8, .slice A2 2 2]), (96, .int .i64 0)] (by kernel_rfl) rfl ?_
  have hzs13 := hS.size
  have hzl38 := ho1.lt
  have hzl39 := ho2.lt
  have hzl40 := ho4.lt
  have hzk4 := hbase1
  have hzl41 := ho6.lt
  have hzl42 := ho8.lt
  have hzl43 := ho10.lt
  have hzk5 := hbase2
  have hub2 := hr2.ub
  refine VL_box (d := 20) (t := 40) (c := #[.int .u8 0, .slice none 0 0]) (by kernel_rfl) (by kernel_rfl) ?_
  intro b7 w17 hn7
  replace hS := Step.trans hS (hn7.step No)
  replace ho1 := ho1.no (hn7.step No)
  replace ho2 := ho2.no (hn7.step No)
  replace ho4 := ho4.no (hn7.step No)
  replace hbase1 := Nat.le_trans hbase1 (hn7.step No).size
  replace hr1 := hr1.no (hn7.step No)
  replace ho6 := ho6.no (hn7.step No)
  replace ho8 := ho8.no (hn7.step No)
  replace ho10 := ho10.no (hn7.step No)
  replace hbase2 := Nat.le_trans hbase2 (hn7.step No).size
  replace hr2 := hr2.no (hn7.step No)
  have ho11 := hn7.own
  have hzhn7 := hn7.size
  have hqhn7 := hn7.eqb
  refine VL_store (b := b7) (o := 0) (vs := [.int .u8 8, .slice A2 2 2]) (by kernel_rfl) (by kernel_rfl) ho11 (Nat.le_of_ble_eq_true (by kernel_rfl)) ?_
  intro w18 hw5
  replace hS := Step.transNew hS hw5.step (fun _ _ _ => by omega)
  replace ho1 := ho1.step hw5.step (show ¬ b1 = b7 by omega)
  replace ho2 := ho2.step hw5.step (show ¬ b2 = b7 by omega)
  replace ho4 := ho4.step hw5.step (show ¬ b3 = b7 by omega)
  replace hbase1 := Nat.le_trans hbase1 (hw5.step).size
  replace hr1 := hr1.stepU hub1 hw5.step (fun k hk1 hk2 (hF : k = b7) => by omega)
  replace ho6 := ho6.step hw5.step (show ¬ b4 = b7 by omega)
  replace ho8 := ho8.step hw5.step (show ¬ b5 = b7 by omega)
  replace ho10 := ho10.step hw5.step (show ¬ b6 = b7 by omega)
  replace hbase2 := Nat.le_trans hbase2 (hw5.step).size
  replace hr2 := hr2.stepU hub2 hw5.step (fun k hk1 hk2 (hF : k = b7) => by omega)
  have ho12 : Own w18 b7 #[.int .u8 8, .slice A2 2 2] 40 := Own.cast hw5.own (by kernel_rfl)
  have hzhw5 := hw5.same
  refine VL_pure 10 [2, 3, 7, 20, 8] [(2, .int .u8 ((m : Nat) : Int)), (3, .pointer (some ⟨b1, 0, none⟩)), (7, .pointer (some ⟨b3, 0, none⟩)), (20, .pointer (some ⟨b7, 0, none⟩)), (8, .int .i64 0)] (by kernel_rfl) rfl ?_
  refine VL_end (by kernel_rfl) ?_
  refine VQ_next ?_
  refine VC_seq ?_
  refine VC_region ?_
  refine VL_load (d := 98) (t := 40) (a := ⟨b7, 0, none⟩) (v := .agg #[.int .u8 8, .slice A2 2 2]) (by kernel_rfl) (by kernel_rfl) (Loads.ownL ho12 (n := 2) (by kernel_rfl) (by kernel_rfl) (by kernel_rfl)) ?_
  have hzs14 := hS.size
  have hzl44 := ho1.lt
  have hzl45 := ho2.lt
  have hzl46 := ho4.lt
  have hzl47 := ho6.lt
  have hzl48 := ho8.lt
  have hzl49 := ho10.lt
  have hzl50 := ho12.lt
  refine VL_call (d := 99) (f := 25) (by kernel_rfl) (by kernel_rfl) (by kernel_rfl) Try.call25 (rdcause_any 8 A2 2 2 _ ([0, ((m % 128 : Nat) : Int)]) _ (Rw.lenI hr2) (Rw.cap hr2) (Rw.slI hr2) (bytes_cause (by omega)) (by first | exact Nat.le_refl _ | omega)) ?_
  rintro _ w19 ⟨rfl, hc7⟩
  replace hS := Step.trans hS hc7
  replace ho1 := ho1.no hc7
  replace ho2 := ho2.no hc7
  replace ho4 := ho4.no hc7
  replace hbase1 := Nat.le_trans hbase1 (hc7).size
  replace hr1 := hr1.no hc7
  replace ho6 := ho6.no hc7
  replace ho8 := ho8.no hc7
  replace ho10 := ho10.no hc7
  replace hbase2 := Nat.le_trans hbase2 (hc7).size
  replace hr2 := hr2.no hc7
  replace ho12 := ho12.no hc7
  refine VL_pure 7 [2, 3, 7, 8, 21, 22] [(2, .int .u8 ((m : Nat) : Int)), (3, .pointer (some ⟨b1, 0, none⟩)), (7, .pointer (some ⟨b3, 0, none⟩)), (8, .int .i64 0), (21, .int .i64 (rcV 8 ([0, ((m % 128 : Nat) : Int)]))), (22, .int .i64 (rcE 8 ([0, ((m % 128 : Nat) : Int)])))] (by kernel_rfl) rfl ?_
  refine VL_end (by kernel_rfl) ?_
  refine VQ_next ?_
  refine VC_seq ?_
  refine VC_region ?_
  refine VL_pure 7 [2, 3, 7, 21, 108] [(2, .int .u8 ((m : Nat) : Int)), (3, .pointer (some ⟨b1, 0, none⟩)), (7, .pointer (some ⟨b3, 0, none⟩)), (21, .int .i64 (rcV 8 ([0, ((m % 128 : Nat) : Int)]))), (108, .bool ((rcE 8 ([0, ((m % 128 : Nat) : Int)])) == 0))] (by kernel_rfl) rfl ?_
  refine VL_known ((rcE 8 ([0, ((m % 128 : Nat) : Int)])) == 0) (fun bV => [(2, .int .u8 ((m : Nat) : Int)), (3, .pointer (some ⟨b1, 0, none⟩)), (7, .pointer (some ⟨b3, 0, none⟩)), (21, .int .i64 (rcV 8 ([0, ((m % 128 : Nat) : Int)]))), (108, .bool bV)]) true rfl (by rw [(cause_back (by omega)).1]; rfl) ?_
  refine VL_pure 10 [3, 7, 108, 109, 111] [(3, .pointer (some ⟨b1, 0, none⟩)), (7, .pointer (some ⟨b3, 0, none⟩)), (108, .bool true), (109, .int .i64 (rcV 8 ([0, ((m % 128 : Nat) : Int)]))), (111, .int .i64 (IntKind.wrap .i64 ((m : Nat) : Int)))] (by kernel_rfl) rfl ?_
  have he3 : IntKind.wrap .i64 ((m : Nat) : Int) = ((m : Nat) : Int) := (by rw [wrap_i64 _ (by omega) (by omega)])
  refine VL_eq [(3, .pointer (some ⟨b1, 0, none⟩)), (7, .pointer (some ⟨b3, 0, none⟩)), (108, .bool true), (109, .int .i64 (rcV 8 ([0, ((m % 128 : Nat) : Int)]))), (111, .int .i64 ((m : Nat) : Int))] (by rw [he3]) ?_
  refine VL_pure 11 [3, 7, 108, 109, 112] [(3, .pointer (some ⟨b1, 0, none⟩)), (7, .pointer (some ⟨b3, 0, none⟩)), (108, .bool true), (109, .int .i64 (rcV 8 ([0, ((m % 128 : Nat) : Int)]))), (112, .int .i64 (((m : Nat) : Int).tmod 128))] (by kernel_rfl) rfl ?_
  have he4 : ((m : Nat) : Int).tmod 128 = ((m % 128 : Nat) : Int) := (tmod_nat m 128)
  refine VL_eq [(3, .pointer (some ⟨b1, 0, none⟩)), (7, .pointer (some ⟨b3, 0, none⟩)), (108, .bool true), (109, .int .i64 (rcV 8 ([0, ((m % 128 : Nat) : Int)]))), (112, .int .i64 ((m % 128 : Nat) : Int))] (by rw [he4]) ?_
  refine VL_pure 14 [3, 7, 115] [(3, .pointer (some ⟨b1, 0, none⟩)), (7, .pointer (some ⟨b3, 0, none⟩)), (115, .bool ((rcV 8 ([0, ((m % 128 : Nat) : Int)])) == ((m % 128 : Nat) : Int)))] (by kernel_rfl) rfl ?_
  refine VL_known ((rcV 8 ([0, ((m % 128 : Nat) : Int)])) == ((m % 128 : Nat) : Int)) (fun bV => [(3, .pointer (some ⟨b1, 0, none⟩)), (7, .pointer (some ⟨b3, 0, none⟩)), (115, .bool bV)]) true rfl (by rw [(cause_back (by omega)).2]; simp) ?_
  refine VL_load (d := 116) (t := 45) (a := ⟨b1, 0, none⟩) (v := .agg #[.int .i64 k, .int .i64 p, .int .i64 e, .int .i64 h, .int .i64 b, .int .i64 t]) (by kernel_rfl) (by kernel_rfl) (Loads.ownL ho1 (n := 6) (by kernel_rfl) (by kernel_rfl) (by kernel_rfl)) ?_
  have hzs15 := hS.size
  have hzl51 := ho1.lt
  have hzl52 := ho2.lt
  have hzl53 := ho4.lt
  have hzl54 := ho6.lt
  have hzl55 := ho8.lt
  have hzl56 := ho10.lt
  have hzl57 := ho12.lt
  refine VL_call (d := 117) (f := 29) (args := #[.agg #[.int .i64 k, .int .i64 p, .int .i64 e, .int .i64 h, .int .i64 b, .int .i64 t]]) (by kernel_rfl) (by kernel_rfl) (by kernel_rfl) Try.call29 (rright_any k p e h b t _) ?_
  rintro _ w20 ⟨rfl, hc8⟩
  replace hS := Step.trans hS hc8
  replace ho1 := ho1.no hc8
  replace ho2 := ho2.no hc8
  replace ho4 := ho4.no hc8
  replace hbase1 := Nat.le_trans hbase1 (hc8).size
  replace hr1 := hr1.no hc8
  replace ho6 := ho6.no hc8
  replace ho8 := ho8.no hc8
  replace ho10 := ho10.no hc8
  replace hbase2 := Nat.le_trans hbase2 (hc8).size
  replace hr2 := hr2.no hc8
  replace ho12 := ho12.no hc8
  refine VL_pure 18 [7, 115, 119] [(7, .pointer (some ⟨b3, 0, none⟩)), (115, .bool true), (119, .bool ((rightC k p e h b t) == 0))] (by kernel_rfl) rfl ?_
  refine VL_known ((rightC k p e h b t) == 0) (fun bV => [(7, .pointer (some ⟨b3, 0, none⟩)), (115, .bool true), (119, .bool bV)]) false rfl (by first | (rw [hr]; rfl) | simpa using hr) ?_
  refine VL_pure 19 [115, 119, 120] [(115, .bool true), (119, .bool false), (120, .pointer (some ⟨b3, 1, none⟩))] (by kernel_rfl) rfl ?_
  refine VL_load (d := 121) (t := 23) (a := ⟨b3, 1, none⟩) (v := .slice none 0 0) (by kernel_rfl) (by kernel_rfl) (Loads.own1 ho4 (by kernel_rfl) (by rfl)) ?_
  refine VL_pure 25 [6] [(6, .bool true)] (by kernel_rfl) rfl ?_
  refine VL_end (by kernel_rfl) ?_
  refine VQ_next ?_
  refine VC_ret ?_
  refine VQ_ret1 (.bool true) (.inr rfl) rfl rfl ?_
  exact ⟨by first | rfl | simp [*], hS⟩

set_option maxRecDepth 100000 in
set_option maxHeartbeats 4000000 in
theorem kinds_no_no (k p e h b t : Int) (kp kv kc : Int) (m : Nat) (w : World) (hm : m < 256) (hr : rightC k p e h b t ≠ 0) (hk : rightK kp kv kc = false)  :
    CV Try.prog 8 #[.agg #[.int .i64 k, .int .i64 p, .int .i64 e, .int .i64 h, .int .i64 b, .int .i64 t], .agg #[.int .i64 kp, .int .i64 kv, .int .i64 kc], .int .u8 ((m : Nat) : Int)] w (fun x w1 => x = .bool true ∧ Step No w w1) := by
  have hS : Step No w w := Step.refl _ _
  refine CV_enter Try.f8 _ 126 [(0, .agg #[.int .i64 k, .int .i64 p, .int .i64 e, .int .i64 h, .int .i64 b, .int .i64 t]), (1, .agg #[.int .i64 kp, .int .i64 kv, .int .i64 kc]), (2, .int .u8 ((m : Nat) : Int))] Try.func8 rfl rfl (by kernel_rfl) rfl ?_
  refine VC_seq ?_
  refine VC_region ?_
  have hzs1 := hS.size
  refine VL_box (d := 3) (t := 45) (c := #[.int .i64 k, .int .i64 p, .int .i64 e, .int .i64 h, .int .i64 b, .int .i64 t]) (by kernel_rfl) (by kernel_rfl) ?_
  intro b1 w1 hn1
  replace hS := Step.trans hS (hn1.step No)
  have ho1 := hn1.own
  have hzhn1 := hn1.size
  have hqhn1 := hn1.eqb
  have hzs2 := hS.size
  have hzl1 := ho1.lt
  refine VL_box (d := 4) (t := 47) (c := #[.int .i64 kp, .int .i64 kv, .int .i64 kc]) (by kernel_rfl) (by kernel_rfl) ?_
  intro b2 w2 hn2
  replace hS := Step.trans hS (hn2.step No)
  replace ho1 := ho1.no (hn2.step No)
  have ho2 := hn2.own
  have hzhn2 := hn2.size
  have hqhn2 := hn2.eqb
  refine VL_pure 3 [2, 3, 4] [(2, .int .u8 ((m : Nat) : Int)), (3, .pointer (some ⟨b1, 0, none⟩)), (4, .pointer (some ⟨b2, 0, none⟩))] (by kernel_rfl) rfl ?_
  refine VL_end (by kernel_rfl) ?_
  refine VQ_next ?_
  refine VC_seq ?_
  refine VC_seq ?_
  refine VC_region ?_
  have hzs3 := hS.size
  have hzl2 := ho1.lt
  have hzl3 := ho2.lt
  refine VL_call (d := 23) (f := 9) (args := #[]) (by kernel_rfl) (by kernel_rfl) (by kernel_rfl) Try.call9 (awake_any _) ?_
  rintro _ w3 ⟨rfl, hc1⟩
  replace hS := Step.trans hS hc1
  replace ho1 := ho1.no hc1
  replace ho2 := ho2.no hc1
  refine VL_pure 2 [2, 3, 4, 24] [(2, .int .u8 ((m : Nat) : Int)), (3, .pointer (some ⟨b1, 0, none⟩)), (4, .pointer (some ⟨b2, 0, none⟩)), (24, .bool false)] (by kernel_rfl) rfl ?_
  refine VL_end (by kernel_rfl) ?_
  refine VQ_next ?_
  refine VC_false (by kernel_rfl) ?_
  refine VC_skip ?_
  refine VQ_next ?_
  refine VC_seq ?_
  refine VC_region ?_
  refine VL_load (d := 26) (t := 45) (a := ⟨b1, 0, none⟩) (v := .agg #[.int .i64 k, .int .i64 p, .int .i64 e, .int .i64 h, .int .i64 b, .int .i64 t]) (by kernel_rfl) (by kernel_rfl) (Loads.ownL ho1 (n := 6) (by kernel_rfl) (by kernel_rfl) (by kernel_rfl)) ?_
  have hzs4 := hS.size
  have hzl4 := ho1.lt
  have hzl5 := ho2.lt
  refine VL_call (d := 27) (f := 18) (args := #[.agg #[.int .i64 k, .int .i64 p, .int .i64 e, .int .i64 h, .int .i64 b, .int .i64 t]]) (by kernel_rfl) (by kernel_rfl) (by kernel_rfl) Try.call18 (traffic_no k p e h b t _ hr) ?_
  rintro _ w4 ⟨rfl, hc2⟩
  replace hS := Step.trans hS hc2
  replace ho1 := ho1.no hc2
  replace ho2 := ho2.no hc2
  refine VL_pure 5 [2, 3, 4, 28, 29] [(2, .int .u8 ((m : Nat) : Int)), (3, .pointer (some ⟨b1, 0, none⟩)), (4, .pointer (some ⟨b2, 0, none⟩)), (28, .agg #[.int .u8 0, .slice none 0 0]), (29, .int .i64 (rightC k p e h b t))] (by kernel_rfl) rfl ?_
  have hzs5 := hS.size
  have hzl6 := ho1.lt
  have hzl7 := ho2.lt
  refine VL_box (d := 7) (t := 40) (c := #[.int .u8 0, .slice none 0 0]) (by kernel_rfl) (by kernel_rfl) ?_
  intro b3 w5 hn3
  replace hS := Step.trans hS (hn3.step No)
  replace ho1 := ho1.no (hn3.step No)
  replace ho2 := ho2.no (hn3.step No)
  have ho3 := hn3.own
  have hzhn3 := hn3.size
  have hqhn3 := hn3.eqb
  refine VL_store (b := b3) (o := 0) (vs := [.int .u8 0, .slice none 0 0]) (by kernel_rfl) (by kernel_rfl) ho3 (Nat.le_of_ble_eq_true (by kernel_rfl)) ?_
  intro w6 hw1
  replace hS := Step.transNew hS hw1.step (fun _ _ _ => by omega)
  replace ho1 := ho1.step hw1.step (show ¬ b1 = b3 by omega)
  replace ho2 := ho2.step hw1.step (show ¬ b2 = b3 by omega)
  have ho4 : Own w6 b3 #[.int .u8 0, .slice none 0 0] 40 := Own.cast hw1.own (by kernel_rfl)
  have hzhw1 := hw1.same
  refine VL_pure 8 [2, 3, 4, 7, 8] [(2, .int .u8 ((m : Nat) : Int)), (3, .pointer (some ⟨b1, 0, none⟩)), (4, .pointer (some ⟨b2, 0, none⟩)), (7, .pointer (some ⟨b3, 0, none⟩)), (8, .int .i64 (rightC k p e h b t))] (by kernel_rfl) rfl ?_
  refine VL_end (by kernel_rfl) ?_
  refine VQ_next ?_
  refine VC_seq ?_
  refine VC_seq ?_
  refine VC_region ?_
  refine VL_pure 2 [2, 3, 4, 7, 31] [(2, .int .u8 ((m : Nat) : Int)), (3, .pointer (some ⟨b1, 0, none⟩)), (4, .pointer (some ⟨b2, 0, none⟩)), (7, .pointer (some ⟨b3, 0, none⟩)), (31, .bool ((rightC k p e h b t) == 0))] (by kernel_rfl) rfl ?_
  refine VL_end (by kernel_rfl) ?_
  refine VQ_next ?_
  refine VC_is (b := (rightC k p e h b t) == 0) false (by kernel_rfl) (by first | (rw [hr]; rfl) | simpa using hr) ?_
  refine VC_ite_false ?_
  refine VC_skip ?_
  refine VQ_next ?_
  refine VC_seq ?_
  refine VC_region ?_
  refine VL_load (d := 63) (t := 47) (a := ⟨b2, 0, none⟩) (v := .agg #[.int .i64 kp, .int .i64 kv, .int .i64 kc]) (by kernel_rfl) (by kernel_rfl) (Loads.ownL ho2 (n := 3) (by kernel_rfl) (by kernel_rfl) (by kernel_rfl)) ?_
  have hzs6 := hS.size
  have hzl8 := ho1.lt
  have hzl9 := ho2.lt
  have hzl10 := ho4.lt
  refine VL_call (d := 64) (f := 19) (args := #[.agg #[.int .i64 kp, .int .i64 kv, .int .i64 kc]]) (by kernel_rfl) (by kernel_rfl) (by kernel_rfl) Try.call19 (key_no kp kv kc _ hk) ?_
  rintro _ w7 ⟨rfl, hc3⟩
  replace hS := Step.trans hS hc3
  replace ho1 := ho1.no hc3
  replace ho2 := ho2.no hc3
  replace ho4 := ho4.no hc3
  refine VL_pure 5 [2, 3, 4, 7, 65, 66] [(2, .int .u8 ((m : Nat) : Int)), (3, .pointer (some ⟨b1, 0, none⟩)), (4, .pointer (some ⟨b2, 0, none⟩)), (7, .pointer (some ⟨b3, 0, none⟩)), (65, .agg #[.int .u8 0, .slice none 0 0]), (66, .int .i64 1)] (by kernel_rfl) rfl ?_
  have hzs7 := hS.size
  have hzl11 := ho1.lt
  have hzl12 := ho2.lt
  have hzl13 := ho4.lt
  refine VL_box (d := 15) (t := 40) (c := #[.int .u8 0, .slice none 0 0]) (by kernel_rfl) (by kernel_rfl) ?_
  intro b4 w8 hn4
  replace hS := Step.trans hS (hn4.step No)
  replace ho1 := ho1.no (hn4.step No)
  replace ho2 := ho2.no (hn4.step No)
  replace ho4 := ho4.no (hn4.step No)
  have ho5 := hn4.own
  have hzhn4 := hn4.size
  have hqhn4 := hn4.eqb
  refine VL_store (b := b4) (o := 0) (vs := [.int .u8 0, .slice none 0 0]) (by kernel_rfl) (by kernel_rfl) ho5 (Nat.le_of_ble_eq_true (by kernel_rfl)) ?_
  intro w9 hw2
  replace hS := Step.transNew hS hw2.step (fun _ _ _ => by omega)
  replace ho1 := ho1.step hw2.step (show ¬ b1 = b4 by omega)
  replace ho2 := ho2.step hw2.step (show ¬ b2 = b4 by omega)
  replace ho4 := ho4.step hw2.step (show ¬ b3 = b4 by omega)
  have ho6 : Own w9 b4 #[.int .u8 0, .slice none 0 0] 40 := Own.cast hw2.own (by kernel_rfl)
  have hzhw2 := hw2.same
  refine VL_pure 8 [2, 3, 4, 7, 15, 8] [(2, .int .u8 ((m : Nat) : Int)), (3, .pointer (some ⟨b1, 0, none⟩)), (4, .pointer (some ⟨b2, 0, none⟩)), (7, .pointer (some ⟨b3, 0, none⟩)), (15, .pointer (some ⟨b4, 0, none⟩)), (8, .int .i64 1)] (by kernel_rfl) rfl ?_
  refine VL_end (by kernel_rfl) ?_
  refine VQ_next ?_
  refine VC_seq ?_
  refine VC_seq ?_
  refine VC_region ?_
  refine VL_pure 2 [2, 3, 4, 7, 15, 68] [(2, .int .u8 ((m : Nat) : Int)), (3, .pointer (some ⟨b1, 0, none⟩)), (4, .pointer (some ⟨b2, 0, none⟩)), (7, .pointer (some ⟨b3, 0, none⟩)), (15, .pointer (some ⟨b4, 0, none⟩)), (68, .bool false)] (by kernel_rfl) rfl ?_
  refine VL_end (by kernel_rfl) ?_
  refine VQ_next ?_
  refine VC_false (by kernel_rfl) ?_
  refine VC_skip ?_
  refine VQ_next ?_
  refine VC_seq ?_
  refine VC_region ?_
  refine VL_pure 2 [2, 3, 7, 92] [(2, .int .u8 ((m : Nat) : Int)), (3, .pointer (some ⟨b1, 0, none⟩)), (7, .pointer (some ⟨b3, 0, none⟩)), (92, .int .i64 (IntKind.wrap .i64 ((m : Nat) : Int)))] (by kernel_rfl) rfl ?_
  have he1 : IntKind.wrap .i64 ((m : Nat) : Int) = ((m : Nat) : Int) := (by rw [wrap_i64 _ (by omega) (by omega)])
  refine VL_eq [(2, .int .u8 ((m : Nat) : Int)), (3, .pointer (some ⟨b1, 0, none⟩)), (7, .pointer (some ⟨b3, 0, none⟩)), (92, .int .i64 ((m : Nat) : Int))] (by rw [he1]) ?_
  refine VL_pure 3 [2, 3, 7, 93] [(2, .int .u8 ((m : Nat) : Int)), (3, .pointer (some ⟨b1, 0, none⟩)), (7, .pointer (some ⟨b3, 0, none⟩)), (93, .int .i64 (((m : Nat) : Int).tmod 128))] (by kernel_rfl) rfl ?_
  have he2 : ((m : Nat) : Int).tmod 128 = ((m % 128 : Nat) : Int) := (tmod_nat m 128)
  refine VL_eq [(2, .int .u8 ((m : Nat) : Int)), (3, .pointer (some ⟨b1, 0, none⟩)), (7, .pointer (some ⟨b3, 0, none⟩)), (93, .int .i64 ((m % 128 : Nat) : Int))] (by rw [he2]) ?_
  have hzs8 := hS.size
  have hzl14 := ho1.lt
  have hzl15 := ho2.lt
  have hzl16 := ho4.lt
  have hzl17 := ho6.lt
  refine VL_call (d := 94) (f := 27) (by kernel_rfl) (by kernel_rfl) (by kernel_rfl) Try.call27 (cause_yes (m % 128) _ (by omega)) ?_
  rintro _ w10 ⟨A1, rfl, hr1, hc4⟩
  replace hS := Step.trans hS hc4
  replace ho1 := ho1.no hc4
  replace ho2 := ho2.no hc4
  replace ho4 := ho4.no hc4
  replace ho6 := ho6.no hc4
  obtain ⟨base1, hbase1E⟩ : ∃ x, x = w9.heap.size := ⟨_, rfl⟩
  rw [← hbase1E] at hr1
  have hbase1 : base1 ≤ w10.heap.size := by rw [hbase1E]; exact hc4.size
  refine VL_pure 7 [2, 3, 7, 95, 96] [(2, .int .u8 ((m : Nat) : Int)), (3, .pointer (some ⟨b1, 0, none⟩)), (7, .pointer (some ⟨b3, 0, none⟩)), (95, .agg #[.int .u8 8, .slice A1 2 2]), (96, .int .i64 0)] (by kernel_rfl) rfl ?_
  have hzs9 := hS.size
  have hzl18 := ho1.lt
  have hzl19 := ho2.lt
  have hzl20 := ho4.lt
  have hzl21 := ho6.lt
  have hzk1 := hbase1
  have hub1 := hr1.ub
  refine VL_box (d := 20) (t := 40) (c := #[.int .u8 0, .slice none 0 0]) (by kernel_rfl) (by kernel_rfl) ?_
  intro b5 w11 hn5
  replace hS := Step.trans hS (hn5.step No)
  replace ho1 := ho1.no (hn5.step No)
  replace ho2 := ho2.no (hn5.step No)
  replace ho4 := ho4.no (hn5.step No)
  replace ho6 := ho6.no (hn5.step No)
  replace hbase1 := Nat.le_trans hbase1 (hn5.step No).size
  replace hr1 := hr1.no (hn5.step No)
  have ho7 := hn5.own
  have hzhn5 := hn5.size
  have hqhn5 := hn5.eqb
  refine VL_store (b := b5) (o := 0) (vs := [.int .u8 8, .slice A1 2 2]) (by kernel_rfl) (by kernel_rfl) ho7 (Nat.le_of_ble_eq_true (by kernel_rfl)) ?_
  intro w12 hw3
  replace hS := Step.transNew hS hw3.step (fun _ _ _ => by omega)
  replace ho1 := ho1.step hw3.step (show ¬ b1 = b5 by omega)
  replace ho2 := ho2.step hw3.step (show ¬ b2 = b5 by omega)
  replace ho4 := ho4.step hw3.step (show ¬ b3 = b5 by omega)
  replace ho6 := ho6.step hw3.step (show ¬ b4 = b5 by omega)
  replace hbase1 := Nat.le_trans hbase1 (hw3.step).size
  replace hr1 := hr1.stepU hub1 hw3.step (fun k hk1 hk2 (hF : k = b5) => by omega)
  have ho8 : Own w12 b5 #[.int .u8 8, .slice A1 2 2] 40 := Own.cast hw3.own (by kernel_rfl)
  have hzhw3 := hw3.same
  refine VL_pure 10 [2, 3, 7, 20, 8] [(2, .int .u8 ((m : Nat) : Int)), (3, .pointer (some ⟨b1, 0, none⟩)), (7, .pointer (some ⟨b3, 0, none⟩)), (20, .pointer (some ⟨b5, 0, none⟩)), (8, .int .i64 0)] (by kernel_rfl) rfl ?_
  refine VL_end (by kernel_rfl) ?_
  refine VQ_next ?_
  refine VC_seq ?_
  refine VC_region ?_
  refine VL_load (d := 98) (t := 40) (a := ⟨b5, 0, none⟩) (v := .agg #[.int .u8 8, .slice A1 2 2]) (by kernel_rfl) (by kernel_rfl) (Loads.ownL ho8 (n := 2) (by kernel_rfl) (by kernel_rfl) (by kernel_rfl)) ?_
  have hzs10 := hS.size
  have hzl22 := ho1.lt
  have hzl23 := ho2.lt
  have hzl24 := ho4.lt
  have hzl25 := ho6.lt
  have hzl26 := ho8.lt
  refine VL_call (d := 99) (f := 25) (by kernel_rfl) (by kernel_rfl) (by kernel_rfl) Try.call25 (rdcause_any 8 A1 2 2 _ ([0, ((m % 128 : Nat) : Int)]) _ (Rw.lenI hr1) (Rw.cap hr1) (Rw.slI hr1) (bytes_cause (by omega)) (by first | exact Nat.le_refl _ | omega)) ?_
  rintro _ w13 ⟨rfl, hc5⟩
  replace hS := Step.trans hS hc5
  replace ho1 := ho1.no hc5
  replace ho2 := ho2.no hc5
  replace ho4 := ho4.no hc5
  replace ho6 := ho6.no hc5
  replace hbase1 := Nat.le_trans hbase1 (hc5).size
  replace hr1 := hr1.no hc5
  replace ho8 := ho8.no hc5
  refine VL_pure 7 [2, 3, 7, 8, 21, 22] [(2, .int .u8 ((m : Nat) : Int)), (3, .pointer (some ⟨b1, 0, none⟩)), (7, .pointer (some ⟨b3, 0, none⟩)), (8, .int .i64 0), (21, .int .i64 (rcV 8 ([0, ((m % 128 : Nat) : Int)]))), (22, .int .i64 (rcE 8 ([0, ((m % 128 : Nat) : Int)])))] (by kernel_rfl) rfl ?_
  refine VL_end (by kernel_rfl) ?_
  refine VQ_next ?_
  refine VC_seq ?_
  refine VC_region ?_
  refine VL_pure 7 [2, 3, 7, 21, 108] [(2, .int .u8 ((m : Nat) : Int)), (3, .pointer (some ⟨b1, 0, none⟩)), (7, .pointer (some ⟨b3, 0, none⟩)), (21, .int .i64 (rcV 8 ([0, ((m % 128 : Nat) : Int)]))), (108, .bool ((rcE 8 ([0, ((m % 128 : Nat) : Int)])) == 0))] (by kernel_rfl) rfl ?_
  refine VL_known ((rcE 8 ([0, ((m % 128 : Nat) : Int)])) == 0) (fun bV => [(2, .int .u8 ((m : Nat) : Int)), (3, .pointer (some ⟨b1, 0, none⟩)), (7, .pointer (some ⟨b3, 0, none⟩)), (21, .int .i64 (rcV 8 ([0, ((m % 128 : Nat) : Int)]))), (108, .bool bV)]) true rfl (by rw [(cause_back (by omega)).1]; rfl) ?_
  refine VL_pure 10 [3, 7, 108, 109, 111] [(3, .pointer (some ⟨b1, 0, none⟩)), (7, .pointer (some ⟨b3, 0, none⟩)), (108, .bool true), (109, .int .i64 (rcV 8 ([0, ((m % 128 : Nat) : Int)]))), (111, .int .i64 (IntKind.wrap .i64 ((m : Nat) : Int)))] (by kernel_rfl) rfl ?_
  have he3 : IntKind.wrap .i64 ((m : Nat) : Int) = ((m : Nat) : Int) := (by rw [wrap_i64 _ (by omega) (by omega)])
  refine VL_eq [(3, .pointer (some ⟨b1, 0, none⟩)), (7, .pointer (some ⟨b3, 0, none⟩)), (108, .bool true), (109, .int .i64 (rcV 8 ([0, ((m % 128 : Nat) : Int)]))), (111, .int .i64 ((m : Nat) : Int))] (by rw [he3]) ?_
  refine VL_pure 11 [3, 7, 108, 109, 112] [(3, .pointer (some ⟨b1, 0, none⟩)), (7, .pointer (some ⟨b3, 0, none⟩)), (108, .bool true), (109, .int .i64 (rcV 8 ([0, ((m % 128 : Nat) : Int)]))), (112, .int .i64 (((m : Nat) : Int).tmod 128))] (by kernel_rfl) rfl ?_
  have he4 : ((m : Nat) : Int).tmod 128 = ((m % 128 : Nat) : Int) := (tmod_nat m 128)
  refine VL_eq [(3, .pointer (some ⟨b1, 0, none⟩)), (7, .pointer (some ⟨b3, 0, none⟩)), (108, .bool true), (109, .int .i64 (rcV 8 ([0, ((m % 128 : Nat) : Int)]))), (112, .int .i64 ((m % 128 : Nat) : Int))] (by rw [he4]) ?_
  refine VL_pure 14 [3, 7, 115] [(3, .pointer (some ⟨b1, 0, none⟩)), (7, .pointer (some ⟨b3, 0, none⟩)), (115, .bool ((rcV 8 ([0, ((m % 128 : Nat) : Int)])) == ((m % 128 : Nat) : Int)))] (by kernel_rfl) rfl ?_
  refine VL_known ((rcV 8 ([0, ((m % 128 : Nat) : Int)])) == ((m % 128 : Nat) : Int)) (fun bV => [(3, .pointer (some ⟨b1, 0, none⟩)), (7, .pointer (some ⟨b3, 0, none⟩)), (115, .bool bV)]) true rfl (by rw [(cause_back (by omega)).2]; simp) ?_
  refine VL_load (d := 116) (t := 45) (a := ⟨b1, 0, none⟩) (v := .agg #[.int .i64 k, .int .i64 p, .int .i64 e, .int .i64 h, .int .i64 b, .int .i64 t]) (by kernel_rfl) (by kernel_rfl) (Loads.ownL ho1 (n := 6) (by kernel_rfl) (by kernel_rfl) (by kernel_rfl)) ?_
  have hzs11 := hS.size
  have hzl27 := ho1.lt
  have hzl28 := ho2.lt
  have hzl29 := ho4.lt
  have hzl30 := ho6.lt
  have hzl31 := ho8.lt
  refine VL_call (d := 117) (f := 29) (args := #[.agg #[.int .i64 k, .int .i64 p, .int .i64 e, .int .i64 h, .int .i64 b, .int .i64 t]]) (by kernel_rfl) (by kernel_rfl) (by kernel_rfl) Try.call29 (rright_any k p e h b t _) ?_
  rintro _ w14 ⟨rfl, hc6⟩
  replace hS := Step.trans hS hc6
  replace ho1 := ho1.no hc6
  replace ho2 := ho2.no hc6
  replace ho4 := ho4.no hc6
  replace ho6 := ho6.no hc6
  replace hbase1 := Nat.le_trans hbase1 (hc6).size
  replace hr1 := hr1.no hc6
  replace ho8 := ho8.no hc6
  refine VL_pure 18 [7, 115, 119] [(7, .pointer (some ⟨b3, 0, none⟩)), (115, .bool true), (119, .bool ((rightC k p e h b t) == 0))] (by kernel_rfl) rfl ?_
  refine VL_known ((rightC k p e h b t) == 0) (fun bV => [(7, .pointer (some ⟨b3, 0, none⟩)), (115, .bool true), (119, .bool bV)]) false rfl (by first | (rw [hr]; rfl) | simpa using hr) ?_
  refine VL_pure 19 [115, 119, 120] [(115, .bool true), (119, .bool false), (120, .pointer (some ⟨b3, 1, none⟩))] (by kernel_rfl) rfl ?_
  refine VL_load (d := 121) (t := 23) (a := ⟨b3, 1, none⟩) (v := .slice none 0 0) (by kernel_rfl) (by kernel_rfl) (Loads.own1 ho4 (by kernel_rfl) (by rfl)) ?_
  refine VL_pure 25 [6] [(6, .bool true)] (by kernel_rfl) rfl ?_
  refine VL_end (by kernel_rfl) ?_
  refine VQ_next ?_
  refine VC_ret ?_
  refine VQ_ret1 (.bool true) (.inr rfl) rfl rfl ?_
  exact ⟨by first | rfl | simp [*], hS⟩

end Go.Proofs.Ytpfggjaoinfegaa
