/- Layer 15: ElementReads. -/
import Derived.Test.YtpfggjaoinfegaaProg
import Derived.Test.YtpfggjaoinfegaaElUn
set_option linter.unusedVariables false
set_option linter.unusedSimpArgs false
namespace Go.Proofs.Ytpfggjaoinfegaa
open Go.Vc Go.RowKit

set_option maxRecDepth 100000 in
set_option maxHeartbeats 4000000 in
theorem reads_yes (k : Int) (p e h b t : Nat) (kp kv kc m xi : Int) (A : Option Addr) (n c : Nat) (bs : List Int) (w : World) (hn : bs.length = n) (hA : Sl w w.heap.size A (iL .u8 bs)) (hc : n ≤ c) (hb : Bytes bs) (h300 : n ≤ 300) (hr : rightC k p e h b t = 0)  :
    CV Try.prog 7 #[.agg #[.int .i64 k, .int .i64 ((p : Nat) : Int), .int .i64 ((e : Nat) : Int), .int .i64 ((h : Nat) : Int), .int .i64 ((b : Nat) : Int), .int .i64 ((t : Nat) : Int)], .agg #[.int .i64 kp, .int .i64 kv, .int .i64 kc], .int .i64 m, .agg #[.int .u8 xi, .slice A n c]] w (fun x w1 => x = .bool true ∧ Step No w w1) := by
  have hS : Step No w w := Step.refl _ _
  refine CV_enter Try.f7 _ 169 [(0, .agg #[.int .i64 k, .int .i64 ((p : Nat) : Int), .int .i64 ((e : Nat) : Int), .int .i64 ((h : Nat) : Int), .int .i64 ((b : Nat) : Int), .int .i64 ((t : Nat) : Int)]), (1, .agg #[.int .i64 kp, .int .i64 kv, .int .i64 kc]), (2, .int .i64 m), (3, .agg #[.int .u8 xi, .slice A n c])] Try.func7 rfl rfl (by kernel_rfl) rfl ?_
  refine VC_seq ?_
  refine VC_region ?_
  have hzs1 := hS.size
  refine VL_box (d := 4) (t := 45) (c := #[.int .i64 k, .int .i64 ((p : Nat) : Int), .int .i64 ((e : Nat) : Int), .int .i64 ((h : Nat) : Int), .int .i64 ((b : Nat) : Int), .int .i64 ((t : Nat) : Int)]) (by kernel_rfl) (by kernel_rfl) ?_
  intro b1 w1 hn1
  replace hS := Step.trans hS (hn1.step No)
  replace hA := hA.no (hn1.step No)
  have ho1 := hn1.own
  have hzhn1 := hn1.size
  have hqhn1 := hn1.eqb
  have hzs2 := hS.size
  have hzl1 := ho1.lt
  refine VL_box (d := 5) (t := 47) (c := #[.int .i64 kp, .int .i64 kv, .int .i64 kc]) (by kernel_rfl) (by kernel_rfl) ?_
  intro b2 w2 hn2
  replace hS := Step.trans hS (hn2.step No)
  replace hA := hA.no (hn2.step No)
  replace ho1 := ho1.no (hn2.step No)
  have ho2 := hn2.own
  have hzhn2 := hn2.size
  have hqhn2 := hn2.eqb
  have hzs3 := hS.size
  have hzl2 := ho1.lt
  have hzl3 := ho2.lt
  refine VL_box (d := 7) (t := 40) (c := #[.int .u8 xi, .slice A n c]) (by kernel_rfl) (by kernel_rfl) ?_
  intro b3 w3 hn3
  replace hS := Step.trans hS (hn3.step No)
  replace hA := hA.no (hn3.step No)
  replace ho1 := ho1.no (hn3.step No)
  replace ho2 := ho2.no (hn3.step No)
  have ho3 := hn3.own
  have hzhn3 := hn3.size
  have hqhn3 := hn3.eqb
  refine VL_pure 4 [2, 4, 5, 7] [(2, .int .i64 m), (4, .pointer (some ⟨b1, 0, none⟩)), (5, .pointer (some ⟨b2, 0, none⟩)), (7, .pointer (some ⟨b3, 0, none⟩))] (by kernel_rfl) rfl ?_
  refine VL_end (by kernel_rfl) ?_
  refine VQ_next ?_
  refine VC_seq ?_
  refine VC_seq ?_
  refine VC_region ?_
  have hzs4 := hS.size
  have hzl4 := ho1.lt
  have hzl5 := ho2.lt
  have hzl6 := ho3.lt
  refine VL_call (d := 29) (f := 9) (args := #[]) (by kernel_rfl) (by kernel_rfl) (by kernel_rfl) Try.call9 (awake_any _) ?_
  rintro _ w4 ⟨rfl, hc1⟩
  replace hS := Step.trans hS hc1
  replace hA := hA.no hc1
  replace ho1 := ho1.no hc1
  replace ho2 := ho2.no hc1
  replace ho3 := ho3.no hc1
  refine VL_pure 4 [2, 4, 5, 7, 31, 32] [(2, .int .i64 m), (4, .pointer (some ⟨b1, 0, none⟩)), (5, .pointer (some ⟨b2, 0, none⟩)), (7, .pointer (some ⟨b3, 0, none⟩)), (31, .bool false), (32, .pointer (some ⟨b3, 1, none⟩))] (by kernel_rfl) rfl ?_
  refine VL_load (d := 33) (t := 23) (a := ⟨b3, 1, none⟩) (v := .slice A n c) (by kernel_rfl) (by kernel_rfl) (Loads.own1 ho3 (by kernel_rfl) (by rfl)) ?_
  refine VL_pure 8 [2, 4, 5, 7, 36] [(2, .int .i64 m), (4, .pointer (some ⟨b1, 0, none⟩)), (5, .pointer (some ⟨b2, 0, none⟩)), (7, .pointer (some ⟨b3, 0, none⟩)), (36, .bool (decide (((n : Nat) : Int) > 300)))] (by kernel_rfl) rfl ?_
  refine VL_end (by kernel_rfl) ?_
  refine VQ_next ?_
  refine VC_is (b := decide (((n : Nat) : Int) > 300)) false (by kernel_rfl) (by simp; omega) ?_
  refine VC_ite_false ?_
  refine VC_skip ?_
  refine VQ_next ?_
  refine VC_seq ?_
  refine VC_region ?_
  refine VL_load (d := 39) (t := 45) (a := ⟨b1, 0, none⟩) (v := .agg #[.int .i64 k, .int .i64 ((p : Nat) : Int), .int .i64 ((e : Nat) : Int), .int .i64 ((h : Nat) : Int), .int .i64 ((b : Nat) : Int), .int .i64 ((t : Nat) : Int)]) (by kernel_rfl) (by kernel_rfl) (Loads.ownL ho1 (n := 6) (by kernel_rfl) (by kernel_rfl) (by kernel_rfl)) ?_
  have hzs5 := hS.size
  have hzl7 := ho1.lt
  have hzl8 := ho2.lt
  have hzl9 := ho3.lt
  refine VL_call (d := 40) (f := 18) (by kernel_rfl) (by kernel_rfl) (by kernel_rfl) Try.call18 (traffic_yes k p e h b t _ hr) ?_
  rintro _ w5 ⟨A1, c1, rfl, hr1, hc2⟩
  replace hS := Step.trans hS hc2
  replace hA := hA.no hc2
  replace ho1 := ho1.no hc2
  replace ho2 := ho2.no hc2
  replace ho3 := ho3.no hc2
  obtain ⟨base1, hbase1E⟩ : ∃ x, x = w4.heap.size := ⟨_, rfl⟩
  rw [← hbase1E] at hr1
  have hbase1 : base1 ≤ w5.heap.size := by rw [hbase1E]; exact hc2.size
  refine VL_pure 5 [2, 4, 5, 7, 41, 42] [(2, .int .i64 m), (4, .pointer (some ⟨b1, 0, none⟩)), (5, .pointer (some ⟨b2, 0, none⟩)), (7, .pointer (some ⟨b3, 0, none⟩)), (41, .agg #[.int .u8 89, .slice A1 31 c1]), (42, .int .i64 0)] (by kernel_rfl) rfl ?_
  have hzs6 := hS.size
  have hzl10 := ho1.lt
  have hzl11 := ho2.lt
  have hzl12 := ho3.lt
  have hzk1 := hbase1
  have hub1 := hr1.ub
  refine VL_box (d := 9) (t := 40) (c := #[.int .u8 0, .slice none 0 0]) (by kernel_rfl) (by kernel_rfl) ?_
  intro b4 w6 hn4
  replace hS := Step.trans hS (hn4.step No)
  replace hA := hA.no (hn4.step No)
  replace ho1 := ho1.no (hn4.step No)
  replace ho2 := ho2.no (hn4.step No)
  replace ho3 := ho3.no (hn4.step No)
  replace hbase1 := Nat.le_trans hbase1 (hn4.step No).size
  replace hr1 := hr1.no (hn4.step No)
  have ho4 := hn4.own
  have hzhn4 := hn4.size
  have hqhn4 := hn4.eqb
  refine VL_store (b := b4) (o := 0) (vs := [.int .u8 89, .slice A1 31 c1]) (by kernel_rfl) (by kernel_rfl) ho4 (Nat.le_of_ble_eq_true (by kernel_rfl)) ?_
  intro w7 hw1
  replace hS := Step.transNew hS hw1.step (fun _ _ _ => by omega)
  replace hA := hA.step hw1.step (fun k hk (hF : k = b4) => by omega)
  replace ho1 := ho1.step hw1.step (show ¬ b1 = b4 by omega)
  replace ho2 := ho2.step hw1.step (show ¬ b2 = b4 by omega)
  replace ho3 := ho3.step hw1.step (show ¬ b3 = b4 by omega)
  replace hbase1 := Nat.le_trans hbase1 (hw1.step).size
  replace hr1 := hr1.stepU hub1 hw1.step (fun k hk1 hk2 (hF : k = b4) => by omega)
  have ho5 : Own w7 b4 #[.int .u8 89, .slice A1 31 c1] 40 := Own.cast hw1.own (by kernel_rfl)
  have hzhw1 := hw1.same
  refine VL_pure 8 [2, 4, 5, 7, 9, 10] [(2, .int .i64 m), (4, .pointer (some ⟨b1, 0, none⟩)), (5, .pointer (some ⟨b2, 0, none⟩)), (7, .pointer (some ⟨b3, 0, none⟩)), (9, .pointer (some ⟨b4, 0, none⟩)), (10, .int .i64 0)] (by kernel_rfl) rfl ?_
  refine VL_end (by kernel_rfl) ?_
  refine VQ_next ?_
  refine VC_seq ?_
  refine VC_region ?_
  refine VL_load (d := 44) (t := 45) (a := ⟨b1, 0, none⟩) (v := .agg #[.int .i64 k, .int .i64 ((p : Nat) : Int), .int .i64 ((e : Nat) : Int), .int .i64 ((h : Nat) : Int), .int .i64 ((b : Nat) : Int), .int .i64 ((t : Nat) : Int)]) (by kernel_rfl) (by kernel_rfl) (Loads.ownL ho1 (n := 6) (by kernel_rfl) (by kernel_rfl) (by kernel_rfl)) ?_
  have hzs7 := hS.size
  have hzl13 := ho1.lt
  have hzl14 := ho2.lt
  have hzl15 := ho3.lt
  have hzl16 := ho5.lt
  refine VL_call (d := 45) (f := 20) (by kernel_rfl) (by kernel_rfl) (by kernel_rfl) Try.call20 (rtraffic_yes k p e h b t _ hr) ?_
  rintro _ w8 ⟨A2, c2, rfl, hr2, hc3⟩
  replace hS := Step.trans hS hc3
  replace hA := hA.no hc3
  replace ho1 := ho1.no hc3
  replace ho2 := ho2.no hc3
  replace ho3 := ho3.no hc3
  replace hbase1 := Nat.le_trans hbase1 (hc3).size
  replace hr1 := hr1.no hc3
  replace ho5 := ho5.no hc3
  obtain ⟨base2, hbase2E⟩ : ∃ x, x = w7.heap.size := ⟨_, rfl⟩
  rw [← hbase2E] at hr2
  have hbase2 : base2 ≤ w8.heap.size := by rw [hbase2E]; exact hc3.size
  refine VL_pure 7 [2, 5, 7, 9, 10, 11, 12] [(2, .int .i64 m), (5, .pointer (some ⟨b2, 0, none⟩)), (7, .pointer (some ⟨b3, 0, none⟩)), (9, .pointer (some ⟨b4, 0, none⟩)), (10, .int .i64 0), (11, .slice A2 31 c2), (12, .int .i64 0)] (by kernel_rfl) rfl ?_
  refine VL_end (by kernel_rfl) ?_
  refine VQ_next ?_
  refine VC_seq ?_
  refine VC_region ?_
  refine VL_load (d := 49) (t := 40) (a := ⟨b3, 0, none⟩) (v := .agg #[.int .u8 xi, .slice A n c]) (by kernel_rfl) (by kernel_rfl) (Loads.ownL ho3 (n := 2) (by kernel_rfl) (by kernel_rfl) (by kernel_rfl)) ?_
  have hzs8 := hS.size
  have hzl17 := ho1.lt
  have hzl18 := ho2.lt
  have hzl19 := ho3.lt
  have hzl20 := ho5.lt
  refine VL_call (d := 50) (f := 21) (by kernel_rfl) (by kernel_rfl) (by kernel_rfl) Try.call21 (rdtraf_any xi A n c _ bs _ hn (by omega) hA hb (by first | exact Nat.le_refl _ | omega)) ?_
  rintro _ w9 ⟨rfl, hc4⟩
  replace hS := Step.trans hS hc4
  replace hA := hA.no hc4
  replace ho1 := ho1.no hc4
  replace ho2 := ho2.no hc4
  replace ho3 := ho3.no hc4
  replace hbase1 := Nat.le_trans hbase1 (hc4).size
  replace hr1 := hr1.no hc4
  replace ho5 := ho5.no hc4
  replace hbase2 := Nat.le_trans hbase2 (hc4).size
  replace hr2 := hr2.no hc4
  refine VL_pure 5 [2, 5, 7, 9, 10, 11, 12, 51, 52] [(2, .int .i64 m), (5, .pointer (some ⟨b2, 0, none⟩)), (7, .pointer (some ⟨b3, 0, none⟩)), (9, .pointer (some ⟨b4, 0, none⟩)), (10, .int .i64 0), (11, .slice A2 31 c2), (12, .int .i64 0), (51, .agg #[.int .i64 (rtV xi bs (IntKind.wrap .i64 (List.getD bs 0 0))), .int .i64 (rtV xi bs (fld bs 0)), .int .i64 (rtV xi bs (fld bs 1)), .int .i64 (rtV xi bs (fld bs 2)), .int .i64 (rtV xi bs (fld bs 3)), .int .i64 (rtV xi bs (fld bs 4))]), (52, .int .i64 (rtE xi bs))] (by kernel_rfl) rfl ?_
  have hzs9 := hS.size
  have hzl21 := ho1.lt
  have hzl22 := ho2.lt
  have hzl23 := ho3.lt
  have hzk2 := hbase1
  have hzl24 := ho5.lt
  have hzk3 := hbase2
  have hub2 := hr2.ub
  refine VL_box (d := 13) (t := 45) (c := #[.int .i64 0, .int .i64 0, .int .i64 0, .int .i64 0, .int .i64 0, .int .i64 0]) (by kernel_rfl) (by kernel_rfl) ?_
  intro b5 w10 hn5
  replace hS := Step.trans hS (hn5.step No)
  replace hA := hA.no (hn5.step No)
  replace ho1 := ho1.no (hn5.step No)
  replace ho2 := ho2.no (hn5.step No)
  replace ho3 := ho3.no (hn5.step No)
  replace hbase1 := Nat.le_trans hbase1 (hn5.step No).size
  replace hr1 := hr1.no (hn5.step No)
  replace ho5 := ho5.no (hn5.step No)
  replace hbase2 := Nat.le_trans hbase2 (hn5.step No).size
  replace hr2 := hr2.no (hn5.step No)
  have ho6 := hn5.own
  have hzhn5 := hn5.size
  have hqhn5 := hn5.eqb
  refine VL_store (b := b5) (o := 0) (vs := [.int .i64 (rtV xi bs (IntKind.wrap .i64 (List.getD bs 0 0))), .int .i64 (rtV xi bs (fld bs 0)), .int .i64 (rtV xi bs (fld bs 1)), .int .i64 (rtV xi bs (fld bs 2)), .int .i64 (rtV xi bs (fld bs 3)), .int .i64 (rtV xi bs (fld bs 4))]) (by kernel_rfl) (by kernel_rfl) ho6 (Nat.le_of_ble_eq_true (by kernel_rfl)) ?_
  intro w11 hw2
  replace hS := Step.transNew hS hw2.step (fun _ _ _ => by omega)
  replace hA := hA.step hw2.step (fun k hk (hF : k = b5) => by omega)
  replace ho1 := ho1.step hw2.step (show ¬ b1 = b5 by omega)
  replace ho2 := ho2.step hw2.step (show ¬ b2 = b5 by omega)
  replace ho3 := ho3.step hw2.step (show ¬ b3 = b5 by omega)
  replace hbase1 := Nat.le_trans hbase1 (hw2.step).size
  replace hr1 := hr1.stepU hub1 hw2.step (fun k hk1 hk2 (hF : k = b5) => by omega)
  replace ho5 := ho5.step hw2.step (show ¬ b4 = b5 by omega)
  replace hbase2 := Nat.le_trans hbase2 (hw2.step).size
  replace hr2 := hr2.stepU hub2 hw2.step (fun k hk1 hk2 (hF : k = b5) => by omega)
  have ho7 : Own w11 b5 #[.int .i64 (rtV xi bs (IntKind.wrap .i64 (List.getD bs 0 0))), .int .i64 (rtV xi bs (fld bs 0)), .int .i64 (rtV xi bs (fld bs 1)), .int .i64 (rtV xi bs (fld bs 2)), .int .i64 (rtV xi bs (fld bs 3)), .int .i64 (rtV xi bs (fld bs 4))] 45 := Own.cast hw2.own (by kernel_rfl)
  have hzhw2 := hw2.same
  refine VL_pure 8 [2, 5, 7, 9, 10, 11, 12, 13, 14] [(2, .int .i64 m), (5, .pointer (some ⟨b2, 0, none⟩)), (7, .pointer (some ⟨b3, 0, none⟩)), (9, .pointer (some ⟨b4, 0, none⟩)), (10, .int .i64 0), (11, .slice A2 31 c2), (12, .int .i64 0), (13, .pointer (some ⟨b5, 0, none⟩)), (14, .int .i64 (rtE xi bs))] (by kernel_rfl) rfl ?_
  refine VL_end (by kernel_rfl) ?_
  refine VQ_next ?_
  refine VC_seq ?_
  refine VC_region ?_
  refine VL_load (d := 54) (t := 40) (a := ⟨b3, 0, none⟩) (v := .agg #[.int .u8 xi, .slice A n c]) (by kernel_rfl) (by kernel_rfl) (Loads.ownL ho3 (n := 2) (by kernel_rfl) (by kernel_rfl) (by kernel_rfl)) ?_
  have hzs10 := hS.size
  have hzl25 := ho1.lt
  have hzl26 := ho2.lt
  have hzl27 := ho3.lt
  have hzl28 := ho5.lt
  have hzl29 := ho7.lt
  refine VL_call (d := 55) (f := 22) (by kernel_rfl) (by kernel_rfl) (by kernel_rfl) Try.call22 (rrdtraf_any xi A n c _ bs _ hn (by omega) hA hb (by first | exact Nat.le_refl _ | omega)) ?_
  rintro _ w12 ⟨rfl, hc5⟩
  replace hS := Step.trans hS hc5
  replace hA := hA.no hc5
  replace ho1 := ho1.no hc5
  replace ho2 := ho2.no hc5
  replace ho3 := ho3.no hc5
  replace hbase1 := Nat.le_trans hbase1 (hc5).size
  replace hr1 := hr1.no hc5
  replace ho5 := ho5.no hc5
  replace hbase2 := Nat.le_trans hbase2 (hc5).size
  replace hr2 := hr2.no hc5
  replace ho7 := ho7.no hc5
  refine VL_pure 5 [2, 5, 7, 9, 10, 11, 12, 13, 14, 56, 57] [(2, .int .i64 m), (5, .pointer (some ⟨b2, 0, none⟩)), (7, .pointer (some ⟨b3, 0, none⟩)), (9, .pointer (some ⟨b4, 0, none⟩)), (10, .int .i64 0), (11, .slice A2 31 c2), (12, .int .i64 0), (13, .pointer (some ⟨b5, 0, none⟩)), (14, .int .i64 (rtE xi bs)), (56, .agg #[.int .i64 (rtV xi bs (IntKind.wrap .i64 (List.getD bs 0 0))), .int .i64 (rtV xi bs (fld bs 0)), .int .i64 (rtV xi bs (fld bs 1)), .int .i64 (rtV xi bs (fld bs 2)), .int .i64 (rtV xi bs (fld bs 3)), .int .i64 (rtV xi bs (fld bs 4))]), (57, .int .i64 (rtE xi bs))] (by kernel_rfl) rfl ?_
  have hzs11 := hS.size
  have hzl30 := ho1.lt
  have hzl31 := ho2.lt
  have hzl32 := ho3.lt
  have hzk4 := hbase1
  have hzl33 := ho5.lt
  have hzk5 := hbase2
  have hzl34 := ho7.lt
  refine VL_box (d := 15) (t := 45) (c := #[.int .i64 0, .int .i64 0, .int .i64 0, .int .i64 0, .int .i64 0, .int .i64 0]) (by kernel_rfl) (by kernel_rfl) ?_
  intro b6 w13 hn6
  replace hS := Step.trans hS (hn6.step No)
  replace hA := hA.no (hn6.step No)
  replace ho1 := ho1.no (hn6.step No)
  replace ho2 := ho2.no (hn6.step No)
  replace ho3 := ho3.no (hn6.step No)
  replace hbase1 := Nat.le_trans hbase1 (hn6.step No).size
  replace hr1 := hr1.no (hn6.step No)
  replace ho5 := ho5.no (hn6.step No)
  replace hbase2 := Nat.le_trans hbase2 (hn6.step No).size
  replace hr2 := hr2.no (hn6.step No)
  replace ho7 := ho7.no (hn6.step No)
  have ho8 := hn6.own
  have hzhn6 := hn6.size
  have hqhn6 := hn6.eqb
  refine VL_store (b := b6) (o := 0) (vs := [.int .i64 (rtV xi bs (IntKind.wrap .i64 (List.getD bs 0 0))), .int .i64 (rtV xi bs (fld bs 0)), .int .i64 (rtV xi bs (fld bs 1)), .int .i64 (rtV xi bs (fld bs 2)), .int .i64 (rtV xi bs (fld bs 3)), .int .i64 (rtV xi bs (fld bs 4))]) (by kernel_rfl) (by kernel_rfl) ho8 (Nat.le_of_ble_eq_true (by kernel_rfl)) ?_
  intro w14 hw3
  replace hS := Step.transNew hS hw3.step (fun _ _ _ => by omega)
  replace hA := hA.step hw3.step (fun k hk (hF : k = b6) => by omega)
  replace ho1 := ho1.step hw3.step (show ¬ b1 = b6 by omega)
  replace ho2 := ho2.step hw3.step (show ¬ b2 = b6 by omega)
  replace ho3 := ho3.step hw3.step (show ¬ b3 = b6 by omega)
  replace hbase1 := Nat.le_trans hbase1 (hw3.step).size
  replace hr1 := hr1.stepU hub1 hw3.step (fun k hk1 hk2 (hF : k = b6) => by omega)
  replace ho5 := ho5.step hw3.step (show ¬ b4 = b6 by omega)
  replace hbase2 := Nat.le_trans hbase2 (hw3.step).size
  replace hr2 := hr2.stepU hub2 hw3.step (fun k hk1 hk2 (hF : k = b6) => by omega)
  replace ho7 := ho7.step hw3.step (show ¬ b5 = b6 by omega)
  have ho9 : Own w14 b6 #[.int .i64 (rtV xi bs (IntKind.wrap .i64 (List.getD bs 0 0))), .int .i64 (rtV xi bs (fld bs 0)), .int .i64 (rtV xi bs (fld bs 1)), .int .i64 (rtV xi bs (fld bs 2)), .int .i64 (rtV xi bs (fld bs 3)), .int .i64 (rtV xi bs (fld bs 4))] 45 := Own.cast hw3.own (by kernel_rfl)
  have hzhw3 := hw3.same
  refine VL_pure 8 [2, 5, 7, 9, 10, 11, 12, 13, 14, 15, 16] [(2, .int .i64 m), (5, .pointer (some ⟨b2, 0, none⟩)), (7, .pointer (some ⟨b3, 0, none⟩)), (9, .pointer (some ⟨b4, 0, none⟩)), (10, .int .i64 0), (11, .slice A2 31 c2), (12, .int .i64 0), (13, .pointer (some ⟨b5, 0, none⟩)), (14, .int .i64 (rtE xi bs)), (15, .pointer (some ⟨b6, 0, none⟩)), (16, .int .i64 (rtE xi bs))] (by kernel_rfl) rfl ?_
  refine VL_end (by kernel_rfl) ?_
  refine VQ_next ?_
  refine VC_seq ?_
  refine VC_seq ?_
  refine VC_region ?_
  refine VL_pure 5 [2, 5, 7, 9, 10, 11, 13, 14, 15, 16, 61, 62] [(2, .int .i64 m), (5, .pointer (some ⟨b2, 0, none⟩)), (7, .pointer (some ⟨b3, 0, none⟩)), (9, .pointer (some ⟨b4, 0, none⟩)), (10, .int .i64 0), (11, .slice A2 31 c2), (13, .pointer (some ⟨b5, 0, none⟩)), (14, .int .i64 (rtE xi bs)), (15, .pointer (some ⟨b6, 0, none⟩)), (16, .int .i64 (rtE xi bs)), (61, .bool false), (62, .pointer (some ⟨b4, 1, none⟩))] (by kernel_rfl) rfl ?_
  refine VL_load (d := 63) (t := 23) (a := ⟨b4, 1, none⟩) (v := .slice A1 31 c1) (by kernel_rfl) (by kernel_rfl) (Loads.own1 ho5 (by kernel_rfl) (by rfl)) ?_
  refine VL_pure 7 [2, 5, 7, 9, 10, 13, 14, 15, 16, 61, 63, 64] [(2, .int .i64 m), (5, .pointer (some ⟨b2, 0, none⟩)), (7, .pointer (some ⟨b3, 0, none⟩)), (9, .pointer (some ⟨b4, 0, none⟩)), (10, .int .i64 0), (13, .pointer (some ⟨b5, 0, none⟩)), (14, .int .i64 (rtE xi bs)), (15, .pointer (some ⟨b6, 0, none⟩)), (16, .int .i64 (rtE xi bs)), (61, .bool false), (63, .slice A1 31 c1), (64, .slice A2 31 c2)] (by kernel_rfl) rfl ?_
  have hzs12 := hS.size
  have hzl35 := ho1.lt
  have hzl36 := ho2.lt
  have hzl37 := ho3.lt
  have hzl38 := ho5.lt
  have hzl39 := ho7.lt
  have hzl40 := ho9.lt
  refine VL_call (d := 65) (f := 14) (args := #[.slice A1 31 c1, .slice A2 31 c2]) (by kernel_rfl) (by kernel_rfl) (by kernel_rfl) Try.call14 (same_any A1 31 c1 _ (trafL k p e h b t) A2 31 c2 _ (trafL k p e h b t) _ (Rw.lenI hr1) (Rw.slI hr1) (Rw.lenI hr2) (Rw.slI hr2) (by omega) (by omega) (by first | exact Nat.le_refl _ | omega) (by first | exact Nat.le_refl _ | omega)) ?_
  rintro _ w15 ⟨rfl, hc6⟩
  replace hS := Step.trans hS hc6
  replace hA := hA.no hc6
  replace ho1 := ho1.no hc6
  replace ho2 := ho2.no hc6
  replace ho3 := ho3.no hc6
  replace hbase1 := Nat.le_trans hbase1 (hc6).size
  replace hr1 := hr1.no hc6
  replace ho5 := ho5.no hc6
  replace hbase2 := Nat.le_trans hbase2 (hc6).size
  replace hr2 := hr2.no hc6
  replace ho7 := ho7.no hc6
  replace ho9 := ho9.no hc6
  refine VL_pure 11 [2, 5, 7, 9, 10, 13, 14, 15, 16, 68] [(2, .int .i64 m), (5, .pointer (some ⟨b2, 0, none⟩)), (7, .pointer (some ⟨b3, 0, none⟩)), (9, .pointer (some ⟨b4, 0, none⟩)), (10, .int .i64 0), (13, .pointer (some ⟨b5, 0, none⟩)), (14, .int .i64 (rtE xi bs)), (15, .pointer (some ⟨b6, 0, none⟩)), (16, .int .i64 (rtE xi bs)), (68, .bool (!((trafL k p e h b t) == (trafL k p e h b t))))] (by kernel_rfl) rfl ?_
  refine VL_known ((trafL k p e h b t) == (trafL k p e h b t)) (fun bV => [(2, .int .i64 m), (5, .pointer (some ⟨b2, 0, none⟩)), (7, .pointer (some ⟨b3, 0, none⟩)), (9, .pointer (some ⟨b4, 0, none⟩)), (10, .int .i64 0), (13, .pointer (some ⟨b5, 0, none⟩)), (14, .int .i64 (rtE xi bs)), (15, .pointer (some ⟨b6, 0, none⟩)), (16, .int .i64 (rtE xi bs)), (68, .bool (!bV))]) true rfl (by simp) ?_
  refine VL_pure 15 [2, 5, 7, 13, 14, 15, 16, 68, 71, 72] [(2, .int .i64 m), (5, .pointer (some ⟨b2, 0, none⟩)), (7, .pointer (some ⟨b3, 0, none⟩)), (13, .pointer (some ⟨b5, 0, none⟩)), (14, .int .i64 (rtE xi bs)), (15, .pointer (some ⟨b6, 0, none⟩)), (16, .int .i64 (rtE xi bs)), (68, .bool false), (71, .bool true), (72, .pointer (some ⟨b4, 0, none⟩))] (by kernel_rfl) rfl ?_
  refine VL_load (d := 73) (t := 5) (a := ⟨b4, 0, none⟩) (v := .int .u8 89) (by kernel_rfl) (by kernel_rfl) (Loads.own1 ho5 (by kernel_rfl) (by rfl)) ?_
  refine VL_pure 20 [2, 5, 7, 13, 14, 15, 16, 77] [(2, .int .i64 m), (5, .pointer (some ⟨b2, 0, none⟩)), (7, .pointer (some ⟨b3, 0, none⟩)), (13, .pointer (some ⟨b5, 0, none⟩)), (14, .int .i64 (rtE xi bs)), (15, .pointer (some ⟨b6, 0, none⟩)), (16, .int .i64 (rtE xi bs)), (77, .bool false)] (by kernel_rfl) rfl ?_
  refine VL_load (d := 78) (t := 45) (a := ⟨b5, 0, none⟩) (v := .agg #[.int .i64 (rtV xi bs (IntKind.wrap .i64 (List.getD bs 0 0))), .int .i64 (rtV xi bs (fld bs 0)), .int .i64 (rtV xi bs (fld bs 1)), .int .i64 (rtV xi bs (fld bs 2)), .int .i64 (rtV xi bs (fld bs 3)), .int .i64 (rtV xi bs (fld bs 4))]) (by kernel_rfl) (by kernel_rfl) (Loads.ownL ho7 (n := 6) (by kernel_rfl) (by kernel_rfl) (by kernel_rfl)) ?_
  refine VL_load (d := 79) (t := 45) (a := ⟨b6, 0, none⟩) (v := .agg #[.int .i64 (rtV xi bs (IntKind.wrap .i64 (List.getD bs 0 0))), .int .i64 (rtV xi bs (fld bs 0)), .int .i64 (rtV xi bs (fld bs 1)), .int .i64 (rtV xi bs (fld bs 2)), .int .i64 (rtV xi bs (fld bs 3)), .int .i64 (rtV xi bs (fld bs 4))]) (by kernel_rfl) (by kernel_rfl) (Loads.ownL ho9 (n := 6) (by kernel_rfl) (by kernel_rfl) (by kernel_rfl)) ?_
  refine VL_agEq (d := 80) (dd := 9) (ls := ([.int .i64] ++ [.int .i64] ++ [.int .i64] ++ [.int .i64] ++ [.int .i64] ++ [.int .i64] ++ [])) (pos := false) (t := 45) (xs := #[.int .i64 (rtV xi bs (IntKind.wrap .i64 (List.getD bs 0 0))), .int .i64 (rtV xi bs (fld bs 0)), .int .i64 (rtV xi bs (fld bs 1)), .int .i64 (rtV xi bs (fld bs 2)), .int .i64 (rtV xi bs (fld bs 3)), .int .i64 (rtV xi bs (fld bs 4))]) (ys := #[.int .i64 (rtV xi bs (IntKind.wrap .i64 (List.getD bs 0 0))), .int .i64 (rtV xi bs (fld bs 0)), .int .i64 (rtV xi bs (fld bs 1)), .int .i64 (rtV xi bs (fld bs 2)), .int .i64 (rtV xi bs (fld bs 3)), .int .i64 (rtV xi bs (fld bs 4))]) (by kernel_rfl) (by kernel_rfl) (by kernel_rfl) (by kernel_rfl) (by first | exact ⟨⟨_, rfl⟩, ⟨_, rfl⟩, ⟨_, rfl⟩, ⟨_, rfl⟩, ⟨_, rfl⟩, ⟨_, rfl⟩, trivial⟩ | trivial) (by first | exact ⟨⟨_, rfl⟩, ⟨_, rfl⟩, ⟨_, rfl⟩, ⟨_, rfl⟩, ⟨_, rfl⟩, ⟨_, rfl⟩, trivial⟩ | trivial) (!(([rtV xi bs (IntKind.wrap .i64 (List.getD bs 0 0)), rtV xi bs (fld bs 0), rtV xi bs (fld bs 1), rtV xi bs (fld bs 2), rtV xi bs (fld bs 3), rtV xi bs (fld bs 4)] : List Int) == [rtV xi bs (IntKind.wrap .i64 (List.getD bs 0 0)), rtV xi bs (fld bs 0), rtV xi bs (fld bs 1), rtV xi bs (fld bs 2), rtV xi bs (fld bs 3), rtV xi bs (fld bs 4)])) (iA_eq (k := .i64) (xs := [rtV xi bs (IntKind.wrap .i64 (List.getD bs 0 0)), rtV xi bs (fld bs 0), rtV xi bs (fld bs 1), rtV xi bs (fld bs 2), rtV xi bs (fld bs 3), rtV xi bs (fld bs 4)]) (bs := [rtV xi bs (IntKind.wrap .i64 (List.getD bs 0 0)), rtV xi bs (fld bs 0), rtV xi bs (fld bs 1), rtV xi bs (fld bs 2), rtV xi bs (fld bs 3), rtV xi bs (fld bs 4)]) false) ?_
  refine VL_pure 25 [2, 5, 7, 14, 16, 82] [(2, .int .i64 m), (5, .pointer (some ⟨b2, 0, none⟩)), (7, .pointer (some ⟨b3, 0, none⟩)), (14, .int .i64 (rtE xi bs)), (16, .int .i64 (rtE xi bs)), (82, .bool (!(([rtV xi bs (IntKind.wrap .i64 (List.getD bs 0 0)), rtV xi bs (fld bs 0), rtV xi bs (fld bs 1), rtV xi bs (fld bs 2), rtV xi bs (fld bs 3), rtV xi bs (fld bs 4)] : List Int) == [rtV xi bs (IntKind.wrap .i64 (List.getD bs 0 0)), rtV xi bs (fld bs 0), rtV xi bs (fld bs 1), rtV xi bs (fld bs 2), rtV xi bs (fld bs 3), rtV xi bs (fld bs 4)])))] (by kernel_rfl) rfl ?_
  refine VL_known (!(([rtV xi bs (IntKind.wrap .i64 (List.getD bs 0 0)), rtV xi bs (fld bs 0), rtV xi bs (fld bs 1), rtV xi bs (fld bs 2), rtV xi bs (fld bs 3), rtV xi bs (fld bs 4)] : List Int) == [rtV xi bs (IntKind.wrap .i64 (List.getD bs 0 0)), rtV xi bs (fld bs 0), rtV xi bs (fld bs 1), rtV xi bs (fld bs 2), rtV xi bs (fld bs 3), rtV xi bs (fld bs 4)])) (fun bV => [(2, .int .i64 m), (5, .pointer (some ⟨b2, 0, none⟩)), (7, .pointer (some ⟨b3, 0, none⟩)), (14, .int .i64 (rtE xi bs)), (16, .int .i64 (rtE xi bs)), (82, .bool bV)]) false rfl (by simp) ?_
  refine VL_pure 29 [2, 5, 7, 86] [(2, .int .i64 m), (5, .pointer (some ⟨b2, 0, none⟩)), (7, .pointer (some ⟨b3, 0, none⟩)), (86, .bool ((rtE xi bs) != (rtE xi bs)))] (by kernel_rfl) rfl ?_
  refine VL_end (by kernel_rfl) ?_
  refine VQ_next ?_
  refine VC_is (b := (rtE xi bs) != (rtE xi bs)) false (by kernel_rfl) (by simp) ?_
  refine VC_ite_false ?_
  refine VC_skip ?_
  refine VQ_next ?_
  refine VC_seq ?_
  refine VC_region ?_
  refine VL_load (d := 88) (t := 40) (a := ⟨b3, 0, none⟩) (v := .agg #[.int .u8 xi, .slice A n c]) (by kernel_rfl) (by kernel_rfl) (Loads.ownL ho3 (n := 2) (by kernel_rfl) (by kernel_rfl) (by kernel_rfl)) ?_
  have hzs13 := hS.size
  have hzl41 := ho1.lt
  have hzl42 := ho2.lt
  have hzl43 := ho3.lt
  have hzl44 := ho5.lt
  have hzl45 := ho7.lt
  have hzl46 := ho9.lt
  refine VL_call (d := 89) (f := 23) (by kernel_rfl) (by kernel_rfl) (by kernel_rfl) Try.call23 (rdkey_any xi A n c _ bs _ hn (by omega) hA hb (by first | exact Nat.le_refl _ | omega)) ?_
  rintro _ w16 ⟨rfl, hc7⟩
  replace hS := Step.trans hS hc7
  replace hA := hA.no hc7
  replace ho1 := ho1.no hc7
  replace ho2 := ho2.no hc7
  replace ho3 := ho3.no hc7
  replace hbase1 := Nat.le_trans hbase1 (hc7).size
  replace hr1 := hr1.no hc7
  replace ho5 := ho5.no hc7
  replace hbase2 := Nat.le_trans hbase2 (hc7).size
  replace hr2 := hr2.no hc7
  replace ho7 := ho7.no hc7
  replace ho9 := ho9.no hc7
  refine VL_pure 5 [2, 5, 7, 90, 91] [(2, .int .i64 m), (5, .pointer (some ⟨b2, 0, none⟩)), (7, .pointer (some ⟨b3, 0, none⟩)), (90, .agg #[.int .i64 (rkV xi bs (fk bs 0 1)), .int .i64 (rkV xi bs (fk bs 1 2)), .int .i64 (rkV xi bs (fk bs 3 2))]), (91, .int .i64 (rkE xi bs))] (by kernel_rfl) rfl ?_
  have hzs14 := hS.size
  have hzl47 := ho1.lt
  have hzl48 := ho2.lt
  have hzl49 := ho3.lt
  have hzk6 := hbase1
  have hzl50 := ho5.lt
  have hzk7 := hbase2
  have hzl51 := ho7.lt
  have hzl52 := ho9.lt
  refine VL_box (d := 17) (t := 47) (c := #[.int .i64 0, .int .i64 0, .int .i64 0]) (by kernel_rfl) (by kernel_rfl) ?_
  intro b7 w17 hn7
  replace hS := Step.trans hS (hn7.step No)
  replace hA := hA.no (hn7.step No)
  replace ho1 := ho1.no (hn7.step No)
  replace ho2 := ho2.no (hn7.step No)
  replace ho3 := ho3.no (hn7.step No)
  replace hbase1 := Nat.le_trans hbase1 (hn7.step No).size
  replace hr1 := hr1.no (hn7.step No)
  replace ho5 := ho5.no (hn7.step No)
  replace hbase2 := Nat.le_trans hbase2 (hn7.step No).size
  replace hr2 := hr2.no (hn7.step No)
  replace ho7 := ho7.no (hn7.step No)
  replace ho9 := ho9.no (hn7.step No)
  have ho10 := hn7.own
  have hzhn7 := hn7.size
  have hqhn7 := hn7.eqb
  refine VL_store (b := b7) (o := 0) (vs := [.int .i64 (rkV xi bs (fk bs 0 1)), .int .i64 (rkV xi bs (fk bs 1 2)), .int .i64 (rkV xi bs (fk bs 3 2))]) (by kernel_rfl) (by kernel_rfl) ho10 (Nat.le_of_ble_eq_true (by kernel_rfl)) ?_
  intro w18 hw4
  replace hS := Step.transNew hS hw4.step (fun _ _ _ => by omega)
  replace hA := hA.step hw4.step (fun k hk (hF : k = b7) => by omega)
  replace ho1 := ho1.step hw4.step (show ¬ b1 = b7 by omega)
  replace ho2 := ho2.step hw4.step (show ¬ b2 = b7 by omega)
  replace ho3 := ho3.step hw4.step (show ¬ b3 = b7 by omega)
  replace hbase1 := Nat.le_trans hbase1 (hw4.step).size
  replace hr1 := hr1.stepU hub1 hw4.step (fun k hk1 hk2 (hF : k = b7) => by omega)
  replace ho5 := ho5.step hw4.step (show ¬ b4 = b7 by omega)
  replace hbase2 := Nat.le_trans hbase2 (hw4.step).size
  replace ho7 := ho7.step hw4.step (show ¬ b5 = b7 by omega)
  replace ho9 := ho9.step hw4.step (show ¬ b6 = b7 by omega)
  have ho11 : Own w18 b7 #[.int .i64 (rkV xi bs (fk bs 0 1)), .int .i64 (rkV xi bs (fk bs 1 2)), .int .i64 (rkV xi bs (fk bs 3 2))] 47 := Own.cast hw4.own (by kernel_rfl)
  have hzhw4 := hw4.same
  refine VL_pure 8 [2, 5, 7, 17, 18] [(2, .int .i64 m), (5, .pointer (some ⟨b2, 0, none⟩)), (7, .pointer (some ⟨b3, 0, none⟩)), (17, .pointer (some ⟨b7, 0, none⟩)), (18, .int .i64 (rkE xi bs))] (by kernel_rfl) rfl ?_
  refine VL_end (by kernel_rfl) ?_
  refine VQ_next ?_
  refine VC_seq ?_
  refine VC_region ?_
  refine VL_load (d := 93) (t := 40) (a := ⟨b3, 0, none⟩) (v := .agg #[.int .u8 xi, .slice A n c]) (by kernel_rfl) (by kernel_rfl) (Loads.ownL ho3 (n := 2) (by kernel_rfl) (by kernel_rfl) (by kernel_rfl)) ?_
  have hzs15 := hS.size
  have hzl53 := ho1.lt
  have hzl54 := ho2.lt
  have hzl55 := ho3.lt
  have hzl56 := ho5.lt
  have hzl57 := ho7.lt
  have hzl58 := ho9.lt
  have hzl59 := ho11.lt
  refine VL_call (d := 94) (f := 24) (by kernel_rfl) (by kernel_rfl) (by kernel_rfl) Try.call24 (rrdkey_any xi A n c _ bs _ hn (by omega) hA hb (by first | exact Nat.le_refl _ | omega)) ?_
  rintro _ w19 ⟨rfl, hc8⟩
  replace hS := Step.trans hS hc8
  replace hA := hA.no hc8
  replace ho1 := ho1.no hc8
  replace ho2 := ho2.no hc8
  replace ho3 := ho3.no hc8
  replace hbase1 := Nat.le_trans hbase1 (hc8).size
  replace hr1 := hr1.no hc8
  replace ho5 := ho5.no hc8
  replace hbase2 := Nat.le_trans hbase2 (hc8).size
  replace ho7 := ho7.no hc8
  replace ho9 := ho9.no hc8
  replace ho11 := ho11.no hc8
  refine VL_pure 5 [2, 5, 7, 17, 18, 95, 96] [(2, .int .i64 m), (5, .pointer (some ⟨b2, 0, none⟩)), (7, .pointer (some ⟨b3, 0, none⟩)), (17, .pointer (some ⟨b7, 0, none⟩)), (18, .int .i64 (rkE xi bs)), (95, .agg #[.int .i64 (rkV xi bs (fk bs 0 1)), .int .i64 (rkV xi bs (fk bs 1 2)), .int .i64 (rkV xi bs (fk bs 3 2))]), (96, .int .i64 (rkE xi bs))] (by kernel_rfl) rfl ?_
  have hzs16 := hS.size
  have hzl60 := ho1.lt
  have hzl61 := ho2.lt
  have hzl62 := ho3.lt
  have hzk8 := hbase1
  have hzl63 := ho5.lt
  have hzk9 := hbase2
  have hzl64 := ho7.lt
  have hzl65 := ho9.lt
  have hzl66 := ho11.lt
  refine VL_box (d := 19) (t := 47) (c := #[.int .i64 0, .int .i64 0, .int .i64 0]) (by kernel_rfl) (by kernel_rfl) ?_
  intro b8 w20 hn8
  replace hS := Step.trans hS (hn8.step No)
  replace hA := hA.no (hn8.step No)
  replace ho1 := ho1.no (hn8.step No)
  replace ho2 := ho2.no (hn8.step No)
  replace ho3 := ho3.no (hn8.step No)
  replace hbase1 := Nat.le_trans hbase1 (hn8.step No).size
  replace hr1 := hr1.no (hn8.step No)
  replace ho5 := ho5.no (hn8.step No)
  replace hbase2 := Nat.le_trans hbase2 (hn8.step No).size
  replace ho7 := ho7.no (hn8.step No)
  replace ho9 := ho9.no (hn8.step No)
  replace ho11 := ho11.no (hn8.step No)
  have ho12 := hn8.own
  have hzhn8 := hn8.size
  have hqhn8 := hn8.eqb
  refine VL_store (b := b8) (o := 0) (vs := [.int .i64 (rkV xi bs (fk bs 0 1)), .int .i64 (rkV xi bs (fk bs 1 2)), .int .i64 (rkV xi bs (fk bs 3 2))]) (by kernel_rfl) (by kernel_rfl) ho12 (Nat.le_of_ble_eq_true (by kernel_rfl)) ?_
  intro w21 hw5
  replace hS := Step.transNew hS hw5.step (fun _ _ _ => by omega)
  replace hA := hA.step hw5.step (fun k hk (hF : k = b8) => by omega)
  replace ho1 := ho1.step hw5.step (show ¬ b1 = b8 by omega)
  replace ho2 := ho2.step hw5.step (show ¬ b2 = b8 by omega)
  replace ho3 := ho3.step hw5.step (show ¬ b3 = b8 by omega)
  replace hbase1 := Nat.le_trans hbase1 (hw5.step).size
  replace hr1 := hr1.stepU hub1 hw5.step (fun k hk1 hk2 (hF : k = b8) => by omega)
  replace ho5 := ho5.step hw5.step (show ¬ b4 = b8 by omega)
  replace hbase2 := Nat.le_trans hbase2 (hw5.step).size
  replace ho7 := ho7.step hw5.step (show ¬ b5 = b8 by omega)
  replace ho9 := ho9.step hw5.step (show ¬ b6 = b8 by omega)
  replace ho11 := ho11.step hw5.step (show ¬ b7 = b8 by omega)
  have ho13 : Own w21 b8 #[.int .i64 (rkV xi bs (fk bs 0 1)), .int .i64 (rkV xi bs (fk bs 1 2)), .int .i64 (rkV xi bs (fk bs 3 2))] 47 := Own.cast hw5.own (by kernel_rfl)
  have hzhw5 := hw5.same
  refine VL_pure 8 [2, 5, 7, 17, 18, 19, 20] [(2, .int .i64 m), (5, .pointer (some ⟨b2, 0, none⟩)), (7, .pointer (some ⟨b3, 0, none⟩)), (17, .pointer (some ⟨b7, 0, none⟩)), (18, .int .i64 (rkE xi bs)), (19, .pointer (some ⟨b8, 0, none⟩)), (20, .int .i64 (rkE xi bs))] (by kernel_rfl) rfl ?_
  refine VL_end (by kernel_rfl) ?_
  refine VQ_next ?_
  refine VC_seq ?_
  refine VC_region ?_
  refine VL_load (d := 98) (t := 40) (a := ⟨b3, 0, none⟩) (v := .agg #[.int .u8 xi, .slice A n c]) (by kernel_rfl) (by kernel_rfl) (Loads.ownL ho3 (n := 2) (by kernel_rfl) (by kernel_rfl) (by kernel_rfl)) ?_
  have hzs17 := hS.size
  have hzl67 := ho1.lt
  have hzl68 := ho2.lt
  have hzl69 := ho3.lt
  have hzl70 := ho5.lt
  have hzl71 := ho7.lt
  have hzl72 := ho9.lt
  have hzl73 := ho11.lt
  have hzl74 := ho13.lt
  refine VL_call (d := 99) (f := 25) (by kernel_rfl) (by kernel_rfl) (by kernel_rfl) Try.call25 (rdcause_any xi A n c _ bs _ hn (by omega) hA hb (by first | exact Nat.le_refl _ | omega)) ?_
  rintro _ w22 ⟨rfl, hc9⟩
  replace hS := Step.trans hS hc9
  replace hA := hA.no hc9
  replace ho1 := ho1.no hc9
  replace ho2 := ho2.no hc9
  replace ho3 := ho3.no hc9
  replace hbase1 := Nat.le_trans hbase1 (hc9).size
  replace hr1 := hr1.no hc9
  replace ho5 := ho5.no hc9
  replace hbase2 := Nat.le_trans hbase2 (hc9).size
  replace ho7 := ho7.no hc9
  replace ho9 := ho9.no hc9
  replace ho11 := ho11.no hc9
  replace ho13 := ho13.no hc9
  refine VL_pure 7 [2, 5, 7, 17, 18, 19, 20, 21, 22] [(2, .int .i64 m), (5, .pointer (some ⟨b2, 0, none⟩)), (7, .pointer (some ⟨b3, 0, none⟩)), (17, .pointer (some ⟨b7, 0, none⟩)), (18, .int .i64 (rkE xi bs)), (19, .pointer (some ⟨b8, 0, none⟩)), (20, .int .i64 (rkE xi bs)), (21, .int .i64 (rcV xi bs)), (22, .int .i64 (rcE xi bs))] (by kernel_rfl) rfl ?_
  refine VL_end (by kernel_rfl) ?_
  refine VQ_next ?_
  refine VC_seq ?_
  refine VC_region ?_
  refine VL_load (d := 103) (t := 40) (a := ⟨b3, 0, none⟩) (v := .agg #[.int .u8 xi, .slice A n c]) (by kernel_rfl) (by kernel_rfl) (Loads.ownL ho3 (n := 2) (by kernel_rfl) (by kernel_rfl) (by kernel_rfl)) ?_
  have hzs18 := hS.size
  have hzl75 := ho1.lt
  have hzl76 := ho2.lt
  have hzl77 := ho3.lt
  have hzl78 := ho5.lt
  have hzl79 := ho7.lt
  have hzl80 := ho9.lt
  have hzl81 := ho11.lt
  have hzl82 := ho13.lt
  refine VL_call (d := 104) (f := 26) (by kernel_rfl) (by kernel_rfl) (by kernel_rfl) Try.call26 (rrdcause_any xi A n c _ bs _ hn (by omega) hA hb (by first | exact Nat.le_refl _ | omega)) ?_
  rintro _ w23 ⟨rfl, hc10⟩
  replace hS := Step.trans hS hc10
  replace hA := hA.no hc10
  replace ho1 := ho1.no hc10
  replace ho2 := ho2.no hc10
  replace ho3 := ho3.no hc10
  replace hbase1 := Nat.le_trans hbase1 (hc10).size
  replace hr1 := hr1.no hc10
  replace ho5 := ho5.no hc10
  replace hbase2 := Nat.le_trans hbase2 (hc10).size
  replace ho7 := ho7.no hc10
  replace ho9 := ho9.no hc10
  replace ho11 := ho11.no hc10
  replace ho13 := ho13.no hc10
  refine VL_pure 7 [2, 5, 17, 18, 19, 20, 21, 22, 23, 24] [(2, .int .i64 m), (5, .pointer (some ⟨b2, 0, none⟩)), (17, .pointer (some ⟨b7, 0, none⟩)), (18, .int .i64 (rkE xi bs)), (19, .pointer (some ⟨b8, 0, none⟩)), (20, .int .i64 (rkE xi bs)), (21, .int .i64 (rcV xi bs)), (22, .int .i64 (rcE xi bs)), (23, .int .i64 (rcV xi bs)), (24, .int .i64 (rcE xi bs))] (by kernel_rfl) rfl ?_
  refine VL_end (by kernel_rfl) ?_
  refine VQ_next ?_
  refine VC_seq ?_
  refine VC_region ?_
  refine VL_load (d := 108) (t := 47) (a := ⟨b2, 0, none⟩) (v := .agg #[.int .i64 kp, .int .i64 kv, .int .i64 kc]) (by kernel_rfl) (by kernel_rfl) (Loads.ownL ho2 (n := 3) (by kernel_rfl) (by kernel_rfl) (by kernel_rfl)) ?_
  have hzs19 := hS.size
  have hzl83 := ho1.lt
  have hzl84 := ho2.lt
  have hzl85 := ho3.lt
  have hzl86 := ho5.lt
  have hzl87 := ho7.lt
  have hzl88 := ho9.lt
  have hzl89 := ho11.lt
  have hzl90 := ho13.lt
  refine VL_call (d := 109) (f := 19) (by kernel_rfl) (by kernel_rfl) (by kernel_rfl) Try.call19 (keyU_any kp kv kc _) ?_
  rintro _ w24 ⟨⟨ui1, uA1, un1, uc1, rfl⟩, hc11⟩
  replace hS := Step.trans hS hc11
  replace hA := hA.no hc11
  replace ho1 := ho1.no hc11
  replace ho2 := ho2.no hc11
  replace ho3 := ho3.no hc11
  replace hbase1 := Nat.le_trans hbase1 (hc11).size
  replace hr1 := hr1.no hc11
  replace ho5 := ho5.no hc11
  replace hbase2 := Nat.le_trans hbase2 (hc11).size
  replace ho7 := ho7.no hc11
  replace ho9 := ho9.no hc11
  replace ho11 := ho11.no hc11
  replace ho13 := ho13.no hc11
  refine VL_pure 5 [2, 5, 17, 18, 19, 20, 21, 22, 23, 24, 110, 111] [(2, .int .i64 m), (5, .pointer (some ⟨b2, 0, none⟩)), (17, .pointer (some ⟨b7, 0, none⟩)), (18, .int .i64 (rkE xi bs)), (19, .pointer (some ⟨b8, 0, none⟩)), (20, .int .i64 (rkE xi bs)), (21, .int .i64 (rcV xi bs)), (22, .int .i64 (rcE xi bs)), (23, .int .i64 (rcV xi bs)), (24, .int .i64 (rcE xi bs)), (110, .agg #[.int .u8 ui1, .slice uA1 un1 uc1]), (111, .int .i64 (keyE kp kv kc))] (by kernel_rfl) rfl ?_
  have hzs20 := hS.size
  have hzl91 := ho1.lt
  have hzl92 := ho2.lt
  have hzl93 := ho3.lt
  have hzk10 := hbase1
  have hzl94 := ho5.lt
  have hzk11 := hbase2
  have hzl95 := ho7.lt
  have hzl96 := ho9.lt
  have hzl97 := ho11.lt
  have hzl98 := ho13.lt
  refine VL_box (d := 25) (t := 40) (c := #[.int .u8 0, .slice none 0 0]) (by kernel_rfl) (by kernel_rfl) ?_
  intro b9 w25 hn9
  replace hS := Step.trans hS (hn9.step No)
  replace hA := hA.no (hn9.step No)
  replace ho1 := ho1.no (hn9.step No)
  replace ho2 := ho2.no (hn9.step No)
  replace ho3 := ho3.no (hn9.step No)
  replace hbase1 := Nat.le_trans hbase1 (hn9.step No).size
  replace hr1 := hr1.no (hn9.step No)
  replace ho5 := ho5.no (hn9.step No)
  replace hbase2 := Nat.le_trans hbase2 (hn9.step No).size
  replace ho7 := ho7.no (hn9.step No)
  replace ho9 := ho9.no (hn9.step No)
  replace ho11 := ho11.no (hn9.step No)
  replace ho13 := ho13.no (hn9.step No)
  have ho14 := hn9.own
  have hzhn9 := hn9.size
  have hqhn9 := hn9.eqb
  refine VL_store (b := b9) (o := 0) (vs := [.int .u8 ui1, .slice uA1 un1 uc1]) (by kernel_rfl) (by kernel_rfl) ho14 (Nat.le_of_ble_eq_true (by kernel_rfl)) ?_
  intro w26 hw6
  replace hS := Step.transNew hS hw6.step (fun _ _ _ => by omega)
  replace hA := hA.step hw6.step (fun k hk (hF : k = b9) => by omega)
  replace ho1 := ho1.step hw6.step (show ¬ b1 = b9 by omega)
  replace ho2 := ho2.step hw6.step (show ¬ b2 = b9 by omega)
  replace ho3 := ho3.step hw6.step (show ¬ b3 = b9 by omega)
  replace hbase1 := Nat.le_trans hbase1 (hw6.step).size
  replace hr1 := hr1.stepU hub1 hw6.step (fun k hk1 hk2 (hF : k = b9) => by omega)
  replace ho5 := ho5.step hw6.step (show ¬ b4 = b9 by omega)
  replace hbase2 := Nat.le_trans hbase2 (hw6.step).size
  replace ho7 := ho7.step hw6.step (show ¬ b5 = b9 by omega)
  replace ho9 := ho9.step hw6.step (show ¬ b6 = b9 by omega)
  replace ho11 := ho11.step hw6.step (show ¬ b7 = b9 by omega)
  replace ho13 := ho13.step hw6.step (show ¬ b8 = b9 by omega)
  have ho15 : Own w26 b9 #[.int .u8 ui1, .slice uA1 un1 uc1] 40 := Own.cast hw6.own (by kernel_rfl)
  have hzhw6 := hw6.same
  refine VL_pure 8 [2, 5, 17, 18, 19, 20, 21, 22, 23, 24, 26] [(2, .int .i64 m), (5, .pointer (some ⟨b2, 0, none⟩)), (17, .pointer (some ⟨b7, 0, none⟩)), (18, .int .i64 (rkE xi bs)), (19, .pointer (some ⟨b8, 0, none⟩)), (20, .int .i64 (rkE xi bs)), (21, .int .i64 (rcV xi bs)), (22, .int .i64 (rcE xi bs)), (23, .int .i64 (rcV xi bs)), (24, .int .i64 (rcE xi bs)), (26, .int .i64 (keyE kp kv kc))] (by kernel_rfl) rfl ?_
  refine VL_end (by kernel_rfl) ?_
  refine VQ_next ?_
  refine VC_seq ?_
  refine VC_region ?_
  refine VL_pure 1 [2, 5, 17, 18, 19, 20, 21, 22, 23, 24, 26, 113] [(2, .int .i64 m), (5, .pointer (some ⟨b2, 0, none⟩)), (17, .pointer (some ⟨b7, 0, none⟩)), (18, .int .i64 (rkE xi bs)), (19, .pointer (some ⟨b8, 0, none⟩)), (20, .int .i64 (rkE xi bs)), (21, .int .i64 (rcV xi bs)), (22, .int .i64 (rcE xi bs)), (23, .int .i64 (rcV xi bs)), (24, .int .i64 (rcE xi bs)), (26, .int .i64 (keyE kp kv kc)), (113, .int .i64 m)] (by kernel_rfl) rfl ?_
  have hzs21 := hS.size
  have hzl99 := ho1.lt
  have hzl100 := ho2.lt
  have hzl101 := ho3.lt
  have hzl102 := ho5.lt
  have hzl103 := ho7.lt
  have hzl104 := ho9.lt
  have hzl105 := ho11.lt
  have hzl106 := ho13.lt
  have hzl107 := ho15.lt
  refine VL_call (d := 114) (f := 27) (by kernel_rfl) (by kernel_rfl) (by kernel_rfl) Try.call27 (causeU_any m _) ?_
  rintro _ w27 ⟨⟨ui2, uA2, un2, uc2, rfl⟩, hc12⟩
  replace hS := Step.trans hS hc12
  replace hA := hA.no hc12
  replace ho1 := ho1.no hc12
  replace ho2 := ho2.no hc12
  replace ho3 := ho3.no hc12
  replace hbase1 := Nat.le_trans hbase1 (hc12).size
  replace hr1 := hr1.no hc12
  replace ho5 := ho5.no hc12
  replace hbase2 := Nat.le_trans hbase2 (hc12).size
  replace ho7 := ho7.no hc12
  replace ho9 := ho9.no hc12
  replace ho11 := ho11.no hc12
  replace ho13 := ho13.no hc12
  replace ho15 := ho15.no hc12
  refine VL_pure 5 [2, 5, 17, 18, 19, 20, 21, 22, 23, 24, 26, 115, 116] [(2, .int .i64 m), (5, .pointer (some ⟨b2, 0, none⟩)), (17, .pointer (some ⟨b7, 0, none⟩)), (18, .int .i64 (rkE xi bs)), (19, .pointer (some ⟨b8, 0, none⟩)), (20, .int .i64 (rkE xi bs)), (21, .int .i64 (rcV xi bs)), (22, .int .i64 (rcE xi bs)), (23, .int .i64 (rcV xi bs)), (24, .int .i64 (rcE xi bs)), (26, .int .i64 (keyE kp kv kc)), (115, .agg #[.int .u8 ui2, .slice uA2 un2 uc2]), (116, .int .i64 (causeE m))] (by kernel_rfl) rfl ?_
  have hzs22 := hS.size
  have hzl108 := ho1.lt
  have hzl109 := ho2.lt
  have hzl110 := ho3.lt
  have hzk12 := hbase1
  have hzl111 := ho5.lt
  have hzk13 := hbase2
  have hzl112 := ho7.lt
  have hzl113 := ho9.lt
  have hzl114 := ho11.lt
  have hzl115 := ho13.lt
  have hzl116 := ho15.lt
  refine VL_box (d := 27) (t := 40) (c := #[.int .u8 0, .slice none 0 0]) (by kernel_rfl) (by kernel_rfl) ?_
  intro b10 w28 hn10
  replace hS := Step.trans hS (hn10.step No)
  replace hA := hA.no (hn10.step No)
  replace ho1 := ho1.no (hn10.step No)
  replace ho2 := ho2.no (hn10.step No)
  replace ho3 := ho3.no (hn10.step No)
  replace hbase1 := Nat.le_trans hbase1 (hn10.step No).size
  replace hr1 := hr1.no (hn10.step No)
  replace ho5 := ho5.no (hn10.step No)
  replace hbase2 := Nat.le_trans hbase2 (hn10.step No).size
  replace ho7 := ho7.no (hn10.step No)
  replace ho9 := ho9.no (hn10.step No)
  replace ho11 := ho11.no (hn10.step No)
  replace ho13 := ho13.no (hn10.step No)
  replace ho15 := ho15.no (hn10.step No)
  have ho16 := hn10.own
  have hzhn10 := hn10.size
  have hqhn10 := hn10.eqb
  refine VL_store (b := b10) (o := 0) (vs := [.int .u8 ui2, .slice uA2 un2 uc2]) (by kernel_rfl) (by kernel_rfl) ho16 (Nat.le_of_ble_eq_true (by kernel_rfl)) ?_
  intro w29 hw7
  replace hS := Step.transNew hS hw7.step (fun _ _ _ => by omega)
  replace hA := hA.step hw7.step (fun k hk (hF : k = b10) => by omega)
  replace ho1 := ho1.step hw7.step (show ¬ b1 = b10 by omega)
  replace ho2 := ho2.step hw7.step (show ¬ b2 = b10 by omega)
  replace ho3 := ho3.step hw7.step (show ¬ b3 = b10 by omega)
  replace hbase1 := Nat.le_trans hbase1 (hw7.step).size
  replace hr1 := hr1.stepU hub1 hw7.step (fun k hk1 hk2 (hF : k = b10) => by omega)
  replace ho5 := ho5.step hw7.step (show ¬ b4 = b10 by omega)
  replace hbase2 := Nat.le_trans hbase2 (hw7.step).size
  replace ho7 := ho7.step hw7.step (show ¬ b5 = b10 by omega)
  replace ho9 := ho9.step hw7.step (show ¬ b6 = b10 by omega)
  replace ho11 := ho11.step hw7.step (show ¬ b7 = b10 by omega)
  replace ho13 := ho13.step hw7.step (show ¬ b8 = b10 by omega)
  replace ho15 := ho15.step hw7.step (show ¬ b9 = b10 by omega)
  have ho17 : Own w29 b10 #[.int .u8 ui2, .slice uA2 un2 uc2] 40 := Own.cast hw7.own (by kernel_rfl)
  have hzhw7 := hw7.same
  refine VL_pure 8 [2, 5, 17, 18, 19, 20, 21, 22, 23, 24, 26, 28] [(2, .int .i64 m), (5, .pointer (some ⟨b2, 0, none⟩)), (17, .pointer (some ⟨b7, 0, none⟩)), (18, .int .i64 (rkE xi bs)), (19, .pointer (some ⟨b8, 0, none⟩)), (20, .int .i64 (rkE xi bs)), (21, .int .i64 (rcV xi bs)), (22, .int .i64 (rcE xi bs)), (23, .int .i64 (rcV xi bs)), (24, .int .i64 (rcE xi bs)), (26, .int .i64 (keyE kp kv kc)), (28, .int .i64 (causeE m))] (by kernel_rfl) rfl ?_
  refine VL_end (by kernel_rfl) ?_
  refine VQ_next ?_
  refine VC_seq ?_
  refine VC_region ?_
  refine VL_load (d := 117) (t := 47) (a := ⟨b7, 0, none⟩) (v := .agg #[.int .i64 (rkV xi bs (fk bs 0 1)), .int .i64 (rkV xi bs (fk bs 1 2)), .int .i64 (rkV xi bs (fk bs 3 2))]) (by kernel_rfl) (by kernel_rfl) (Loads.ownL ho11 (n := 3) (by kernel_rfl) (by kernel_rfl) (by kernel_rfl)) ?_
  refine VL_load (d := 118) (t := 47) (a := ⟨b8, 0, none⟩) (v := .agg #[.int .i64 (rkV xi bs (fk bs 0 1)), .int .i64 (rkV xi bs (fk bs 1 2)), .int .i64 (rkV xi bs (fk bs 3 2))]) (by kernel_rfl) (by kernel_rfl) (Loads.ownL ho13 (n := 3) (by kernel_rfl) (by kernel_rfl) (by kernel_rfl)) ?_
  refine VL_agEq (d := 119) (dd := 9) (ls := ([.int .i64] ++ [.int .i64] ++ [.int .i64] ++ [])) (pos := true) (t := 47) (xs := #[.int .i64 (rkV xi bs (fk bs 0 1)), .int .i64 (rkV xi bs (fk bs 1 2)), .int .i64 (rkV xi bs (fk bs 3 2))]) (ys := #[.int .i64 (rkV xi bs (fk bs 0 1)), .int .i64 (rkV xi bs (fk bs 1 2)), .int .i64 (rkV xi bs (fk bs 3 2))]) (by kernel_rfl) (by kernel_rfl) (by kernel_rfl) (by kernel_rfl) (by first | exact ⟨⟨_, rfl⟩, ⟨_, rfl⟩, ⟨_, rfl⟩, trivial⟩ | trivial) (by first | exact ⟨⟨_, rfl⟩, ⟨_, rfl⟩, ⟨_, rfl⟩, trivial⟩ | trivial) (([rkV xi bs (fk bs 0 1), rkV xi bs (fk bs 1 2), rkV xi bs (fk bs 3 2)] : List Int) == [rkV xi bs (fk bs 0 1), rkV xi bs (fk bs 1 2), rkV xi bs (fk bs 3 2)]) (iA_eq (k := .i64) (xs := [rkV xi bs (fk bs 0 1), rkV xi bs (fk bs 1 2), rkV xi bs (fk bs 3 2)]) (bs := [rkV xi bs (fk bs 0 1), rkV xi bs (fk bs 1 2), rkV xi bs (fk bs 3 2)]) true) ?_
  refine VL_pure 4 [2, 5, 18, 20, 21, 22, 23, 24, 26, 28, 120] [(2, .int .i64 m), (5, .pointer (some ⟨b2, 0, none⟩)), (18, .int .i64 (rkE xi bs)), (20, .int .i64 (rkE xi bs)), (21, .int .i64 (rcV xi bs)), (22, .int .i64 (rcE xi bs)), (23, .int .i64 (rcV xi bs)), (24, .int .i64 (rcE xi bs)), (26, .int .i64 (keyE kp kv kc)), (28, .int .i64 (causeE m)), (120, .bool (([rkV xi bs (fk bs 0 1), rkV xi bs (fk bs 1 2), rkV xi bs (fk bs 3 2)] : List Int) == [rkV xi bs (fk bs 0 1), rkV xi bs (fk bs 1 2), rkV xi bs (fk bs 3 2)]))] (by kernel_rfl) rfl ?_
  refine VL_known (([rkV xi bs (fk bs 0 1), rkV xi bs (fk bs 1 2), rkV xi bs (fk bs 3 2)] : List Int) == [rkV xi bs (fk bs 0 1), rkV xi bs (fk bs 1 2), rkV xi bs (fk bs 3 2)]) (fun bV => [(2, .int .i64 m), (5, .pointer (some ⟨b2, 0, none⟩)), (18, .int .i64 (rkE xi bs)), (20, .int .i64 (rkE xi bs)), (21, .int .i64 (rcV xi bs)), (22, .int .i64 (rcE xi bs)), (23, .int .i64 (rcV xi bs)), (24, .int .i64 (rcE xi bs)), (26, .int .i64 (keyE kp kv kc)), (28, .int .i64 (causeE m)), (120, .bool bV)]) true rfl (by simp) ?_
  refine VL_pure 9 [2, 5, 21, 22, 23, 24, 26, 28, 125] [(2, .int .i64 m), (5, .pointer (some ⟨b2, 0, none⟩)), (21, .int .i64 (rcV xi bs)), (22, .int .i64 (rcE xi bs)), (23, .int .i64 (rcV xi bs)), (24, .int .i64 (rcE xi bs)), (26, .int .i64 (keyE kp kv kc)), (28, .int .i64 (causeE m)), (125, .bool ((rkE xi bs) == (rkE xi bs)))] (by kernel_rfl) rfl ?_
  refine VL_known ((rkE xi bs) == (rkE xi bs)) (fun bV => [(2, .int .i64 m), (5, .pointer (some ⟨b2, 0, none⟩)), (21, .int .i64 (rcV xi bs)), (22, .int .i64 (rcE xi bs)), (23, .int .i64 (rcV xi bs)), (24, .int .i64 (rcE xi bs)), (26, .int .i64 (keyE kp kv kc)), (28, .int .i64 (causeE m)), (125, .bool bV)]) true rfl (by simp) ?_
  refine VL_pure 14 [2, 5, 22, 24, 26, 28, 130] [(2, .int .i64 m), (5, .pointer (some ⟨b2, 0, none⟩)), (22, .int .i64 (rcE xi bs)), (24, .int .i64 (rcE xi bs)), (26, .int .i64 (keyE kp kv kc)), (28, .int .i64 (causeE m)), (130, .bool ((rcV xi bs) == (rcV xi bs)))] (by kernel_rfl) rfl ?_
  refine VL_known ((rcV xi bs) == (rcV xi bs)) (fun bV => [(2, .int .i64 m), (5, .pointer (some ⟨b2, 0, none⟩)), (22, .int .i64 (rcE xi bs)), (24, .int .i64 (rcE xi bs)), (26, .int .i64 (keyE kp kv kc)), (28, .int .i64 (causeE m)), (130, .bool bV)]) true rfl (by simp) ?_
  refine VL_pure 19 [2, 5, 26, 28, 135] [(2, .int .i64 m), (5, .pointer (some ⟨b2, 0, none⟩)), (26, .int .i64 (keyE kp kv kc)), (28, .int .i64 (causeE m)), (135, .bool ((rcE xi bs) == (rcE xi bs)))] (by kernel_rfl) rfl ?_
  refine VL_known ((rcE xi bs) == (rcE xi bs)) (fun bV => [(2, .int .i64 m), (5, .pointer (some ⟨b2, 0, none⟩)), (26, .int .i64 (keyE kp kv kc)), (28, .int .i64 (causeE m)), (135, .bool bV)]) true rfl (by simp) ?_
  refine VL_pure 21 [2, 5, 26, 28, 135, 137] [(2, .int .i64 m), (5, .pointer (some ⟨b2, 0, none⟩)), (26, .int .i64 (keyE kp kv kc)), (28, .int .i64 (causeE m)), (135, .bool true), (137, .bool ((keyE kp kv kc) == 0))] (by kernel_rfl) rfl ?_
  refine VL_load (d := 138) (t := 47) (a := ⟨b2, 0, none⟩) (v := .agg #[.int .i64 kp, .int .i64 kv, .int .i64 kc]) (by kernel_rfl) (by kernel_rfl) (Loads.ownL ho2 (n := 3) (by kernel_rfl) (by kernel_rfl) (by kernel_rfl)) ?_
  have hzs23 := hS.size
  have hzl117 := ho1.lt
  have hzl118 := ho2.lt
  have hzl119 := ho3.lt
  have hzl120 := ho5.lt
  have hzl121 := ho7.lt
  have hzl122 := ho9.lt
  have hzl123 := ho11.lt
  have hzl124 := ho13.lt
  have hzl125 := ho15.lt
  have hzl126 := ho17.lt
  refine VL_call (d := 139) (f := 28) (args := #[.agg #[.int .i64 kp, .int .i64 kv, .int .i64 kc]]) (by kernel_rfl) (by kernel_rfl) (by kernel_rfl) Try.call28 (rkright_any kp kv kc _) ?_
  rintro _ w30 ⟨rfl, hc13⟩
  replace hS := Step.trans hS hc13
  replace hA := hA.no hc13
  replace ho1 := ho1.no hc13
  replace ho2 := ho2.no hc13
  replace ho3 := ho3.no hc13
  replace hbase1 := Nat.le_trans hbase1 (hc13).size
  replace hr1 := hr1.no hc13
  replace ho5 := ho5.no hc13
  replace hbase2 := Nat.le_trans hbase2 (hc13).size
  replace ho7 := ho7.no hc13
  replace ho9 := ho9.no hc13
  replace ho11 := ho11.no hc13
  replace ho13 := ho13.no hc13
  replace ho15 := ho15.no hc13
  replace ho17 := ho17.no hc13
  refine VL_pure 26 [2, 26, 28, 142] [(2, .int .i64 m), (26, .int .i64 (keyE kp kv kc)), (28, .int .i64 (causeE m)), (142, .bool (((keyE kp kv kc) == 0) == (rightK kp kv kc)))] (by kernel_rfl) rfl ?_
  refine VL_known (((keyE kp kv kc) == 0) == (rightK kp kv kc)) (fun bV => [(2, .int .i64 m), (26, .int .i64 (keyE kp kv kc)), (28, .int .i64 (causeE m)), (142, .bool bV)]) true rfl (keyE_is _ _ _) ?_
  refine VL_pure 29 [2, 26, 28, 142, 145] [(2, .int .i64 m), (26, .int .i64 (keyE kp kv kc)), (28, .int .i64 (causeE m)), (142, .bool true), (145, .bool ((keyE kp kv kc) == 0))] (by kernel_rfl) rfl ?_
  refine VL_beq (keyE kp kv kc) 0 (fun bV => [(2, .int .i64 m), (26, .int .i64 (keyE kp kv kc)), (28, .int .i64 (causeE m)), (142, .bool true), (145, .bool bV)]) rfl (fun hg1 => ?_) (fun hg1 => ?_)
  · refine VL_pure 39 [2, 28, 150, 152, 155] [(2, .int .i64 m), (28, .int .i64 (causeE m)), (150, .bool true), (152, .bool ((causeE m) == 0)), (155, .bool (decide (m ≥ 0)))] (by kernel_rfl) rfl ?_
    refine VL_dec (m ≥ 0) (fun bV => [(2, .int .i64 m), (28, .int .i64 (causeE m)), (150, .bool true), (152, .bool ((causeE m) == 0)), (155, .bool bV)]) rfl (fun hg2 => ?_) (fun hg2 => ?_)
    · refine VL_pure 45 [28, 161] [(28, .int .i64 (causeE m)), (161, .bool (((causeE m) == 0) == (decide (m < 128))))] (by kernel_rfl) rfl ?_
      refine VL_known (((causeE m) == 0) == (decide (m < 128))) (fun bV => [(28, .int .i64 (causeE m)), (161, .bool bV)]) true rfl (by first | (rw [causeE_F (by omega)]; (try simp); (try omega); done) | (by_cases h9 : m < 128; (rw [causeE_T (by omega)]; simp; omega); (rw [causeE_F (by omega)]; simp; omega))) ?_
      refine VL_pure 48 [28, 161, 164] [(28, .int .i64 (causeE m)), (161, .bool true), (164, .bool ((causeE m) == 0))] (by kernel_rfl) rfl ?_
      refine VL_beq (causeE m) 0 (fun bV => [(28, .int .i64 (causeE m)), (161, .bool true), (164, .bool bV)]) rfl (fun hg3 => ?_) (fun hg3 => ?_)
      · refine VL_pure 53 [8] [(8, .bool true)] (by kernel_rfl) rfl ?_
        refine VL_end (by kernel_rfl) ?_
        refine VQ_next ?_
        refine VC_ret ?_
        refine VQ_ret1 (.bool true) (.inr rfl) rfl rfl ?_
        exact ⟨by first | rfl | (congr 1; first | (rw [beq_iff_eq]; exact causeE_1 (by assumption)) | simp [*]), hS⟩
      · refine VL_pure 53 [8] [(8, .bool ((causeE m) == 1))] (by kernel_rfl) rfl ?_
        refine VL_end (by kernel_rfl) ?_
        refine VQ_next ?_
        refine VC_ret ?_
        refine VQ_ret1 (.bool ((causeE m) == 1)) (.inr rfl) rfl rfl ?_
        exact ⟨by first | rfl | (congr 1; first | (rw [beq_iff_eq]; exact causeE_1 (by assumption)) | simp [*]), hS⟩
    · refine VL_pure 45 [28, 161] [(28, .int .i64 (causeE m)), (161, .bool (((causeE m) == 0) == false))] (by kernel_rfl) rfl ?_
      refine VL_known (((causeE m) == 0) == false) (fun bV => [(28, .int .i64 (causeE m)), (161, .bool bV)]) true rfl (by first | (rw [causeE_F (by omega)]; (try simp); (try omega); done) | (by_cases h9 : m < 128; (rw [causeE_T (by omega)]; simp; omega); (rw [causeE_F (by omega)]; simp; omega))) ?_
      refine VL_pure 48 [28, 161, 164] [(28, .int .i64 (causeE m)), (161, .bool true), (164, .bool ((causeE m) == 0))] (by kernel_rfl) rfl ?_
      refine VL_beq (causeE m) 0 (fun bV => [(28, .int .i64 (causeE m)), (161, .bool true), (164, .bool bV)]) rfl (fun hg4 => ?_) (fun hg4 => ?_)
      · refine VL_pure 53 [8] [(8, .bool true)] (by kernel_rfl) rfl ?_
        refine VL_end (by kernel_rfl) ?_
        refine VQ_next ?_
        refine VC_ret ?_
        refine VQ_ret1 (.bool true) (.inr rfl) rfl rfl ?_
        exact ⟨by first | rfl | (congr 1; first | (rw [beq_iff_eq]; exact causeE_1 (by assumption)) | simp [*]), hS⟩
      · refine VL_pure 53 [8] [(8, .bool ((causeE m) == 1))] (by kernel_rfl) rfl ?_
        refine VL_end (by kernel_rfl) ?_
        refine VQ_next ?_
        refine VC_ret ?_
        refine VQ_ret1 (.bool ((causeE m) == 1)) (.inr rfl) rfl rfl ?_
        exact ⟨by first | rfl | (congr 1; first | (rw [beq_iff_eq]; exact causeE_1 (by assumption)) | simp [*]), hS⟩
  · refine VL_pure 34 [2, 28, 150] [(2, .int .i64 m), (28, .int .i64 (causeE m)), (150, .bool ((keyE kp kv kc) == 1))] (by kernel_rfl) rfl ?_
    refine VL_known ((keyE kp kv kc) == 1) (fun bV => [(2, .int .i64 m), (28, .int .i64 (causeE m)), (150, .bool bV)]) true rfl (by rw [beq_iff_eq]; exact keyE_1 (by assumption)) ?_
    refine VL_pure 39 [2, 28, 150, 152, 155] [(2, .int .i64 m), (28, .int .i64 (causeE m)), (150, .bool true), (152, .bool ((causeE m) == 0)), (155, .bool (decide (m ≥ 0)))] (by kernel_rfl) rfl ?_
    refine VL_dec (m ≥ 0) (fun bV => [(2, .int .i64 m), (28, .int .i64 (causeE m)), (150, .bool true), (152, .bool ((causeE m) == 0)), (155, .bool bV)]) rfl (fun hg5 => ?_) (fun hg5 => ?_)
    · refine VL_pure 45 [28, 161] [(28, .int .i64 (causeE m)), (161, .bool (((causeE m) == 0) == (decide (m < 128))))] (by kernel_rfl) rfl ?_
      refine VL_known (((causeE m) == 0) == (decide (m < 128))) (fun bV => [(28, .int .i64 (causeE m)), (161, .bool bV)]) true rfl (by first | (rw [causeE_F (by omega)]; (try simp); (try omega); done) | (by_cases h9 : m < 128; (rw [causeE_T (by omega)]; simp; omega); (rw [causeE_F (by omega)]; simp; omega))) ?_
      refine VL_pure 48 [28, 161, 164] [(28, .int .i64 (causeE m)), (161, .bool true), (164, .bool ((causeE m) == 0))] (by kernel_rfl) rfl ?_
      refine VL_beq (causeE m) 0 (fun bV => [(28, .int .i64 (causeE m)), (161, .bool true), (164, .bool bV)]) rfl (fun hg6 => ?_) (fun hg6 => ?_)
      · refine VL_pure 53 [8] [(8, .bool true)] (by kernel_rfl) rfl ?_
        refine VL_end (by kernel_rfl) ?_
        refine VQ_next ?_
        refine VC_ret ?_
        refine VQ_ret1 (.bool true) (.inr rfl) rfl rfl ?_
        exact ⟨by first | rfl | (congr 1; first | (rw [beq_iff_eq]; exact causeE_1 (by assumption)) | simp [*]), hS⟩
      · refine VL_pure 53 [8] [(8, .bool ((causeE m) == 1))] (by kernel_rfl) rfl ?_
        refine VL_end (by kernel_rfl) ?_
        refine VQ_next ?_
        refine VC_ret ?_
        refine VQ_ret1 (.bool ((causeE m) == 1)) (.inr rfl) rfl rfl ?_
        exact ⟨by first | rfl | (congr 1; first | (rw [beq_iff_eq]; exact causeE_1 (by assumption)) | simp [*]), hS⟩
    · refine VL_pure 45 [28, 161] [(28, .int .i64 (causeE m)), (161, .bool (((causeE m) == 0) == false))] (by kernel_rfl) rfl ?_
      refine VL_known (((causeE m) == 0) == false) (fun bV => [(28, .int .i64 (causeE m)), (161, .bool bV)]) true rfl (by first | (rw [causeE_F (by omega)]; (try simp); (try omega); done) | (by_cases h9 : m < 128; (rw [causeE_T (by omega)]; simp; omega); (rw [causeE_F (by omega)]; simp; omega))) ?_
      refine VL_pure 48 [28, 161, 164] [(28, .int .i64 (causeE m)), (161, .bool true), (164, .bool ((causeE m) == 0))] (by kernel_rfl) rfl ?_
      refine VL_beq (causeE m) 0 (fun bV => [(28, .int .i64 (causeE m)), (161, .bool true), (164, .bool bV)]) rfl (fun hg7 => ?_) (fun hg7 => ?_)
      · refine VL_pure 53 [8] [(8, .bool true)] (by kernel_rfl) rfl ?_
        refine VL_end (by kernel_rfl) ?_
        refine VQ_next ?_
        refine VC_ret ?_
        refine VQ_ret1 (.bool true) (.inr rfl) rfl rfl ?_
        exact ⟨by first | rfl | (congr 1; first | (rw [beq_iff_eq]; exact causeE_1 (by assumption)) | simp [*]), hS⟩
      · refine VL_pure 53 [8] [(8, .bool ((causeE m) == 1))] (by kernel_rfl) rfl ?_
        refine VL_end (by kernel_rfl) ?_
        refine VQ_next ?_
        refine VC_ret ?_
        refine VQ_ret1 (.bool ((causeE m) == 1)) (.inr rfl) rfl rfl ?_
        exact ⟨by first | rfl | (congr 1; first | (rw [beq_iff_eq]; exact causeE_1 (by assumption)) | simp [*]), hS⟩

set_option maxRecDepth 100000 in
set_option maxHeartbeats 4000000 in
theorem reads_no (k p e h b t : Int) (kp kv kc m xi : Int) (A : Option Addr) (n c : Nat) (bs : List Int) (w : World) (hn : bs.length = n) (hA : Sl w w.heap.size A (iL .u8 bs)) (hc : n ≤ c) (hb : Bytes bs) (h300 : n ≤ 300) (hr : rightC k p e h b t ≠ 0)  :
    CV Try.prog 7 #[.agg #[.int .i64 k, .int .i64 p, .int .i64 e, .int .i64 h, .int .i64 b, .int .i64 t], .agg #[.int .i64 kp, .int .i64 kv, .int .i64 kc], .int .i64 m, .agg #[.int .u8 xi, .slice A n c]] w (fun x w1 => x = .bool true ∧ Step No w w1) := by
  have hS : Step No w w := Step.refl _ _
  refine CV_enter Try.f7 _ 169 [(0, .agg #[.int .i64 k, .int .i64 p, .int .i64 e, .int .i64 h, .int .i64 b, .int .i64 t]), (1, .agg #[.int .i64 kp, .int .i64 kv, .int .i64 kc]), (2, .int .i64 m), (3, .agg #[.int .u8 xi, .slice A n c])] Try.func7 rfl rfl (by kernel_rfl) rfl ?_
  refine VC_seq ?_
  refine VC_region ?_
  have hzs1 := hS.size
  refine VL_box (d := 4) (t := 45) (c := #[.int .i64 k, .int .i64 p, .int .i64 e, .int .i64 h, .int .i64 b, .int .i64 t]) (by kernel_rfl) (by kernel_rfl) ?_
  intro b1 w1 hn1
  replace hS := Step.trans hS (hn1.step No)
  replace hA := hA.no (hn1.step No)
  have ho1 := hn1.own
  have hzhn1 := hn1.size
  have hqhn1 := hn1.eqb
  have hzs2 := hS.size
  have hzl1 := ho1.lt
  refine VL_box (d := 5) (t := 47) (c := #[.int .i64 kp, .int .i64 kv, .int .i64 kc]) (by kernel_rfl) (by kernel_rfl) ?_
  intro b2 w2 hn2
  replace hS := Step.trans hS (hn2.step No)
  replace hA := hA.no (hn2.step No)
  replace ho1 := ho1.no (hn2.step No)
  have ho2 := hn2.own
  have hzhn2 := hn2.size
  have hqhn2 := hn2.eqb
  have hzs3 := hS.size
  have hzl2 := ho1.lt
  have hzl3 := ho2.lt
  refine VL_box (d := 7) (t := 40) (c := #[.int .u8 xi, .slice A n c]) (by kernel_rfl) (by kernel_rfl) ?_
  intro b3 w3 hn3
  replace hS := Step.trans hS (hn3.step No)
  replace hA := hA.no (hn3.step No)
  replace ho1 := ho1.no (hn3.step No)
  replace ho2 := ho2.no (hn3.step No)
  have ho3 := hn3.own
  have hzhn3 := hn3.size
  have hqhn3 := hn3.eqb
  refine VL_pure 4 [2, 4, 5, 7] [(2, .int .i64 m), (4, .pointer (some ⟨b1, 0, none⟩)), (5, .pointer (some ⟨b2, 0, none⟩)), (7, .pointer (some ⟨b3, 0, none⟩))] (by kernel_rfl) rfl ?_
  refine VL_end (by kernel_rfl) ?_
  refine VQ_next ?_
  refine VC_seq ?_
  refine VC_seq ?_
  refine VC_region ?_
  have hzs4 := hS.size
  have hzl4 := ho1.lt
  have hzl5 := ho2.lt
  have hzl6 := ho3.lt
  refine VL_call (d := 29) (f := 9) (args := #[]) (by kernel_rfl) (by kernel_rfl) (by kernel_rfl) Try.call9 (awake_any _) ?_
  rintro _ w4 ⟨rfl, hc1⟩
  replace hS := Step.trans hS hc1
  replace hA := hA.no hc1
  replace ho1 := ho1.no hc1
  replace ho2 := ho2.no hc1
  replace ho3 := ho3.no hc1
  refine VL_pure 4 [2, 4, 5, 7, 31, 32] [(2, .int .i64 m), (4, .pointer (some ⟨b1, 0, none⟩)), (5, .pointer (some ⟨b2, 0, none⟩)), (7, .pointer (some ⟨b3, 0, none⟩)), (31, .bool false), (32, .pointer (some ⟨b3, 1, none⟩))] (by kernel_rfl) rfl ?_
  refine VL_load (d := 33) (t := 23) (a := ⟨b3, 1, none⟩) (v := .slice A n c) (by kernel_rfl) (by kernel_rfl) (Loads.own1 ho3 (by kernel_rfl) (by rfl)) ?_
  refine VL_pure 8 [2, 4, 5, 7, 36] [(2, .int .i64 m), (4, .pointer (some ⟨b1, 0, none⟩)), (5, .pointer (some ⟨b2, 0, none⟩)), (7, .pointer (some ⟨b3, 0, none⟩)), (36, .bool (decide (((n : Nat) : Int) > 300)))] (by kernel_rfl) rfl ?_
  refine VL_end (by kernel_rfl) ?_
  refine VQ_next ?_
  refine VC_is (b := decide (((n : Nat) : Int) > 300)) false (by kernel_rfl) (by simp; omega) ?_
  refine VC_ite_false ?_
  refine VC_skip ?_
  refine VQ_next ?_
  refine VC_seq ?_
  refine VC_region ?_
  refine VL_load (d := 39) (t := 45) (a := ⟨b1, 0, none⟩) (v := .agg #[.int .i64 k, .int .i64 p, .int .i64 e, .int .i64 h, .int .i64 b, .int .i64 t]) (by kernel_rfl) (by kernel_rfl) (Loads.ownL ho1 (n := 6) (by kernel_rfl) (by kernel_rfl) (by kernel_rfl)) ?_
  have hzs5 := hS.size
  have hzl7 := ho1.lt
  have hzl8 := ho2.lt
  have hzl9 := ho3.lt
  refine VL_call (d := 40) (f := 18) (args := #[.agg #[.int .i64 k, .int .i64 p, .int .i64 e, .int .i64 h, .int .i64 b, .int .i64 t]]) (by kernel_rfl) (by kernel_rfl) (by kernel_rfl) Try.call18 (traffic_no k p e h b t _ hr) ?_
  rintro _ w5 ⟨rfl, hc2⟩
  replace hS := Step.trans hS hc2
  replace hA := hA.no hc2
  replace ho1 := ho1.no hc2
  replace ho2 := ho2.no hc2
  replace ho3 := ho3.no hc2
  refine VL_pure 5 [2, 4, 5, 7, 41, 42] [(2, .int .i64 m), (4, .pointer (some ⟨b1, 0, none⟩)), (5, .pointer (some ⟨b2, 0, none⟩)), (7, .pointer (some ⟨b3, 0, none⟩)), (41, .agg #[.int .u8 0, .slice none 0 0]), (42, .int .i64 (rightC k p e h b t))] (by kernel_rfl) rfl ?_
  have hzs6 := hS.size
  have hzl10 := ho1.lt
  have hzl11 := ho2.lt
  have hzl12 := ho3.lt
  refine VL_box (d := 9) (t := 40) (c := #[.int .u8 0, .slice none 0 0]) (by kernel_rfl) (by kernel_rfl) ?_
  intro b4 w6 hn4
  replace hS := Step.trans hS (hn4.step No)
  replace hA := hA.no (hn4.step No)
  replace ho1 := ho1.no (hn4.step No)
  replace ho2 := ho2.no (hn4.step No)
  replace ho3 := ho3.no (hn4.step No)
  have ho4 := hn4.own
  have hzhn4 := hn4.size
  have hqhn4 := hn4.eqb
  refine VL_store (b := b4) (o := 0) (vs := [.int .u8 0, .slice none 0 0]) (by kernel_rfl) (by kernel_rfl) ho4 (Nat.le_of_ble_eq_true (by kernel_rfl)) ?_
  intro w7 hw1
  replace hS := Step.transNew hS hw1.step (fun _ _ _ => by omega)
  replace hA := hA.step hw1.step (fun k hk (hF : k = b4) => by omega)
  replace ho1 := ho1.step hw1.step (show ¬ b1 = b4 by omega)
  replace ho2 := ho2.step hw1.step (show ¬ b2 = b4 by omega)
  replace ho3 := ho3.step hw1.step (show ¬ b3 = b4 by omega)
  have ho5 : Own w7 b4 #[.int .u8 0, .slice none 0 0] 40 := Own.cast hw1.own (by kernel_rfl)
  have hzhw1 := hw1.same
  refine VL_pure 8 [2, 4, 5, 7, 9, 10] [(2, .int .i64 m), (4, .pointer (some ⟨b1, 0, none⟩)), (5, .pointer (some ⟨b2, 0, none⟩)), (7, .pointer (some ⟨b3, 0, none⟩)), (9, .pointer (some ⟨b4, 0, none⟩)), (10, .int .i64 (rightC k p e h b t))] (by kernel_rfl) rfl ?_
  refine VL_end (by kernel_rfl) ?_
  refine VQ_next ?_
  refine VC_seq ?_
  refine VC_region ?_
  refine VL_load (d := 44) (t := 45) (a := ⟨b1, 0, none⟩) (v := .agg #[.int .i64 k, .int .i64 p, .int .i64 e, .int .i64 h, .int .i64 b, .int .i64 t]) (by kernel_rfl) (by kernel_rfl) (Loads.ownL ho1 (n := 6) (by kernel_rfl) (by kernel_rfl) (by kernel_rfl)) ?_
  have hzs7 := hS.size
  have hzl13 := ho1.lt
  have hzl14 := ho2.lt
  have hzl15 := ho3.lt
  have hzl16 := ho5.lt
  refine VL_call (d := 45) (f := 20) (args := #[.agg #[.int .i64 k, .int .i64 p, .int .i64 e, .int .i64 h, .int .i64 b, .int .i64 t]]) (by kernel_rfl) (by kernel_rfl) (by kernel_rfl) Try.call20 (rtraffic_no k p e h b t _ hr) ?_
  rintro _ w8 ⟨rfl, hc3⟩
  replace hS := Step.trans hS hc3
  replace hA := hA.no hc3
  replace ho1 := ho1.no hc3
  replace ho2 := ho2.no hc3
  replace ho3 := ho3.no hc3
  replace ho5 := ho5.no hc3
  refine VL_pure 7 [2, 5, 7, 9, 10, 11, 12] [(2, .int .i64 m), (5, .pointer (some ⟨b2, 0, none⟩)), (7, .pointer (some ⟨b3, 0, none⟩)), (9, .pointer (some ⟨b4, 0, none⟩)), (10, .int .i64 (rightC k p e h b t)), (11, .slice none 0 0), (12, .int .i64 (rightC k p e h b t))] (by kernel_rfl) rfl ?_
  refine VL_end (by kernel_rfl) ?_
  refine VQ_next ?_
  refine VC_seq ?_
  refine VC_region ?_
  refine VL_load (d := 49) (t := 40) (a := ⟨b3, 0, none⟩) (v := .agg #[.int .u8 xi, .slice A n c]) (by kernel_rfl) (by kernel_rfl) (Loads.ownL ho3 (n := 2) (by kernel_rfl) (by kernel_rfl) (by kernel_rfl)) ?_
  have hzs8 := hS.size
  have hzl17 := ho1.lt
  have hzl18 := ho2.lt
  have hzl19 := ho3.lt
  have hzl20 := ho5.lt
  refine VL_call (d := 50) (f := 21) (by kernel_rfl) (by kernel_rfl) (by kernel_rfl) Try.call21 (rdtraf_any xi A n c _ bs _ hn (by omega) hA hb (by first | exact Nat.le_refl _ | omega)) ?_
  rintro _ w9 ⟨rfl, hc4⟩
  replace hS := Step.trans hS hc4
  replace hA := hA.no hc4
  replace ho1 := ho1.no hc4
  replace ho2 := ho2.no hc4
  replace ho3 := ho3.no hc4
  replace ho5 := ho5.no hc4
  refine VL_pure 5 [2, 5, 7, 9, 10, 11, 12, 51, 52] [(2, .int .i64 m), (5, .pointer (some ⟨b2, 0, none⟩)), (7, .pointer (some ⟨b3, 0, none⟩)), (9, .pointer (some ⟨b4, 0, none⟩)), (10, .int .i64 (rightC k p e h b t)), (11, .slice none 0 0), (12, .int .i64 (rightC k p e h b t)), (51, .agg #[.int .i64 (rtV xi bs (IntKind.wrap .i64 (List.getD bs 0 0))), .int .i64 (rtV xi bs (fld bs 0)), .int .i64 (rtV xi bs (fld bs 1)), .int .i64 (rtV xi bs (fld bs 2)), .int .i64 (rtV xi bs (fld bs 3)), .int .i64 (rtV xi bs (fld bs 4))]), (52, .int .i64 (rtE xi bs))] (by kernel_rfl) rfl ?_
  have hzs9 := hS.size
  have hzl21 := ho1.lt
  have hzl22 := ho2.lt
  have hzl23 := ho3.lt
  have hzl24 := ho5.lt
  refine VL_box (d := 13) (t := 45) (c := #[.int .i64 0, .int .i64 0, .int .i64 0, .int .i64 0, .int .i64 0, .int .i64 0]) (by kernel_rfl) (by kernel_rfl) ?_
  intro b5 w10 hn5
  replace hS := Step.trans hS (hn5.step No)
  replace hA := hA.no (hn5.step No)
  replace ho1 := ho1.no (hn5.step No)
  replace ho2 := ho2.no (hn5.step No)
  replace ho3 := ho3.no (hn5.step No)
  replace ho5 := ho5.no (hn5.step No)
  have ho6 := hn5.own
  have hzhn5 := hn5.size
  have hqhn5 := hn5.eqb
  refine VL_store (b := b5) (o := 0) (vs := [.int .i64 (rtV xi bs (IntKind.wrap .i64 (List.getD bs 0 0))), .int .i64 (rtV xi bs (fld bs 0)), .int .i64 (rtV xi bs (fld bs 1)), .int .i64 (rtV xi bs (fld bs 2)), .int .i64 (rtV xi bs (fld bs 3)), .int .i64 (rtV xi bs (fld bs 4))]) (by kernel_rfl) (by kernel_rfl) ho6 (Nat.le_of_ble_eq_true (by kernel_rfl)) ?_
  intro w11 hw2
  replace hS := Step.transNew hS hw2.step (fun _ _ _ => by omega)
  replace hA := hA.step hw2.step (fun k hk (hF : k = b5) => by omega)
  replace ho1 := ho1.step hw2.step (show ¬ b1 = b5 by omega)
  replace ho2 := ho2.step hw2.step (show ¬ b2 = b5 by omega)
  replace ho3 := ho3.step hw2.step (show ¬ b3 = b5 by omega)
  replace ho5 := ho5.step hw2.step (show ¬ b4 = b5 by omega)
  have ho7 : Own w11 b5 #[.int .i64 (rtV xi bs (IntKind.wrap .i64 (List.getD bs 0 0))), .int .i64 (rtV xi bs (fld bs 0)), .int .i64 (rtV xi bs (fld bs 1)), .int .i64 (rtV xi bs (fld bs 2)), .int .i64 (rtV xi bs (fld bs 3)), .int .i64 (rtV xi bs (fld bs 4))] 45 := Own.cast hw2.own (by kernel_rfl)
  have hzhw2 := hw2.same
  refine VL_pure 8 [2, 5, 7, 9, 10, 11, 12, 13, 14] [(2, .int .i64 m), (5, .pointer (some ⟨b2, 0, none⟩)), (7, .pointer (some ⟨b3, 0, none⟩)), (9, .pointer (some ⟨b4, 0, none⟩)), (10, .int .i64 (rightC k p e h b t)), (11, .slice none 0 0), (12, .int .i64 (rightC k p e h b t)), (13, .pointer (some ⟨b5, 0, none⟩)), (14, .int .i64 (rtE xi bs))] (by kernel_rfl) rfl ?_
  refine VL_end (by kernel_rfl) ?_
  refine VQ_next ?_
  refine VC_seq ?_
  refine VC_region ?_
  refine VL_load (d := 54) (t := 40) (a := ⟨b3, 0, none⟩) (v := .agg #[.int .u8 xi, .slice A n c]) (by kernel_rfl) (by kernel_rfl) (Loads.ownL ho3 (n := 2) (by kernel_rfl) (by kernel_rfl) (by kernel_rfl)) ?_
  have hzs10 := hS.size
  have hzl25 := ho1.lt
  have hzl26 := ho2.lt
  have hzl27 := ho3.lt
  have hzl28 := ho5.lt
  have hzl29 := ho7.lt
  refine VL_call (d := 55) (f := 22) (by kernel_rfl) (by kernel_rfl) (by kernel_rfl) Try.call22 (rrdtraf_any xi A n c _ bs _ hn (by omega) hA hb (by first | exact Nat.le_refl _ | omega)) ?_
  rintro _ w12 ⟨rfl, hc5⟩
  replace hS := Step.trans hS hc5
  replace hA := hA.no hc5
  replace ho1 := ho1.no hc5
  replace ho2 := ho2.no hc5
  replace ho3 := ho3.no hc5
  replace ho5 := ho5.no hc5
  replace ho7 := ho7.no hc5
  refine VL_pure 5 [2, 5, 7, 9, 10, 11, 12, 13, 14, 56, 57] [(2, .int .i64 m), (5, .pointer (some ⟨b2, 0, none⟩)), (7, .pointer (some ⟨b3, 0, none⟩)), (9, .pointer (some ⟨b4, 0, none⟩)), (10, .int .i64 (rightC k p e h b t)), (11, .slice none 0 0), (12, .int .i64 (rightC k p e h b t)), (13, .pointer (some ⟨b5, 0, none⟩)), (14, .int .i64 (rtE xi bs)), (56, .agg #[.int .i64 (rtV xi bs (IntKind.wrap .i64 (List.getD bs 0 0))), .int .i64 (rtV xi bs (fld bs 0)), .int .i64 (rtV xi bs (fld bs 1)), .int .i64 (rtV xi bs (fld bs 2)), .int .i64 (rtV xi bs (fld bs 3)), .int .i64 (rtV xi bs (fld bs 4))]), (57, .int .i64 (rtE xi bs))] (by kernel_rfl) rfl ?_
  have hzs11 := hS.size
  have hzl30 := ho1.lt
  have hzl31 := ho2.lt
  have hzl32 := ho3.lt
  have hzl33 := ho5.lt
  have hzl34 := ho7.lt
  refine VL_box (d := 15) (t := 45) (c := #[.int .i64 0, .int .i64 0, .int .i64 0, .int .i64 0, .int .i64 0, .int .i64 0]) (by kernel_rfl) (by kernel_rfl) ?_
  intro b6 w13 hn6
  replace hS := Step.trans hS (hn6.step No)
  replace hA := hA.no (hn6.step No)
  replace ho1 := ho1.no (hn6.step No)
  replace ho2 := ho2.no (hn6.step No)
  replace ho3 := ho3.no (hn6.step No)
  replace ho5 := ho5.no (hn6.step No)
  replace ho7 := ho7.no (hn6.step No)
  have ho8 := hn6.own
  have hzhn6 := hn6.size
  have hqhn6 := hn6.eqb
  refine VL_store (b := b6) (o := 0) (vs := [.int .i64 (rtV xi bs (IntKind.wrap .i64 (List.getD bs 0 0))), .int .i64 (rtV xi bs (fld bs 0)), .int .i64 (rtV xi bs (fld bs 1)), .int .i64 (rtV xi bs (fld bs 2)), .int .i64 (rtV xi bs (fld bs 3)), .int .i64 (rtV xi bs (fld bs 4))]) (by kernel_rfl) (by kernel_rfl) ho8 (Nat.le_of_ble_eq_true (by kernel_rfl)) ?_
  intro w14 hw3
  replace hS := Step.transNew hS hw3.step (fun _ _ _ => by omega)
  replace hA := hA.step hw3.step (fun k hk (hF : k = b6) => by omega)
  replace ho1 := ho1.step hw3.step (show ¬ b1 = b6 by omega)
  replace ho2 := ho2.step hw3.step (show ¬ b2 = b6 by omega)
  replace ho3 := ho3.step hw3.step (show ¬ b3 = b6 by omega)
  replace ho5 := ho5.step hw3.step (show ¬ b4 = b6 by omega)
  replace ho7 := ho7.step hw3.step (show ¬ b5 = b6 by omega)
  have ho9 : Own w14 b6 #[.int .i64 (rtV xi bs (IntKind.wrap .i64 (List.getD bs 0 0))), .int .i64 (rtV xi bs (fld bs 0)), .int .i64 (rtV xi bs (fld bs 1)), .int .i64 (rtV xi bs (fld bs 2)), .int .i64 (rtV xi bs (fld bs 3)), .int .i64 (rtV xi bs (fld bs 4))] 45 := Own.cast hw3.own (by kernel_rfl)
  have hzhw3 := hw3.same
  refine VL_pure 8 [2, 5, 7, 9, 10, 11, 12, 13, 14, 15, 16] [(2, .int .i64 m), (5, .pointer (some ⟨b2, 0, none⟩)), (7, .pointer (some ⟨b3, 0, none⟩)), (9, .pointer (some ⟨b4, 0, none⟩)), (10, .int .i64 (rightC k p e h b t)), (11, .slice none 0 0), (12, .int .i64 (rightC k p e h b t)), (13, .pointer (some ⟨b5, 0, none⟩)), (14, .int .i64 (rtE xi bs)), (15, .pointer (some ⟨b6, 0, none⟩)), (16, .int .i64 (rtE xi bs))] (by kernel_rfl) rfl ?_
  refine VL_end (by kernel_rfl) ?_
  refine VQ_next ?_
  refine VC_seq ?_
  refine VC_seq ?_
  refine VC_region ?_
  refine VL_pure 4 [2, 5, 7, 9, 10, 11, 13, 14, 15, 16, 61] [(2, .int .i64 m), (5, .pointer (some ⟨b2, 0, none⟩)), (7, .pointer (some ⟨b3, 0, none⟩)), (9, .pointer (some ⟨b4, 0, none⟩)), (10, .int .i64 (rightC k p e h b t)), (11, .slice none 0 0), (13, .pointer (some ⟨b5, 0, none⟩)), (14, .int .i64 (rtE xi bs)), (15, .pointer (some ⟨b6, 0, none⟩)), (16, .int .i64 (rtE xi bs)), (61, .bool ((rightC k p e h b t) != (rightC k p e h b t)))] (by kernel_rfl) rfl ?_
  refine VL_known ((rightC k p e h b t) != (rightC k p e h b t)) (fun bV => [(2, .int .i64 m), (5, .pointer (some ⟨b2, 0, none⟩)), (7, .pointer (some ⟨b3, 0, none⟩)), (9, .pointer (some ⟨b4, 0, none⟩)), (10, .int .i64 (rightC k p e h b t)), (11, .slice none 0 0), (13, .pointer (some ⟨b5, 0, none⟩)), (14, .int .i64 (rtE xi bs)), (15, .pointer (some ⟨b6, 0, none⟩)), (16, .int .i64 (rtE xi bs)), (61, .bool bV)]) false rfl (by simp) ?_
  refine VL_pure 5 [2, 5, 7, 9, 10, 11, 13, 14, 15, 16, 61, 62] [(2, .int .i64 m), (5, .pointer (some ⟨b2, 0, none⟩)), (7, .pointer (some ⟨b3, 0, none⟩)), (9, .pointer (some ⟨b4, 0, none⟩)), (10, .int .i64 (rightC k p e h b t)), (11, .slice none 0 0), (13, .pointer (some ⟨b5, 0, none⟩)), (14, .int .i64 (rtE xi bs)), (15, .pointer (some ⟨b6, 0, none⟩)), (16, .int .i64 (rtE xi bs)), (61, .bool false), (62, .pointer (some ⟨b4, 1, none⟩))] (by kernel_rfl) rfl ?_
  refine VL_load (d := 63) (t := 23) (a := ⟨b4, 1, none⟩) (v := .slice none 0 0) (by kernel_rfl) (by kernel_rfl) (Loads.own1 ho5 (by kernel_rfl) (by rfl)) ?_
  refine VL_pure 7 [2, 5, 7, 9, 10, 13, 14, 15, 16, 61, 63, 64] [(2, .int .i64 m), (5, .pointer (some ⟨b2, 0, none⟩)), (7, .pointer (some ⟨b3, 0, none⟩)), (9, .pointer (some ⟨b4, 0, none⟩)), (10, .int .i64 (rightC k p e h b t)), (13, .pointer (some ⟨b5, 0, none⟩)), (14, .int .i64 (rtE xi bs)), (15, .pointer (some ⟨b6, 0, none⟩)), (16, .int .i64 (rtE xi bs)), (61, .bool false), (63, .slice none 0 0), (64, .slice none 0 0)] (by kernel_rfl) rfl ?_
  have hzs12 := hS.size
  have hzl35 := ho1.lt
  have hzl36 := ho2.lt
  have hzl37 := ho3.lt
  have hzl38 := ho5.lt
  have hzl39 := ho7.lt
  have hzl40 := ho9.lt
  refine VL_call (d := 65) (f := 14) (args := #[.slice none 0 0, .slice none 0 0]) (by kernel_rfl) (by kernel_rfl) (by kernel_rfl) Try.call14 (same_any none 0 0 _ ([] : List Int) none 0 0 _ ([] : List Int) _ rfl (Sl.nil (B := 0)) rfl (Sl.nil (B := 0)) (by omega) (by omega) (by first | exact Nat.le_refl _ | omega) (by first | exact Nat.le_refl _ | omega)) ?_
  rintro _ w15 ⟨rfl, hc6⟩
  replace hS := Step.trans hS hc6
  replace hA := hA.no hc6
  replace ho1 := ho1.no hc6
  replace ho2 := ho2.no hc6
  replace ho3 := ho3.no hc6
  replace ho5 := ho5.no hc6
  replace ho7 := ho7.no hc6
  replace ho9 := ho9.no hc6
  refine VL_pure 11 [2, 5, 7, 9, 10, 13, 14, 15, 16, 68] [(2, .int .i64 m), (5, .pointer (some ⟨b2, 0, none⟩)), (7, .pointer (some ⟨b3, 0, none⟩)), (9, .pointer (some ⟨b4, 0, none⟩)), (10, .int .i64 (rightC k p e h b t)), (13, .pointer (some ⟨b5, 0, none⟩)), (14, .int .i64 (rtE xi bs)), (15, .pointer (some ⟨b6, 0, none⟩)), (16, .int .i64 (rtE xi bs)), (68, .bool (!(([] : List Int) == ([] : List Int))))] (by kernel_rfl) rfl ?_
  refine VL_known (([] : List Int) == ([] : List Int)) (fun bV => [(2, .int .i64 m), (5, .pointer (some ⟨b2, 0, none⟩)), (7, .pointer (some ⟨b3, 0, none⟩)), (9, .pointer (some ⟨b4, 0, none⟩)), (10, .int .i64 (rightC k p e h b t)), (13, .pointer (some ⟨b5, 0, none⟩)), (14, .int .i64 (rtE xi bs)), (15, .pointer (some ⟨b6, 0, none⟩)), (16, .int .i64 (rtE xi bs)), (68, .bool (!bV))]) true rfl (by simp) ?_
  refine VL_pure 14 [2, 5, 7, 9, 13, 14, 15, 16, 68, 71] [(2, .int .i64 m), (5, .pointer (some ⟨b2, 0, none⟩)), (7, .pointer (some ⟨b3, 0, none⟩)), (9, .pointer (some ⟨b4, 0, none⟩)), (13, .pointer (some ⟨b5, 0, none⟩)), (14, .int .i64 (rtE xi bs)), (15, .pointer (some ⟨b6, 0, none⟩)), (16, .int .i64 (rtE xi bs)), (68, .bool false), (71, .bool ((rightC k p e h b t) == 0))] (by kernel_rfl) rfl ?_
  refine VL_known ((rightC k p e h b t) == 0) (fun bV => [(2, .int .i64 m), (5, .pointer (some ⟨b2, 0, none⟩)), (7, .pointer (some ⟨b3, 0, none⟩)), (9, .pointer (some ⟨b4, 0, none⟩)), (13, .pointer (some ⟨b5, 0, none⟩)), (14, .int .i64 (rtE xi bs)), (15, .pointer (some ⟨b6, 0, none⟩)), (16, .int .i64 (rtE xi bs)), (68, .bool false), (71, .bool bV)]) false rfl (by first | (rw [hr]; rfl) | simpa using hr) ?_
  refine VL_pure 20 [2, 5, 7, 13, 14, 15, 16, 77] [(2, .int .i64 m), (5, .pointer (some ⟨b2, 0, none⟩)), (7, .pointer (some ⟨b3, 0, none⟩)), (13, .pointer (some ⟨b5, 0, none⟩)), (14, .int .i64 (rtE xi bs)), (15, .pointer (some ⟨b6, 0, none⟩)), (16, .int .i64 (rtE xi bs)), (77, .bool false)] (by kernel_rfl) rfl ?_
  refine VL_load (d := 78) (t := 45) (a := ⟨b5, 0, none⟩) (v := .agg #[.int .i64 (rtV xi bs (IntKind.wrap .i64 (List.getD bs 0 0))), .int .i64 (rtV xi bs (fld bs 0)), .int .i64 (rtV xi bs (fld bs 1)), .int .i64 (rtV xi bs (fld bs 2)), .int .i64 (rtV xi bs (fld bs 3)), .int .i64 (rtV xi bs (fld bs 4))]) (by kernel_rfl) (by kernel_rfl) (Loads.ownL ho7 (n := 6) (by kernel_rfl) (by kernel_rfl) (by kernel_rfl)) ?_
  refine VL_load (d := 79) (t := 45) (a := ⟨b6, 0, none⟩) (v := .agg #[.int .i64 (rtV xi bs (IntKind.wrap .i64 (List.getD bs 0 0))), .int .i64 (rtV xi bs (fld bs 0)), .int .i64 (rtV xi bs (fld bs 1)), .int .i64 (rtV xi bs (fld bs 2)), .int .i64 (rtV xi bs (fld bs 3)), .int .i64 (rtV xi bs (fld bs 4))]) (by kernel_rfl) (by kernel_rfl) (Loads.ownL ho9 (n := 6) (by kernel_rfl) (by kernel_rfl) (by kernel_rfl)) ?_
  refine VL_agEq (d := 80) (dd := 9) (ls := ([.int .i64] ++ [.int .i64] ++ [.int .i64] ++ [.int .i64] ++ [.int .i64] ++ [.int .i64] ++ [])) (pos := false) (t := 45) (xs := #[.int .i64 (rtV xi bs (IntKind.wrap .i64 (List.getD bs 0 0))), .int .i64 (rtV xi bs (fld bs 0)), .int .i64 (rtV xi bs (fld bs 1)), .int .i64 (rtV xi bs (fld bs 2)), .int .i64 (rtV xi bs (fld bs 3)), .int .i64 (rtV xi bs (fld bs 4))]) (ys := #[.int .i64 (rtV xi bs (IntKind.wrap .i64 (List.getD bs 0 0))), .int .i64 (rtV xi bs (fld bs 0)), .int .i64 (rtV xi bs (fld bs 1)), .int .i64 (rtV xi bs (fld bs 2)), .int .i64 (rtV xi bs (fld bs 3)), .int .i64 (rtV xi bs (fld bs 4))]) (by kernel_rfl) (by kernel_rfl) (by kernel_rfl) (by kernel_rfl) (by first | exact ⟨⟨_, rfl⟩, ⟨_, rfl⟩, ⟨_, rfl⟩, ⟨_, rfl⟩, ⟨_, rfl⟩, ⟨_, rfl⟩, trivial⟩ | trivial) (by first | exact ⟨⟨_, rfl⟩, ⟨_, rfl⟩, ⟨_, rfl⟩, ⟨_, rfl⟩, ⟨_, rfl⟩, ⟨_, rfl⟩, trivial⟩ | trivial) (!(([rtV xi bs (IntKind.wrap .i64 (List.getD bs 0 0)), rtV xi bs (fld bs 0), rtV xi bs (fld bs 1), rtV xi bs (fld bs 2), rtV xi bs (fld bs 3), rtV xi bs (fld bs 4)] : List Int) == [rtV xi bs (IntKind.wrap .i64 (List.getD bs 0 0)), rtV xi bs (fld bs 0), rtV xi bs (fld bs 1), rtV xi bs (fld bs 2), rtV xi bs (fld bs 3), rtV xi bs (fld bs 4)])) (iA_eq (k := .i64) (xs := [rtV xi bs (IntKind.wrap .i64 (List.getD bs 0 0)), rtV xi bs (fld bs 0), rtV xi bs (fld bs 1), rtV xi bs (fld bs 2), rtV xi bs (fld bs 3), rtV xi bs (fld bs 4)]) (bs := [rtV xi bs (IntKind.wrap .i64 (List.getD bs 0 0)), rtV xi bs (fld bs 0), rtV xi bs (fld bs 1), rtV xi bs (fld bs 2), rtV xi bs (fld bs 3), rtV xi bs (fld bs 4)]) false) ?_
  refine VL_pure 25 [2, 5, 7, 14, 16, 82] [(2, .int .i64 m), (5, .pointer (some ⟨b2, 0, none⟩)), (7, .pointer (some ⟨b3, 0, none⟩)), (14, .int .i64 (rtE xi bs)), (16, .int .i64 (rtE xi bs)), (82, .bool (!(([rtV xi bs (IntKind.wrap .i64 (List.getD bs 0 0)), rtV xi bs (fld bs 0), rtV xi bs (fld bs 1), rtV xi bs (fld bs 2), rtV xi bs (fld bs 3), rtV xi bs (fld bs 4)] : List Int) == [rtV xi bs (IntKind.wrap .i64 (List.getD bs 0 0)), rtV xi bs (fld bs 0), rtV xi bs (fld bs 1), rtV xi bs (fld bs 2), rtV xi bs (fld bs 3), rtV xi bs (fld bs 4)])))] (by kernel_rfl) rfl ?_
  refine VL_known (!(([rtV xi bs (IntKind.wrap .i64 (List.getD bs 0 0)), rtV xi bs (fld bs 0), rtV xi bs (fld bs 1), rtV xi bs (fld bs 2), rtV xi bs (fld bs 3), rtV xi bs (fld bs 4)] : List Int) == [rtV xi bs (IntKind.wrap .i64 (List.getD bs 0 0)), rtV xi bs (fld bs 0), rtV xi bs (fld bs 1), rtV xi bs (fld bs 2), rtV xi bs (fld bs 3), rtV xi bs (fld bs 4)])) (fun bV => [(2, .int .i64 m), (5, .pointer (some ⟨b2, 0, none⟩)), (7, .pointer (some ⟨b3, 0, none⟩)), (14, .int .i64 (rtE xi bs)), (16, .int .i64 (rtE xi bs)), (82, .bool bV)]) false rfl (by simp) ?_
  refine VL_pure 29 [2, 5, 7, 86] [(2, .int .i64 m), (5, .pointer (some ⟨b2, 0, none⟩)), (7, .pointer (some ⟨b3, 0, none⟩)), (86, .bool ((rtE xi bs) != (rtE xi bs)))] (by kernel_rfl) rfl ?_
  refine VL_end (by kernel_rfl) ?_
  refine VQ_next ?_
  refine VC_is (b := (rtE xi bs) != (rtE xi bs)) false (by kernel_rfl) (by simp) ?_
  refine VC_ite_false ?_
  refine VC_skip ?_
  refine VQ_next ?_
  refine VC_seq ?_
  refine VC_region ?_
  refine VL_load (d := 88) (t := 40) (a := ⟨b3, 0, none⟩) (v := .agg #[.int .u8 xi, .slice A n c]) (by kernel_rfl) (by kernel_rfl) (Loads.ownL ho3 (n := 2) (by kernel_rfl) (by kernel_rfl) (by kernel_rfl)) ?_
  have hzs13 := hS.size
  have hzl41 := ho1.lt
  have hzl42 := ho2.lt
  have hzl43 := ho3.lt
  have hzl44 := ho5.lt
  have hzl45 := ho7.lt
  have hzl46 := ho9.lt
  refine VL_call (d := 89) (f := 23) (by kernel_rfl) (by kernel_rfl) (by kernel_rfl) Try.call23 (rdkey_any xi A n c _ bs _ hn (by omega) hA hb (by first | exact Nat.le_refl _ | omega)) ?_
  rintro _ w16 ⟨rfl, hc7⟩
  replace hS := Step.trans hS hc7
  replace hA := hA.no hc7
  replace ho1 := ho1.no hc7
  replace ho2 := ho2.no hc7
  replace ho3 := ho3.no hc7
  replace ho5 := ho5.no hc7
  replace ho7 := ho7.no hc7
  replace ho9 := ho9.no hc7
  refine VL_pure 5 [2, 5, 7, 90, 91] [(2, .int .i64 m), (5, .pointer (some ⟨b2, 0, none⟩)), (7, .pointer (some ⟨b3, 0, none⟩)), (90, .agg #[.int .i64 (rkV xi bs (fk bs 0 1)), .int .i64 (rkV xi bs (fk bs 1 2)), .int .i64 (rkV xi bs (fk bs 3 2))]), (91, .int .i64 (rkE xi bs))] (by kernel_rfl) rfl ?_
  have hzs14 := hS.size
  have hzl47 := ho1.lt
  have hzl48 := ho2.lt
  have hzl49 := ho3.lt
  have hzl50 := ho5.lt
  have hzl51 := ho7.lt
  have hzl52 := ho9.lt
  refine VL_box (d := 17) (t := 47) (c := #[.int .i64 0, .int .i64 0, .int .i64 0]) (by kernel_rfl) (by kernel_rfl) ?_
  intro b7 w17 hn7
  replace hS := Step.trans hS (hn7.step No)
  replace hA := hA.no (hn7.step No)
  replace ho1 := ho1.no (hn7.step No)
  replace ho2 := ho2.no (hn7.step No)
  replace ho3 := ho3.no (hn7.step No)
  replace ho5 := ho5.no (hn7.step No)
  replace ho7 := ho7.no (hn7.step No)
  replace ho9 := ho9.no (hn7.step No)
  have ho10 := hn7.own
  have hzhn7 := hn7.size
  have hqhn7 := hn7.eqb
  refine VL_store (b := b7) (o := 0) (vs := [.int .i64 (rkV xi bs (fk bs 0 1)), .int .i64 (rkV xi bs (fk bs 1 2)), .int .i64 (rkV xi bs (fk bs 3 2))]) (by kernel_rfl) (by kernel_rfl) ho10 (Nat.le_of_ble_eq_true (by kernel_rfl)) ?_
  intro w18 hw4
  replace hS := Step.transNew hS hw4.step (fun _ _ _ => by omega)
  replace hA := hA.step hw4.step (fun k hk (hF : k = b7) => by omega)
  replace ho1 := ho1.step hw4.step (show ¬ b1 = b7 by omega)
  replace ho2 := ho2.step hw4.step (show ¬ b2 = b7 by omega)
  replace ho3 := ho3.step hw4.step (show ¬ b3 = b7 by omega)
  replace ho5 := ho5.step hw4.step (show ¬ b4 = b7 by omega)
  replace ho7 := ho7.step hw4.step (show ¬ b5 = b7 by omega)
  replace ho9 := ho9.step hw4.step (show ¬ b6 = b7 by omega)
  have ho11 : Own w18 b7 #[.int .i64 (rkV xi bs (fk bs 0 1)), .int .i64 (rkV xi bs (fk bs 1 2)), .int .i64 (rkV xi bs (fk bs 3 2))] 47 := Own.cast hw4.own (by kernel_rfl)
  have hzhw4 := hw4.same
  refine VL_pure 8 [2, 5, 7, 17, 18] [(2, .int .i64 m), (5, .pointer (some ⟨b2, 0, none⟩)), (7, .pointer (some ⟨b3, 0, none⟩)), (17, .pointer (some ⟨b7, 0, none⟩)), (18, .int .i64 (rkE xi bs))] (by kernel_rfl) rfl ?_
  refine VL_end (by kernel_rfl) ?_
  refine VQ_next ?_
  refine VC_seq ?_
  refine VC_region ?_
  refine VL_load (d := 93) (t := 40) (a := ⟨b3, 0, none⟩) (v := .agg #[.int .u8 xi, .slice A n c]) (by kernel_rfl) (by kernel_rfl) (Loads.ownL ho3 (n := 2) (by kernel_rfl) (by kernel_rfl) (by kernel_rfl)) ?_
  have hzs15 := hS.size
  have hzl53 := ho1.lt
  have hzl54 := ho2.lt
  have hzl55 := ho3.lt
  have hzl56 := ho5.lt
  have hzl57 := ho7.lt
  have hzl58 := ho9.lt
  have hzl59 := ho11.lt
  refine VL_call (d := 94) (f := 24) (by kernel_rfl) (by kernel_rfl) (by kernel_rfl) Try.call24 (rrdkey_any xi A n c _ bs _ hn (by omega) hA hb (by first | exact Nat.le_refl _ | omega)) ?_
  rintro _ w19 ⟨rfl, hc8⟩
  replace hS := Step.trans hS hc8
  replace hA := hA.no hc8
  replace ho1 := ho1.no hc8
  replace ho2 := ho2.no hc8
  replace ho3 := ho3.no hc8
  replace ho5 := ho5.no hc8
  replace ho7 := ho7.no hc8
  replace ho9 := ho9.no hc8
  replace ho11 := ho11.no hc8
  refine VL_pure 5 [2, 5, 7, 17, 18, 95, 96] [(2, .int .i64 m), (5, .pointer (some ⟨b2, 0, none⟩)), (7, .pointer (some ⟨b3, 0, none⟩)), (17, .pointer (some ⟨b7, 0, none⟩)), (18, .int .i64 (rkE xi bs)), (95, .agg #[.int .i64 (rkV xi bs (fk bs 0 1)), .int .i64 (rkV xi bs (fk bs 1 2)), .int .i64 (rkV xi bs (fk bs 3 2))]), (96, .int .i64 (rkE xi bs))] (by kernel_rfl) rfl ?_
  have hzs16 := hS.size
  have hzl60 := ho1.lt
  have hzl61 := ho2.lt
  have hzl62 := ho3.lt
  have hzl63 := ho5.lt
  have hzl64 := ho7.lt
  have hzl65 := ho9.lt
  have hzl66 := ho11.lt
  refine VL_box (d := 19) (t := 47) (c := #[.int .i64 0, .int .i64 0, .int .i64 0]) (by kernel_rfl) (by kernel_rfl) ?_
  intro b8 w20 hn8
  replace hS := Step.trans hS (hn8.step No)
  replace hA := hA.no (hn8.step No)
  replace ho1 := ho1.no (hn8.step No)
  replace ho2 := ho2.no (hn8.step No)
  replace ho3 := ho3.no (hn8.step No)
  replace ho5 := ho5.no (hn8.step No)
  replace ho7 := ho7.no (hn8.step No)
  replace ho9 := ho9.no (hn8.step No)
  replace ho11 := ho11.no (hn8.step No)
  have ho12 := hn8.own
  have hzhn8 := hn8.size
  have hqhn8 := hn8.eqb
  refine VL_store (b := b8) (o := 0) (vs := [.int .i64 (rkV xi bs (fk bs 0 1)), .int .i64 (rkV xi bs (fk bs 1 2)), .int .i64 (rkV xi bs (fk bs 3 2))]) (by kernel_rfl) (by kernel_rfl) ho12 (Nat.le_of_ble_eq_true (by kernel_rfl)) ?_
  intro w21 hw5
  replace hS := Step.transNew hS hw5.step (fun _ _ _ => by omega)
  replace hA := hA.step hw5.step (fun k hk (hF : k = b8) => by omega)
  replace ho1 := ho1.step hw5.step (show ¬ b1 = b8 by omega)
  replace ho2 := ho2.step hw5.step (show ¬ b2 = b8 by omega)
  replace ho3 := ho3.step hw5.step (show ¬ b3 = b8 by omega)
  replace ho5 := ho5.step hw5.step (show ¬ b4 = b8 by omega)
  replace ho7 := ho7.step hw5.step (show ¬ b5 = b8 by omega)
  replace ho9 := ho9.step hw5.step (show ¬ b6 = b8 by omega)
  replace ho11 := ho11.step hw5.step (show ¬ b7 = b8 by omega)
  have ho13 : Own w21 b8 #[.int .i64 (rkV xi bs (fk bs 0 1)), .int .i64 (rkV xi bs (fk bs 1 2)), .int .i64 (rkV xi bs (fk bs 3 2))] 47 := Own.cast hw5.own (by kernel_rfl)
  have hzhw5 := hw5.same
  refine VL_pure 8 [2, 5, 7, 17, 18, 19, 20] [(2, .int .i64 m), (5, .pointer (some ⟨b2, 0, none⟩)), (7, .pointer (some ⟨b3, 0, none⟩)), (17, .pointer (some ⟨b7, 0, none⟩)), (18, .int .i64 (rkE xi bs)), (19, .pointer (some ⟨b8, 0, none⟩)), (20, .int .i64 (rkE xi bs))] (by kernel_rfl) rfl ?_
  refine VL_end (by kernel_rfl) ?_
  refine VQ_next ?_
  refine VC_seq ?_
  refine VC_region ?_
  refine VL_load (d := 98) (t := 40) (a := ⟨b3, 0, none⟩) (v := .agg #[.int .u8 xi, .slice A n c]) (by kernel_rfl) (by kernel_rfl) (Loads.ownL ho3 (n := 2) (by kernel_rfl) (by kernel_rfl) (by kernel_rfl)) ?_
  have hzs17 := hS.size
  have hzl67 := ho1.lt
  have hzl68 := ho2.lt
  have hzl69 := ho3.lt
  have hzl70 := ho5.lt
  have hzl71 := ho7.lt
  have hzl72 := ho9.lt
  have hzl73 := ho11.lt
  have hzl74 := ho13.lt
  refine VL_call (d := 99) (f := 25) (by kernel_rfl) (by kernel_rfl) (by kernel_rfl) Try.call25 (rdcause_any xi A n c _ bs _ hn (by omega) hA hb (by first | exact Nat.le_refl _ | omega)) ?_
  rintro _ w22 ⟨rfl, hc9⟩
  replace hS := Step.trans hS hc9
  replace hA := hA.no hc9
  replace ho1 := ho1.no hc9
  replace ho2 := ho2.no hc9
  replace ho3 := ho3.no hc9
  replace ho5 := ho5.no hc9
  replace ho7 := ho7.no hc9
  replace ho9 := ho9.no hc9
  replace ho11 := ho11.no hc9
  replace ho13 := ho13.no hc9
  refine VL_pure 7 [2, 5, 7, 17, 18, 19, 20, 21, 22] [(2, .int .i64 m), (5, .pointer (some ⟨b2, 0, none⟩)), (7, .pointer (some ⟨b3, 0, none⟩)), (17, .pointer (some ⟨b7, 0, none⟩)), (18, .int .i64 (rkE xi bs)), (19, .pointer (some ⟨b8, 0, none⟩)), (20, .int .i64 (rkE xi bs)), (21, .int .i64 (rcV xi bs)), (22, .int .i64 (rcE xi bs))] (by kernel_rfl) rfl ?_
  refine VL_end (by kernel_rfl) ?_
  refine VQ_next ?_
  refine VC_seq ?_
  refine VC_region ?_
  refine VL_load (d := 103) (t := 40) (a := ⟨b3, 0, none⟩) (v := .agg #[.int .u8 xi, .slice A n c]) (by kernel_rfl) (by kernel_rfl) (Loads.ownL ho3 (n := 2) (by kernel_rfl) (by kernel_rfl) (by kernel_rfl)) ?_
  have hzs18 := hS.size
  have hzl75 := ho1.lt
  have hzl76 := ho2.lt
  have hzl77 := ho3.lt
  have hzl78 := ho5.lt
  have hzl79 := ho7.lt
  have hzl80 := ho9.lt
  have hzl81 := ho11.lt
  have hzl82 := ho13.lt
  refine VL_call (d := 104) (f := 26) (by kernel_rfl) (by kernel_rfl) (by kernel_rfl) Try.call26 (rrdcause_any xi A n c _ bs _ hn (by omega) hA hb (by first | exact Nat.le_refl _ | omega)) ?_
  rintro _ w23 ⟨rfl, hc10⟩
  replace hS := Step.trans hS hc10
  replace hA := hA.no hc10
  replace ho1 := ho1.no hc10
  replace ho2 := ho2.no hc10
  replace ho3 := ho3.no hc10
  replace ho5 := ho5.no hc10
  replace ho7 := ho7.no hc10
  replace ho9 := ho9.no hc10
  replace ho11 := ho11.no hc10
  replace ho13 := ho13.no hc10
  refine VL_pure 7 [2, 5, 17, 18, 19, 20, 21, 22, 23, 24] [(2, .int .i64 m), (5, .pointer (some ⟨b2, 0, none⟩)), (17, .pointer (some ⟨b7, 0, none⟩)), (18, .int .i64 (rkE xi bs)), (19, .pointer (some ⟨b8, 0, none⟩)), (20, .int .i64 (rkE xi bs)), (21, .int .i64 (rcV xi bs)), (22, .int .i64 (rcE xi bs)), (23, .int .i64 (rcV xi bs)), (24, .int .i64 (rcE xi bs))] (by kernel_rfl) rfl ?_
  refine VL_end (by kernel_rfl) ?_
  refine VQ_next ?_
  refine VC_seq ?_
  refine VC_region ?_
  refine VL_load (d := 108) (t := 47) (a := ⟨b2, 0, none⟩) (v := .agg #[.int .i64 kp, .int .i64 kv, .int .i64 kc]) (by kernel_rfl) (by kernel_rfl) (Loads.ownL ho2 (n := 3) (by kernel_rfl) (by kernel_rfl) (by kernel_rfl)) ?_
  have hzs19 := hS.size
  have hzl83 := ho1.lt
  have hzl84 := ho2.lt
  have hzl85 := ho3.lt
  have hzl86 := ho5.lt
  have hzl87 := ho7.lt
  have hzl88 := ho9.lt
  have hzl89 := ho11.lt
  have hzl90 := ho13.lt
  refine VL_call (d := 109) (f := 19) (by kernel_rfl) (by kernel_rfl) (by kernel_rfl) Try.call19 (keyU_any kp kv kc _) ?_
  rintro _ w24 ⟨⟨ui1, uA1, un1, uc1, rfl⟩, hc11⟩
  replace hS := Step.trans hS hc11
  replace hA := hA.no hc11
  replace ho1 := ho1.no hc11
  replace ho2 := ho2.no hc11
  replace ho3 := ho3.no hc11
  replace ho5 := ho5.no hc11
  replace ho7 := ho7.no hc11
  replace ho9 := ho9.no hc11
  replace ho11 := ho11.no hc11
  replace ho13 := ho13.no hc11
  refine VL_pure 5 [2, 5, 17, 18, 19, 20, 21, 22, 23, 24, 110, 111] [(2, .int .i64 m), (5, .pointer (some ⟨b2, 0, none⟩)), (17, .pointer (some ⟨b7, 0, none⟩)), (18, .int .i64 (rkE xi bs)), (19, .pointer (some ⟨b8, 0, none⟩)), (20, .int .i64 (rkE xi bs)), (21, .int .i64 (rcV xi bs)), (22, .int .i64 (rcE xi bs)), (23, .int .i64 (rcV xi bs)), (24, .int .i64 (rcE xi bs)), (110, .agg #[.int .u8 ui1, .slice uA1 un1 uc1]), (111, .int .i64 (keyE kp kv kc))] (by kernel_rfl) rfl ?_
  have hzs20 := hS.size
  have hzl91 := ho1.lt
  have hzl92 := ho2.lt
  have hzl93 := ho3.lt
  have hzl94 := ho5.lt
  have hzl95 := ho7.lt
  have hzl96 := ho9.lt
  have hzl97 := ho11.lt
  have hzl98 := ho13.lt
  refine VL_box (d := 25) (t := 40) (c := #[.int .u8 0, .slice none 0 0]) (by kernel_rfl) (by kernel_rfl) ?_
  intro b9 w25 hn9
  replace hS := Step.trans hS (hn9.step No)
  replace hA := hA.no (hn9.step No)
  replace ho1 := ho1.no (hn9.step No)
  replace ho2 := ho2.no (hn9.step No)
  replace ho3 := ho3.no (hn9.step No)
  replace ho5 := ho5.no (hn9.step No)
  replace ho7 := ho7.no (hn9.step No)
  replace ho9 := ho9.no (hn9.step No)
  replace ho11 := ho11.no (hn9.step No)
  replace ho13 := ho13.no (hn9.step No)
  have ho14 := hn9.own
  have hzhn9 := hn9.size
  have hqhn9 := hn9.eqb
  refine VL_store (b := b9) (o := 0) (vs := [.int .u8 ui1, .slice uA1 un1 uc1]) (by kernel_rfl) (by kernel_rfl) ho14 (Nat.le_of_ble_eq_true (by kernel_rfl)) ?_
  intro w26 hw6
  replace hS := Step.transNew hS hw6.step (fun _ _ _ => by omega)
  replace hA := hA.step hw6.step (fun k hk (hF : k = b9) => by omega)
  replace ho1 := ho1.step hw6.step (show ¬ b1 = b9 by omega)
  replace ho2 := ho2.step hw6.step (show ¬ b2 = b9 by omega)
  replace ho3 := ho3.step hw6.step (show ¬ b3 = b9 by omega)
  replace ho5 := ho5.step hw6.step (show ¬ b4 = b9 by omega)
  replace ho7 := ho7.step hw6.step (show ¬ b5 = b9 by omega)
  replace ho9 := ho9.step hw6.step (show ¬ b6 = b9 by omega)
  replace ho11 := ho11.step hw6.step (show ¬ b7 = b9 by omega)
  replace ho13 := ho13.step hw6.step (show ¬ b8 = b9 by omega)
  have ho15 : Own w26 b9 #[.int .u8 ui1, .slice uA1 un1 uc1] 40 := Own.cast hw6.own (by kernel_rfl)
  have hzhw6 := hw6.same
  refine VL_pure 8 [2, 5, 17, 18, 19, 20, 21, 22, 23, 24, 26] [(2, .int .i64 m), (5, .pointer (some ⟨b2, 0, none⟩)), (17, .pointer (some ⟨b7, 0, none⟩)), (18, .int .i64 (rkE xi bs)), (19, .pointer (some ⟨b8, 0, none⟩)), (20, .int .i64 (rkE xi bs)), (21, .int .i64 (rcV xi bs)), (22, .int .i64 (rcE xi bs)), (23, .int .i64 (rcV xi bs)), (24, .int .i64 (rcE xi bs)), (26, .int .i64 (keyE kp kv kc))] (by kernel_rfl) rfl ?_
  refine VL_end (by kernel_rfl) ?_
  refine VQ_next ?_
  refine VC_seq ?_
  refine VC_region ?_
  refine VL_pure 1 [2, 5, 17, 18, 19, 20, 21, 22, 23, 24, 26, 113] [(2, .int .i64 m), (5, .pointer (some ⟨b2, 0, none⟩)), (17, .pointer (some ⟨b7, 0, none⟩)), (18, .int .i64 (rkE xi bs)), (19, .pointer (some ⟨b8, 0, none⟩)), (20, .int .i64 (rkE xi bs)), (21, .int .i64 (rcV xi bs)), (22, .int .i64 (rcE xi bs)), (23, .int .i64 (rcV xi bs)), (24, .int .i64 (rcE xi bs)), (26, .int .i64 (keyE kp kv kc)), (113, .int .i64 m)] (by kernel_rfl) rfl ?_
  have hzs21 := hS.size
  have hzl99 := ho1.lt
  have hzl100 := ho2.lt
  have hzl101 := ho3.lt
  have hzl102 := ho5.lt
  have hzl103 := ho7.lt
  have hzl104 := ho9.lt
  have hzl105 := ho11.lt
  have hzl106 := ho13.lt
  have hzl107 := ho15.lt
  refine VL_call (d := 114) (f := 27) (by kernel_rfl) (by kernel_rfl) (by kernel_rfl) Try.call27 (causeU_any m _) ?_
  rintro _ w27 ⟨⟨ui2, uA2, un2, uc2, rfl⟩, hc12⟩
  replace hS := Step.trans hS hc12
  replace hA := hA.no hc12
  replace ho1 := ho1.no hc12
  replace ho2 := ho2.no hc12
  replace ho3 := ho3.no hc12
  replace ho5 := ho5.no hc12
  replace ho7 := ho7.no hc12
  replace ho9 := ho9.no hc12
  replace ho11 := ho11.no hc12
  replace ho13 := ho13.no hc12
  replace ho15 := ho15.no hc12
  refine VL_pure 5 [2, 5, 17, 18, 19, 20, 21, 22, 23, 24, 26, 115, 116] [(2, .int .i64 m), (5, .pointer (some ⟨b2, 0, none⟩)), (17, .pointer (some ⟨b7, 0, none⟩)), (18, .int .i64 (rkE xi bs)), (19, .pointer (some ⟨b8, 0, none⟩)), (20, .int .i64 (rkE xi bs)), (21, .int .i64 (rcV xi bs)), (22, .int .i64 (rcE xi bs)), (23, .int .i64 (rcV xi bs)), (24, .int .i64 (rcE xi bs)), (26, .int .i64 (keyE kp kv kc)), (115, .agg #[.int .u8 ui2, .slice uA2 un2 uc2]), (116, .int .i64 (causeE m))] (by kernel_rfl) rfl ?_
  have hzs22 := hS.size
  have hzl108 := ho1.lt
  have hzl109 := ho2.lt
  have hzl110 := ho3.lt
  have hzl111 := ho5.lt
  have hzl112 := ho7.lt
  have hzl113 := ho9.lt
  have hzl114 := ho11.lt
  have hzl115 := ho13.lt
  have hzl116 := ho15.lt
  refine VL_box (d := 27) (t := 40) (c := #[.int .u8 0, .slice none 0 0]) (by kernel_rfl) (by kernel_rfl) ?_
  intro b10 w28 hn10
  replace hS := Step.trans hS (hn10.step No)
  replace hA := hA.no (hn10.step No)
  replace ho1 := ho1.no (hn10.step No)
  replace ho2 := ho2.no (hn10.step No)
  replace ho3 := ho3.no (hn10.step No)
  replace ho5 := ho5.no (hn10.step No)
  replace ho7 := ho7.no (hn10.step No)
  replace ho9 := ho9.no (hn10.step No)
  replace ho11 := ho11.no (hn10.step No)
  replace ho13 := ho13.no (hn10.step No)
  replace ho15 := ho15.no (hn10.step No)
  have ho16 := hn10.own
  have hzhn10 := hn10.size
  have hqhn10 := hn10.eqb
  refine VL_store (b := b10) (o := 0) (vs := [.int .u8 ui2, .slice uA2 un2 uc2]) (by kernel_rfl) (by kernel_rfl) ho16 (Nat.le_of_ble_eq_true (by kernel_rfl)) ?_
  intro w29 hw7
  replace hS := Step.transNew hS hw7.step (fun _ _ _ => by omega)
  replace hA := hA.step hw7.step (fun k hk (hF : k = b10) => by omega)
  replace ho1 := ho1.step hw7.step (show ¬ b1 = b10 by omega)
  replace ho2 := ho2.step hw7.step (show ¬ b2 = b10 by omega)
  replace ho3 := ho3.step hw7.step (show ¬ b3 = b10 by omega)
  replace ho5 := ho5.step hw7.step (show ¬ b4 = b10 by omega)
  replace ho7 := ho7.step hw7.step (show ¬ b5 = b10 by omega)
  replace ho9 := ho9.step hw7.step (show ¬ b6 = b10 by omega)
  replace ho11 := ho11.step hw7.step (show ¬ b7 = b10 by omega)
  replace ho13 := ho13.step hw7.step (show ¬ b8 = b10 by omega)
  replace ho15 := ho15.step hw7.step (show ¬ b9 = b10 by omega)
  have ho17 : Own w29 b10 #[.int .u8 ui2, .slice uA2 un2 uc2] 40 := Own.cast hw7.own (by kernel_rfl)
  have hzhw7 := hw7.same
  refine VL_pure 8 [2, 5, 17, 18, 19, 20, 21, 22, 23, 24, 26, 28] [(2, .int .i64 m), (5, .pointer (some ⟨b2, 0, none⟩)), (17, .pointer (some ⟨b7, 0, none⟩)), (18, .int .i64 (rkE xi bs)), (19, .pointer (some ⟨b8, 0, none⟩)), (20, .int .i64 (rkE xi bs)), (21, .int .i64 (rcV xi bs)), (22, .int .i64 (rcE xi bs)), (23, .int .i64 (rcV xi bs)), (24, .int .i64 (rcE xi bs)), (26, .int .i64 (keyE kp kv kc)), (28, .int .i64 (causeE m))] (by kernel_rfl) rfl ?_
  refine VL_end (by kernel_rfl) ?_
  refine VQ_next ?_
  refine VC_seq ?_
  refine VC_region ?_
  refine VL_load (d := 117) (t := 47) (a := ⟨b7, 0, none⟩) (v := .agg #[.int .i64 (rkV xi bs (fk bs 0 1)), .int .i64 (rkV xi bs (fk bs 1 2)), .int .i64 (rkV xi bs (fk bs 3 2))]) (by kernel_rfl) (by kernel_rfl) (Loads.ownL ho11 (n := 3) (by kernel_rfl) (by kernel_rfl) (by kernel_rfl)) ?_
  refine VL_load (d := 118) (t := 47) (a := ⟨b8, 0, none⟩) (v := .agg #[.int .i64 (rkV xi bs (fk bs 0 1)), .int .i64 (rkV xi bs (fk bs 1 2)), .int .i64 (rkV xi bs (fk bs 3 2))]) (by kernel_rfl) (by kernel_rfl) (Loads.ownL ho13 (n := 3) (by kernel_rfl) (by kernel_rfl) (by kernel_rfl)) ?_
  refine VL_agEq (d := 119) (dd := 9) (ls := ([.int .i64] ++ [.int .i64] ++ [.int .i64] ++ [])) (pos := true) (t := 47) (xs := #[.int .i64 (rkV xi bs (fk bs 0 1)), .int .i64 (rkV xi bs (fk bs 1 2)), .int .i64 (rkV xi bs (fk bs 3 2))]) (ys := #[.int .i64 (rkV xi bs (fk bs 0 1)), .int .i64 (rkV xi bs (fk bs 1 2)), .int .i64 (rkV xi bs (fk bs 3 2))]) (by kernel_rfl) (by kernel_rfl) (by kernel_rfl) (by kernel_rfl) (by first | exact ⟨⟨_, rfl⟩, ⟨_, rfl⟩, ⟨_, rfl⟩, trivial⟩ | trivial) (by first | exact ⟨⟨_, rfl⟩, ⟨_, rfl⟩, ⟨_, rfl⟩, trivial⟩ | trivial) (([rkV xi bs (fk bs 0 1), rkV xi bs (fk bs 1 2), rkV xi bs (fk bs 3 2)] : List Int) == [rkV xi bs (fk bs 0 1), rkV xi bs (fk bs 1 2), rkV xi bs (fk bs 3 2)]) (iA_eq (k := .i64) (xs := [rkV xi bs (fk bs 0 1), rkV xi bs (fk bs 1 2), rkV xi bs (fk bs 3 2)]) (bs := [rkV xi bs (fk bs 0 1), rkV xi bs (fk bs 1 2), rkV xi bs (fk bs 3 2)]) true) ?_
  refine VL_pure 4 [2, 5, 18, 20, 21, 22, 23, 24, 26, 28, 120] [(2, .int .i64 m), (5, .pointer (some ⟨b2, 0, none⟩)), (18, .int .i64 (rkE xi bs)), (20, .int .i64 (rkE xi bs)), (21, .int .i64 (rcV xi bs)), (22, .int .i64 (rcE xi bs)), (23, .int .i64 (rcV xi bs)), (24, .int .i64 (rcE xi bs)), (26, .int .i64 (keyE kp kv kc)), (28, .int .i64 (causeE m)), (120, .bool (([rkV xi bs (fk bs 0 1), rkV xi bs (fk bs 1 2), rkV xi bs (fk bs 3 2)] : List Int) == [rkV xi bs (fk bs 0 1), rkV xi bs (fk bs 1 2), rkV xi bs (fk bs 3 2)]))] (by kernel_rfl) rfl ?_
  refine VL_known (([rkV xi bs (fk bs 0 1), rkV xi bs (fk bs 1 2), rkV xi bs (fk bs 3 2)] : List Int) == [rkV xi bs (fk bs 0 1), rkV xi bs (fk bs 1 2), rkV xi bs (fk bs 3 2)]) (fun bV => [(2, .int .i64 m), (5, .pointer (some ⟨b2, 0, none⟩)), (18, .int .i64 (rkE xi bs)), (20, .int .i64 (rkE xi bs)), (21, .int .i64 (rcV xi bs)), (22, .int .i64 (rcE xi bs)), (23, .int .i64 (rcV xi bs)), (24, .int .i64 (rcE xi bs)), (26, .int .i64 (keyE kp kv kc)), (28, .int .i64 (causeE m)), (120, .bool bV)]) true rfl (by simp) ?_
  refine VL_pure 9 [2, 5, 21, 22, 23, 24, 26, 28, 125] [(2, .int .i64 m), (5, .pointer (some ⟨b2, 0, none⟩)), (21, .int .i64 (rcV xi bs)), (22, .int .i64 (rcE xi bs)), (23, .int .i64 (rcV xi bs)), (24, .int .i64 (rcE xi bs)), (26, .int .i64 (keyE kp kv kc)), (28, .int .i64 (causeE m)), (125, .bool ((rkE xi bs) == (rkE xi bs)))] (by kernel_rfl) rfl ?_
  refine VL_known ((rkE xi bs) == (rkE xi bs)) (fun bV => [(2, .int .i64 m), (5, .pointer (some ⟨b2, 0, none⟩)), (21, .int .i64 (rcV xi bs)), (22, .int .i64 (rcE xi bs)), (23, .int .i64 (rcV xi bs)), (24, .int .i64 (rcE xi bs)), (26, .int .i64 (keyE kp kv kc)), (28, .int .i64 (causeE m)), (125, .bool bV)]) true rfl (by simp) ?_
  refine VL_pure 14 [2, 5, 22, 24, 26, 28, 130] [(2, .int .i64 m), (5, .pointer (some ⟨b2, 0, none⟩)), (22, .int .i64 (rcE xi bs)), (24, .int .i64 (rcE xi bs)), (26, .int .i64 (keyE kp kv kc)), (28, .int .i64 (causeE m)), (130, .bool ((rcV xi bs) == (rcV xi bs)))] (by kernel_rfl) rfl ?_
  refine VL_known ((rcV xi bs) == (rcV xi bs)) (fun bV => [(2, .int .i64 m), (5, .pointer (some ⟨b2, 0, none⟩)), (22, .int .i64 (rcE xi bs)), (24, .int .i64 (rcE xi bs)), (26, .int .i64 (keyE kp kv kc)), (28, .int .i64 (causeE m)), (130, .bool bV)]) true rfl (by simp) ?_
  refine VL_pure 19 [2, 5, 26, 28, 135] [(2, .int .i64 m), (5, .pointer (some ⟨b2, 0, none⟩)), (26, .int .i64 (keyE kp kv kc)), (28, .int .i64 (causeE m)), (135, .bool ((rcE xi bs) == (rcE xi bs)))] (by kernel_rfl) rfl ?_
  refine VL_known ((rcE xi bs) == (rcE xi bs)) (fun bV => [(2, .int .i64 m), (5, .pointer (some ⟨b2, 0, none⟩)), (26, .int .i64 (keyE kp kv kc)), (28, .int .i64 (causeE m)), (135, .bool bV)]) true rfl (by simp) ?_
  refine VL_pure 21 [2, 5, 26, 28, 135, 137] [(2, .int .i64 m), (5, .pointer (some ⟨b2, 0, none⟩)), (26, .int .i64 (keyE kp kv kc)), (28, .int .i64 (causeE m)), (135, .bool true), (137, .bool ((keyE kp kv kc) == 0))] (by kernel_rfl) rfl ?_
  refine VL_load (d := 138) (t := 47) (a := ⟨b2, 0, none⟩) (v := .agg #[.int .i64 kp, .int .i64 kv, .int .i64 kc]) (by kernel_rfl) (by kernel_rfl) (Loads.ownL ho2 (n := 3) (by kernel_rfl) (by kernel_rfl) (by kernel_rfl)) ?_
  have hzs23 := hS.size
  have hzl117 := ho1.lt
  have hzl118 := ho2.lt
  have hzl119 := ho3.lt
  have hzl120 := ho5.lt
  have hzl121 := ho7.lt
  have hzl122 := ho9.lt
  have hzl123 := ho11.lt
  have hzl124 := ho13.lt
  have hzl125 := ho15.lt
  have hzl126 := ho17.lt
  refine VL_call (d := 139) (f := 28) (args := #[.agg #[.int .i64 kp, .int .i64 kv, .int .i64 kc]]) (by kernel_rfl) (by kernel_rfl) (by kernel_rfl) Try.call28 (rkright_any kp kv kc _) ?_
  rintro _ w30 ⟨rfl, hc13⟩
  replace hS := Step.trans hS hc13
  replace hA := hA.no hc13
  replace ho1 := ho1.no hc13
  replace ho2 := ho2.no hc13
  replace ho3 := ho3.no hc13
  replace ho5 := ho5.no hc13
  replace ho7 := ho7.no hc13
  replace ho9 := ho9.no hc13
  replace ho11 := ho11.no hc13
  replace ho13 := ho13.no hc13
  replace ho15 := ho15.no hc13
  replace ho17 := ho17.no hc13
  refine VL_pure 26 [2, 26, 28, 142] [(2, .int .i64 m), (26, .int .i64 (keyE kp kv kc)), (28, .int .i64 (causeE m)), (142, .bool (((keyE kp kv kc) == 0) == (rightK kp kv kc)))] (by kernel_rfl) rfl ?_
  refine VL_known (((keyE kp kv kc) == 0) == (rightK kp kv kc)) (fun bV => [(2, .int .i64 m), (26, .int .i64 (keyE kp kv kc)), (28, .int .i64 (causeE m)), (142, .bool bV)]) true rfl (keyE_is _ _ _) ?_
  refine VL_pure 29 [2, 26, 28, 142, 145] [(2, .int .i64 m), (26, .int .i64 (keyE kp kv kc)), (28, .int .i64 (causeE m)), (142, .bool true), (145, .bool ((keyE kp kv kc) == 0))] (by kernel_rfl) rfl ?_
  refine VL_beq (keyE kp kv kc) 0 (fun bV => [(2, .int .i64 m), (26, .int .i64 (keyE kp kv kc)), (28, .int .i64 (causeE m)), (142, .bool true), (145, .bool bV)]) rfl (fun hg1 => ?_) (fun hg1 => ?_)
  · refine VL_pure 39 [2, 28, 150, 152, 155] [(2, .int .i64 m), (28, .int .i64 (causeE m)), (150, .bool true), (152, .bool ((causeE m) == 0)), (155, .bool (decide (m ≥ 0)))] (by kernel_rfl) rfl ?_
    refine VL_dec (m ≥ 0) (fun bV => [(2, .int .i64 m), (28, .int .i64 (causeE m)), (150, .bool true), (152, .bool ((causeE m) == 0)), (155, .bool bV)]) rfl (fun hg2 => ?_) (fun hg2 => ?_)
    · refine VL_pure 45 [28, 161] [(28, .int .i64 (causeE m)), (161, .bool (((causeE m) == 0) == (decide (m < 128))))] (by kernel_rfl) rfl ?_
      refine VL_known (((causeE m) == 0) == (decide (m < 128))) (fun bV => [(28, .int .i64 (causeE m)), (161, .bool bV)]) true rfl (by first | (rw [causeE_F (by omega)]; (try simp); (try omega); done) | (by_cases h9 : m < 128; (rw [causeE_T (by omega)]; simp; omega); (rw [causeE_F (by omega)]; simp; omega))) ?_
      refine VL_pure 48 [28, 161, 164] [(28, .int .i64 (causeE m)), (161, .bool true), (164, .bool ((causeE m) == 0))] (by kernel_rfl) rfl ?_
      refine VL_beq (causeE m) 0 (fun bV => [(28, .int .i64 (causeE m)), (161, .bool true), (164, .bool bV)]) rfl (fun hg3 => ?_) (fun hg3 => ?_)
      · refine VL_pure 53 [8] [(8, .bool true)] (by kernel_rfl) rfl ?_
        refine VL_end (by kernel_rfl) ?_
        refine VQ_next ?_
        refine VC_ret ?_
        refine VQ_ret1 (.bool true) (.inr rfl) rfl rfl ?_
        exact ⟨by first | rfl | (congr 1; first | (rw [beq_iff_eq]; exact causeE_1 (by assumption)) | simp [*]), hS⟩
      · refine VL_pure 53 [8] [(8, .bool ((causeE m) == 1))] (by kernel_rfl) rfl ?_
        refine VL_end (by kernel_rfl) ?_
        refine VQ_next ?_
        refine VC_ret ?_
        refine VQ_ret1 (.bool ((causeE m) == 1)) (.inr rfl) rfl rfl ?_
        exact ⟨by first | rfl | (congr 1; first | (rw [beq_iff_eq]; exact causeE_1 (by assumption)) | simp [*]), hS⟩
    · refine VL_pure 45 [28, 161] [(28, .int .i64 (causeE m)), (161, .bool (((causeE m) == 0) == false))] (by kernel_rfl) rfl ?_
      refine VL_known (((causeE m) == 0) == false) (fun bV => [(28, .int .i64 (causeE m)), (161, .bool bV)]) true rfl (by first | (rw [causeE_F (by omega)]; (try simp); (try omega); done) | (by_cases h9 : m < 128; (rw [causeE_T (by omega)]; simp; omega); (rw [causeE_F (by omega)]; simp; omega))) ?_
      refine VL_pure 48 [28, 161, 164] [(28, .int .i64 (causeE m)), (161, .bool true), (164, .bool ((causeE m) == 0))] (by kernel_rfl) rfl ?_
      refine VL_beq (causeE m) 0 (fun bV => [(28, .int .i64 (causeE m)), (161, .bool true), (164, .bool bV)]) rfl (fun hg4 => ?_) (fun hg4 => ?_)
      · refine VL_pure 53 [8] [(8, .bool true)] (by kernel_rfl) rfl ?_
        refine VL_end (by kernel_rfl) ?_
        refine VQ_next ?_
        refine VC_ret ?_
        refine VQ_ret1 (.bool true) (.inr rfl) rfl rfl ?_
        exact ⟨by first | rfl | (congr 1; first | (rw [beq_iff_eq]; exact causeE_1 (by assumption)) | simp [*]), hS⟩
      · refine VL_pure 53 [8] [(8, .bool ((causeE m) == 1))] (by kernel_rfl) rfl ?_
        refine VL_end (by kernel_rfl) ?_
        refine VQ_next ?_
        refine VC_ret ?_
        refine VQ_ret1 (.bool ((causeE m) == 1)) (.inr rfl) rfl rfl ?_
        exact ⟨by first | rfl | (congr 1; first | (rw [beq_iff_eq]; exact causeE_1 (by assumption)) | simp [*]), hS⟩
  · refine VL_pure 34 [2, 28, 150] [(2, .int .i64 m), (28, .int .i64 (causeE m)), (150, .bool ((keyE kp kv kc) == 1))] (by kernel_rfl) rfl ?_
    refine VL_known ((keyE kp kv kc) == 1) (fun bV => [(2, .int .i64 m), (28, .int .i64 (causeE m)), (150, .bool bV)]) true rfl (by rw [beq_iff_eq]; exact keyE_1 (by assumption)) ?_
    refine VL_pure 39 [2, 28, 150, 152, 155] [(2, .int .i64 m), (28, .int .i64 (causeE m)), (150, .bool true), (152, .bool ((causeE m) == 0)), (155, .bool (decide (m ≥ 0)))] (by kernel_rfl) rfl ?_
    refine VL_dec (m ≥ 0) (fun bV => [(2, .int .i64 m), (28, .int .i64 (causeE m)), (150, .bool true), (152, .bool ((causeE m) == 0)), (155, .bool bV)]) rfl (fun hg5 => ?_) (fun hg5 => ?_)
    · refine VL_pure 45 [28, 161] [(28, .int .i64 (causeE m)), (161, .bool (((causeE m) == 0) == (decide (m < 128))))] (by kernel_rfl) rfl ?_
      refine VL_known (((causeE m) == 0) == (decide (m < 128))) (fun bV => [(28, .int .i64 (causeE m)), (161, .bool bV)]) true rfl (by first | (rw [causeE_F (by omega)]; (try simp); (try omega); done) | (by_cases h9 : m < 128; (rw [causeE_T (by omega)]; simp; omega); (rw [causeE_F (by omega)]; simp; omega))) ?_
      refine VL_pure 48 [28, 161, 164] [(28, .int .i64 (causeE m)), (161, .bool true), (164, .bool ((causeE m) == 0))] (by kernel_rfl) rfl ?_
      refine VL_beq (causeE m) 0 (fun bV => [(28, .int .i64 (causeE m)), (161, .bool true), (164, .bool bV)]) rfl (fun hg6 => ?_) (fun hg6 => ?_)
      · refine VL_pure 53 [8] [(8, .bool true)] (by kernel_rfl) rfl ?_
        refine VL_end (by kernel_rfl) ?_
        refine VQ_next ?_
        refine VC_ret ?_
        refine VQ_ret1 (.bool true) (.inr rfl) rfl rfl ?_
        exact ⟨by first | rfl | (congr 1; first | (rw [beq_iff_eq]; exact causeE_1 (by assumption)) | simp [*]), hS⟩
      · refine VL_pure 53 [8] [(8, .bool ((causeE m) == 1))] (by kernel_rfl) rfl ?_
        refine VL_end (by kernel_rfl) ?_
        refine VQ_next ?_
        refine VC_ret ?_
        refine VQ_ret1 (.bool ((causeE m) == 1)) (.inr rfl) rfl rfl ?_
        exact ⟨by first | rfl | (congr 1; first | (rw [beq_iff_eq]; exact causeE_1 (by assumption)) | simp [*]), hS⟩
    · refine VL_pure 45 [28, 161] [(28, .int .i64 (causeE m)), (161, .bool (((causeE m) == 0) == false))] (by kernel_rfl) rfl ?_
      refine VL_known (((causeE m) == 0) == false) (fun bV => [(28, .int .i64 (causeE m)), (161, .bool bV)]) true rfl (by first | (rw [causeE_F (by omega)]; (try simp); (try omega); done) | (by_cases h9 : m < 128; (rw [causeE_T (by omega)]; simp; omega); (rw [causeE_F (by omega)]; simp; omega))) ?_
      refine VL_pure 48 [28, 161, 164] [(28, .int .i64 (causeE m)), (161, .bool true), (164, .bool ((causeE m) == 0))] (by kernel_rfl) rfl ?_
      refine VL_beq (causeE m) 0 (fun bV => [(28, .int .i64 (causeE m)), (161, .bool true), (164, .bool bV)]) rfl (fun hg7 => ?_) (fun hg7 => ?_)
      · refine VL_pure 53 [8] [(8, .bool true)] (by kernel_rfl) rfl ?_
        refine VL_end (by kernel_rfl) ?_
        refine VQ_next ?_
        refine VC_ret ?_
        refine VQ_ret1 (.bool true) (.inr rfl) rfl rfl ?_
        exact ⟨by first | rfl | (congr 1; first | (rw [beq_iff_eq]; exact causeE_1 (by assumption)) | simp [*]), hS⟩
      · refine VL_pure 53 [8] [(8, .bool ((causeE m) == 1))] (by kernel_rfl) rfl ?_
        refine VL_end (by kernel_rfl) ?_
        refine VQ_next ?_
        refine VC_ret ?_
        refine VQ_ret1 (.bool ((causeE m) == 1)) (.inr rfl) rfl rfl ?_
        exact ⟨by first | rfl | (congr 1; first | (rw [beq_iff_eq]; exact causeE_1 (by assumption)) | simp [*]), hS⟩

set_option maxRecDepth 100000 in
set_option maxHeartbeats 4000000 in
theorem reads_o (k p e h b t kp kv kc m xi : Int) (A : Option Addr) (n c : Nat) (w : World) (h300 : 300 < n) :
    CV Try.prog 7 #[.agg #[.int .i64 k, .int .i64 p, .int .i64 e, .int .i64 h, .int .i64 b, .int .i64 t], .agg #[.int .i64 kp, .int .i64 kv, .int .i64 kc], .int .i64 m, .agg #[.int .u8 xi, .slice A n c]] w (fun x w1 => x = .bool true ∧ Step No w w1) := by
  have hS : Step No w w := Step.refl _ _
  refine CV_enter Try.f7 _ 169 [(0, .agg #[.int .i64 k, .int .i64 p, .int .i64 e, .int .i64 h, .int .i64 b, .int .i64 t]), (1, .agg #[.int .i64 kp, .int .i64 kv, .int .i64 kc]), (2, .int .i64 m), (3, .agg #[.int .u8 xi, .slice A n c])] Try.func7 rfl rfl (by kernel_rfl) rfl ?_
  refine VC_seq ?_
  refine VC_region ?_
  have hzs1 := hS.size
  refine VL_box (d := 4) (t := 45) (c := #[.int .i64 k, .int .i64 p, .int .i64 e, .int .i64 h, .int .i64 b, .int .i64 t]) (by kernel_rfl) (by kernel_rfl) ?_
  intro b1 w1 hn1
  replace hS := Step.trans hS (hn1.step No)
  have ho1 := hn1.own
  have hzhn1 := hn1.size
  have hqhn1 := hn1.eqb
  have hzs2 := hS.size
  have hzl1 := ho1.lt
  refine VL_box (d := 5) (t := 47) (c := #[.int .i64 kp, .int .i64 kv, .int .i64 kc]) (by kernel_rfl) (by kernel_rfl) ?_
  intro b2 w2 hn2
  replace hS := Step.trans hS (hn2.step No)
  replace ho1 := ho1.no (hn2.step No)
  have ho2 := hn2.own
  have hzhn2 := hn2.size
  have hqhn2 := hn2.eqb
  have hzs3 := hS.size
  have hzl2 := ho1.lt
  have hzl3 := ho2.lt
  refine VL_box (d := 7) (t := 40) (c := #[.int .u8 xi, .slice A n c]) (by kernel_rfl) (by kernel_rfl) ?_
  intro b3 w3 hn3
  replace hS := Step.trans hS (hn3.step No)
  replace ho1 := ho1.no (hn3.step No)
  replace ho2 := ho2.no (hn3.step No)
  have ho3 := hn3.own
  have hzhn3 := hn3.size
  have hqhn3 := hn3.eqb
  refine VL_pure 4 [2, 4, 5, 7] [(2, .int .i64 m), (4, .pointer (some ⟨b1, 0, none⟩)), (5, .pointer (some ⟨b2, 0, none⟩)), (7, .pointer (some ⟨b3, 0, none⟩))] (by kernel_rfl) rfl ?_
  refine VL_end (by kernel_rfl) ?_
  refine VQ_next ?_
  refine VC_seq ?_
  refine VC_seq ?_
  refine VC_region ?_
  have hzs4 := hS.size
  have hzl4 := ho1.lt
  have hzl5 := ho2.lt
  have hzl6 := ho3.lt
  refine VL_call (d := 29) (f := 9) (args := #[]) (by kernel_rfl) (by kernel_rfl) (by kernel_rfl) Try.call9 (awake_any _) ?_
  rintro _ w4 ⟨rfl, hc1⟩
  replace hS := Step.trans hS hc1
  replace ho1 := ho1.no hc1
  replace ho2 := ho2.no hc1
  replace ho3 := ho3.no hc1
  refine VL_pure 4 [2, 4, 5, 7, 31, 32] [(2, .int .i64 m), (4, .pointer (some ⟨b1, 0, none⟩)), (5, .pointer (some ⟨b2, 0, none⟩)), (7, .pointer (some ⟨b3, 0, none⟩)), (31, .bool false), (32, .pointer (some ⟨b3, 1, none⟩))] (by kernel_rfl) rfl ?_
  refine VL_load (d := 33) (t := 23) (a := ⟨b3, 1, none⟩) (v := .slice A n c) (by kernel_rfl) (by kernel_rfl) (Loads.own1 ho3 (by kernel_rfl) (by rfl)) ?_
  refine VL_pure 8 [2, 4, 5, 7, 36] [(2, .int .i64 m), (4, .pointer (some ⟨b1, 0, none⟩)), (5, .pointer (some ⟨b2, 0, none⟩)), (7, .pointer (some ⟨b3, 0, none⟩)), (36, .bool (decide (((n : Nat) : Int) > 300)))] (by kernel_rfl) rfl ?_
  refine VL_end (by kernel_rfl) ?_
  refine VQ_next ?_
  refine VC_is (b := decide (((n : Nat) : Int) > 300)) true (by kernel_rfl) (by simp; omega) ?_
  refine VC_ite_true ?_
  refine VC_seq ?_
  refine VC_region ?_
  have hzs5 := hS.size
  have hzl7 := ho1.lt
  have hzl8 := ho2.lt
  have hzl9 := ho3.lt
  refine VL_call (d := 37) (f := 9) (args := #[]) (by kernel_rfl) (by kernel_rfl) (by kernel_rfl) Try.call9 (awake_any _) ?_
  rintro _ w5 ⟨rfl, hc2⟩
  replace hS := Step.trans hS hc2
  replace ho1 := ho1.no hc2
  replace ho2 := ho2.no hc2
  replace ho3 := ho3.no hc2
  refine VL_pure 2 [8] [(8, .bool true)] (by kernel_rfl) rfl ?_
  refine VL_end (by kernel_rfl) ?_
  refine VQ_next ?_
  refine VC_ret ?_
  refine VQ_then_ret ?_
  refine VQ_ret1 (.bool true) (.inr rfl) rfl rfl ?_
  exact ⟨by first | rfl | simp [*], hS⟩

end Go.Proofs.Ytpfggjaoinfegaa
