/- Layer 16: Answer, both sides. -/
import Derived.Test.YtejpcmjokamdcaaProg
import Derived.Test.YtejpcmjokamdcaaMe4
import Derived.Test.YtejpcmjokamdcaaMe5
set_option linter.unusedVariables false
set_option linter.unusedSimpArgs false
namespace Go.Proofs.Ytejpcmjokamdcaa
open Go.Vc Go.RowKit

theorem mcause_one {m : Nat} (hm : m ≤ 127) {A : Option Addr} : mcause (vals [⟨8, A, 2, 2, [0, ((m : Nat) : Int)]⟩]) = ((m : Nat) : Int) := by
  have h : rcE 8 [0, ((m : Nat) : Int)] = 0 := rc_0 rfl rfl rfl (by show ¬ ((m : Nat) : Int) > 127; omega)
  show rcV 8 [0, ((m : Nat) : Int)] = _
  rw [rcV_0 h, show List.getD [0, ((m : Nat) : Int)] 1 0 = ((m : Nat) : Int) from rfl, wrap_i64 _ (by omega) (by omega)]
theorem ans_ieb {m : Nat} (hm : m ≤ 127) {A : Option Addr} : ∀ x ∈ [(⟨8, A, 2, 2, [0, ((m : Nat) : Int)]⟩ : IeV)], IeB x := by
  intro x hx
  simp only [List.mem_cons, List.mem_nil_iff, or_false] at hx
  subst hx
  exact ⟨by dsimp only; omega, by intro y hy; simp only [List.mem_cons, List.mem_nil_iff, or_false] at hy; omega⟩
theorem wrap_small {m : Nat} (hm : m ≤ 127) : IntKind.wrap .u8 ((m : Nat) : Int) = ((m : Nat) : Int) := by rw [wrap_u8, Nat.mod_eq_of_lt (by omega)]
set_option maxRecDepth 100000 in
set_option maxHeartbeats 4000000 in
theorem ans_yes (r : Int) (bk : Bool) (k : Int) (A : Option Addr) (n c : Nat) (kd : Int) (m : Nat) (w : World) (hm : 1 ≤ m ∧ m ≤ 127) :
  CV Try.prog 19 #[.agg #[.int .i64 r, .bool bk, .int .i64 k, .slice A n c], .int .i64 kd, .int .i64 ((m : Nat) : Int)] w (fun x w1 => ∃ A0 A1, x = .agg #[.int .i64 r, .bool (!bk), .int .i64 kd, .slice A0 1 1] ∧ Ies w1 0 w1.heap.size A0 [⟨8, A1, 2, 2, [0, ((m : Nat) : Int)]⟩] ∧ Step No w w1) := by
 have hS : Step No w w := Step.refl _ _
 refine CV_enter Try.f19 _ 32 [(0, .agg #[.int .i64 r, .bool bk, .int .i64 k, .slice A n c]), (1, .int .i64 kd), (2, .int .i64 ((m : Nat) : Int))] Try.func19 rfl rfl (by kernel_rfl) rfl ?_
 refine VC_seq ?_
 refine VC_region ?_
 have hzs1 := hS.size
 refine VL_box (d := 3) (t := 24) (c := #[.int .i64 r, .bool bk, .int .i64 k, .slice A n c]) (by kernel_rfl) (by kernel_rfl) ?_
 intro b1 w1 hn1
 replace hS := Step.trans hS (hn1.step No)
 have ho1 := hn1.own
 have hzhn1 := hn1.size
 have hqhn1 := hn1.eqb
 have hzs2 := hS.size
 have hzl1 := ho1.lt
 refine VL_box (d := 6) (t := 24) (c := #[.int .i64 0, .bool false, .int .i64 0, .slice none 0 0]) (by kernel_rfl) (by kernel_rfl) ?_
 intro b2 w2 hn2
 replace hS := Step.trans hS (hn2.step No)
 replace ho1 := ho1.no (hn2.step No)
 have ho2 := hn2.own
 have hzhn2 := hn2.size
 have hqhn2 := hn2.eqb
 refine VL_end (by kernel_rfl) ?_
 refine VQ_next ?_
 refine VC_seq ?_
 refine VC_region ?_
 refine VL_pure 1 [1, 2, 3, 6, 10] [(1, .int .i64 kd), (2, .int .i64 ((m : Nat) : Int)), (3, .pointer (some ⟨b1, 0, none⟩)), (6, .pointer (some ⟨b2, 0, none⟩)), (10, .pointer (some ⟨b1, 0, none⟩))] (by kernel_rfl) rfl ?_
 refine VL_load (d := 11) (t := 3) (a := ⟨b1, 0, none⟩) (v := .int .i64 r) (by kernel_rfl) (by kernel_rfl) (Loads.own1 ho1 (by kernel_rfl) (by rfl)) ?_
 refine VL_pure 3 [1, 2, 6, 11, 12] [(1, .int .i64 kd), (2, .int .i64 ((m : Nat) : Int)), (6, .pointer (some ⟨b2, 0, none⟩)), (11, .int .i64 r), (12, .pointer (some ⟨b1, 1, none⟩))] (by kernel_rfl) rfl ?_
 refine VL_load (d := 13) (t := 4) (a := ⟨b1, 1, none⟩) (v := .bool bk) (by kernel_rfl) (by kernel_rfl) (Loads.own1 ho1 (by kernel_rfl) (by rfl)) ?_
 refine VL_pure 7 [2, 6, 16] [(2, .int .i64 ((m : Nat) : Int)), (6, .pointer (some ⟨b2, 0, none⟩)), (16, .agg #[.int .i64 r, .bool (!bk), .int .i64 kd, .slice none 0 0])] (by kernel_rfl) rfl ?_
 have hzs3 := hS.size
 have hzl2 := ho1.lt
 have hzl3 := ho2.lt
 refine VL_box (d := 7) (t := 24) (c := #[.int .i64 0, .bool false, .int .i64 0, .slice none 0 0]) (by kernel_rfl) (by kernel_rfl) ?_
 intro b3 w3 hn3
 replace hS := Step.trans hS (hn3.step No)
 replace ho1 := ho1.no (hn3.step No)
 replace ho2 := ho2.no (hn3.step No)
 have ho3 := hn3.own
 have hzhn3 := hn3.size
 have hqhn3 := hn3.eqb
 refine VL_store (b := b3) (o := 0) (vs := [.int .i64 r, .bool (!bk), .int .i64 kd, .slice none 0 0]) (by kernel_rfl) (by kernel_rfl) ho3 (Nat.le_of_ble_eq_true (by kernel_rfl)) ?_
 intro w4 hw1
 replace hS := Step.transNew hS hw1.step (fun _ _ _ => by omega)
 replace ho1 := ho1.step hw1.step (show ¬ b1 = b3 by omega)
 replace ho2 := ho2.step hw1.step (show ¬ b2 = b3 by omega)
 have ho4 : Own w4 b3 #[.int .i64 r, .bool (!bk), .int .i64 kd, .slice none 0 0] 24 := Own.cast hw1.own (by kernel_rfl)
 have hzhw1 := hw1.same
 refine VL_end (by kernel_rfl) ?_
 refine VQ_next ?_
 refine VC_seq ?_
 refine VC_seq ?_
 refine VC_region ?_
 refine VL_pure 3 [2, 6, 7, 19] [(2, .int .i64 ((m : Nat) : Int)), (6, .pointer (some ⟨b2, 0, none⟩)), (7, .pointer (some ⟨b3, 0, none⟩)), (19, .bool (decide (((m : Nat) : Int) > 0)))] (by kernel_rfl) rfl ?_
 refine VL_known (decide (((m : Nat) : Int) > 0)) (fun bV => [(2, .int .i64 ((m : Nat) : Int)), (6, .pointer (some ⟨b2, 0, none⟩)), (7, .pointer (some ⟨b3, 0, none⟩)), (19, .bool bV)]) true rfl (by simp; omega) ?_
 refine VL_pure 6 [2, 6, 7, 22] [(2, .int .i64 ((m : Nat) : Int)), (6, .pointer (some ⟨b2, 0, none⟩)), (7, .pointer (some ⟨b3, 0, none⟩)), (22, .bool (decide (((m : Nat) : Int) ≤ 127)))] (by kernel_rfl) rfl ?_
 refine VL_end (by kernel_rfl) ?_
 refine VQ_next ?_
 refine VC_is (b := decide (((m : Nat) : Int) ≤ 127)) true (by kernel_rfl) (by simp; omega) ?_
 refine VC_ite_true ?_
 refine VC_seq ?_
 refine VC_region ?_
 refine VL_pure 1 [6, 7, 24] [(6, .pointer (some ⟨b2, 0, none⟩)), (7, .pointer (some ⟨b3, 0, none⟩)), (24, .int .i64 ((m : Nat) : Int))] (by kernel_rfl) rfl ?_
 have hzs4 := hS.size
 have hzl4 := ho1.lt
 have hzl5 := ho2.lt
 have hzl6 := ho4.lt
 refine VL_call (d := 25) (f := 35) (by kernel_rfl) (by kernel_rfl) (by kernel_rfl) Try.call35 (cause_yes m _ (by omega)) ?_
 rintro _ w5 ⟨A1, rfl, hr1, hc1⟩
 replace hS := Step.trans hS hc1
 replace ho1 := ho1.no hc1
 replace ho2 := ho2.no hc1
 replace ho4 := ho4.no hc1
 obtain ⟨base1, hbase1E⟩ : ∃ x, x = w4.heap.size := ⟨_, rfl⟩
 rw [← hbase1E] at hr1
 have hbase1 : base1 ≤ w5.heap.size := by rw [hbase1E]; exact hc1.size
 refine VL_pure 5 [6, 7, 26, 27] [(6, .pointer (some ⟨b2, 0, none⟩)), (7, .pointer (some ⟨b3, 0, none⟩)), (26, .agg #[.int .u8 8, .slice A1 2 2]), (27, .int .i64 0)] (by kernel_rfl) rfl ?_
 have hzs5 := hS.size
 have hzl7 := ho1.lt
 have hzl8 := ho2.lt
 have hzl9 := ho4.lt
 have hzk1 := hbase1
 have hub1 := hr1.ub
 refine VL_box (d := 8) (t := 60) (c := #[.int .u8 0, .slice none 0 0]) (by kernel_rfl) (by kernel_rfl) ?_
 intro b4 w6 hn4
 replace hS := Step.trans hS (hn4.step No)
 replace ho1 := ho1.no (hn4.step No)
 replace ho2 := ho2.no (hn4.step No)
 replace ho4 := ho4.no (hn4.step No)
 replace hbase1 := Nat.le_trans hbase1 (hn4.step No).size
 replace hr1 := hr1.no (hn4.step No)
 have ho5 := hn4.own
 have hzhn4 := hn4.size
 have hqhn4 := hn4.eqb
 refine VL_store (b := b4) (o := 0) (vs := [.int .u8 8, .slice A1 2 2]) (by kernel_rfl) (by kernel_rfl) ho5 (Nat.le_of_ble_eq_true (by kernel_rfl)) ?_
 intro w7 hw2
 replace hS := Step.transNew hS hw2.step (fun _ _ _ => by omega)
 replace ho1 := ho1.step hw2.step (show ¬ b1 = b4 by omega)
 replace ho2 := ho2.step hw2.step (show ¬ b2 = b4 by omega)
 replace ho4 := ho4.step hw2.step (show ¬ b3 = b4 by omega)
 replace hbase1 := Nat.le_trans hbase1 (hw2.step).size
 replace hr1 := hr1.stepU hub1 hw2.step (fun k hk1 hk2 (hF : k = b4) => by omega)
 have ho6 : Own w7 b4 #[.int .u8 8, .slice A1 2 2] 60 := Own.cast hw2.own (by kernel_rfl)
 have hzhw2 := hw2.same
 refine VL_pure 8 [6, 7, 8] [(6, .pointer (some ⟨b2, 0, none⟩)), (7, .pointer (some ⟨b3, 0, none⟩)), (8, .pointer (some ⟨b4, 0, none⟩))] (by kernel_rfl) rfl ?_
 refine VL_end (by kernel_rfl) ?_
 refine VQ_next ?_
 refine VC_region ?_
 refine VL_load (d := 28) (t := 60) (a := ⟨b4, 0, none⟩) (v := .agg #[.int .u8 8, .slice A1 2 2]) (by kernel_rfl) (by kernel_rfl) (Loads.ownL ho6 (n := 2) (by kernel_rfl) (by kernel_rfl) (by kernel_rfl)) ?_
 have hzs6 := hS.size
 have hzl10 := ho1.lt
 have hzl11 := ho2.lt
 have hzl12 := ho4.lt
 have hzk2 := hbase1
 have hzl13 := ho6.lt
 refine VL_bs (d := 29) (e := 60) (c := #[.int .u8 8, .slice A1 2 2]) (len := 1) (by kernel_rfl) (by kernel_rfl) ?_
 intro b5 w8 hn5
 replace hS := Step.trans hS (hn5.step No)
 replace ho1 := ho1.no (hn5.step No)
 replace ho2 := ho2.no (hn5.step No)
 replace ho4 := ho4.no (hn5.step No)
 replace hbase1 := Nat.le_trans hbase1 (hn5.step No).size
 replace hr1 := hr1.no (hn5.step No)
 replace ho6 := ho6.no (hn5.step No)
 have ho7 := hn5.own
 have hzhn5 := hn5.size
 have hqhn5 := hn5.eqb
 refine VL_pure 3 [6, 7, 29, 30] [(6, .pointer (some ⟨b2, 0, none⟩)), (7, .pointer (some ⟨b3, 0, none⟩)), (29, .slice (some ⟨b5, 0, none⟩) 1 1), (30, .pointer (some ⟨b3, 3, none⟩))] (by kernel_rfl) rfl ?_
 refine VL_store (b := b3) (o := 3) (vs := [.slice (some ⟨b5, 0, none⟩) 1 1]) (by kernel_rfl) (by kernel_rfl) ho4 (Nat.le_of_ble_eq_true (by kernel_rfl)) ?_
 intro w9 hw3
 replace hS := Step.transNew hS hw3.step (fun _ _ _ => by omega)
 replace ho1 := ho1.step hw3.step (show ¬ b1 = b3 by omega)
 replace ho2 := ho2.step hw3.step (show ¬ b2 = b3 by omega)
 replace hbase1 := Nat.le_trans hbase1 (hw3.step).size
 replace hr1 := hr1.stepU hub1 hw3.step (fun k hk1 hk2 (hF : k = b3) => by omega)
 replace ho6 := ho6.step hw3.step (show ¬ b4 = b3 by omega)
 replace ho7 := ho7.step hw3.step (show ¬ b5 = b3 by omega)
 have ho8 : Own w9 b3 #[.int .i64 r, .bool (!bk), .int .i64 kd, .slice (some ⟨b5, 0, none⟩) 1 1] 24 := Own.cast hw3.own (by kernel_rfl)
 have hzhw3 := hw3.same
 refine VL_end (by kernel_rfl) ?_
 refine VQ_next ?_
 refine VC_seq ?_
 refine VC_region ?_
 refine VL_load (d := 31) (t := 24) (a := ⟨b3, 0, none⟩) (v := .agg #[.int .i64 r, .bool (!bk), .int .i64 kd, .slice (some ⟨b5, 0, none⟩) 1 1]) (by kernel_rfl) (by kernel_rfl) (Loads.ownL ho8 (n := 4) (by kernel_rfl) (by kernel_rfl) (by kernel_rfl)) ?_
 refine VL_store (b := b2) (o := 0) (vs := [.int .i64 r, .bool (!bk), .int .i64 kd, .slice (some ⟨b5, 0, none⟩) 1 1]) (by kernel_rfl) (by kernel_rfl) ho2 (Nat.le_of_ble_eq_true (by kernel_rfl)) ?_
 intro w10 hw4
 replace hS := Step.transNew hS hw4.step (fun _ _ _ => by omega)
 replace ho1 := ho1.step hw4.step (show ¬ b1 = b2 by omega)
 replace hbase1 := Nat.le_trans hbase1 (hw4.step).size
 replace hr1 := hr1.stepU hub1 hw4.step (fun k hk1 hk2 (hF : k = b2) => by omega)
 replace ho6 := ho6.step hw4.step (show ¬ b4 = b2 by omega)
 replace ho7 := ho7.step hw4.step (show ¬ b5 = b2 by omega)
 replace ho8 := ho8.step hw4.step (show ¬ b3 = b2 by omega)
 have ho9 : Own w10 b2 #[.int .i64 r, .bool (!bk), .int .i64 kd, .slice (some ⟨b5, 0, none⟩) 1 1] 24 := Own.cast hw4.own (by kernel_rfl)
 have hzhw4 := hw4.same
 refine VL_end (by kernel_rfl) ?_
 refine VQ_next ?_
 refine VC_ret ?_
 refine VQ_retC1 (T := 24) (.agg #[.int .i64 r, .bool (!bk), .int .i64 kd, .slice (some ⟨b5, 0, none⟩) 1 1]) (.inr rfl) rfl rfl (Loads.ownL ho9 (n := 4) (by kernel_rfl) (by kernel_rfl) (by kernel_rfl)) ?_
 have hI1 : Ies w10 0 w10.heap.size (some ⟨b5, 0, none⟩) [⟨8, A1, 2, 2, [0, ((m : Nat) : Int)]⟩] := ⟨Sl.sl2 (Own.sl ho7 ho7.lt), by intro x hx; simp only [List.mem_cons, List.mem_nil_iff, or_false] at hx; subst hx <;> first | exact ⟨(Rw.lenI hr1), by (try dsimp only); omega, Sl.sl2 (Sl.mono (Rw.slI hr1) (by first | exact Nat.le_refl _ | omega))⟩⟩
 have hI9 := hI1
 exact ⟨_, _, rfl, hI9, hS⟩

set_option maxRecDepth 100000 in
set_option maxHeartbeats 4000000 in
theorem ans_no (r : Int) (bk : Bool) (k : Int) (A : Option Addr) (n c : Nat) (kd : Int) (m : Int) (w : World) (hm : ¬ (1 ≤ m ∧ m ≤ 127)) :
  CV Try.prog 19 #[.agg #[.int .i64 r, .bool bk, .int .i64 k, .slice A n c], .int .i64 kd, .int .i64 m] w (fun x w1 => x = .agg #[.int .i64 r, .bool (!bk), .int .i64 kd, .slice none 0 0] ∧ Step No w w1) := by
 have hS : Step No w w := Step.refl _ _
 refine CV_enter Try.f19 _ 32 [(0, .agg #[.int .i64 r, .bool bk, .int .i64 k, .slice A n c]), (1, .int .i64 kd), (2, .int .i64 m)] Try.func19 rfl rfl (by kernel_rfl) rfl ?_
 refine VC_seq ?_
 refine VC_region ?_
 have hzs1 := hS.size
 refine VL_box (d := 3) (t := 24) (c := #[.int .i64 r, .bool bk, .int .i64 k, .slice A n c]) (by kernel_rfl) (by kernel_rfl) ?_
 intro b1 w1 hn1
 replace hS := Step.trans hS (hn1.step No)
 have ho1 := hn1.own
 have hzhn1 := hn1.size
 have hqhn1 := hn1.eqb
 have hzs2 := hS.size
 have hzl1 := ho1.lt
 refine VL_box (d := 6) (t := 24) (c := #[.int .i64 0, .bool false, .int .i64 0, .slice none 0 0]) (by kernel_rfl) (by kernel_rfl) ?_
 intro b2 w2 hn2
 replace hS := Step.trans hS (hn2.step No)
 replace ho1 := ho1.no (hn2.step No)
 have ho2 := hn2.own
 have hzhn2 := hn2.size
 have hqhn2 := hn2.eqb
 refine VL_end (by kernel_rfl) ?_
 refine VQ_next ?_
 refine VC_seq ?_
 refine VC_region ?_
 refine VL_pure 1 [1, 2, 3, 6, 10] [(1, .int .i64 kd), (2, .int .i64 m), (3, .pointer (some ⟨b1, 0, none⟩)), (6, .pointer (some ⟨b2, 0, none⟩)), (10, .pointer (some ⟨b1, 0, none⟩))] (by kernel_rfl) rfl ?_
 refine VL_load (d := 11) (t := 3) (a := ⟨b1, 0, none⟩) (v := .int .i64 r) (by kernel_rfl) (by kernel_rfl) (Loads.own1 ho1 (by kernel_rfl) (by rfl)) ?_
 refine VL_pure 3 [1, 2, 6, 11, 12] [(1, .int .i64 kd), (2, .int .i64 m), (6, .pointer (some ⟨b2, 0, none⟩)), (11, .int .i64 r), (12, .pointer (some ⟨b1, 1, none⟩))] (by kernel_rfl) rfl ?_
 refine VL_load (d := 13) (t := 4) (a := ⟨b1, 1, none⟩) (v := .bool bk) (by kernel_rfl) (by kernel_rfl) (Loads.own1 ho1 (by kernel_rfl) (by rfl)) ?_
 refine VL_pure 7 [2, 6, 16] [(2, .int .i64 m), (6, .pointer (some ⟨b2, 0, none⟩)), (16, .agg #[.int .i64 r, .bool (!bk), .int .i64 kd, .slice none 0 0])] (by kernel_rfl) rfl ?_
 have hzs3 := hS.size
 have hzl2 := ho1.lt
 have hzl3 := ho2.lt
 refine VL_box (d := 7) (t := 24) (c := #[.int .i64 0, .bool false, .int .i64 0, .slice none 0 0]) (by kernel_rfl) (by kernel_rfl) ?_
 intro b3 w3 hn3
 replace hS := Step.trans hS (hn3.step No)
 replace ho1 := ho1.no (hn3.step No)
 replace ho2 := ho2.no (hn3.step No)
 have ho3 := hn3.own
 have hzhn3 := hn3.size
 have hqhn3 := hn3.eqb
 refine VL_store (b := b3) (o := 0) (vs := [.int .i64 r, .bool (!bk), .int .i64 kd, .slice none 0 0]) (by kernel_rfl) (by kernel_rfl) ho3 (Nat.le_of_ble_eq_true (by kernel_rfl)) ?_
 intro w4 hw1
 replace hS := Step.transNew hS hw1.step (fun _ _ _ => by omega)
 replace ho1 := ho1.step hw1.step (show ¬ b1 = b3 by omega)
 replace ho2 := ho2.step hw1.step (show ¬ b2 = b3 by omega)
 have ho4 : Own w4 b3 #[.int .i64 r, .bool (!bk), .int .i64 kd, .slice none 0 0] 24 := Own.cast hw1.own (by kernel_rfl)
 have hzhw1 := hw1.same
 refine VL_end (by kernel_rfl) ?_
 refine VQ_next ?_
 refine VC_seq ?_
 refine VC_seq ?_
 refine VC_region ?_
 refine VL_pure 3 [2, 6, 7, 19] [(2, .int .i64 m), (6, .pointer (some ⟨b2, 0, none⟩)), (7, .pointer (some ⟨b3, 0, none⟩)), (19, .bool (decide (m > 0)))] (by kernel_rfl) rfl ?_
 refine VL_dec (m > 0) (fun bV => [(2, .int .i64 m), (6, .pointer (some ⟨b2, 0, none⟩)), (7, .pointer (some ⟨b3, 0, none⟩)), (19, .bool bV)]) rfl (fun hg1 => ?_) (fun hg1 => ?_)
 ·refine VL_pure 6 [2, 6, 7, 22] [(2, .int .i64 m), (6, .pointer (some ⟨b2, 0, none⟩)), (7, .pointer (some ⟨b3, 0, none⟩)), (22, .bool (decide (m ≤ 127)))] (by kernel_rfl) rfl ?_
  refine VL_end (by kernel_rfl) ?_
  refine VQ_next ?_
  refine VC_is (b := decide (m ≤ 127)) false (by kernel_rfl) (by simp; omega) ?_
  refine VC_ite_false ?_
  refine VC_skip ?_
  refine VQ_next ?_
  refine VC_seq ?_
  refine VC_region ?_
  refine VL_load (d := 31) (t := 24) (a := ⟨b3, 0, none⟩) (v := .agg #[.int .i64 r, .bool (!bk), .int .i64 kd, .slice none 0 0]) (by kernel_rfl) (by kernel_rfl) (Loads.ownL ho4 (n := 4) (by kernel_rfl) (by kernel_rfl) (by kernel_rfl)) ?_
  refine VL_store (b := b2) (o := 0) (vs := [.int .i64 r, .bool (!bk), .int .i64 kd, .slice none 0 0]) (by kernel_rfl) (by kernel_rfl) ho2 (Nat.le_of_ble_eq_true (by kernel_rfl)) ?_
  intro w5 hw2
  replace hS := Step.transNew hS hw2.step (fun _ _ _ => by omega)
  replace ho1 := ho1.step hw2.step (show ¬ b1 = b2 by omega)
  replace ho4 := ho4.step hw2.step (show ¬ b3 = b2 by omega)
  have ho5 : Own w5 b2 #[.int .i64 r, .bool (!bk), .int .i64 kd, .slice none 0 0] 24 := Own.cast hw2.own (by kernel_rfl)
  have hzhw2 := hw2.same
  refine VL_end (by kernel_rfl) ?_
  refine VQ_next ?_
  refine VC_ret ?_
  refine VQ_retC1 (T := 24) (.agg #[.int .i64 r, .bool (!bk), .int .i64 kd, .slice none 0 0]) (.inr rfl) rfl rfl (Loads.ownL ho5 (n := 4) (by kernel_rfl) (by kernel_rfl) (by kernel_rfl)) ?_
  exact ⟨rfl, hS⟩
 ·refine VL_pure 6 [2, 6, 7, 22] [(2, .int .i64 m), (6, .pointer (some ⟨b2, 0, none⟩)), (7, .pointer (some ⟨b3, 0, none⟩)), (22, .bool false)] (by kernel_rfl) rfl ?_
  refine VL_end (by kernel_rfl) ?_
  refine VQ_next ?_
  refine VC_false (by kernel_rfl) ?_
  refine VC_skip ?_
  refine VQ_next ?_
  refine VC_seq ?_
  refine VC_region ?_
  refine VL_load (d := 31) (t := 24) (a := ⟨b3, 0, none⟩) (v := .agg #[.int .i64 r, .bool (!bk), .int .i64 kd, .slice none 0 0]) (by kernel_rfl) (by kernel_rfl) (Loads.ownL ho4 (n := 4) (by kernel_rfl) (by kernel_rfl) (by kernel_rfl)) ?_
  refine VL_store (b := b2) (o := 0) (vs := [.int .i64 r, .bool (!bk), .int .i64 kd, .slice none 0 0]) (by kernel_rfl) (by kernel_rfl) ho2 (Nat.le_of_ble_eq_true (by kernel_rfl)) ?_
  intro w6 hw3
  replace hS := Step.transNew hS hw3.step (fun _ _ _ => by omega)
  replace ho1 := ho1.step hw3.step (show ¬ b1 = b2 by omega)
  replace ho4 := ho4.step hw3.step (show ¬ b3 = b2 by omega)
  have ho6 : Own w6 b2 #[.int .i64 r, .bool (!bk), .int .i64 kd, .slice none 0 0] 24 := Own.cast hw3.own (by kernel_rfl)
  have hzhw3 := hw3.same
  refine VL_end (by kernel_rfl) ?_
  refine VQ_next ?_
  refine VC_ret ?_
  refine VQ_retC1 (T := 24) (.agg #[.int .i64 r, .bool (!bk), .int .i64 kd, .slice none 0 0]) (.inr rfl) rfl rfl (Loads.ownL ho6 (n := 4) (by kernel_rfl) (by kernel_rfl) (by kernel_rfl)) ?_
  exact ⟨rfl, hS⟩

set_option maxRecDepth 100000 in
set_option maxHeartbeats 4000000 in
theorem rans_yes (r : Int) (bk : Bool) (k : Int) (A : Option Addr) (n c : Nat) (kd : Int) (m : Nat) (w : World) (hm : 1 ≤ m ∧ m ≤ 127) :
  CV Try.prog 26 #[.agg #[.int .i64 r, .bool bk, .int .i64 k, .slice A n c], .int .i64 kd, .int .i64 ((m : Nat) : Int)] w (fun x w1 => ∃ A0 A1, x = .agg #[.int .i64 r, .bool (!bk), .int .i64 kd, .slice A0 1 1] ∧ Ies w1 0 w1.heap.size A0 [⟨8, A1, 2, 2, [0, ((m : Nat) : Int)]⟩] ∧ Step No w w1) := by
 have hS : Step No w w := Step.refl _ _
 refine CV_enter Try.f26 _ 28 [(0, .agg #[.int .i64 r, .bool bk, .int .i64 k, .slice A n c]), (1, .int .i64 kd), (2, .int .i64 ((m : Nat) : Int))] Try.func26 rfl rfl (by kernel_rfl) rfl ?_
 refine VC_seq ?_
 refine VC_region ?_
 have hzs1 := hS.size
 refine VL_box (d := 3) (t := 24) (c := #[.int .i64 r, .bool bk, .int .i64 k, .slice A n c]) (by kernel_rfl) (by kernel_rfl) ?_
 intro b1 w1 hn1
 replace hS := Step.trans hS (hn1.step No)
 have ho1 := hn1.own
 have hzhn1 := hn1.size
 have hqhn1 := hn1.eqb
 have hzs2 := hS.size
 have hzl1 := ho1.lt
 refine VL_box (d := 6) (t := 24) (c := #[.int .i64 0, .bool false, .int .i64 0, .slice none 0 0]) (by kernel_rfl) (by kernel_rfl) ?_
 intro b2 w2 hn2
 replace hS := Step.trans hS (hn2.step No)
 replace ho1 := ho1.no (hn2.step No)
 have ho2 := hn2.own
 have hzhn2 := hn2.size
 have hqhn2 := hn2.eqb
 refine VL_end (by kernel_rfl) ?_
 refine VQ_next ?_
 refine VC_seq ?_
 refine VC_region ?_
 refine VL_pure 1 [1, 2, 3, 6, 8] [(1, .int .i64 kd), (2, .int .i64 ((m : Nat) : Int)), (3, .pointer (some ⟨b1, 0, none⟩)), (6, .pointer (some ⟨b2, 0, none⟩)), (8, .pointer (some ⟨b1, 0, none⟩))] (by kernel_rfl) rfl ?_
 refine VL_load (d := 9) (t := 3) (a := ⟨b1, 0, none⟩) (v := .int .i64 r) (by kernel_rfl) (by kernel_rfl) (Loads.own1 ho1 (by kernel_rfl) (by rfl)) ?_
 refine VL_pure 3 [1, 2, 6, 9, 10] [(1, .int .i64 kd), (2, .int .i64 ((m : Nat) : Int)), (6, .pointer (some ⟨b2, 0, none⟩)), (9, .int .i64 r), (10, .pointer (some ⟨b1, 1, none⟩))] (by kernel_rfl) rfl ?_
 refine VL_load (d := 11) (t := 4) (a := ⟨b1, 1, none⟩) (v := .bool bk) (by kernel_rfl) (by kernel_rfl) (Loads.own1 ho1 (by kernel_rfl) (by rfl)) ?_
 refine VL_pure 7 [2, 6, 14] [(2, .int .i64 ((m : Nat) : Int)), (6, .pointer (some ⟨b2, 0, none⟩)), (14, .agg #[.int .i64 r, .bool (!bk), .int .i64 kd, .slice none 0 0])] (by kernel_rfl) rfl ?_
 have hzs3 := hS.size
 have hzl2 := ho1.lt
 have hzl3 := ho2.lt
 refine VL_box (d := 7) (t := 24) (c := #[.int .i64 0, .bool false, .int .i64 0, .slice none 0 0]) (by kernel_rfl) (by kernel_rfl) ?_
 intro b3 w3 hn3
 replace hS := Step.trans hS (hn3.step No)
 replace ho1 := ho1.no (hn3.step No)
 replace ho2 := ho2.no (hn3.step No)
 have ho3 := hn3.own
 have hzhn3 := hn3.size
 have hqhn3 := hn3.eqb
 refine VL_store (b := b3) (o := 0) (vs := [.int .i64 r, .bool (!bk), .int .i64 kd, .slice none 0 0]) (by kernel_rfl) (by kernel_rfl) ho3 (Nat.le_of_ble_eq_true (by kernel_rfl)) ?_
 intro w4 hw1
 replace hS := Step.transNew hS hw1.step (fun _ _ _ => by omega)
 replace ho1 := ho1.step hw1.step (show ¬ b1 = b3 by omega)
 replace ho2 := ho2.step hw1.step (show ¬ b2 = b3 by omega)
 have ho4 : Own w4 b3 #[.int .i64 r, .bool (!bk), .int .i64 kd, .slice none 0 0] 24 := Own.cast hw1.own (by kernel_rfl)
 have hzhw1 := hw1.same
 refine VL_end (by kernel_rfl) ?_
 refine VQ_next ?_
 refine VC_seq ?_
 refine VC_seq ?_
 refine VC_region ?_
 refine VL_pure 3 [2, 6, 7, 17] [(2, .int .i64 ((m : Nat) : Int)), (6, .pointer (some ⟨b2, 0, none⟩)), (7, .pointer (some ⟨b3, 0, none⟩)), (17, .bool (decide (((m : Nat) : Int) ≥ 1)))] (by kernel_rfl) rfl ?_
 refine VL_known (decide (((m : Nat) : Int) ≥ 1)) (fun bV => [(2, .int .i64 ((m : Nat) : Int)), (6, .pointer (some ⟨b2, 0, none⟩)), (7, .pointer (some ⟨b3, 0, none⟩)), (17, .bool bV)]) true rfl (by simp; omega) ?_
 refine VL_pure 6 [2, 6, 7, 20] [(2, .int .i64 ((m : Nat) : Int)), (6, .pointer (some ⟨b2, 0, none⟩)), (7, .pointer (some ⟨b3, 0, none⟩)), (20, .bool (decide (((m : Nat) : Int) ≤ 127)))] (by kernel_rfl) rfl ?_
 refine VL_end (by kernel_rfl) ?_
 refine VQ_next ?_
 refine VC_is (b := decide (((m : Nat) : Int) ≤ 127)) true (by kernel_rfl) (by simp; omega) ?_
 refine VC_ite_true ?_
 refine VC_region ?_
 refine VL_pure 2 [6, 7, 22] [(6, .pointer (some ⟨b2, 0, none⟩)), (7, .pointer (some ⟨b3, 0, none⟩)), (22, .int .u8 (IntKind.wrap .u8 ((m : Nat) : Int)))] (by kernel_rfl) rfl ?_
 have hzs4 := hS.size
 have hzl4 := ho1.lt
 have hzl5 := ho2.lt
 have hzl6 := ho4.lt
 refine VL_bs (d := 23) (e := 5) (c := #[.int .u8 0, .int .u8 (IntKind.wrap .u8 ((m : Nat) : Int))]) (len := 2) (by kernel_rfl) (by kernel_rfl) ?_
 intro b4 w5 hn4
 replace hS := Step.trans hS (hn4.step No)
 replace ho1 := ho1.no (hn4.step No)
 replace ho2 := ho2.no (hn4.step No)
 replace ho4 := ho4.no (hn4.step No)
 have ho5 := hn4.own
 have hzhn4 := hn4.size
 have hqhn4 := hn4.eqb
 refine VL_pure 4 [6, 7, 24] [(6, .pointer (some ⟨b2, 0, none⟩)), (7, .pointer (some ⟨b3, 0, none⟩)), (24, .agg #[.int .u8 8, .slice (some ⟨b4, 0, none⟩) 2 2])] (by kernel_rfl) rfl ?_
 have hzs5 := hS.size
 have hzl7 := ho1.lt
 have hzl8 := ho2.lt
 have hzl9 := ho4.lt
 have hzl10 := ho5.lt
 refine VL_bs (d := 25) (e := 60) (c := #[.int .u8 8, .slice (some ⟨b4, 0, none⟩) 2 2]) (len := 1) (by kernel_rfl) (by kernel_rfl) ?_
 intro b5 w6 hn5
 replace hS := Step.trans hS (hn5.step No)
 replace ho1 := ho1.no (hn5.step No)
 replace ho2 := ho2.no (hn5.step No)
 replace ho4 := ho4.no (hn5.step No)
 replace ho5 := ho5.no (hn5.step No)
 have ho6 := hn5.own
 have hzhn5 := hn5.size
 have hqhn5 := hn5.eqb
 refine VL_pure 6 [6, 7, 25, 26] [(6, .pointer (some ⟨b2, 0, none⟩)), (7, .pointer (some ⟨b3, 0, none⟩)), (25, .slice (some ⟨b5, 0, none⟩) 1 1), (26, .pointer (some ⟨b3, 3, none⟩))] (by kernel_rfl) rfl ?_
 refine VL_store (b := b3) (o := 3) (vs := [.slice (some ⟨b5, 0, none⟩) 1 1]) (by kernel_rfl) (by kernel_rfl) ho4 (Nat.le_of_ble_eq_true (by kernel_rfl)) ?_
 intro w7 hw2
 replace hS := Step.transNew hS hw2.step (fun _ _ _ => by omega)
 replace ho1 := ho1.step hw2.step (show ¬ b1 = b3 by omega)
 replace ho2 := ho2.step hw2.step (show ¬ b2 = b3 by omega)
 replace ho5 := ho5.step hw2.step (show ¬ b4 = b3 by omega)
 replace ho6 := ho6.step hw2.step (show ¬ b5 = b3 by omega)
 have ho7 : Own w7 b3 #[.int .i64 r, .bool (!bk), .int .i64 kd, .slice (some ⟨b5, 0, none⟩) 1 1] 24 := Own.cast hw2.own (by kernel_rfl)
 have hzhw2 := hw2.same
 refine VL_end (by kernel_rfl) ?_
 refine VQ_next ?_
 refine VC_seq ?_
 refine VC_region ?_
 refine VL_load (d := 27) (t := 24) (a := ⟨b3, 0, none⟩) (v := .agg #[.int .i64 r, .bool (!bk), .int .i64 kd, .slice (some ⟨b5, 0, none⟩) 1 1]) (by kernel_rfl) (by kernel_rfl) (Loads.ownL ho7 (n := 4) (by kernel_rfl) (by kernel_rfl) (by kernel_rfl)) ?_
 refine VL_store (b := b2) (o := 0) (vs := [.int .i64 r, .bool (!bk), .int .i64 kd, .slice (some ⟨b5, 0, none⟩) 1 1]) (by kernel_rfl) (by kernel_rfl) ho2 (Nat.le_of_ble_eq_true (by kernel_rfl)) ?_
 intro w8 hw3
 replace hS := Step.transNew hS hw3.step (fun _ _ _ => by omega)
 replace ho1 := ho1.step hw3.step (show ¬ b1 = b2 by omega)
 replace ho5 := ho5.step hw3.step (show ¬ b4 = b2 by omega)
 replace ho6 := ho6.step hw3.step (show ¬ b5 = b2 by omega)
 replace ho7 := ho7.step hw3.step (show ¬ b3 = b2 by omega)
 have ho8 : Own w8 b2 #[.int .i64 r, .bool (!bk), .int .i64 kd, .slice (some ⟨b5, 0, none⟩) 1 1] 24 := Own.cast hw3.own (by kernel_rfl)
 have hzhw3 := hw3.same
 refine VL_end (by kernel_rfl) ?_
 refine VQ_next ?_
 refine VC_ret ?_
 refine VQ_retC1 (T := 24) (.agg #[.int .i64 r, .bool (!bk), .int .i64 kd, .slice (some ⟨b5, 0, none⟩) 1 1]) (.inr rfl) rfl rfl (Loads.ownL ho8 (n := 4) (by kernel_rfl) (by kernel_rfl) (by kernel_rfl)) ?_
 have hI1 : Ies w8 0 w8.heap.size (some ⟨b5, 0, none⟩) [⟨8, (some ⟨b4, 0, none⟩), 2, 2, [0, IntKind.wrap .u8 ((m : Nat) : Int)]⟩] := ⟨Sl.sl2 (Own.sl ho6 ho6.lt), by intro x hx; simp only [List.mem_cons, List.mem_nil_iff, or_false] at hx; subst hx <;> first | exact ⟨rfl, by (try dsimp only); omega, Sl.sl2 (Sl.mono (Own.sl ho5 ho5.lt) (by first | exact Nat.le_refl _ | omega))⟩⟩
 have hI9 := hI1
 rw [wrap_small hm.2] at hI9
 exact ⟨_, _, rfl, hI9, hS⟩

set_option maxRecDepth 100000 in
set_option maxHeartbeats 4000000 in
theorem rans_no (r : Int) (bk : Bool) (k : Int) (A : Option Addr) (n c : Nat) (kd : Int) (m : Int) (w : World) (hm : ¬ (1 ≤ m ∧ m ≤ 127)) :
  CV Try.prog 26 #[.agg #[.int .i64 r, .bool bk, .int .i64 k, .slice A n c], .int .i64 kd, .int .i64 m] w (fun x w1 => x = .agg #[.int .i64 r, .bool (!bk), .int .i64 kd, .slice none 0 0] ∧ Step No w w1) := by
 have hS : Step No w w := Step.refl _ _
 refine CV_enter Try.f26 _ 28 [(0, .agg #[.int .i64 r, .bool bk, .int .i64 k, .slice A n c]), (1, .int .i64 kd), (2, .int .i64 m)] Try.func26 rfl rfl (by kernel_rfl) rfl ?_
 refine VC_seq ?_
 refine VC_region ?_
 have hzs1 := hS.size
 refine VL_box (d := 3) (t := 24) (c := #[.int .i64 r, .bool bk, .int .i64 k, .slice A n c]) (by kernel_rfl) (by kernel_rfl) ?_
 intro b1 w1 hn1
 replace hS := Step.trans hS (hn1.step No)
 have ho1 := hn1.own
 have hzhn1 := hn1.size
 have hqhn1 := hn1.eqb
 have hzs2 := hS.size
 have hzl1 := ho1.lt
 refine VL_box (d := 6) (t := 24) (c := #[.int .i64 0, .bool false, .int .i64 0, .slice none 0 0]) (by kernel_rfl) (by kernel_rfl) ?_
 intro b2 w2 hn2
 replace hS := Step.trans hS (hn2.step No)
 replace ho1 := ho1.no (hn2.step No)
 have ho2 := hn2.own
 have hzhn2 := hn2.size
 have hqhn2 := hn2.eqb
 refine VL_end (by kernel_rfl) ?_
 refine VQ_next ?_
 refine VC_seq ?_
 refine VC_region ?_
 refine VL_pure 1 [1, 2, 3, 6, 8] [(1, .int .i64 kd), (2, .int .i64 m), (3, .pointer (some ⟨b1, 0, none⟩)), (6, .pointer (some ⟨b2, 0, none⟩)), (8, .pointer (some ⟨b1, 0, none⟩))] (by kernel_rfl) rfl ?_
 refine VL_load (d := 9) (t := 3) (a := ⟨b1, 0, none⟩) (v := .int .i64 r) (by kernel_rfl) (by kernel_rfl) (Loads.own1 ho1 (by kernel_rfl) (by rfl)) ?_
 refine VL_pure 3 [1, 2, 6, 9, 10] [(1, .int .i64 kd), (2, .int .i64 m), (6, .pointer (some ⟨b2, 0, none⟩)), (9, .int .i64 r), (10, .pointer (some ⟨b1, 1, none⟩))] (by kernel_rfl) rfl ?_
 refine VL_load (d := 11) (t := 4) (a := ⟨b1, 1, none⟩) (v := .bool bk) (by kernel_rfl) (by kernel_rfl) (Loads.own1 ho1 (by kernel_rfl) (by rfl)) ?_
 refine VL_pure 7 [2, 6, 14] [(2, .int .i64 m), (6, .pointer (some ⟨b2, 0, none⟩)), (14, .agg #[.int .i64 r, .bool (!bk), .int .i64 kd, .slice none 0 0])] (by kernel_rfl) rfl ?_
 have hzs3 := hS.size
 have hzl2 := ho1.lt
 have hzl3 := ho2.lt
 refine VL_box (d := 7) (t := 24) (c := #[.int .i64 0, .bool false, .int .i64 0, .slice none 0 0]) (by kernel_rfl) (by kernel_rfl) ?_
 intro b3 w3 hn3
 replace hS := Step.trans hS (hn3.step No)
 replace ho1 := ho1.no (hn3.step No)
 replace ho2 := ho2.no (hn3.step No)
 have ho3 := hn3.own
 have hzhn3 := hn3.size
 have hqhn3 := hn3.eqb
 refine VL_store (b := b3) (o := 0) (vs := [.int .i64 r, .bool (!bk), .int .i64 kd, .slice none 0 0]) (by kernel_rfl) (by kernel_rfl) ho3 (Nat.le_of_ble_eq_true (by kernel_rfl)) ?_
 intro w4 hw1
 replace hS := Step.transNew hS hw1.step (fun _ _ _ => by omega)
 replace ho1 := ho1.step hw1.step (show ¬ b1 = b3 by omega)
 replace ho2 := ho2.step hw1.step (show ¬ b2 = b3 by omega)
 have ho4 : Own w4 b3 #[.int .i64 r, .bool (!bk), .int .i64 kd, .slice none 0 0] 24 := Own.cast hw1.own (by kernel_rfl)
 have hzhw1 := hw1.same
 refine VL_end (by kernel_rfl) ?_
 refine VQ_next ?_
 refine VC_seq ?_
 refine VC_seq ?_
 refine VC_region ?_
 refine VL_pure 3 [2, 6, 7, 17] [(2, .int .i64 m), (6, .pointer (some ⟨b2, 0, none⟩)), (7, .pointer (some ⟨b3, 0, none⟩)), (17, .bool (decide (m ≥ 1)))] (by kernel_rfl) rfl ?_
 refine VL_dec (m ≥ 1) (fun bV => [(2, .int .i64 m), (6, .pointer (some ⟨b2, 0, none⟩)), (7, .pointer (some ⟨b3, 0, none⟩)), (17, .bool bV)]) rfl (fun hg1 => ?_) (fun hg1 => ?_)
 ·refine VL_pure 6 [2, 6, 7, 20] [(2, .int .i64 m), (6, .pointer (some ⟨b2, 0, none⟩)), (7, .pointer (some ⟨b3, 0, none⟩)), (20, .bool (decide (m ≤ 127)))] (by kernel_rfl) rfl ?_
  refine VL_end (by kernel_rfl) ?_
  refine VQ_next ?_
  refine VC_is (b := decide (m ≤ 127)) false (by kernel_rfl) (by simp; omega) ?_
  refine VC_ite_false ?_
  refine VC_skip ?_
  refine VQ_next ?_
  refine VC_seq ?_
  refine VC_region ?_
  refine VL_load (d := 27) (t := 24) (a := ⟨b3, 0, none⟩) (v := .agg #[.int .i64 r, .bool (!bk), .int .i64 kd, .slice none 0 0]) (by kernel_rfl) (by kernel_rfl) (Loads.ownL ho4 (n := 4) (by kernel_rfl) (by kernel_rfl) (by kernel_rfl)) ?_
  refine VL_store (b := b2) (o := 0) (vs := [.int .i64 r, .bool (!bk), .int .i64 kd, .slice none 0 0]) (by kernel_rfl) (by kernel_rfl) ho2 (Nat.le_of_ble_eq_true (by kernel_rfl)) ?_
  intro w5 hw2
  replace hS := Step.transNew hS hw2.step (fun _ _ _ => by omega)
  replace ho1 := ho1.step hw2.step (show ¬ b1 = b2 by omega)
  replace ho4 := ho4.step hw2.step (show ¬ b3 = b2 by omega)
  have ho5 : Own w5 b2 #[.int .i64 r, .bool (!bk), .int .i64 kd, .slice none 0 0] 24 := Own.cast hw2.own (by kernel_rfl)
  have hzhw2 := hw2.same
  refine VL_end (by kernel_rfl) ?_
  refine VQ_next ?_
  refine VC_ret ?_
  refine VQ_retC1 (T := 24) (.agg #[.int .i64 r, .bool (!bk), .int .i64 kd, .slice none 0 0]) (.inr rfl) rfl rfl (Loads.ownL ho5 (n := 4) (by kernel_rfl) (by kernel_rfl) (by kernel_rfl)) ?_
  exact ⟨rfl, hS⟩
 ·refine VL_pure 6 [2, 6, 7, 20] [(2, .int .i64 m), (6, .pointer (some ⟨b2, 0, none⟩)), (7, .pointer (some ⟨b3, 0, none⟩)), (20, .bool false)] (by kernel_rfl) rfl ?_
  refine VL_end (by kernel_rfl) ?_
  refine VQ_next ?_
  refine VC_false (by kernel_rfl) ?_
  refine VC_skip ?_
  refine VQ_next ?_
  refine VC_seq ?_
  refine VC_region ?_
  refine VL_load (d := 27) (t := 24) (a := ⟨b3, 0, none⟩) (v := .agg #[.int .i64 r, .bool (!bk), .int .i64 kd, .slice none 0 0]) (by kernel_rfl) (by kernel_rfl) (Loads.ownL ho4 (n := 4) (by kernel_rfl) (by kernel_rfl) (by kernel_rfl)) ?_
  refine VL_store (b := b2) (o := 0) (vs := [.int .i64 r, .bool (!bk), .int .i64 kd, .slice none 0 0]) (by kernel_rfl) (by kernel_rfl) ho2 (Nat.le_of_ble_eq_true (by kernel_rfl)) ?_
  intro w6 hw3
  replace hS := Step.transNew hS hw3.step (fun _ _ _ => by omega)
  replace ho1 := ho1.step hw3.step (show ¬ b1 = b2 by omega)
  replace ho4 := ho4.step hw3.step (show ¬ b3 = b2 by omega)
  have ho6 : Own w6 b2 #[.int .i64 r, .bool (!bk), .int .i64 kd, .slice none 0 0] 24 := Own.cast hw3.own (by kernel_rfl)
  have hzhw3 := hw3.same
  refine VL_end (by kernel_rfl) ?_
  refine VQ_next ?_
  refine VC_ret ?_
  refine VQ_retC1 (T := 24) (.agg #[.int .i64 r, .bool (!bk), .int .i64 kd, .slice none 0 0]) (.inr rfl) rfl rfl (Loads.ownL ho6 (n := 4) (by kernel_rfl) (by kernel_rfl) (by kernel_rfl)) ?_
  exact ⟨rfl, hS⟩

end Go.Proofs.Ytejpcmjokamdcaa
