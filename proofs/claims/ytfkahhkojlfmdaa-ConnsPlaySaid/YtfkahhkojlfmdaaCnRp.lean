/- Layer 9, the document's table: Put. -/
import Derived.Test.YtfkahhkojlfmdaaProg
import Derived.Test.YtfkahhkojlfmdaaCnRg
import Derived.Test.YtfkahhkojlfmdaaVc23
set_option linter.unusedVariables false
set_option linter.unusedSimpArgs false
namespace Go.Proofs.Ytfkahhkojlfmdaa
open Go.Vc Go.RowKit

set_option maxRecDepth 100000 in
set_option maxHeartbeats 4000000 in
theorem rput_1 (p lo : Nat) (room : Int) (L : List Ent) (kp kv kc m : Int) (w : World) (hR : Rt w p lo room L) (hm : L.length ≤ 1000) (hrr : rightB kp kv kc = false) :
    CV Try.prog 22 #[.pointer (some ⟨p, 0, none⟩), .agg #[.int .i64 kp, .int .i64 kv, .int .i64 kc], .int .i64 m] w (fun x w1 => x = .int .i64 1 ∧ Step No w w1) := by
  have hS : Step No w w := Step.refl _ _
  obtain ⟨A, n, c, hi, ho, hn, hcn, hhi, hv⟩ := hR
  refine CV_enter Try.f22 _ 71 [(0, .pointer (some ⟨p, 0, none⟩)), (1, .agg #[.int .i64 kp, .int .i64 kv, .int .i64 kc]), (2, .int .i64 m)] Try.func22 rfl rfl (by kernel_rfl) rfl ?_
  refine VC_seq ?_
  refine VC_region ?_
  have hzs1 := hS.size
  have hzl1 := ho.lt
  have hzk1 := hhi
  refine VL_box (d := 4) (t := 29) (c := #[.int .i64 kp, .int .i64 kv, .int .i64 kc]) (by kernel_rfl) (by kernel_rfl) ?_
  intro b1 w1 hn1
  replace hS := Step.trans hS (hn1.step No)
  replace ho := ho.no (hn1.step No)
  replace hv := hv.step (hn1.step No) (fun k hk1 hk2 hF => hF)
  replace hhi := Nat.le_trans hhi (hn1.step No).size
  have ho1 := hn1.own
  have hzhn1 := hn1.size
  have hqhn1 := hn1.eqb
  refine VL_pure 2 [0, 2, 4] [(0, .pointer (some ⟨p, 0, none⟩)), (2, .int .i64 m), (4, .pointer (some ⟨b1, 0, none⟩))] (by kernel_rfl) rfl ?_
  refine VL_end (by kernel_rfl) ?_
  refine VQ_next ?_
  refine VC_seq ?_
  refine VC_seq ?_
  refine VC_region ?_
  refine VL_load (d := 9) (t := 29) (a := ⟨b1, 0, none⟩) (v := .agg #[.int .i64 kp, .int .i64 kv, .int .i64 kc]) (by kernel_rfl) (by kernel_rfl) (Loads.ownL ho1 (n := 3) (by kernel_rfl) (by kernel_rfl) (by kernel_rfl)) ?_
  have hzs2 := hS.size
  have hzl2 := ho.lt
  have hzl3 := ho1.lt
  refine VL_call (d := 10) (f := 26) (args := #[.agg #[.int .i64 kp, .int .i64 kv, .int .i64 kc]]) (by kernel_rfl) (by kernel_rfl) (by kernel_rfl) Try.call26 (rright_any kp kv kc _) ?_
  rintro _ w2 ⟨rfl, hc1⟩
  replace hS := Step.trans hS hc1
  replace ho := ho.no hc1
  replace hv := hv.step hc1 (fun k hk1 hk2 hF => hF)
  replace hhi := Nat.le_trans hhi (hc1).size
  replace ho1 := ho1.no hc1
  refine VL_pure 3 [0, 2, 4, 11] [(0, .pointer (some ⟨p, 0, none⟩)), (2, .int .i64 m), (4, .pointer (some ⟨b1, 0, none⟩)), (11, .bool (!(rightB kp kv kc)))] (by kernel_rfl) rfl ?_
  refine VL_end (by kernel_rfl) ?_
  refine VQ_next ?_
  refine VC_is (b := !(rightB kp kv kc)) true (by kernel_rfl) (by rw [hrr]; rfl) ?_
  refine VC_ite_true ?_
  refine VC_seq ?_
  refine VC_region ?_
  refine VL_pure 1 [6] [(6, .int .i64 1)] (by kernel_rfl) rfl ?_
  refine VL_end (by kernel_rfl) ?_
  refine VQ_next ?_
  refine VC_ret ?_
  refine VQ_then_ret ?_
  refine VQ_ret1 (.int .i64 1) (.inr rfl) rfl rfl ?_
  exact ⟨rfl, hS⟩

set_option maxRecDepth 100000 in
set_option maxHeartbeats 4000000 in
theorem rput_7 (p lo : Nat) (room : Int) (L : List Ent) (kp kv kc m : Int) (w : World) (hR : Rt w p lo room L) (hm : L.length ≤ 1000) (hrr : rightB kp kv kc = true) (i : Nat) (hat : atI L kp kv kc = (i : Nat)) :
    CV Try.prog 22 #[.pointer (some ⟨p, 0, none⟩), .agg #[.int .i64 kp, .int .i64 kv, .int .i64 kc], .int .i64 m] w (fun x w1 => x = .int .i64 7 ∧ Step No w w1) := by
  have hS : Step No w w := Step.refl _ _
  obtain ⟨A, n, c, hi, ho, hn, hcn, hhi, hv⟩ := hR
  refine CV_enter Try.f22 _ 71 [(0, .pointer (some ⟨p, 0, none⟩)), (1, .agg #[.int .i64 kp, .int .i64 kv, .int .i64 kc]), (2, .int .i64 m)] Try.func22 rfl rfl (by kernel_rfl) rfl ?_
  refine VC_seq ?_
  refine VC_region ?_
  have hzs1 := hS.size
  have hzl1 := ho.lt
  have hzk1 := hhi
  refine VL_box (d := 4) (t := 29) (c := #[.int .i64 kp, .int .i64 kv, .int .i64 kc]) (by kernel_rfl) (by kernel_rfl) ?_
  intro b1 w1 hn1
  replace hS := Step.trans hS (hn1.step No)
  replace ho := ho.no (hn1.step No)
  replace hv := hv.step (hn1.step No) (fun k hk1 hk2 hF => hF)
  replace hhi := Nat.le_trans hhi (hn1.step No).size
  have ho1 := hn1.own
  have hzhn1 := hn1.size
  have hqhn1 := hn1.eqb
  refine VL_pure 2 [0, 2, 4] [(0, .pointer (some ⟨p, 0, none⟩)), (2, .int .i64 m), (4, .pointer (some ⟨b1, 0, none⟩))] (by kernel_rfl) rfl ?_
  refine VL_end (by kernel_rfl) ?_
  refine VQ_next ?_
  refine VC_seq ?_
  refine VC_seq ?_
  refine VC_region ?_
  refine VL_load (d := 9) (t := 29) (a := ⟨b1, 0, none⟩) (v := .agg #[.int .i64 kp, .int .i64 kv, .int .i64 kc]) (by kernel_rfl) (by kernel_rfl) (Loads.ownL ho1 (n := 3) (by kernel_rfl) (by kernel_rfl) (by kernel_rfl)) ?_
  have hzs2 := hS.size
  have hzl2 := ho.lt
  have hzl3 := ho1.lt
  refine VL_call (d := 10) (f := 26) (args := #[.agg #[.int .i64 kp, .int .i64 kv, .int .i64 kc]]) (by kernel_rfl) (by kernel_rfl) (by kernel_rfl) Try.call26 (rright_any kp kv kc _) ?_
  rintro _ w2 ⟨rfl, hc1⟩
  replace hS := Step.trans hS hc1
  replace ho := ho.no hc1
  replace hv := hv.step hc1 (fun k hk1 hk2 hF => hF)
  replace hhi := Nat.le_trans hhi (hc1).size
  replace ho1 := ho1.no hc1
  refine VL_pure 3 [0, 2, 4, 11] [(0, .pointer (some ⟨p, 0, none⟩)), (2, .int .i64 m), (4, .pointer (some ⟨b1, 0, none⟩)), (11, .bool (!(rightB kp kv kc)))] (by kernel_rfl) rfl ?_
  refine VL_end (by kernel_rfl) ?_
  refine VQ_next ?_
  refine VC_is (b := !(rightB kp kv kc)) false (by kernel_rfl) (by rw [hrr]; rfl) ?_
  refine VC_ite_false ?_
  refine VC_skip ?_
  refine VQ_next ?_
  refine VC_seq ?_
  refine VC_seq ?_
  refine VC_region ?_
  refine VL_pure 1 [0, 2, 4, 12] [(0, .pointer (some ⟨p, 0, none⟩)), (2, .int .i64 m), (4, .pointer (some ⟨b1, 0, none⟩)), (12, .pointer (some ⟨p, 0, none⟩))] (by kernel_rfl) rfl ?_
  refine VL_load (d := 13) (t := 29) (a := ⟨b1, 0, none⟩) (v := .agg #[.int .i64 kp, .int .i64 kv, .int .i64 kc]) (by kernel_rfl) (by kernel_rfl) (Loads.ownL ho1 (n := 3) (by kernel_rfl) (by kernel_rfl) (by kernel_rfl)) ?_
  have hzs3 := hS.size
  have hzl4 := ho.lt
  have hzl5 := ho1.lt
  refine VL_call (d := 14) (f := 32) (args := #[.pointer (some ⟨p, 0, none⟩), .agg #[.int .i64 kp, .int .i64 kv, .int .i64 kc]]) (by kernel_rfl) (by kernel_rfl) (by kernel_rfl) Try.call32 (rat_at ⟨_, _, _, _, ho, hn, hcn, hhi, hv⟩ hm hat) ?_
  rintro _ w3 ⟨rfl, hc2⟩
  replace hS := Step.trans hS hc2
  replace ho := ho.no hc2
  replace hv := hv.step hc2 (fun k hk1 hk2 hF => hF)
  replace hhi := Nat.le_trans hhi (hc2).size
  replace ho1 := ho1.no hc2
  refine VL_pure 4 [0, 2, 4, 15] [(0, .pointer (some ⟨p, 0, none⟩)), (2, .int .i64 m), (4, .pointer (some ⟨b1, 0, none⟩)), (15, .bool (decide (((i : Nat) : Int) ≥ 0)))] (by kernel_rfl) rfl ?_
  refine VL_end (by kernel_rfl) ?_
  refine VQ_next ?_
  refine VC_is (b := decide (((i : Nat) : Int) ≥ 0)) true (by kernel_rfl) (decide_eq_true (by omega)) ?_
  refine VC_ite_true ?_
  refine VC_seq ?_
  refine VC_region ?_
  refine VL_pure 1 [6] [(6, .int .i64 7)] (by kernel_rfl) rfl ?_
  refine VL_end (by kernel_rfl) ?_
  refine VQ_next ?_
  refine VC_ret ?_
  refine VQ_then_ret ?_
  refine VQ_ret1 (.int .i64 7) (.inr rfl) rfl rfl ?_
  exact ⟨rfl, hS⟩

set_option maxRecDepth 100000 in
set_option maxHeartbeats 4000000 in
theorem rput_9 (p lo : Nat) (room : Int) (L : List Ent) (kp kv kc m : Int) (w : World) (hR : Rt w p lo room L) (hm : L.length ≤ 1000) (hrr : rightB kp kv kc = true) (hat : atI L kp kv kc = -1) (hrm : (L.length : Int) ≥ room) :
    CV Try.prog 22 #[.pointer (some ⟨p, 0, none⟩), .agg #[.int .i64 kp, .int .i64 kv, .int .i64 kc], .int .i64 m] w (fun x w1 => x = .int .i64 9 ∧ Step No w w1) := by
  have hS : Step No w w := Step.refl _ _
  obtain ⟨A, n, c, hi, ho, hn, hcn, hhi, hv⟩ := hR
  refine CV_enter Try.f22 _ 71 [(0, .pointer (some ⟨p, 0, none⟩)), (1, .agg #[.int .i64 kp, .int .i64 kv, .int .i64 kc]), (2, .int .i64 m)] Try.func22 rfl rfl (by kernel_rfl) rfl ?_
  refine VC_seq ?_
  refine VC_region ?_
  have hzs1 := hS.size
  have hzl1 := ho.lt
  have hzk1 := hhi
  refine VL_box (d := 4) (t := 29) (c := #[.int .i64 kp, .int .i64 kv, .int .i64 kc]) (by kernel_rfl) (by kernel_rfl) ?_
  intro b1 w1 hn1
  replace hS := Step.trans hS (hn1.step No)
  replace ho := ho.no (hn1.step No)
  replace hv := hv.step (hn1.step No) (fun k hk1 hk2 hF => hF)
  replace hhi := Nat.le_trans hhi (hn1.step No).size
  have ho1 := hn1.own
  have hzhn1 := hn1.size
  have hqhn1 := hn1.eqb
  refine VL_pure 2 [0, 2, 4] [(0, .pointer (some ⟨p, 0, none⟩)), (2, .int .i64 m), (4, .pointer (some ⟨b1, 0, none⟩))] (by kernel_rfl) rfl ?_
  refine VL_end (by kernel_rfl) ?_
  refine VQ_next ?_
  refine VC_seq ?_
  refine VC_seq ?_
  refine VC_region ?_
  refine VL_load (d := 9) (t := 29) (a := ⟨b1, 0, none⟩) (v := .agg #[.int .i64 kp, .int .i64 kv, .int .i64 kc]) (by kernel_rfl) (by kernel_rfl) (Loads.ownL ho1 (n := 3) (by kernel_rfl) (by kernel_rfl) (by kernel_rfl)) ?_
  have hzs2 := hS.size
  have hzl2 := ho.lt
  have hzl3 := ho1.lt
  refine VL_call (d := 10) (f := 26) (args := #[.agg #[.int .i64 kp, .int .i64 kv, .int .i64 kc]]) (by kernel_rfl) (by kernel_rfl) (by kernel_rfl) Try.call26 (rright_any kp kv kc _) ?_
  rintro _ w2 ⟨rfl, hc1⟩
  replace hS := Step.trans hS hc1
  replace ho := ho.no hc1
  replace hv := hv.step hc1 (fun k hk1 hk2 hF => hF)
  replace hhi := Nat.le_trans hhi (hc1).size
  replace ho1 := ho1.no hc1
  refine VL_pure 3 [0, 2, 4, 11] [(0, .pointer (some ⟨p, 0, none⟩)), (2, .int .i64 m), (4, .pointer (some ⟨b1, 0, none⟩)), (11, .bool (!(rightB kp kv kc)))] (by kernel_rfl) rfl ?_
  refine VL_end (by kernel_rfl) ?_
  refine VQ_next ?_
  refine VC_is (b := !(rightB kp kv kc)) false (by kernel_rfl) (by rw [hrr]; rfl) ?_
  refine VC_ite_false ?_
  refine VC_skip ?_
  refine VQ_next ?_
  refine VC_seq ?_
  refine VC_seq ?_
  refine VC_region ?_
  refine VL_pure 1 [0, 2, 4, 12] [(0, .pointer (some ⟨p, 0, none⟩)), (2, .int .i64 m), (4, .pointer (some ⟨b1, 0, none⟩)), (12, .pointer (some ⟨p, 0, none⟩))] (by kernel_rfl) rfl ?_
  refine VL_load (d := 13) (t := 29) (a := ⟨b1, 0, none⟩) (v := .agg #[.int .i64 kp, .int .i64 kv, .int .i64 kc]) (by kernel_rfl) (by kernel_rfl) (Loads.ownL ho1 (n := 3) (by kernel_rfl) (by kernel_rfl) (by kernel_rfl)) ?_
  have hzs3 := hS.size
  have hzl4 := ho.lt
  have hzl5 := ho1.lt
  refine VL_call (d := 14) (f := 32) (args := #[.pointer (some ⟨p, 0, none⟩), .agg #[.int .i64 kp, .int .i64 kv, .int .i64 kc]]) (by kernel_rfl) (by kernel_rfl) (by kernel_rfl) Try.call32 (rat_at ⟨_, _, _, _, ho, hn, hcn, hhi, hv⟩ hm hat) ?_
  rintro _ w3 ⟨rfl, hc2⟩
  replace hS := Step.trans hS hc2
  replace ho := ho.no hc2
  replace hv := hv.step hc2 (fun k hk1 hk2 hF => hF)
  replace hhi := Nat.le_trans hhi (hc2).size
  replace ho1 := ho1.no hc2
  refine VL_pure 4 [0, 2, 4, 15] [(0, .pointer (some ⟨p, 0, none⟩)), (2, .int .i64 m), (4, .pointer (some ⟨b1, 0, none⟩)), (15, .bool false)] (by kernel_rfl) rfl ?_
  refine VL_end (by kernel_rfl) ?_
  refine VQ_next ?_
  refine VC_false (by kernel_rfl) ?_
  refine VC_skip ?_
  refine VQ_next ?_
  refine VC_seq ?_
  refine VC_seq ?_
  refine VC_det [[], [0], [0, 1], [0, 1, 2], [0, 1, 2, 3], [], [5], [5, 6], [5, 6, 7], [0, 1, 2, 3, 4, 5, 6, 7, 8]] 9 [.pointer (some ⟨p, 0, none⟩), .pointer (some ⟨p, 0, none⟩), .pointer (some ⟨p, 0, none⟩), .slice A n c, .int .i64 ((n : Nat) : Int), .pointer (some ⟨p, 0, none⟩), .pointer (some ⟨p, 0, none⟩), .pointer (some ⟨p, 1, none⟩), .int .i64 room] [0, 1, 2, 4, 5, 6, 7] [3, 8] (by kernel_rfl) (by kernel_rfl) (by kernel_rfl) (by kernel_rfl) ?_ ?_
  · intro w4 hs1
    replace hS := Step.trans hS hs1
    replace ho := ho.no hs1
    replace hv := hv.step hs1 (fun k hk1 hk2 hF => hF)
    replace hhi := Nat.le_trans hhi (hs1).size
    replace ho1 := ho1.no hs1
    exact ⟨Det1_load (d := 19) (t := 43) (a := ⟨p, 0, none⟩) (by kernel_rfl) (by kernel_rfl) (Loads.own1 ho (by kernel_rfl) (by rfl)), Det1_load (d := 24) (t := 3) (a := ⟨p, 1, none⟩) (by kernel_rfl) (by kernel_rfl) (Loads.own1 ho (by kernel_rfl) (by rfl)), trivial⟩
  intro w4 hs1
  replace hS := Step.trans hS hs1
  replace ho := ho.no hs1
  replace hv := hv.step hs1 (fun k hk1 hk2 hF => hF)
  replace hhi := Nat.le_trans hhi (hs1).size
  replace ho1 := ho1.no hs1
  refine VL_keep [0, 2, 4, 20, 24] [(0, .pointer (some ⟨p, 0, none⟩)), (2, .int .i64 m), (4, .pointer (some ⟨b1, 0, none⟩)), (20, .int .i64 ((n : Nat) : Int)), (24, .int .i64 room)] (by kernel_rfl) ?_
  refine VL_pure 10 [0, 2, 4, 25] [(0, .pointer (some ⟨p, 0, none⟩)), (2, .int .i64 m), (4, .pointer (some ⟨b1, 0, none⟩)), (25, .bool (decide (((n : Nat) : Int) ≥ room)))] (by kernel_rfl) rfl ?_
  refine VL_end (by kernel_rfl) ?_
  refine VQ_next ?_
  refine VC_is (b := decide (((n : Nat) : Int) ≥ room)) true (by kernel_rfl) (decide_eq_true (by omega)) ?_
  refine VC_ite_true ?_
  refine VC_seq ?_
  refine VC_region ?_
  refine VL_pure 1 [6] [(6, .int .i64 9)] (by kernel_rfl) rfl ?_
  refine VL_end (by kernel_rfl) ?_
  refine VQ_next ?_
  refine VC_ret ?_
  refine VQ_then_ret ?_
  refine VQ_ret1 (.int .i64 9) (.inr rfl) rfl rfl ?_
  exact ⟨rfl, hS⟩

set_option maxRecDepth 100000 in
set_option maxHeartbeats 4000000 in
theorem rput_more (p lo : Nat) (room : Int) (L : List Ent) (kp kv kc m : Int) (w : World) (hR : Rt w p lo room L) (hm : L.length ≤ 1000) (hrr : rightB kp kv kc = true) (hat : atI L kp kv kc = -1) (hrm : (L.length : Int) < room) (hlo : p < lo) (hlw : lo ≤ w.heap.size) (hpos : 0 < L.length) :
    CV Try.prog 22 #[.pointer (some ⟨p, 0, none⟩), .agg #[.int .i64 kp, .int .i64 kv, .int .i64 kc], .int .i64 m] w (fun x w1 => x = .int .i64 0 ∧ Rt w1 p lo room (insE L ⟨kp, kv, kc, m⟩) ∧ Step (Just p) w w1) := by
  have hS : Step (Just p) w w := Step.refl _ _
  obtain ⟨A, n, c, hi, ho, hn, hcn, hhi, hv⟩ := hR
  refine CV_enter Try.f22 _ 71 [(0, .pointer (some ⟨p, 0, none⟩)), (1, .agg #[.int .i64 kp, .int .i64 kv, .int .i64 kc]), (2, .int .i64 m)] Try.func22 rfl rfl (by kernel_rfl) rfl ?_
  refine VC_seq ?_
  refine VC_region ?_
  have hzs1 := hS.size
  have hzl1 := ho.lt
  have hzk1 := hhi
  refine VL_box (d := 4) (t := 29) (c := #[.int .i64 kp, .int .i64 kv, .int .i64 kc]) (by kernel_rfl) (by kernel_rfl) ?_
  intro b1 w1 hn1
  replace hS := Step.trans hS (Step.weak (hn1.step No))
  replace ho := ho.no (hn1.step No)
  replace hv := hv.step (hn1.step No) (fun k hk1 hk2 hF => hF)
  replace hhi := Nat.le_trans hhi (hn1.step No).size
  have ho1 := hn1.own
  have hzhn1 := hn1.size
  have hqhn1 := hn1.eqb
  refine VL_pure 2 [0, 2, 4] [(0, .pointer (some ⟨p, 0, none⟩)), (2, .int .i64 m), (4, .pointer (some ⟨b1, 0, none⟩))] (by kernel_rfl) rfl ?_
  refine VL_end (by kernel_rfl) ?_
  refine VQ_next ?_
  refine VC_seq ?_
  refine VC_seq ?_
  refine VC_region ?_
  refine VL_load (d := 9) (t := 29) (a := ⟨b1, 0, none⟩) (v := .agg #[.int .i64 kp, .int .i64 kv, .int .i64 kc]) (by kernel_rfl) (by kernel_rfl) (Loads.ownL ho1 (n := 3) (by kernel_rfl) (by kernel_rfl) (by kernel_rfl)) ?_
  have hzs2 := hS.size
  have hzl2 := ho.lt
  have hzl3 := ho1.lt
  refine VL_call (d := 10) (f := 26) (args := #[.agg #[.int .i64 kp, .int .i64 kv, .int .i64 kc]]) (by kernel_rfl) (by kernel_rfl) (by kernel_rfl) Try.call26 (rright_any kp kv kc _) ?_
  rintro _ w2 ⟨rfl, hc1⟩
  replace hS := Step.trans hS (Step.weak hc1)
  replace ho := ho.no hc1
  replace hv := hv.step hc1 (fun k hk1 hk2 hF => hF)
  replace hhi := Nat.le_trans hhi (hc1).size
  replace ho1 := ho1.no hc1
  refine VL_pure 3 [0, 2, 4, 11] [(0, .pointer (some ⟨p, 0, none⟩)), (2, .int .i64 m), (4, .pointer (some ⟨b1, 0, none⟩)), (11, .bool (!(rightB kp kv kc)))] (by kernel_rfl) rfl ?_
  refine VL_end (by kernel_rfl) ?_
  refine VQ_next ?_
  refine VC_is (b := !(rightB kp kv kc)) false (by kernel_rfl) (by rw [hrr]; rfl) ?_
  refine VC_ite_false ?_
  refine VC_skip ?_
  refine VQ_next ?_
  refine VC_seq ?_
  refine VC_seq ?_
  refine VC_region ?_
  refine VL_pure 1 [0, 2, 4, 12] [(0, .pointer (some ⟨p, 0, none⟩)), (2, .int .i64 m), (4, .pointer (some ⟨b1, 0, none⟩)), (12, .pointer (some ⟨p, 0, none⟩))] (by kernel_rfl) rfl ?_
  refine VL_load (d := 13) (t := 29) (a := ⟨b1, 0, none⟩) (v := .agg #[.int .i64 kp, .int .i64 kv, .int .i64 kc]) (by kernel_rfl) (by kernel_rfl) (Loads.ownL ho1 (n := 3) (by kernel_rfl) (by kernel_rfl) (by kernel_rfl)) ?_
  have hzs3 := hS.size
  have hzl4 := ho.lt
  have hzl5 := ho1.lt
  refine VL_call (d := 14) (f := 32) (args := #[.pointer (some ⟨p, 0, none⟩), .agg #[.int .i64 kp, .int .i64 kv, .int .i64 kc]]) (by kernel_rfl) (by kernel_rfl) (by kernel_rfl) Try.call32 (rat_at ⟨_, _, _, _, ho, hn, hcn, hhi, hv⟩ hm hat) ?_
  rintro _ w3 ⟨rfl, hc2⟩
  replace hS := Step.trans hS (Step.weak hc2)
  replace ho := ho.no hc2
  replace hv := hv.step hc2 (fun k hk1 hk2 hF => hF)
  replace hhi := Nat.le_trans hhi (hc2).size
  replace ho1 := ho1.no hc2
  refine VL_pure 4 [0, 2, 4, 15] [(0, .pointer (some ⟨p, 0, none⟩)), (2, .int .i64 m), (4, .pointer (some ⟨b1, 0, none⟩)), (15, .bool false)] (by kernel_rfl) rfl ?_
  refine VL_end (by kernel_rfl) ?_
  refine VQ_next ?_
  refine VC_false (by kernel_rfl) ?_
  refine VC_skip ?_
  refine VQ_next ?_
  refine VC_seq ?_
  refine VC_seq ?_
  obtain ⟨sb1, so1, rfl, hlbsb1⟩ := (Sl2.sl hv).open (by rw [flat_len ecells_len]; omega)
  refine VC_det [[], [0], [0, 1], [0, 1, 2], [0, 1, 2, 3], [], [5], [5, 6], [5, 6, 7], [0, 1, 2, 3, 4, 5, 6, 7, 8]] 9 [.pointer (some ⟨p, 0, none⟩), .pointer (some ⟨p, 0, none⟩), .pointer (some ⟨p, 0, none⟩), .slice (some ⟨sb1, so1, none⟩) n c, .int .i64 ((n : Nat) : Int), .pointer (some ⟨p, 0, none⟩), .pointer (some ⟨p, 0, none⟩), .pointer (some ⟨p, 1, none⟩), .int .i64 room] [0, 1, 2, 4, 5, 6, 7] [3, 8] (by kernel_rfl) (by kernel_rfl) (by kernel_rfl) (by kernel_rfl) ?_ ?_
  · intro w4 hs1
    replace hS := Step.trans hS (Step.weak hs1)
    replace ho := ho.no hs1
    replace hv := hv.step hs1 (fun k hk1 hk2 hF => hF)
    replace hhi := Nat.le_trans hhi (hs1).size
    replace ho1 := ho1.no hs1
    exact ⟨Det1_load (d := 19) (t := 43) (a := ⟨p, 0, none⟩) (by kernel_rfl) (by kernel_rfl) (Loads.own1 ho (by kernel_rfl) (by rfl)), Det1_load (d := 24) (t := 3) (a := ⟨p, 1, none⟩) (by kernel_rfl) (by kernel_rfl) (Loads.own1 ho (by kernel_rfl) (by rfl)), trivial⟩
  intro w4 hs1
  replace hS := Step.trans hS (Step.weak hs1)
  replace ho := ho.no hs1
  replace hv := hv.step hs1 (fun k hk1 hk2 hF => hF)
  replace hhi := Nat.le_trans hhi (hs1).size
  replace ho1 := ho1.no hs1
  refine VL_keep [0, 2, 4, 20, 24] [(0, .pointer (some ⟨p, 0, none⟩)), (2, .int .i64 m), (4, .pointer (some ⟨b1, 0, none⟩)), (20, .int .i64 ((n : Nat) : Int)), (24, .int .i64 room)] (by kernel_rfl) ?_
  refine VL_pure 10 [0, 2, 4, 25] [(0, .pointer (some ⟨p, 0, none⟩)), (2, .int .i64 m), (4, .pointer (some ⟨b1, 0, none⟩)), (25, .bool (decide (((n : Nat) : Int) ≥ room)))] (by kernel_rfl) rfl ?_
  refine VL_end (by kernel_rfl) ?_
  refine VQ_next ?_
  refine VC_is (b := decide (((n : Nat) : Int) ≥ room)) false (by kernel_rfl) (decide_eq_false (by omega)) ?_
  refine VC_ite_false ?_
  refine VC_skip ?_
  refine VQ_next ?_
  refine VC_seq ?_
  refine VC_region ?_
  refine VL_pure 1 [0, 2, 4, 7] [(0, .pointer (some ⟨p, 0, none⟩)), (2, .int .i64 m), (4, .pointer (some ⟨b1, 0, none⟩)), (7, .int .i64 0)] (by kernel_rfl) rfl ?_
  refine VL_end (by kernel_rfl) ?_
  refine VQ_next ?_
  refine VC_seq ?_
  refine VC_block ?_
  refine VC_loop (σ := Nat) (fun σs => [(0, .pointer (some ⟨p, 0, none⟩)), (2, .int .i64 m), (4, .pointer (some ⟨b1, 0, none⟩)), (7, .int .i64 ((σs : Nat) : Int))]) (fun σs wr => σs ≤ n ∧ aheadE (L.drop σs) kp kv kc + σs = aheadE L kp kv kc ∧ (Own wr p #[.slice (some ⟨sb1, so1, none⟩) n c, .int .i64 room] 54) ∧ (Sl2 wr lo hi (some ⟨sb1, so1, none⟩) (flat Ent.cells L)) ∧ (hi ≤ wr.heap.size) ∧ (Own wr b1 #[.int .i64 kp, .int .i64 kv, .int .i64 kc] 29) ∧ (Step (Just p) w wr)) (fun σs wr => n - σs) 0 ⟨rfl, rfl, rfl, rfl, trivial⟩ ?_ ?_
  · exact ⟨Nat.zero_le _, rfl, ho, hv, hhi, ho1, hS⟩
  rintro i wr ⟨hi0, hah, ho, hv, hhi, ho1, hS⟩
  try dsimp only at hi0 hah ho hv hhi ho1 hS ⊢
  refine VC_seq ?_
  refine VC_seq ?_
  have hs2 := drew_step wr
  have hs2z : wr.heap.size = wr.drew.heap.size := rfl
  refine VC_text [[], [], [1], [1, 2], [1, 2, 3], [1, 2, 3, 4], [0, 1, 2, 3, 4, 5], [0, 1, 2, 3, 4, 5, 6], [0, 1, 2, 3, 4, 5, 6, 7], [0, 1, 2, 3, 4, 5, 6, 7, 8], [0, 1, 2, 3, 4, 5, 6, 7, 8, 9], [0, 1, 2, 3, 4, 5, 6, 7, 8, 9, 10], [0, 1, 2, 3, 4, 5, 6, 7], [0, 1, 2, 3, 4, 5, 6, 7, 8, 9, 10, 11, 12], [0, 1, 2, 3, 4, 5, 6, 7, 8, 9, 10, 11, 12, 13], [0, 1, 2, 3, 4, 5, 6, 7, 8, 9, 10, 11, 12, 13, 14], [0, 1, 2, 3, 4, 5, 6, 7], [0, 1, 2, 3, 4, 5, 6, 7, 8, 9, 10, 11, 12, 13, 14, 15, 16], [0, 1, 2, 3, 4, 5, 6, 7, 8, 9, 10, 11, 12, 13, 14, 15, 16, 17]] 17 (fun x y => Step (fun k => wr.heap.size ≤ k) x y) [] [0, 1, 2, 3, 4, 5, 6, 7, 8, 9, 10, 11, 12, 13, 14, 15, 16] (by kernel_rfl) (by kernel_rfl) (by kernel_rfl) (by kernel_rfl) (fun x => Step.refl _ x) (fun h k => Step.trans h k) Step.weak ?_
  have hzl6 := ho.lt
  have hzl7 := ho1.lt
  have hzs4 := hS.size
  generalize wr.drew = w5 at hs2 hs2z ⊢
  replace ho := ho.no hs2
  replace hv := hv.step hs2 (fun k hk1 hk2 hF => hF)
  replace hhi := Nat.le_trans hhi (hs2).size
  replace ho1 := ho1.no hs2
  replace hS := Step.trans hS (Step.weak hs2)
  refine VT_pures 4 (kn' := [(3, .pointer (some ⟨p, 0, none⟩)), (2, .pointer (some ⟨p, 0, none⟩)), (1, .pointer (some ⟨p, 0, none⟩)), (0, .int .i64 ((i : Nat) : Int))]) (by kernel_rfl) ?_
  refine VT_load (d := 30) (t := 43) (a := ⟨p, 0, none⟩) (v := .slice (some ⟨sb1, so1, none⟩) n c) (by kernel_rfl) (by kernel_rfl) ?_ ?_
  · intro w6 hr1
    replace ho := ho.step hr1 (by (try simp only); omega)
    replace hv := hv.step hr1 (fun k hk1 hk2 hG => by (try simp only at hG); omega)
    replace hhi := Nat.le_trans hhi (hr1).size
    replace ho1 := ho1.step hr1 (by (try simp only); omega)
    replace hS := Step.transNew hS hr1 (fun i hi hG => by (try simp only at hG); (first | show _ ∨ _ | show _ = _); omega)
    exact (Loads.own1 ho (by kernel_rfl) (by rfl))
  refine VT_pures 3 (kn' := [(7, .bool (decide (((i : Nat) : Int) < ((n : Nat) : Int)))), (6, .bool (decide (((i : Nat) : Int) < ((n : Nat) : Int)))), (5, .int .i64 ((n : Nat) : Int)), (4, .slice (some ⟨sb1, so1, none⟩) n c), (3, .pointer (some ⟨p, 0, none⟩)), (2, .pointer (some ⟨p, 0, none⟩)), (1, .pointer (some ⟨p, 0, none⟩)), (0, .int .i64 ((i : Nat) : Int))]) (by kernel_rfl) ?_
  rcases Bool.eq_false_or_eq_true (decide (((i : Nat) : Int) < ((n : Nat) : Int))) with hg1 | hg1
  · refine VT_eq [(7, .bool true), (6, .bool true), (5, .int .i64 ((n : Nat) : Int)), (4, .slice (some ⟨sb1, so1, none⟩) n c), (3, .pointer (some ⟨p, 0, none⟩)), (2, .pointer (some ⟨p, 0, none⟩)), (1, .pointer (some ⟨p, 0, none⟩)), (0, .int .i64 ((i : Nat) : Int))] (by simp only [hg1, Bool.not_true, Bool.not_false]) ?_
    try simp only [bne_iff_ne, beq_iff_eq, decide_eq_true_eq, decide_eq_false_iff_not, bne_eq_false_iff_eq, beq_eq_false_iff_ne, ne_eq] at hg1
    refine VT_pures 3 (kn' := [(10, .pointer (some ⟨p, 0, none⟩)), (9, .pointer (some ⟨p, 0, none⟩)), (8, .pointer (some ⟨p, 0, none⟩)), (7, .bool true), (6, .bool true), (5, .int .i64 ((n : Nat) : Int)), (4, .slice (some ⟨sb1, so1, none⟩) n c), (3, .pointer (some ⟨p, 0, none⟩)), (2, .pointer (some ⟨p, 0, none⟩)), (1, .pointer (some ⟨p, 0, none⟩)), (0, .int .i64 ((i : Nat) : Int))]) (by kernel_rfl) ?_
    refine VT_load (d := 37) (t := 43) (a := ⟨p, 0, none⟩) (v := .slice (some ⟨sb1, so1, none⟩) n c) (by kernel_rfl) (by kernel_rfl) ?_ ?_
    · intro w7 hr2
      replace ho := ho.step hr2 (by (try simp only); omega)
      replace hv := hv.step hr2 (fun k hk1 hk2 hG => by (try simp only at hG); omega)
      replace hhi := Nat.le_trans hhi (hr2).size
      replace ho1 := ho1.step hr2 (by (try simp only); omega)
      replace hS := Step.transNew hS hr2 (fun i hi hG => by (try simp only at hG); (first | show _ ∨ _ | show _ = _); omega)
      exact (Loads.own1 ho (by kernel_rfl) (by rfl))
    refine VT_pures 1 (kn' := [(12, .int .i64 ((i : Nat) : Int)), (11, .slice (some ⟨sb1, so1, none⟩) n c), (10, .pointer (some ⟨p, 0, none⟩)), (9, .pointer (some ⟨p, 0, none⟩)), (8, .pointer (some ⟨p, 0, none⟩)), (7, .bool true), (6, .bool true), (5, .int .i64 ((n : Nat) : Int)), (4, .slice (some ⟨sb1, so1, none⟩) n c), (3, .pointer (some ⟨p, 0, none⟩)), (2, .pointer (some ⟨p, 0, none⟩)), (1, .pointer (some ⟨p, 0, none⟩)), (0, .int .i64 ((i : Nat) : Int))]) (by kernel_rfl) ?_
    refine VT_index (d := 39) (b := sb1) (o := so1) (len := n) (sz := 4) (mm := ((i : Nat) : Int)) (by kernel_rfl) (by kernel_rfl) i (by rfl) (by omega) (so1 + i * 4) (by omega) ?_
    refine VT_pures 1 (kn' := [(14, .pointer (some ⟨sb1, so1 + i * 4, none⟩)), (13, .pointer (some ⟨sb1, so1 + i * 4, none⟩)), (12, .int .i64 ((i : Nat) : Int)), (11, .slice (some ⟨sb1, so1, none⟩) n c), (10, .pointer (some ⟨p, 0, none⟩)), (9, .pointer (some ⟨p, 0, none⟩)), (8, .pointer (some ⟨p, 0, none⟩)), (7, .bool true), (6, .bool true), (5, .int .i64 ((n : Nat) : Int)), (4, .slice (some ⟨sb1, so1, none⟩) n c), (3, .pointer (some ⟨p, 0, none⟩)), (2, .pointer (some ⟨p, 0, none⟩)), (1, .pointer (some ⟨p, 0, none⟩)), (0, .int .i64 ((i : Nat) : Int))]) (by kernel_rfl) ?_
    obtain ⟨y1, hy1⟩ : ∃ x, L[i]? = some x := ⟨_, List.getElem?_eq_getElem (by omega)⟩
    refine VT_load (d := 41) (t := 29) (a := ⟨sb1, so1 + i * 4, none⟩) (v := .agg #[.int .i64 y1.p, .int .i64 y1.v, .int .i64 y1.c]) (by kernel_rfl) (by kernel_rfl) ?_ ?_
    · intro w8 hr3
      replace ho := ho.step hr3 (by (try simp only); omega)
      replace hv := hv.step hr3 (fun k hk1 hk2 hG => by (try simp only at hG); omega)
      replace hhi := Nat.le_trans hhi (hr3).size
      replace ho1 := ho1.step hr3 (by (try simp only); omega)
      replace hS := Step.transNew hS hr3 (fun i hi hG => by (try simp only at hG); (first | show _ ∨ _ | show _ = _); omega)
      exact (Sl.flatAgg (sz := 4) (Sl2.sl hv) ecells_len hy1 0 3 (by kernel_rfl) (by decide) _ (by first | rfl | omega))
    refine VT_load (d := 42) (t := 29) (a := ⟨b1, 0, none⟩) (v := .agg #[.int .i64 kp, .int .i64 kv, .int .i64 kc]) (by kernel_rfl) (by kernel_rfl) ?_ ?_
    · intro w9 hr4
      replace ho := ho.step hr4 (by (try simp only); omega)
      replace hv := hv.step hr4 (fun k hk1 hk2 hG => by (try simp only at hG); omega)
      replace hhi := Nat.le_trans hhi (hr4).size
      replace ho1 := ho1.step hr4 (by (try simp only); omega)
      replace hS := Step.transNew hS hr4 (fun i hi hG => by (try simp only at hG); (first | show _ ∨ _ | show _ = _); omega)
      exact (Loads.ownL ho1 (n := 3) (by kernel_rfl) (by kernel_rfl) (by kernel_rfl))
    refine VT_end ?_
    intro w10 hs3
    replace ho := ho.no hs3
    replace hv := hv.step hs3 (fun k hk1 hk2 hF => hF)
    replace hhi := Nat.le_trans hhi (hs3).size
    replace ho1 := ho1.no hs3
    replace hS := Step.trans hS (Step.weak hs3)
    refine VL_keep [0, 2, 4, 7, 33, 41, 42] [(0, .pointer (some ⟨p, 0, none⟩)), (2, .int .i64 m), (4, .pointer (some ⟨b1, 0, none⟩)), (7, .int .i64 ((i : Nat) : Int)), (33, .bool true), (41, .agg #[.int .i64 y1.p, .int .i64 y1.v, .int .i64 y1.c]), (42, .agg #[.int .i64 kp, .int .i64 kv, .int .i64 kc])] (by kernel_rfl) ?_
    have hzl8 := ho.lt
    have hzl9 := ho1.lt
    have hzs5 := hS.size
    refine VL_call (d := 43) (f := 33) (args := #[.agg #[.int .i64 y1.p, .int .i64 y1.v, .int .i64 y1.c], .agg #[.int .i64 kp, .int .i64 kv, .int .i64 kc]]) (by kernel_rfl) (by kernel_rfl) (by kernel_rfl) Try.call33 (rbefore_any y1.p y1.v y1.c kp kv kc _) ?_
    rintro _ w11 ⟨rfl, hc3⟩
    replace ho := ho.no hc3
    replace hv := hv.step hc3 (fun k hk1 hk2 hF => hF)
    replace hhi := Nat.le_trans hhi (hc3).size
    replace ho1 := ho1.no hc3
    replace hS := Step.trans hS (Step.weak hc3)
    refine VL_pure 19 [0, 2, 4, 7, 44] [(0, .pointer (some ⟨p, 0, none⟩)), (2, .int .i64 m), (4, .pointer (some ⟨b1, 0, none⟩)), (7, .int .i64 ((i : Nat) : Int)), (44, .bool (befK y1.p y1.v y1.c kp kv kc))] (by kernel_rfl) rfl ?_
    refine VL_end (by kernel_rfl) ?_
    refine VQ_next ?_
    refine VC_cond (befK y1.p y1.v y1.c kp kv kc) (by kernel_rfl) (fun h1 => ?_) (fun h1 => ?_)
    · try simp only [Bool.and_eq_true, Bool.or_eq_true, decide_eq_true_eq, Bool.not_eq_true', decide_eq_false_iff_not, Bool.and_eq_false_iff, Bool.or_eq_false_iff, beq_iff_eq, bne_iff_ne, beq_eq_false_iff_ne, bne_eq_false_iff_eq, Bool.not_eq_eq_eq_not, Bool.not_true, Bool.not_false] at h1
      refine VC_skip ?_
      refine VQ_next ?_
      refine VC_block ?_
      refine VC_region ?_
      refine VL_pure 2 [0, 2, 4, 46] [(0, .pointer (some ⟨p, 0, none⟩)), (2, .int .i64 m), (4, .pointer (some ⟨b1, 0, none⟩)), (46, .int .i64 (IntKind.wrap .i64 (((i : Nat) : Int) + 1)))] (by kernel_rfl) rfl ?_
      have he1 : IntKind.wrap .i64 (((i : Nat) : Int) + 1) = ((i + 1 : Nat) : Int) := (by rw [wrap_i64 _ (by omega) (by omega)]; omega)
      refine VL_eq [(0, .pointer (some ⟨p, 0, none⟩)), (2, .int .i64 m), (4, .pointer (some ⟨b1, 0, none⟩)), (46, .int .i64 ((i + 1 : Nat) : Int))] (by rw [he1]) ?_
      refine VL_pure 3 [0, 2, 4, 7] [(0, .pointer (some ⟨p, 0, none⟩)), (2, .int .i64 m), (4, .pointer (some ⟨b1, 0, none⟩)), (7, .int .i64 ((i + 1 : Nat) : Int))] (by kernel_rfl) rfl ?_
      refine VL_end (by kernel_rfl) ?_
      refine VQ_block_normal ?_
      refine VQ_again (i + 1) ⟨rfl, rfl, rfl, rfl, trivial⟩ ?_ ?_
      · exact ⟨(by (try dsimp only); omega), (by have h9 := aheadE_step hy1 (by first | assumption | simp_all); omega), ho, hv, hhi, ho1, hS⟩
      · (try dsimp only); omega
    · try simp only [Bool.and_eq_true, Bool.or_eq_true, decide_eq_true_eq, Bool.not_eq_true', decide_eq_false_iff_not, Bool.and_eq_false_iff, Bool.or_eq_false_iff, beq_iff_eq, bne_iff_ne, beq_eq_false_iff_ne, bne_eq_false_iff_eq, Bool.not_eq_eq_eq_not, Bool.not_true, Bool.not_false] at h1
      refine VC_exit ?_
      refine VQ_then_exit ?_
      refine VQ_then_exit ?_
      refine VQ_block_hit ?_
      refine VQ_next ?_
      refine VC_seq ?_
      refine VC_region ?_
      refine VL_pure 1 [0, 2, 4, 7, 8] [(0, .pointer (some ⟨p, 0, none⟩)), (2, .int .i64 m), (4, .pointer (some ⟨b1, 0, none⟩)), (7, .int .i64 ((i : Nat) : Int)), (8, .slice none 0 0)] (by kernel_rfl) rfl ?_
      refine VL_end (by kernel_rfl) ?_
      refine VQ_next ?_
      refine VC_seq ?_
      obtain ⟨base1, hbase1E⟩ : ∃ x, x = w11.heap.size := ⟨_, rfl⟩
      have hbase1 : base1 ≤ w11.heap.size := Nat.le_of_eq hbase1E
      have hzl10 := ho.lt
      have hzk2 := hhi
      have hzl11 := ho1.lt
      have hzs6 := hS.size
      have hzk3 := hbase1
      refine VC_ex [[], [], [1], [1, 2], [1, 2, 3], [], [1, 2, 3, 4, 5], [0, 1, 2, 3, 4, 5, 6], [], [], [8, 9], [8, 9, 10], [0, 1, 2, 3, 4, 5, 6, 7, 8, 9, 10, 11], [0, 1, 2, 3, 4, 5, 6, 7, 8, 9, 10, 11, 12]] 12 [.slice none 0 0, .pointer (some ⟨p, 0, none⟩), .pointer (some ⟨p, 0, none⟩), .pointer (some ⟨p, 0, none⟩), .slice (some ⟨sb1, so1, none⟩) n c, .int .i64 ((i : Nat) : Int), .slice (some ⟨sb1, so1, none⟩) i c, undef, .agg #[.int .i64 kp, .int .i64 kv, .int .i64 kc], .int .i64 m, .agg #[.int .i64 kp, .int .i64 kv, .int .i64 kc, .int .i64 m], undef] [0, 1, 2, 3, 5, 9, 10] [4, 6, 8] [7, 11] (fun k9 v9 x9 => (k9 = 7 → ∃ A9 c9, v9 = .slice A9 i c9 ∧ RwS x9 4 base1 69 A9 i c9 (flat Ent.cells (L.take i))) ∧ (k9 = 11 → ∃ b9, v9 = .slice (some ⟨b9, 0, none⟩) 1 1 ∧ Own x9 b9 #[.int .i64 kp, .int .i64 kv, .int .i64 kc, .int .i64 m] 69 ∧ base1 ≤ b9)) (by kernel_rfl) (by kernel_rfl) (by kernel_rfl) (fun _ _ _ _ h9 hs9 => ⟨fun e9 => (by obtain ⟨A9, c9, g1, g2⟩ := h9.1 e9; exact ⟨A9, c9, g1, g2.no hs9⟩), fun e9 => (by obtain ⟨b9, g1, g2, g3⟩ := h9.2 e9; exact ⟨b9, g1, g2.no hs9, g3⟩)⟩) (by kernel_rfl) (by kernel_rfl) (by kernel_rfl) (by kernel_rfl) ?_ ?_ ?_
      · intro w12 hs4
        replace ho := ho.no hs4
        replace hv := hv.step hs4 (fun k hk1 hk2 hF => hF)
        replace hhi := Nat.le_trans hhi (hs4).size
        replace ho1 := ho1.no hs4
        replace hS := Step.trans hS (Step.weak hs4)
        replace hbase1 := Nat.le_trans hbase1 (hs4).size
        exact ⟨Det1_load (d := 51) (t := 43) (a := ⟨p, 0, none⟩) (by kernel_rfl) (by kernel_rfl) (Loads.own1 ho (by kernel_rfl) (by rfl)), Det1_sliceZ (d := 53) (sz := 4) (len := n) (cap := c) (H := i) (A := (some ⟨sb1, so1, none⟩)) (hi := some ((i : Nat) : Int)) (by kernel_rfl) (by kernel_rfl) rfl (by omega), Det1_load (d := 55) (t := 29) (a := ⟨b1, 0, none⟩) (by kernel_rfl) (by kernel_rfl) (Loads.ownL ho1 (n := 3) (by kernel_rfl) (by kernel_rfl) (by kernel_rfl)), trivial⟩
      · intro w12 hs4
        have hzx := hs4.size
        replace ho := ho.no hs4
        replace hv := hv.step hs4 (fun k hk1 hk2 hF => hF)
        replace hhi := Nat.le_trans hhi (hs4).size
        replace ho1 := ho1.no hs4
        replace hS := Step.trans hS (Step.weak hs4)
        replace hbase1 := Nat.le_trans hbase1 (hs4).size
        exact ⟨Ex1_appendN (d := 54) (e := 69) (m2 := i) (c2 := c) (sz := 4) (bytes := 32) (A2 := (some ⟨sb1, so1, none⟩)) (by kernel_rfl) (by kernel_rfl) (by kernel_rfl) (flat Ent.cells (L.take i)) (by rw [flat_len ecells_len, show (L.take i).length = i from (by rw [List.length_take]; have hq9 : L.length = n := hn; omega)]) (Sl.cast (Sl.take (Sl2.sl hv) (i * 4)) (flat_take ecells_len L i).symm) (flat_one' ecells_one _) (by simp only [maxLen]; omega) (by omega) (fun A9 c9 w9 g => ⟨fun _ => ⟨A9, c9, rfl, RwS.low g (by omega)⟩, fun e => absurd e (by decide)⟩), Ex1_bs (d := 58) (e := 69) (c := #[.int .i64 kp, .int .i64 kv, .int .i64 kc, .int .i64 m]) (len := 1) (by kernel_rfl) (by kernel_rfl) (fun b w9 hn => ⟨fun e => absurd e (by decide), fun _ => ⟨_, rfl, hn.own, by have hq := hn.eqb; omega⟩⟩), trivial⟩
      intro w13 us1 hs5 hB1
      replace ho := ho.no hs5
      replace hv := hv.step hs5 (fun k hk1 hk2 hF => hF)
      replace hhi := Nat.le_trans hhi (hs5).size
      replace ho1 := ho1.no hs5
      replace hS := Step.trans hS (Step.weak hs5)
      replace hbase1 := Nat.le_trans hbase1 (hs5).size
      obtain ⟨⟨hB7, -⟩, ⟨-, hB11⟩, -⟩ := hB1
      obtain ⟨A1, c1, he2, hr5⟩ := hB7 rfl
      have hlhr5 : (L.take i).length = i := by have hq9 := RwS.len hr5; rw [flat_len ecells_len] at hq9; omega
      obtain ⟨b2, he3, ho2, hbb1⟩ := hB11 rfl
      refine VL_keep [0, 7, 54, 58] [(0, .pointer (some ⟨p, 0, none⟩)), (7, .int .i64 ((i : Nat) : Int)), (54, us1 7), (58, us1 11)] (by kernel_rfl) ?_
      rw [he2]
      rw [he3]
      have hzl12 := ho.lt
      have hzk4 := hhi
      have hzl13 := ho1.lt
      have hzs7 := hS.size
      have hzk5 := hbase1
      have hzl14 := ho2.lt
      refine VL_appendZ (d := 59) (e := 69) (A := A1) (m := i) (c := c1) (A2 := (some ⟨b2, 0, none⟩)) (m2 := 1) (c2 := 1) (sz := 4) (bytes := 32) (by kernel_rfl) (by kernel_rfl) (by kernel_rfl) base1 w13.heap.size (flat Ent.cells (L.take i)) (flat Ent.cells [(⟨kp, kv, kc, m⟩ : Ent)]) hr5 (by rw [flat_one, ecells_len]) (Sl.mono (Sl.cast (Own.sl ho2 ho2.lt) (by first | rfl | simp [flat])) (by first | exact Nat.le_refl _ | omega)) (flat_one' ecells_one _) (i + 1) (by omega) (by simp only [maxLen]; omega) (by omega) (by omega) ?_
      intro A2 c2 w14 hr6 hg2
      replace hr6 : RwS w14 4 base1 69 A2 (i + 1) c2 (flat Ent.cells ((L.take i) ++ ([(⟨kp, kv, kc, m⟩ : Ent)]))) := RwS.cast hr6 rfl (by simp only [flat_append, flat_one, List.append_assoc, List.nil_append, List.append_nil, show flat Ent.cells [] = [] from rfl])
      replace hg2 := Step.mono (G := fun k => base1 ≤ k) hg2 (fun i hi => (RwS.lt hr5 i hi).1)
      have hzhg2 := hg2.size
      replace ho := ho.step hg2 (by (try simp only); omega)
      replace hv := hv.step hg2 (fun k hk1 hk2 hG => by (try simp only at hG); omega)
      replace hhi := Nat.le_trans hhi (hg2).size
      replace ho1 := ho1.step hg2 (by (try simp only); omega)
      replace hS := Step.transNew hS hg2 (fun i hi hG => by (try simp only at hG); (first | show _ ∨ _ | show _ = _); omega)
      replace hbase1 := Nat.le_trans hbase1 (hg2).size
      have hlhr6 : ((L.take i) ++ ([(⟨kp, kv, kc, m⟩ : Ent)])).length = i + 1 := by have hq9 := RwS.len hr6; rw [flat_len ecells_len] at hq9; omega
      refine VL_pure 14 [0, 7, 8] [(0, .pointer (some ⟨p, 0, none⟩)), (7, .int .i64 ((i : Nat) : Int)), (8, .slice A2 (i + 1) c2)] (by kernel_rfl) rfl ?_
      refine VL_end (by kernel_rfl) ?_
      refine VQ_next ?_
      refine VC_seq ?_
      refine VC_region ?_
      refine VL_pure 5 [7, 60, 61, 64] [(7, .int .i64 ((i : Nat) : Int)), (60, .pointer (some ⟨p, 0, none⟩)), (61, .slice A2 (i + 1) c2), (64, .pointer (some ⟨p, 0, none⟩))] (by kernel_rfl) rfl ?_
      refine VL_load (d := 65) (t := 43) (a := ⟨p, 0, none⟩) (v := .slice (some ⟨sb1, so1, none⟩) n c) (by kernel_rfl) (by kernel_rfl) (Loads.own1 ho (by kernel_rfl) (by rfl)) ?_
      refine VL_pure 7 [60, 61, 65, 66] [(60, .pointer (some ⟨p, 0, none⟩)), (61, .slice A2 (i + 1) c2), (65, .slice (some ⟨sb1, so1, none⟩) n c), (66, .int .i64 ((i : Nat) : Int))] (by kernel_rfl) rfl ?_
      refine VL_sliceV (d := 67) (A := (some ⟨sb1, so1, none⟩)) (sz := 4) (len := n) (cap := c) (lo := (some ((i : Nat) : Int))) (hi := none) (mx := none) (by kernel_rfl) (by kernel_rfl) (fun h => by first | exact absurd rfl h | exact (fun h => by cases h)) (Sl2.sl hv) i n c rfl rfl rfl (by omega) (by omega) (by omega) (n - i) (by omega) (c - i) (by omega) _ (flat_cut ecells_len L i (n - i)) ?_
      intro A3 hsl1
      have hzl15 := ho.lt
      have hzk6 := hhi
      have hzl16 := ho1.lt
      have hzs8 := hS.size
      have hzk7 := hbase1
      refine VL_appendZ (d := 68) (e := 69) (A := A2) (m := (i + 1)) (c := c2) (A2 := A3) (m2 := (n - i)) (c2 := (c - i)) (sz := 4) (bytes := 32) (by kernel_rfl) (by kernel_rfl) (by kernel_rfl) base1 w14.heap.size (flat Ent.cells ((L.take i) ++ ([(⟨kp, kv, kc, m⟩ : Ent)]))) (flat Ent.cells ((L.drop i).take (n - i))) hr6 (by rw [flat_len ecells_len, show ((L.drop i).take (n - i)).length = (n - i) from (by simp only [List.length_take, List.length_drop]; have hq9 : L.length = n := hn; omega)]) (Sl.mono hsl1 (by first | exact Nat.le_refl _ | omega)) (flat_one' ecells_one _) (i + 1 + (n - i)) (by omega) (by simp only [maxLen]; omega) (by omega) (by omega) ?_
      intro A4 c3 w15 hr7 hg3
      replace hr7 : RwS w15 4 base1 69 A4 (i + 1 + (n - i)) c3 (flat Ent.cells ((L.take i) ++ ([(⟨kp, kv, kc, m⟩ : Ent)]) ++ ((L.drop i).take (n - i)))) := RwS.cast hr7 rfl (by simp only [flat_append, flat_one, List.append_assoc, List.nil_append, List.append_nil, show flat Ent.cells [] = [] from rfl])
      replace hg3 := Step.mono (G := fun k => base1 ≤ k) hg3 (fun i hi => (RwS.lt hr6 i hi).1)
      have hzhg3 := hg3.size
      replace ho := ho.step hg3 (by (try simp only); omega)
      replace hv := hv.step hg3 (fun k hk1 hk2 hG => by (try simp only at hG); omega)
      replace hhi := Nat.le_trans hhi (hg3).size
      replace ho1 := ho1.step hg3 (by (try simp only); omega)
      replace hS := Step.transNew hS hg3 (fun i hi hG => by (try simp only at hG); (first | show _ ∨ _ | show _ = _); omega)
      replace hbase1 := Nat.le_trans hbase1 (hg3).size
      have hlhr7 : ((L.take i) ++ ([(⟨kp, kv, kc, m⟩ : Ent)]) ++ ((L.drop i).take (n - i))).length = i + 1 + (n - i) := by have hq9 := RwS.len hr7; rw [flat_len ecells_len] at hq9; omega
      refine VL_pure 11 [68, 70] [(68, .slice A4 (i + 1 + (n - i)) c3), (70, .pointer (some ⟨p, 0, none⟩))] (by kernel_rfl) rfl ?_
      refine VL_store (b := p) (o := 0) (vs := [.slice A4 (i + 1 + (n - i)) c3]) (by kernel_rfl) (by kernel_rfl) ho (Nat.le_of_ble_eq_true (by kernel_rfl)) ?_
      intro w16 hw1
      replace hv := hv.step hw1.step (fun k hk1 hk2 (hF : k = p) => by omega)
      replace hhi := Nat.le_trans hhi (hw1.step).size
      replace ho1 := ho1.step hw1.step (show ¬ b1 = p by omega)
      replace hS := Step.trans hS (Step.mono hw1.step (by intro i hi; first | exact hi | (have hi9 : i = p := hi; (first | show _ ∨ _ | show _ = _); omega)))
      replace hbase1 := Nat.le_trans hbase1 (hw1.step).size
      replace hr7 := hr7.step hw1.step (fun k hk (hF : k = p) => by omega)
      have ho3 : Own w16 p #[.slice A4 (i + 1 + (n - i)) c3, .int .i64 room] 54 := Own.cast hw1.own (by kernel_rfl)
      have hzhw1 := hw1.same
      refine VL_end (by kernel_rfl) ?_
      refine VQ_next ?_
      refine VC_seq ?_
      refine VC_region ?_
      refine VL_pure 1 [6] [(6, .int .i64 0)] (by kernel_rfl) rfl ?_
      refine VL_end (by kernel_rfl) ?_
      refine VQ_next ?_
      refine VC_ret ?_
      refine VQ_ret1 (.int .i64 0) (.inr rfl) rfl rfl ?_
      have hie : aheadE L kp kv kc = i := by
        have h9 : aheadE (L.drop i) kp kv kc = 0 := by first | (rw [show i = n by omega, List.drop_eq_nil_of_le (by omega)]; rfl) | exact aheadE_stop hy1 (by first | assumption | simp_all)
        omega
      exact ⟨rfl, Rt.sl ho3 (by rw [insE_len]; omega) (RwS.cast hr7 (by omega) (by show _ = flat Ent.cells (L.take (aheadE L kp kv kc) ++ _ :: L.drop (aheadE L kp kv kc)); rw [hie, List.take_of_length_le (show (L.drop i).length ≤ _ by rw [List.length_drop]; omega)]; simp only [List.append_assoc, List.singleton_append, List.cons_append, List.nil_append])) (by omega), hS⟩
  · refine VT_eq [(7, .bool false), (6, .bool false), (5, .int .i64 ((n : Nat) : Int)), (4, .slice (some ⟨sb1, so1, none⟩) n c), (3, .pointer (some ⟨p, 0, none⟩)), (2, .pointer (some ⟨p, 0, none⟩)), (1, .pointer (some ⟨p, 0, none⟩)), (0, .int .i64 ((i : Nat) : Int))] (by simp only [hg1, Bool.not_true, Bool.not_false]) ?_
    try simp only [bne_iff_ne, beq_iff_eq, decide_eq_true_eq, decide_eq_false_iff_not, bne_eq_false_iff_eq, beq_eq_false_iff_ne, ne_eq] at hg1
    refine VT_pures 9 (kn' := [(16, undef), (15, undef), (14, undef), (13, undef), (12, undef), (11, undef), (10, undef), (9, undef), (8, undef), (7, .bool false), (6, .bool false), (5, .int .i64 ((n : Nat) : Int)), (4, .slice (some ⟨sb1, so1, none⟩) n c), (3, .pointer (some ⟨p, 0, none⟩)), (2, .pointer (some ⟨p, 0, none⟩)), (1, .pointer (some ⟨p, 0, none⟩)), (0, .int .i64 ((i : Nat) : Int))]) (by kernel_rfl) ?_
    refine VT_end ?_
    intro w17 hs6
    replace ho := ho.no hs6
    replace hv := hv.step hs6 (fun k hk1 hk2 hF => hF)
    replace hhi := Nat.le_trans hhi (hs6).size
    replace ho1 := ho1.no hs6
    replace hS := Step.trans hS (Step.weak hs6)
    refine VL_keep [0, 2, 4, 7, 33, 41, 42] [(0, .pointer (some ⟨p, 0, none⟩)), (2, .int .i64 m), (4, .pointer (some ⟨b1, 0, none⟩)), (7, .int .i64 ((i : Nat) : Int)), (33, .bool false), (41, undef), (42, undef)] (by kernel_rfl) ?_
    refine VL_pure 19 [0, 2, 4, 7, 44] [(0, .pointer (some ⟨p, 0, none⟩)), (2, .int .i64 m), (4, .pointer (some ⟨b1, 0, none⟩)), (7, .int .i64 ((i : Nat) : Int)), (44, .bool false)] (by kernel_rfl) rfl ?_
    refine VL_end (by kernel_rfl) ?_
    refine VQ_next ?_
    refine VC_false (by kernel_rfl) ?_
    refine VC_exit ?_
    refine VQ_then_exit ?_
    refine VQ_then_exit ?_
    refine VQ_block_hit ?_
    refine VQ_next ?_
    refine VC_seq ?_
    refine VC_region ?_
    refine VL_pure 1 [0, 2, 4, 7, 8] [(0, .pointer (some ⟨p, 0, none⟩)), (2, .int .i64 m), (4, .pointer (some ⟨b1, 0, none⟩)), (7, .int .i64 ((i : Nat) : Int)), (8, .slice none 0 0)] (by kernel_rfl) rfl ?_
    refine VL_end (by kernel_rfl) ?_
    refine VQ_next ?_
    refine VC_seq ?_
    obtain ⟨base2, hbase2E⟩ : ∃ x, x = w17.heap.size := ⟨_, rfl⟩
    have hbase2 : base2 ≤ w17.heap.size := Nat.le_of_eq hbase2E
    have hzl17 := ho.lt
    have hzk8 := hhi
    have hzl18 := ho1.lt
    have hzs9 := hS.size
    have hzk9 := hbase2
    refine VC_ex [[], [], [1], [1, 2], [1, 2, 3], [], [1, 2, 3, 4, 5], [0, 1, 2, 3, 4, 5, 6], [], [], [8, 9], [8, 9, 10], [0, 1, 2, 3, 4, 5, 6, 7, 8, 9, 10, 11], [0, 1, 2, 3, 4, 5, 6, 7, 8, 9, 10, 11, 12]] 12 [.slice none 0 0, .pointer (some ⟨p, 0, none⟩), .pointer (some ⟨p, 0, none⟩), .pointer (some ⟨p, 0, none⟩), .slice (some ⟨sb1, so1, none⟩) n c, .int .i64 ((i : Nat) : Int), .slice (some ⟨sb1, so1, none⟩) i c, undef, .agg #[.int .i64 kp, .int .i64 kv, .int .i64 kc], .int .i64 m, .agg #[.int .i64 kp, .int .i64 kv, .int .i64 kc, .int .i64 m], undef] [0, 1, 2, 3, 5, 9, 10] [4, 6, 8] [7, 11] (fun k9 v9 x9 => (k9 = 7 → ∃ A9 c9, v9 = .slice A9 i c9 ∧ RwS x9 4 base2 69 A9 i c9 (flat Ent.cells (L.take i))) ∧ (k9 = 11 → ∃ b9, v9 = .slice (some ⟨b9, 0, none⟩) 1 1 ∧ Own x9 b9 #[.int .i64 kp, .int .i64 kv, .int .i64 kc, .int .i64 m] 69 ∧ base2 ≤ b9)) (by kernel_rfl) (by kernel_rfl) (by kernel_rfl) (fun _ _ _ _ h9 hs9 => ⟨fun e9 => (by obtain ⟨A9, c9, g1, g2⟩ := h9.1 e9; exact ⟨A9, c9, g1, g2.no hs9⟩), fun e9 => (by obtain ⟨b9, g1, g2, g3⟩ := h9.2 e9; exact ⟨b9, g1, g2.no hs9, g3⟩)⟩) (by kernel_rfl) (by kernel_rfl) (by kernel_rfl) (by kernel_rfl) ?_ ?_ ?_
    · intro w18 hs7
      replace ho := ho.no hs7
      replace hv := hv.step hs7 (fun k hk1 hk2 hF => hF)
      replace hhi := Nat.le_trans hhi (hs7).size
      replace ho1 := ho1.no hs7
      replace hS := Step.trans hS (Step.weak hs7)
      replace hbase2 := Nat.le_trans hbase2 (hs7).size
      exact ⟨Det1_load (d := 51) (t := 43) (a := ⟨p, 0, none⟩) (by kernel_rfl) (by kernel_rfl) (Loads.own1 ho (by kernel_rfl) (by rfl)), Det1_sliceZ (d := 53) (sz := 4) (len := n) (cap := c) (H := i) (A := (some ⟨sb1, so1, none⟩)) (hi := some ((i : Nat) : Int)) (by kernel_rfl) (by kernel_rfl) rfl (by omega), Det1_load (d := 55) (t := 29) (a := ⟨b1, 0, none⟩) (by kernel_rfl) (by kernel_rfl) (Loads.ownL ho1 (n := 3) (by kernel_rfl) (by kernel_rfl) (by kernel_rfl)), trivial⟩
    · intro w18 hs7
      have hzx := hs7.size
      replace ho := ho.no hs7
      replace hv := hv.step hs7 (fun k hk1 hk2 hF => hF)
      replace hhi := Nat.le_trans hhi (hs7).size
      replace ho1 := ho1.no hs7
      replace hS := Step.trans hS (Step.weak hs7)
      replace hbase2 := Nat.le_trans hbase2 (hs7).size
      exact ⟨Ex1_appendN (d := 54) (e := 69) (m2 := i) (c2 := c) (sz := 4) (bytes := 32) (A2 := (some ⟨sb1, so1, none⟩)) (by kernel_rfl) (by kernel_rfl) (by kernel_rfl) (flat Ent.cells (L.take i)) (by rw [flat_len ecells_len, show (L.take i).length = i from (by rw [List.length_take]; have hq9 : L.length = n := hn; omega)]) (Sl.cast (Sl.take (Sl2.sl hv) (i * 4)) (flat_take ecells_len L i).symm) (flat_one' ecells_one _) (by simp only [maxLen]; omega) (by omega) (fun A9 c9 w9 g => ⟨fun _ => ⟨A9, c9, rfl, RwS.low g (by omega)⟩, fun e => absurd e (by decide)⟩), Ex1_bs (d := 58) (e := 69) (c := #[.int .i64 kp, .int .i64 kv, .int .i64 kc, .int .i64 m]) (len := 1) (by kernel_rfl) (by kernel_rfl) (fun b w9 hn => ⟨fun e => absurd e (by decide), fun _ => ⟨_, rfl, hn.own, by have hq := hn.eqb; omega⟩⟩), trivial⟩
    intro w19 us2 hs8 hB2
    replace ho := ho.no hs8
    replace hv := hv.step hs8 (fun k hk1 hk2 hF => hF)
    replace hhi := Nat.le_trans hhi (hs8).size
    replace ho1 := ho1.no hs8
    replace hS := Step.trans hS (Step.weak hs8)
    replace hbase2 := Nat.le_trans hbase2 (hs8).size
    obtain ⟨⟨hB7, -⟩, ⟨-, hB11⟩, -⟩ := hB2
    obtain ⟨A5, c4, he4, hr8⟩ := hB7 rfl
    have hlhr8 : (L.take i).length = i := by have hq9 := RwS.len hr8; rw [flat_len ecells_len] at hq9; omega
    obtain ⟨b3, he5, ho4, hbb2⟩ := hB11 rfl
    refine VL_keep [0, 7, 54, 58] [(0, .pointer (some ⟨p, 0, none⟩)), (7, .int .i64 ((i : Nat) : Int)), (54, us2 7), (58, us2 11)] (by kernel_rfl) ?_
    rw [he4]
    rw [he5]
    have hzl19 := ho.lt
    have hzk10 := hhi
    have hzl20 := ho1.lt
    have hzs10 := hS.size
    have hzk11 := hbase2
    have hzl21 := ho4.lt
    refine VL_appendZ (d := 59) (e := 69) (A := A5) (m := i) (c := c4) (A2 := (some ⟨b3, 0, none⟩)) (m2 := 1) (c2 := 1) (sz := 4) (bytes := 32) (by kernel_rfl) (by kernel_rfl) (by kernel_rfl) base2 w19.heap.size (flat Ent.cells (L.take i)) (flat Ent.cells [(⟨kp, kv, kc, m⟩ : Ent)]) hr8 (by rw [flat_one, ecells_len]) (Sl.mono (Sl.cast (Own.sl ho4 ho4.lt) (by first | rfl | simp [flat])) (by first | exact Nat.le_refl _ | omega)) (flat_one' ecells_one _) (i + 1) (by omega) (by simp only [maxLen]; omega) (by omega) (by omega) ?_
    intro A6 c5 w20 hr9 hg4
    replace hr9 : RwS w20 4 base2 69 A6 (i + 1) c5 (flat Ent.cells ((L.take i) ++ ([(⟨kp, kv, kc, m⟩ : Ent)]))) := RwS.cast hr9 rfl (by simp only [flat_append, flat_one, List.append_assoc, List.nil_append, List.append_nil, show flat Ent.cells [] = [] from rfl])
    replace hg4 := Step.mono (G := fun k => base2 ≤ k) hg4 (fun i hi => (RwS.lt hr8 i hi).1)
    have hzhg4 := hg4.size
    replace ho := ho.step hg4 (by (try simp only); omega)
    replace hv := hv.step hg4 (fun k hk1 hk2 hG => by (try simp only at hG); omega)
    replace hhi := Nat.le_trans hhi (hg4).size
    replace ho1 := ho1.step hg4 (by (try simp only); omega)
    replace hS := Step.transNew hS hg4 (fun i hi hG => by (try simp only at hG); (first | show _ ∨ _ | show _ = _); omega)
    replace hbase2 := Nat.le_trans hbase2 (hg4).size
    have hlhr9 : ((L.take i) ++ ([(⟨kp, kv, kc, m⟩ : Ent)])).length = i + 1 := by have hq9 := RwS.len hr9; rw [flat_len ecells_len] at hq9; omega
    refine VL_pure 14 [0, 7, 8] [(0, .pointer (some ⟨p, 0, none⟩)), (7, .int .i64 ((i : Nat) : Int)), (8, .slice A6 (i + 1) c5)] (by kernel_rfl) rfl ?_
    refine VL_end (by kernel_rfl) ?_
    refine VQ_next ?_
    refine VC_seq ?_
    refine VC_region ?_
    refine VL_pure 5 [7, 60, 61, 64] [(7, .int .i64 ((i : Nat) : Int)), (60, .pointer (some ⟨p, 0, none⟩)), (61, .slice A6 (i + 1) c5), (64, .pointer (some ⟨p, 0, none⟩))] (by kernel_rfl) rfl ?_
    refine VL_load (d := 65) (t := 43) (a := ⟨p, 0, none⟩) (v := .slice (some ⟨sb1, so1, none⟩) n c) (by kernel_rfl) (by kernel_rfl) (Loads.own1 ho (by kernel_rfl) (by rfl)) ?_
    refine VL_pure 7 [60, 61, 65, 66] [(60, .pointer (some ⟨p, 0, none⟩)), (61, .slice A6 (i + 1) c5), (65, .slice (some ⟨sb1, so1, none⟩) n c), (66, .int .i64 ((i : Nat) : Int))] (by kernel_rfl) rfl ?_
    refine VL_sliceV (d := 67) (A := (some ⟨sb1, so1, none⟩)) (sz := 4) (len := n) (cap := c) (lo := (some ((i : Nat) : Int))) (hi := none) (mx := none) (by kernel_rfl) (by kernel_rfl) (fun h => by first | exact absurd rfl h | exact (fun h => by cases h)) (Sl2.sl hv) i n c rfl rfl rfl (by omega) (by omega) (by omega) (n - i) (by omega) (c - i) (by omega) _ (flat_cut ecells_len L i (n - i)) ?_
    intro A7 hsl2
    have hzl22 := ho.lt
    have hzk12 := hhi
    have hzl23 := ho1.lt
    have hzs11 := hS.size
    have hzk13 := hbase2
    refine VL_appendZ (d := 68) (e := 69) (A := A6) (m := (i + 1)) (c := c5) (A2 := A7) (m2 := (n - i)) (c2 := (c - i)) (sz := 4) (bytes := 32) (by kernel_rfl) (by kernel_rfl) (by kernel_rfl) base2 w20.heap.size (flat Ent.cells ((L.take i) ++ ([(⟨kp, kv, kc, m⟩ : Ent)]))) (flat Ent.cells ((L.drop i).take (n - i))) hr9 (by rw [flat_len ecells_len, show ((L.drop i).take (n - i)).length = (n - i) from (by simp only [List.length_take, List.length_drop]; have hq9 : L.length = n := hn; omega)]) (Sl.mono hsl2 (by first | exact Nat.le_refl _ | omega)) (flat_one' ecells_one _) (i + 1 + (n - i)) (by omega) (by simp only [maxLen]; omega) (by omega) (by omega) ?_
    intro A8 c6 w21 hr10 hg5
    replace hr10 : RwS w21 4 base2 69 A8 (i + 1 + (n - i)) c6 (flat Ent.cells ((L.take i) ++ ([(⟨kp, kv, kc, m⟩ : Ent)]) ++ ((L.drop i).take (n - i)))) := RwS.cast hr10 rfl (by simp only [flat_append, flat_one, List.append_assoc, List.nil_append, List.append_nil, show flat Ent.cells [] = [] from rfl])
    replace hg5 := Step.mono (G := fun k => base2 ≤ k) hg5 (fun i hi => (RwS.lt hr9 i hi).1)
    have hzhg5 := hg5.size
    replace ho := ho.step hg5 (by (try simp only); omega)
    replace hv := hv.step hg5 (fun k hk1 hk2 hG => by (try simp only at hG); omega)
    replace hhi := Nat.le_trans hhi (hg5).size
    replace ho1 := ho1.step hg5 (by (try simp only); omega)
    replace hS := Step.transNew hS hg5 (fun i hi hG => by (try simp only at hG); (first | show _ ∨ _ | show _ = _); omega)
    replace hbase2 := Nat.le_trans hbase2 (hg5).size
    have hlhr10 : ((L.take i) ++ ([(⟨kp, kv, kc, m⟩ : Ent)]) ++ ((L.drop i).take (n - i))).length = i + 1 + (n - i) := by have hq9 := RwS.len hr10; rw [flat_len ecells_len] at hq9; omega
    refine VL_pure 11 [68, 70] [(68, .slice A8 (i + 1 + (n - i)) c6), (70, .pointer (some ⟨p, 0, none⟩))] (by kernel_rfl) rfl ?_
    refine VL_store (b := p) (o := 0) (vs := [.slice A8 (i + 1 + (n - i)) c6]) (by kernel_rfl) (by kernel_rfl) ho (Nat.le_of_ble_eq_true (by kernel_rfl)) ?_
    intro w22 hw2
    replace hv := hv.step hw2.step (fun k hk1 hk2 (hF : k = p) => by omega)
    replace hhi := Nat.le_trans hhi (hw2.step).size
    replace ho1 := ho1.step hw2.step (show ¬ b1 = p by omega)
    replace hS := Step.trans hS (Step.mono hw2.step (by intro i hi; first | exact hi | (have hi9 : i = p := hi; (first | show _ ∨ _ | show _ = _); omega)))
    replace hbase2 := Nat.le_trans hbase2 (hw2.step).size
    replace hr10 := hr10.step hw2.step (fun k hk (hF : k = p) => by omega)
    have ho5 : Own w22 p #[.slice A8 (i + 1 + (n - i)) c6, .int .i64 room] 54 := Own.cast hw2.own (by kernel_rfl)
    have hzhw2 := hw2.same
    refine VL_end (by kernel_rfl) ?_
    refine VQ_next ?_
    refine VC_seq ?_
    refine VC_region ?_
    refine VL_pure 1 [6] [(6, .int .i64 0)] (by kernel_rfl) rfl ?_
    refine VL_end (by kernel_rfl) ?_
    refine VQ_next ?_
    refine VC_ret ?_
    refine VQ_ret1 (.int .i64 0) (.inr rfl) rfl rfl ?_
    have hie : aheadE L kp kv kc = i := by
      have h9 : aheadE (L.drop i) kp kv kc = 0 := by first | (rw [show i = n by omega, List.drop_eq_nil_of_le (by omega)]; rfl)
      omega
    exact ⟨rfl, Rt.sl ho5 (by rw [insE_len]; omega) (RwS.cast hr10 (by omega) (by show _ = flat Ent.cells (L.take (aheadE L kp kv kc) ++ _ :: L.drop (aheadE L kp kv kc)); rw [hie, List.take_of_length_le (show (L.drop i).length ≤ _ by rw [List.length_drop]; omega)]; simp only [List.append_assoc, List.singleton_append, List.cons_append, List.nil_append])) (by omega), hS⟩

set_option maxRecDepth 100000 in
set_option maxHeartbeats 4000000 in
theorem rput_first (p lo : Nat) (room : Int) (L : List Ent) (kp kv kc m : Int) (w : World) (hR : Rt w p lo room L) (hm : L.length ≤ 1000) (hrr : rightB kp kv kc = true) (hat : atI L kp kv kc = -1) (hrm : (L.length : Int) < room) (hlo : p < lo) (hlw : lo ≤ w.heap.size) (h0 : L = []) :
    CV Try.prog 22 #[.pointer (some ⟨p, 0, none⟩), .agg #[.int .i64 kp, .int .i64 kv, .int .i64 kc], .int .i64 m] w (fun x w1 => x = .int .i64 0 ∧ Rt w1 p lo room (insE L ⟨kp, kv, kc, m⟩) ∧ Step (Just p) w w1) := by
  have hS : Step (Just p) w w := Step.refl _ _
  obtain ⟨A, n, c, hi, ho, hn, hcn, hhi, hv⟩ := hR
  obtain rfl : n = 0 := by rw [← hn, h0]; rfl
  have hl0 : L.length = 0 := hn
  refine CV_enter Try.f22 _ 71 [(0, .pointer (some ⟨p, 0, none⟩)), (1, .agg #[.int .i64 kp, .int .i64 kv, .int .i64 kc]), (2, .int .i64 m)] Try.func22 rfl rfl (by kernel_rfl) rfl ?_
  refine VC_seq ?_
  refine VC_region ?_
  have hzs1 := hS.size
  have hzl1 := ho.lt
  have hzk1 := hhi
  refine VL_box (d := 4) (t := 29) (c := #[.int .i64 kp, .int .i64 kv, .int .i64 kc]) (by kernel_rfl) (by kernel_rfl) ?_
  intro b1 w1 hn1
  replace hS := Step.trans hS (Step.weak (hn1.step No))
  replace ho := ho.no (hn1.step No)
  replace hv := hv.step (hn1.step No) (fun k hk1 hk2 hF => hF)
  replace hhi := Nat.le_trans hhi (hn1.step No).size
  have ho1 := hn1.own
  have hzhn1 := hn1.size
  have hqhn1 := hn1.eqb
  refine VL_pure 2 [0, 2, 4] [(0, .pointer (some ⟨p, 0, none⟩)), (2, .int .i64 m), (4, .pointer (some ⟨b1, 0, none⟩))] (by kernel_rfl) rfl ?_
  refine VL_end (by kernel_rfl) ?_
  refine VQ_next ?_
  refine VC_seq ?_
  refine VC_seq ?_
  refine VC_region ?_
  refine VL_load (d := 9) (t := 29) (a := ⟨b1, 0, none⟩) (v := .agg #[.int .i64 kp, .int .i64 kv, .int .i64 kc]) (by kernel_rfl) (by kernel_rfl) (Loads.ownL ho1 (n := 3) (by kernel_rfl) (by kernel_rfl) (by kernel_rfl)) ?_
  have hzs2 := hS.size
  have hzl2 := ho.lt
  have hzl3 := ho1.lt
  refine VL_call (d := 10) (f := 26) (args := #[.agg #[.int .i64 kp, .int .i64 kv, .int .i64 kc]]) (by kernel_rfl) (by kernel_rfl) (by kernel_rfl) Try.call26 (rright_any kp kv kc _) ?_
  rintro _ w2 ⟨rfl, hc1⟩
  replace hS := Step.trans hS (Step.weak hc1)
  replace ho := ho.no hc1
  replace hv := hv.step hc1 (fun k hk1 hk2 hF => hF)
  replace hhi := Nat.le_trans hhi (hc1).size
  replace ho1 := ho1.no hc1
  refine VL_pure 3 [0, 2, 4, 11] [(0, .pointer (some ⟨p, 0, none⟩)), (2, .int .i64 m), (4, .pointer (some ⟨b1, 0, none⟩)), (11, .bool (!(rightB kp kv kc)))] (by kernel_rfl) rfl ?_
  refine VL_end (by kernel_rfl) ?_
  refine VQ_next ?_
  refine VC_is (b := !(rightB kp kv kc)) false (by kernel_rfl) (by rw [hrr]; rfl) ?_
  refine VC_ite_false ?_
  refine VC_skip ?_
  refine VQ_next ?_
  refine VC_seq ?_
  refine VC_seq ?_
  refine VC_region ?_
  refine VL_pure 1 [0, 2, 4, 12] [(0, .pointer (some ⟨p, 0, none⟩)), (2, .int .i64 m), (4, .pointer (some ⟨b1, 0, none⟩)), (12, .pointer (some ⟨p, 0, none⟩))] (by kernel_rfl) rfl ?_
  refine VL_load (d := 13) (t := 29) (a := ⟨b1, 0, none⟩) (v := .agg #[.int .i64 kp, .int .i64 kv, .int .i64 kc]) (by kernel_rfl) (by kernel_rfl) (Loads.ownL ho1 (n := 3) (by kernel_rfl) (by kernel_rfl) (by kernel_rfl)) ?_
  have hzs3 := hS.size
  have hzl4 := ho.lt
  have hzl5 := ho1.lt
  refine VL_call (d := 14) (f := 32) (args := #[.pointer (some ⟨p, 0, none⟩), .agg #[.int .i64 kp, .int .i64 kv, .int .i64 kc]]) (by kernel_rfl) (by kernel_rfl) (by kernel_rfl) Try.call32 (rat_at ⟨_, _, _, _, ho, hn, hcn, hhi, hv⟩ hm hat) ?_
  rintro _ w3 ⟨rfl, hc2⟩
  replace hS := Step.trans hS (Step.weak hc2)
  replace ho := ho.no hc2
  replace hv := hv.step hc2 (fun k hk1 hk2 hF => hF)
  replace hhi := Nat.le_trans hhi (hc2).size
  replace ho1 := ho1.no hc2
  refine VL_pure 4 [0, 2, 4, 15] [(0, .pointer (some ⟨p, 0, none⟩)), (2, .int .i64 m), (4, .pointer (some ⟨b1, 0, none⟩)), (15, .bool false)] (by kernel_rfl) rfl ?_
  refine VL_end (by kernel_rfl) ?_
  refine VQ_next ?_
  refine VC_false (by kernel_rfl) ?_
  refine VC_skip ?_
  refine VQ_next ?_
  refine VC_seq ?_
  refine VC_seq ?_
  refine VC_det [[], [0], [0, 1], [0, 1, 2], [0, 1, 2, 3], [], [5], [5, 6], [5, 6, 7], [0, 1, 2, 3, 4, 5, 6, 7, 8]] 9 [.pointer (some ⟨p, 0, none⟩), .pointer (some ⟨p, 0, none⟩), .pointer (some ⟨p, 0, none⟩), .slice A 0 c, .int .i64 0, .pointer (some ⟨p, 0, none⟩), .pointer (some ⟨p, 0, none⟩), .pointer (some ⟨p, 1, none⟩), .int .i64 room] [0, 1, 2, 4, 5, 6, 7] [3, 8] (by kernel_rfl) (by kernel_rfl) (by kernel_rfl) (by kernel_rfl) ?_ ?_
  · intro w4 hs1
    replace hS := Step.trans hS (Step.weak hs1)
    replace ho := ho.no hs1
    replace hv := hv.step hs1 (fun k hk1 hk2 hF => hF)
    replace hhi := Nat.le_trans hhi (hs1).size
    replace ho1 := ho1.no hs1
    exact ⟨Det1_load (d := 19) (t := 43) (a := ⟨p, 0, none⟩) (by kernel_rfl) (by kernel_rfl) (Loads.own1 ho (by kernel_rfl) (by rfl)), Det1_load (d := 24) (t := 3) (a := ⟨p, 1, none⟩) (by kernel_rfl) (by kernel_rfl) (Loads.own1 ho (by kernel_rfl) (by rfl)), trivial⟩
  intro w4 hs1
  replace hS := Step.trans hS (Step.weak hs1)
  replace ho := ho.no hs1
  replace hv := hv.step hs1 (fun k hk1 hk2 hF => hF)
  replace hhi := Nat.le_trans hhi (hs1).size
  replace ho1 := ho1.no hs1
  refine VL_keep [0, 2, 4, 20, 24] [(0, .pointer (some ⟨p, 0, none⟩)), (2, .int .i64 m), (4, .pointer (some ⟨b1, 0, none⟩)), (20, .int .i64 0), (24, .int .i64 room)] (by kernel_rfl) ?_
  refine VL_pure 10 [0, 2, 4, 25] [(0, .pointer (some ⟨p, 0, none⟩)), (2, .int .i64 m), (4, .pointer (some ⟨b1, 0, none⟩)), (25, .bool (decide (0 ≥ room)))] (by kernel_rfl) rfl ?_
  refine VL_end (by kernel_rfl) ?_
  refine VQ_next ?_
  refine VC_is (b := decide (0 ≥ room)) false (by kernel_rfl) (decide_eq_false (by omega)) ?_
  refine VC_ite_false ?_
  refine VC_skip ?_
  refine VQ_next ?_
  refine VC_seq ?_
  refine VC_region ?_
  refine VL_pure 1 [0, 2, 4, 7] [(0, .pointer (some ⟨p, 0, none⟩)), (2, .int .i64 m), (4, .pointer (some ⟨b1, 0, none⟩)), (7, .int .i64 0)] (by kernel_rfl) rfl ?_
  refine VL_end (by kernel_rfl) ?_
  refine VQ_next ?_
  refine VC_seq ?_
  refine VC_block ?_
  refine VC_rounds ?_
  refine VCL_round ?_
  refine VC_seq ?_
  refine VC_seq ?_
  refine VC_det [[], [], [1], [1, 2], [1, 2, 3], [1, 2, 3, 4], [0, 1, 2, 3, 4, 5], [0, 1, 2, 3, 4, 5, 6], [0, 1, 2, 3, 4, 5, 6, 7], [0, 1, 2, 3, 4, 5, 6, 7, 8], [0, 1, 2, 3, 4, 5, 6, 7, 8, 9], [0, 1, 2, 3, 4, 5, 6, 7, 8, 9, 10], [0, 1, 2, 3, 4, 5, 6, 7], [0, 1, 2, 3, 4, 5, 6, 7, 8, 9, 10, 11, 12], [0, 1, 2, 3, 4, 5, 6, 7, 8, 9, 10, 11, 12, 13], [0, 1, 2, 3, 4, 5, 6, 7, 8, 9, 10, 11, 12, 13, 14], [0, 1, 2, 3, 4, 5, 6, 7], [0, 1, 2, 3, 4, 5, 6, 7, 8, 9, 10, 11, 12, 13, 14, 15, 16], [0, 1, 2, 3, 4, 5, 6, 7, 8, 9, 10, 11, 12, 13, 14, 15, 16, 17]] 17 [.int .i64 0, .pointer (some ⟨p, 0, none⟩), .pointer (some ⟨p, 0, none⟩), .pointer (some ⟨p, 0, none⟩), .slice A 0 c, .int .i64 0, .bool false, .bool false, undef, undef, undef, undef, undef, undef, undef, undef, undef] [0, 1, 2, 3, 5, 6, 7, 8, 9, 10, 11, 12, 13, 14, 15, 16] [4] (by kernel_rfl) (by kernel_rfl) (by kernel_rfl) (by kernel_rfl) ?_ ?_
  · intro w5 hs2
    replace hS := Step.trans hS (Step.weak hs2)
    replace ho := ho.no hs2
    replace hv := hv.step hs2 (fun k hk1 hk2 hF => hF)
    replace hhi := Nat.le_trans hhi (hs2).size
    replace ho1 := ho1.no hs2
    exact ⟨Det1_load (d := 30) (t := 43) (a := ⟨p, 0, none⟩) (by kernel_rfl) (by kernel_rfl) (Loads.own1 ho (by kernel_rfl) (by rfl)), trivial⟩
  intro w5 hs2
  replace hS := Step.trans hS (Step.weak hs2)
  replace ho := ho.no hs2
  replace hv := hv.step hs2 (fun k hk1 hk2 hF => hF)
  replace hhi := Nat.le_trans hhi (hs2).size
  replace ho1 := ho1.no hs2
  refine VL_keep [0, 2, 4, 7, 33, 41, 42] [(0, .pointer (some ⟨p, 0, none⟩)), (2, .int .i64 m), (4, .pointer (some ⟨b1, 0, none⟩)), (7, .int .i64 0), (33, .bool false), (41, undef), (42, undef)] (by kernel_rfl) ?_
  refine VL_pure 19 [0, 2, 4, 7, 44] [(0, .pointer (some ⟨p, 0, none⟩)), (2, .int .i64 m), (4, .pointer (some ⟨b1, 0, none⟩)), (7, .int .i64 0), (44, .bool false)] (by kernel_rfl) rfl ?_
  refine VL_end (by kernel_rfl) ?_
  refine VQ_next ?_
  refine VC_false (by kernel_rfl) ?_
  refine VC_exit ?_
  refine VQ_then_exit ?_
  refine VQ_then_exit ?_
  refine VQ_block_hit ?_
  refine VQ_next ?_
  refine VC_seq ?_
  refine VC_region ?_
  refine VL_pure 1 [0, 2, 4, 7, 8] [(0, .pointer (some ⟨p, 0, none⟩)), (2, .int .i64 m), (4, .pointer (some ⟨b1, 0, none⟩)), (7, .int .i64 0), (8, .slice none 0 0)] (by kernel_rfl) rfl ?_
  refine VL_end (by kernel_rfl) ?_
  refine VQ_next ?_
  refine VC_seq ?_
  obtain ⟨base1, hbase1E⟩ : ∃ x, x = w5.heap.size := ⟨_, rfl⟩
  have hbase1 : base1 ≤ w5.heap.size := Nat.le_of_eq hbase1E
  have hzs4 := hS.size
  have hzl6 := ho.lt
  have hzk2 := hhi
  have hzl7 := ho1.lt
  have hzk3 := hbase1
  refine VC_ex [[], [], [1], [1, 2], [1, 2, 3], [], [1, 2, 3, 4, 5], [0, 1, 2, 3, 4, 5, 6], [], [], [8, 9], [8, 9, 10], [0, 1, 2, 3, 4, 5, 6, 7, 8, 9, 10, 11], [0, 1, 2, 3, 4, 5, 6, 7, 8, 9, 10, 11, 12]] 12 [.slice none 0 0, .pointer (some ⟨p, 0, none⟩), .pointer (some ⟨p, 0, none⟩), .pointer (some ⟨p, 0, none⟩), .slice A 0 c, .int .i64 0, .slice A 0 c, undef, .agg #[.int .i64 kp, .int .i64 kv, .int .i64 kc], .int .i64 m, .agg #[.int .i64 kp, .int .i64 kv, .int .i64 kc, .int .i64 m], undef] [0, 1, 2, 3, 5, 9, 10] [4, 6, 8] [7, 11] (fun k9 v9 x9 => (k9 = 7 → ∃ A9 c9, v9 = .slice A9 0 c9 ∧ RwS x9 4 base1 69 A9 0 c9 (flat Ent.cells (L.take 0))) ∧ (k9 = 11 → ∃ b9, v9 = .slice (some ⟨b9, 0, none⟩) 1 1 ∧ Own x9 b9 #[.int .i64 kp, .int .i64 kv, .int .i64 kc, .int .i64 m] 69 ∧ base1 ≤ b9)) (by kernel_rfl) (by kernel_rfl) (by kernel_rfl) (fun _ _ _ _ h9 hs9 => ⟨fun e9 => (by obtain ⟨A9, c9, g1, g2⟩ := h9.1 e9; exact ⟨A9, c9, g1, g2.no hs9⟩), fun e9 => (by obtain ⟨b9, g1, g2, g3⟩ := h9.2 e9; exact ⟨b9, g1, g2.no hs9, g3⟩)⟩) (by kernel_rfl) (by kernel_rfl) (by kernel_rfl) (by kernel_rfl) ?_ ?_ ?_
  · intro w6 hs3
    replace hS := Step.trans hS (Step.weak hs3)
    replace ho := ho.no hs3
    replace hv := hv.step hs3 (fun k hk1 hk2 hF => hF)
    replace hhi := Nat.le_trans hhi (hs3).size
    replace ho1 := ho1.no hs3
    replace hbase1 := Nat.le_trans hbase1 (hs3).size
    exact ⟨Det1_load (d := 51) (t := 43) (a := ⟨p, 0, none⟩) (by kernel_rfl) (by kernel_rfl) (Loads.own1 ho (by kernel_rfl) (by rfl)), Det1_sliceZ (d := 53) (sz := 4) (len := 0) (cap := c) (H := 0) (A := A) (hi := some ((0 : Nat) : Int)) (by kernel_rfl) (by kernel_rfl) rfl (by omega), Det1_load (d := 55) (t := 29) (a := ⟨b1, 0, none⟩) (by kernel_rfl) (by kernel_rfl) (Loads.ownL ho1 (n := 3) (by kernel_rfl) (by kernel_rfl) (by kernel_rfl)), trivial⟩
  · intro w6 hs3
    have hzx := hs3.size
    replace hS := Step.trans hS (Step.weak hs3)
    replace ho := ho.no hs3
    replace hv := hv.step hs3 (fun k hk1 hk2 hF => hF)
    replace hhi := Nat.le_trans hhi (hs3).size
    replace ho1 := ho1.no hs3
    replace hbase1 := Nat.le_trans hbase1 (hs3).size
    exact ⟨Ex1_appendN (d := 54) (e := 69) (m2 := 0) (c2 := c) (sz := 4) (bytes := 32) (A2 := A) (by kernel_rfl) (by kernel_rfl) (by kernel_rfl) (flat Ent.cells (L.take 0)) (by rw [flat_len ecells_len, show (L.take 0).length = 0 from (by rw [List.length_take]; have hq9 : L.length = 0 := hn; omega)]) (Sl.cast (Sl.take (Sl2.sl hv) (0 * 4)) (flat_take ecells_len L 0).symm) (flat_one' ecells_one _) (by simp only [maxLen]; omega) (by omega) (fun A9 c9 w9 g => ⟨fun _ => ⟨A9, c9, rfl, RwS.low g (by omega)⟩, fun e => absurd e (by decide)⟩), Ex1_bs (d := 58) (e := 69) (c := #[.int .i64 kp, .int .i64 kv, .int .i64 kc, .int .i64 m]) (len := 1) (by kernel_rfl) (by kernel_rfl) (fun b w9 hn => ⟨fun e => absurd e (by decide), fun _ => ⟨_, rfl, hn.own, by have hq := hn.eqb; omega⟩⟩), trivial⟩
  intro w7 us1 hs4 hB1
  replace hS := Step.trans hS (Step.weak hs4)
  replace ho := ho.no hs4
  replace hv := hv.step hs4 (fun k hk1 hk2 hF => hF)
  replace hhi := Nat.le_trans hhi (hs4).size
  replace ho1 := ho1.no hs4
  replace hbase1 := Nat.le_trans hbase1 (hs4).size
  obtain ⟨⟨hB7, -⟩, ⟨-, hB11⟩, -⟩ := hB1
  obtain ⟨A1, c1, he1, hr1⟩ := hB7 rfl
  have hlhr1 : (L.take 0).length = 0 := by have hq9 := RwS.len hr1; rw [flat_len ecells_len] at hq9; omega
  obtain ⟨b2, he2, ho2, hbb1⟩ := hB11 rfl
  refine VL_keep [0, 7, 54, 58] [(0, .pointer (some ⟨p, 0, none⟩)), (7, .int .i64 0), (54, us1 7), (58, us1 11)] (by kernel_rfl) ?_
  rw [he1]
  rw [he2]
  have hzs5 := hS.size
  have hzl8 := ho.lt
  have hzk4 := hhi
  have hzl9 := ho1.lt
  have hzk5 := hbase1
  have hzl10 := ho2.lt
  refine VL_appendZ (d := 59) (e := 69) (A := A1) (m := 0) (c := c1) (A2 := (some ⟨b2, 0, none⟩)) (m2 := 1) (c2 := 1) (sz := 4) (bytes := 32) (by kernel_rfl) (by kernel_rfl) (by kernel_rfl) base1 w7.heap.size (flat Ent.cells (L.take 0)) (flat Ent.cells [(⟨kp, kv, kc, m⟩ : Ent)]) hr1 (by rw [flat_one, ecells_len]) (Sl.mono (Sl.cast (Own.sl ho2 ho2.lt) (by first | rfl | simp [flat])) (by first | exact Nat.le_refl _ | omega)) (flat_one' ecells_one _) 1 (by omega) (by simp only [maxLen]; omega) (by omega) (by omega) ?_
  intro A2 c2 w8 hr2 hg1
  replace hr2 : RwS w8 4 base1 69 A2 1 c2 (flat Ent.cells ((L.take 0) ++ ([(⟨kp, kv, kc, m⟩ : Ent)]))) := RwS.cast hr2 rfl (by simp only [flat_append, flat_one, List.append_assoc, List.nil_append, List.append_nil, show flat Ent.cells [] = [] from rfl])
  replace hg1 := Step.mono (G := fun k => base1 ≤ k) hg1 (fun i hi => (RwS.lt hr1 i hi).1)
  have hzhg1 := hg1.size
  replace hS := Step.transNew hS hg1 (fun i hi hG => by (try simp only at hG); (first | show _ ∨ _ | show _ = _); omega)
  replace ho := ho.step hg1 (by (try simp only); omega)
  replace hv := hv.step hg1 (fun k hk1 hk2 hG => by (try simp only at hG); omega)
  replace hhi := Nat.le_trans hhi (hg1).size
  replace ho1 := ho1.step hg1 (by (try simp only); omega)
  replace hbase1 := Nat.le_trans hbase1 (hg1).size
  have hlhr2 : ((L.take 0) ++ ([(⟨kp, kv, kc, m⟩ : Ent)])).length = 1 := by have hq9 := RwS.len hr2; rw [flat_len ecells_len] at hq9; omega
  refine VL_pure 14 [0, 7, 8] [(0, .pointer (some ⟨p, 0, none⟩)), (7, .int .i64 0), (8, .slice A2 1 c2)] (by kernel_rfl) rfl ?_
  refine VL_end (by kernel_rfl) ?_
  refine VQ_next ?_
  refine VC_seq ?_
  refine VC_region ?_
  refine VL_pure 5 [7, 60, 61, 64] [(7, .int .i64 0), (60, .pointer (some ⟨p, 0, none⟩)), (61, .slice A2 1 c2), (64, .pointer (some ⟨p, 0, none⟩))] (by kernel_rfl) rfl ?_
  refine VL_load (d := 65) (t := 43) (a := ⟨p, 0, none⟩) (v := .slice A 0 c) (by kernel_rfl) (by kernel_rfl) (Loads.own1 ho (by kernel_rfl) (by rfl)) ?_
  refine VL_pure 7 [60, 61, 65, 66] [(60, .pointer (some ⟨p, 0, none⟩)), (61, .slice A2 1 c2), (65, .slice A 0 c), (66, .int .i64 0)] (by kernel_rfl) rfl ?_
  refine VL_sliceV (d := 67) (A := A) (sz := 4) (len := 0) (cap := c) (lo := (some 0)) (hi := none) (mx := none) (by kernel_rfl) (by kernel_rfl) (fun h => by first | exact absurd rfl h | exact (fun h => by cases h)) (Sl2.sl hv) 0 0 c rfl rfl rfl (by omega) (by omega) (by omega) 0 (by omega) c (by omega) _ (flat_cut ecells_len L 0 0) ?_
  intro A3 hsl1
  have hzs6 := hS.size
  have hzl11 := ho.lt
  have hzk6 := hhi
  have hzl12 := ho1.lt
  have hzk7 := hbase1
  refine VL_appendZ (d := 68) (e := 69) (A := A2) (m := 1) (c := c2) (A2 := A3) (m2 := 0) (c2 := c) (sz := 4) (bytes := 32) (by kernel_rfl) (by kernel_rfl) (by kernel_rfl) base1 w8.heap.size (flat Ent.cells ((L.take 0) ++ ([(⟨kp, kv, kc, m⟩ : Ent)]))) (flat Ent.cells (L.take 0)) hr2 (by rw [flat_len ecells_len, show (L.take 0).length = 0 from (by simp only [List.length_take, List.length_drop]; have hq9 : L.length = 0 := hn; omega)]) (Sl.mono hsl1 (by first | exact Nat.le_refl _ | omega)) (flat_one' ecells_one _) 1 (by omega) (by simp only [maxLen]; omega) (by omega) (by omega) ?_
  intro A4 c3 w9 hr3 hg2
  replace hr3 : RwS w9 4 base1 69 A4 1 c3 (flat Ent.cells ((L.take 0) ++ ([(⟨kp, kv, kc, m⟩ : Ent)]) ++ (L.take 0))) := RwS.cast hr3 rfl (by simp only [flat_append, flat_one, List.append_assoc, List.nil_append, List.append_nil, show flat Ent.cells [] = [] from rfl])
  replace hg2 := Step.mono (G := fun k => base1 ≤ k) hg2 (fun i hi => (RwS.lt hr2 i hi).1)
  have hzhg2 := hg2.size
  replace hS := Step.transNew hS hg2 (fun i hi hG => by (try simp only at hG); (first | show _ ∨ _ | show _ = _); omega)
  replace ho := ho.step hg2 (by (try simp only); omega)
  replace hv := hv.step hg2 (fun k hk1 hk2 hG => by (try simp only at hG); omega)
  replace hhi := Nat.le_trans hhi (hg2).size
  replace ho1 := ho1.step hg2 (by (try simp only); omega)
  replace hbase1 := Nat.le_trans hbase1 (hg2).size
  have hlhr3 : ((L.take 0) ++ ([(⟨kp, kv, kc, m⟩ : Ent)]) ++ (L.take 0)).length = 1 := by have hq9 := RwS.len hr3; rw [flat_len ecells_len] at hq9; omega
  refine VL_pure 11 [68, 70] [(68, .slice A4 1 c3), (70, .pointer (some ⟨p, 0, none⟩))] (by kernel_rfl) rfl ?_
  refine VL_store (b := p) (o := 0) (vs := [.slice A4 1 c3]) (by kernel_rfl) (by kernel_rfl) ho (Nat.le_of_ble_eq_true (by kernel_rfl)) ?_
  intro w10 hw1
  replace hS := Step.trans hS (Step.mono hw1.step (by intro i hi; first | exact hi | (have hi9 : i = p := hi; (first | show _ ∨ _ | show _ = _); omega)))
  replace hv := hv.step hw1.step (fun k hk1 hk2 (hF : k = p) => by omega)
  replace hhi := Nat.le_trans hhi (hw1.step).size
  replace ho1 := ho1.step hw1.step (show ¬ b1 = p by omega)
  replace hbase1 := Nat.le_trans hbase1 (hw1.step).size
  replace hr3 := hr3.step hw1.step (fun k hk (hF : k = p) => by omega)
  have ho3 : Own w10 p #[.slice A4 1 c3, .int .i64 room] 54 := Own.cast hw1.own (by kernel_rfl)
  have hzhw1 := hw1.same
  refine VL_end (by kernel_rfl) ?_
  refine VQ_next ?_
  refine VC_seq ?_
  refine VC_region ?_
  refine VL_pure 1 [6] [(6, .int .i64 0)] (by kernel_rfl) rfl ?_
  refine VL_end (by kernel_rfl) ?_
  refine VQ_next ?_
  refine VC_ret ?_
  refine VQ_ret1 (.int .i64 0) (.inr rfl) rfl rfl ?_
  exact ⟨rfl, Rt.sl ho3 (by rw [insE_len, h0]; rfl) (RwS.cast hr3 (by omega) (by subst h0; first | rfl | simp [insE, aheadE, flat])) (by omega), hS⟩

end Go.Proofs.Ytfkahhkojlfmdaa
