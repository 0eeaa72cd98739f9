/- Layer 9, the document's table: Get, Drop, Put, Free. -/
import Derived.Test.YtfkahhkojlfmdaaProg
import Derived.Test.YtfkahhkojlfmdaaCnRf
set_option linter.unusedVariables false
set_option linter.unusedSimpArgs false
namespace Go.Proofs.Ytfkahhkojlfmdaa
open Go.Vc Go.RowKit

theorem rat_at {w : World} {p lo : Nat} {room : Int} {L : List Ent} {kp kv kc : Int} {r : Int} (hR : Rt w p lo room L) (hm : L.length ≤ 1000) (hat : atI L kp kv kc = r) : CV Try.prog 32 #[.pointer (some ⟨p, 0, none⟩), .agg #[.int .i64 kp, .int .i64 kv, .int .i64 kc]] w fun x w1 => x = .int .i64 r ∧ Step No w w1 := by
  rw [← hat]; exact rat_any p lo room L kp kv kc w hR hm
theorem Rt.sl {w : World} {p lo base : Nat} {room : Int} {L : List Ent} {A : Option Addr} {n c : Nat} (ho : Own w p #[.slice A n c, .int .i64 room] 54) (hl : L.length = n) (hr : RwS w 4 base 69 A n c (flat Ent.cells L)) (hb : lo ≤ base) : Rt w p lo room L :=
  ⟨A, n, c, w.heap.size, ho, hl, RwS.cap hr, Nat.le_refl _, Sl2.mono (RwS.sl2 hr) hb (Nat.le_refl _)⟩
theorem atI_neg {L : List Ent} {p v c : Int} : atI L p v c < 0 ↔ lookE L p v c = none := by
  rcases atI_cases L p v c with ⟨h1, h2⟩ | ⟨i, y, h1, _, _, _, _, h2⟩
  · rw [h1, h2]; simp
  · rw [h1, h2]; simp
set_option maxRecDepth 100000 in
set_option maxHeartbeats 4000000 in
theorem rget_no (p lo : Nat) (room : Int) (L : List Ent) (kp kv kc : Int) (w : World) (hR : Rt w p lo room L) (hm : L.length ≤ 1000) (hat : atI L kp kv kc = -1) :
    CV Try.prog 24 #[.pointer (some ⟨p, 0, none⟩), .agg #[.int .i64 kp, .int .i64 kv, .int .i64 kc]] w (fun x w1 => x = .tuple #[.int .i64 0, .bool false] ∧ Step No w w1) := by
  have hS : Step No w w := Step.refl _ _
  obtain ⟨A, n, c, hi, ho, hn, hcn, hhi, hv⟩ := hR
  refine CV_enter Try.f24 _ 20 [(0, .pointer (some ⟨p, 0, none⟩)), (1, .agg #[.int .i64 kp, .int .i64 kv, .int .i64 kc])] Try.func24 rfl rfl (by kernel_rfl) rfl ?_
  refine VC_seq ?_
  refine VC_region ?_
  have hzs1 := hS.size
  have hzl1 := ho.lt
  have hzk1 := hhi
  refine VL_box (d := 3) (t := 29) (c := #[.int .i64 kp, .int .i64 kv, .int .i64 kc]) (by kernel_rfl) (by kernel_rfl) ?_
  intro b1 w1 hn1
  replace hS := Step.trans hS (hn1.step No)
  replace ho := ho.no (hn1.step No)
  replace hv := hv.step (hn1.step No) (fun k hk1 hk2 hF => hF)
  replace hhi := Nat.le_trans hhi (hn1.step No).size
  have ho1 := hn1.own
  have hzhn1 := hn1.size
  have hqhn1 := hn1.eqb
  refine VL_pure 3 [0, 3] [(0, .pointer (some ⟨p, 0, none⟩)), (3, .pointer (some ⟨b1, 0, none⟩))] (by kernel_rfl) rfl ?_
  refine VL_end (by kernel_rfl) ?_
  refine VQ_next ?_
  refine VC_seq ?_
  refine VC_region ?_
  refine VL_pure 1 [0, 3, 7] [(0, .pointer (some ⟨p, 0, none⟩)), (3, .pointer (some ⟨b1, 0, none⟩)), (7, .pointer (some ⟨p, 0, none⟩))] (by kernel_rfl) rfl ?_
  refine VL_load (d := 8) (t := 29) (a := ⟨b1, 0, none⟩) (v := .agg #[.int .i64 kp, .int .i64 kv, .int .i64 kc]) (by kernel_rfl) (by kernel_rfl) (Loads.ownL ho1 (n := 3) (by kernel_rfl) (by kernel_rfl) (by kernel_rfl)) ?_
  have hzs2 := hS.size
  have hzl2 := ho.lt
  have hzl3 := ho1.lt
  refine VL_call (d := 9) (f := 32) (args := #[.pointer (some ⟨p, 0, none⟩), .agg #[.int .i64 kp, .int .i64 kv, .int .i64 kc]]) (by kernel_rfl) (by kernel_rfl) (by kernel_rfl) Try.call32 (rat_at ⟨_, _, _, _, ho, hn, hcn, hhi, hv⟩ hm hat) ?_
  rintro _ w2 ⟨rfl, hc1⟩
  replace hS := Step.trans hS hc1
  replace ho := ho.no hc1
  replace hv := hv.step hc1 (fun k hk1 hk2 hF => hF)
  replace hhi := Nat.le_trans hhi (hc1).size
  replace ho1 := ho1.no hc1
  refine VL_pure 4 [0, 6] [(0, .pointer (some ⟨p, 0, none⟩)), (6, .int .i64 (-1))] (by kernel_rfl) rfl ?_
  refine VL_end (by kernel_rfl) ?_
  refine VQ_next ?_
  refine VC_seq ?_
  refine VC_seq ?_
  refine VC_region ?_
  refine VL_pure 2 [0, 6, 11] [(0, .pointer (some ⟨p, 0, none⟩)), (6, .int .i64 (-1)), (11, .bool true)] (by kernel_rfl) rfl ?_
  refine VL_end (by kernel_rfl) ?_
  refine VQ_next ?_
  refine VC_true (by kernel_rfl) ?_
  refine VC_seq ?_
  refine VC_region ?_
  refine VL_pure 2 [4, 5] [(4, .int .i64 0), (5, .bool false)] (by kernel_rfl) rfl ?_
  refine VL_end (by kernel_rfl) ?_
  refine VQ_next ?_
  refine VC_ret ?_
  refine VQ_then_ret ?_
  refine VQ_ret2 (.int .i64 0) (.bool false) (.inr rfl) rfl rfl rfl ?_
  exact ⟨rfl, hS⟩

set_option maxRecDepth 100000 in
set_option maxHeartbeats 4000000 in
theorem rget_yes (p lo : Nat) (room : Int) (L : List Ent) (kp kv kc : Int) (w : World) (hR : Rt w p lo room L) (hm : L.length ≤ 1000) (i : Nat) (y : Ent) (hat : atI L kp kv kc = (i : Nat)) (hy : L[i]? = some y) :
    CV Try.prog 24 #[.pointer (some ⟨p, 0, none⟩), .agg #[.int .i64 kp, .int .i64 kv, .int .i64 kc]] w (fun x w1 => x = .tuple #[.int .i64 y.n, .bool true] ∧ Step No w w1) := by
  have hS : Step No w w := Step.refl _ _
  obtain ⟨A, n, c, hi, ho, hn, hcn, hhi, hv⟩ := hR
  have hiL := (List.getElem?_eq_some_iff.1 hy).1
  refine CV_enter Try.f24 _ 20 [(0, .pointer (some ⟨p, 0, none⟩)), (1, .agg #[.int .i64 kp, .int .i64 kv, .int .i64 kc])] Try.func24 rfl rfl (by kernel_rfl) rfl ?_
  refine VC_seq ?_
  refine VC_region ?_
  have hzs1 := hS.size
  have hzl1 := ho.lt
  have hzk1 := hhi
  refine VL_box (d := 3) (t := 29) (c := #[.int .i64 kp, .int .i64 kv, .int .i64 kc]) (by kernel_rfl) (by kernel_rfl) ?_
  intro b1 w1 hn1
  replace hS := Step.trans hS (hn1.step No)
  replace ho := ho.no (hn1.step No)
  replace hv := hv.step (hn1.step No) (fun k hk1 hk2 hF => hF)
  replace hhi := Nat.le_trans hhi (hn1.step No).size
  have ho1 := hn1.own
  have hzhn1 := hn1.size
  have hqhn1 := hn1.eqb
  refine VL_pure 3 [0, 3] [(0, .pointer (some ⟨p, 0, none⟩)), (3, .pointer (some ⟨b1, 0, none⟩))] (by kernel_rfl) rfl ?_
  refine VL_end (by kernel_rfl) ?_
  refine VQ_next ?_
  refine VC_seq ?_
  refine VC_region ?_
  refine VL_pure 1 [0, 3, 7] [(0, .pointer (some ⟨p, 0, none⟩)), (3, .pointer (some ⟨b1, 0, none⟩)), (7, .pointer (some ⟨p, 0, none⟩))] (by kernel_rfl) rfl ?_
  refine VL_load (d := 8) (t := 29) (a := ⟨b1, 0, none⟩) (v := .agg #[.int .i64 kp, .int .i64 kv, .int .i64 kc]) (by kernel_rfl) (by kernel_rfl) (Loads.ownL ho1 (n := 3) (by kernel_rfl) (by kernel_rfl) (by kernel_rfl)) ?_
  have hzs2 := hS.size
  have hzl2 := ho.lt
  have hzl3 := ho1.lt
  refine VL_call (d := 9) (f := 32) (args := #[.pointer (some ⟨p, 0, none⟩), .agg #[.int .i64 kp, .int .i64 kv, .int .i64 kc]]) (by kernel_rfl) (by kernel_rfl) (by kernel_rfl) Try.call32 (rat_at ⟨_, _, _, _, ho, hn, hcn, hhi, hv⟩ hm hat) ?_
  rintro _ w2 ⟨rfl, hc1⟩
  replace hS := Step.trans hS hc1
  replace ho := ho.no hc1
  replace hv := hv.step hc1 (fun k hk1 hk2 hF => hF)
  replace hhi := Nat.le_trans hhi (hc1).size
  replace ho1 := ho1.no hc1
  refine VL_pure 4 [0, 6] [(0, .pointer (some ⟨p, 0, none⟩)), (6, .int .i64 ((i : Nat) : Int))] (by kernel_rfl) rfl ?_
  refine VL_end (by kernel_rfl) ?_
  refine VQ_next ?_
  refine VC_seq ?_
  refine VC_seq ?_
  refine VC_region ?_
  refine VL_pure 2 [0, 6, 11] [(0, .pointer (some ⟨p, 0, none⟩)), (6, .int .i64 ((i : Nat) : Int)), (11, .bool (decide (((i : Nat) : Int) < 0)))] (by kernel_rfl) rfl ?_
  refine VL_end (by kernel_rfl) ?_
  refine VQ_next ?_
  refine VC_is (b := decide (((i : Nat) : Int) < 0)) false (by kernel_rfl) (decide_eq_false (by omega)) ?_
  refine VC_ite_false ?_
  refine VC_skip ?_
  refine VQ_next ?_
  refine VC_seq ?_
  refine VC_region ?_
  refine VL_pure 3 [6, 14] [(6, .int .i64 ((i : Nat) : Int)), (14, .pointer (some ⟨p, 0, none⟩))] (by kernel_rfl) rfl ?_
  refine VL_load (d := 15) (t := 43) (a := ⟨p, 0, none⟩) (v := .slice A n c) (by kernel_rfl) (by kernel_rfl) (Loads.own1 ho (by kernel_rfl) (by rfl)) ?_
  refine VL_pure 5 [15, 16] [(15, .slice A n c), (16, .int .i64 ((i : Nat) : Int))] (by kernel_rfl) rfl ?_
  obtain ⟨sb1, so1, rfl, hlbsb1⟩ := (Sl2.sl hv).open (by rw [flat_len ecells_len]; have hq9 : L.length = n := hn; omega)
  refine VL_index (d := 17) (b := sb1) (o := so1) (len := n) (sz := 4) (m := ((i : Nat) : Int)) (by kernel_rfl) (by kernel_rfl) i (by rfl) (by omega) (so1 + i * 4) (by omega) ?_
  refine VL_pure 7 [18] [(18, .pointer (some ⟨sb1, so1 + i * 4 + 3, none⟩))] (by kernel_rfl) rfl ?_
  refine VL_load (d := 19) (t := 3) (a := ⟨sb1, so1 + i * 4 + 3, none⟩) (v := .int .i64 y.n) (by kernel_rfl) (by kernel_rfl) (Sl.flatOne (sz := 4) (Sl2.sl hv) ecells_len hy 3 (by rfl) (by decide) (by kernel_rfl) _ (by first | rfl | omega)) ?_
  refine VL_pure 10 [4, 5] [(4, .int .i64 y.n), (5, .bool true)] (by kernel_rfl) rfl ?_
  refine VL_end (by kernel_rfl) ?_
  refine VQ_next ?_
  refine VC_ret ?_
  refine VQ_ret2 (.int .i64 y.n) (.bool true) (.inr rfl) rfl rfl rfl ?_
  exact ⟨rfl, hS⟩

set_option maxRecDepth 100000 in
set_option maxHeartbeats 4000000 in
theorem rdrop_no (p lo : Nat) (room : Int) (L : List Ent) (kp kv kc : Int) (w : World) (hR : Rt w p lo room L) (hm : L.length ≤ 1000) (hat : atI L kp kv kc = -1) :
    CV Try.prog 23 #[.pointer (some ⟨p, 0, none⟩), .agg #[.int .i64 kp, .int .i64 kv, .int .i64 kc]] w (fun x w1 => x = .tuple #[.int .i64 0, .bool false] ∧ Step No w w1) := by
  have hS : Step No w w := Step.refl _ _
  obtain ⟨A, n, c, hi, ho, hn, hcn, hhi, hv⟩ := hR
  refine CV_enter Try.f23 _ 41 [(0, .pointer (some ⟨p, 0, none⟩)), (1, .agg #[.int .i64 kp, .int .i64 kv, .int .i64 kc])] Try.func23 rfl rfl (by kernel_rfl) rfl ?_
  refine VC_seq ?_
  refine VC_region ?_
  have hzs1 := hS.size
  have hzl1 := ho.lt
  have hzk1 := hhi
  refine VL_box (d := 3) (t := 29) (c := #[.int .i64 kp, .int .i64 kv, .int .i64 kc]) (by kernel_rfl) (by kernel_rfl) ?_
  intro b1 w1 hn1
  replace hS := Step.trans hS (hn1.step No)
  replace ho := ho.no (hn1.step No)
  replace hv := hv.step (hn1.step No) (fun k hk1 hk2 hF => hF)
  replace hhi := Nat.le_trans hhi (hn1.step No).size
  have ho1 := hn1.own
  have hzhn1 := hn1.size
  have hqhn1 := hn1.eqb
  refine VL_pure 3 [0, 3] [(0, .pointer (some ⟨p, 0, none⟩)), (3, .pointer (some ⟨b1, 0, none⟩))] (by kernel_rfl) rfl ?_
  refine VL_end (by kernel_rfl) ?_
  refine VQ_next ?_
  refine VC_seq ?_
  refine VC_region ?_
  refine VL_pure 1 [0, 3, 8] [(0, .pointer (some ⟨p, 0, none⟩)), (3, .pointer (some ⟨b1, 0, none⟩)), (8, .pointer (some ⟨p, 0, none⟩))] (by kernel_rfl) rfl ?_
  refine VL_load (d := 9) (t := 29) (a := ⟨b1, 0, none⟩) (v := .agg #[.int .i64 kp, .int .i64 kv, .int .i64 kc]) (by kernel_rfl) (by kernel_rfl) (Loads.ownL ho1 (n := 3) (by kernel_rfl) (by kernel_rfl) (by kernel_rfl)) ?_
  have hzs2 := hS.size
  have hzl2 := ho.lt
  have hzl3 := ho1.lt
  refine VL_call (d := 10) (f := 32) (args := #[.pointer (some ⟨p, 0, none⟩), .agg #[.int .i64 kp, .int .i64 kv, .int .i64 kc]]) (by kernel_rfl) (by kernel_rfl) (by kernel_rfl) Try.call32 (rat_at ⟨_, _, _, _, ho, hn, hcn, hhi, hv⟩ hm hat) ?_
  rintro _ w2 ⟨rfl, hc1⟩
  replace hS := Step.trans hS hc1
  replace ho := ho.no hc1
  replace hv := hv.step hc1 (fun k hk1 hk2 hF => hF)
  replace hhi := Nat.le_trans hhi (hc1).size
  replace ho1 := ho1.no hc1
  refine VL_pure 4 [0, 6] [(0, .pointer (some ⟨p, 0, none⟩)), (6, .int .i64 (-1))] (by kernel_rfl) rfl ?_
  refine VL_end (by kernel_rfl) ?_
  refine VQ_next ?_
  refine VC_seq ?_
  refine VC_seq ?_
  refine VC_region ?_
  refine VL_pure 2 [0, 6, 12] [(0, .pointer (some ⟨p, 0, none⟩)), (6, .int .i64 (-1)), (12, .bool true)] (by kernel_rfl) rfl ?_
  refine VL_end (by kernel_rfl) ?_
  refine VQ_next ?_
  refine VC_true (by kernel_rfl) ?_
  refine VC_seq ?_
  refine VC_region ?_
  refine VL_pure 2 [4, 5] [(4, .int .i64 0), (5, .bool false)] (by kernel_rfl) rfl ?_
  refine VL_end (by kernel_rfl) ?_
  refine VQ_next ?_
  refine VC_ret ?_
  refine VQ_then_ret ?_
  refine VQ_ret2 (.int .i64 0) (.bool false) (.inr rfl) rfl rfl rfl ?_
  exact ⟨rfl, hS⟩

set_option maxRecDepth 100000 in
set_option maxHeartbeats 4000000 in
theorem rdrop_yes (p lo : Nat) (room : Int) (L : List Ent) (kp kv kc : Int) (w : World) (hR : Rt w p lo room L) (hm : L.length ≤ 1000) (i : Nat) (y : Ent) (hat : atI L kp kv kc = (i : Nat)) (hy : L[i]? = some y) (hlo : p < lo) (hlw : lo ≤ w.heap.size) :
    CV Try.prog 23 #[.pointer (some ⟨p, 0, none⟩), .agg #[.int .i64 kp, .int .i64 kv, .int .i64 kc]] w (fun x w1 => x = .tuple #[.int .i64 y.n, .bool true] ∧ Rt w1 p lo room (L.take i ++ L.drop (i + 1)) ∧ Step (Just p) w w1) := by
  have hS : Step (Just p) w w := Step.refl _ _
  obtain ⟨A, n, c, hi, ho, hn, hcn, hhi, hv⟩ := hR
  have hiL := (List.getElem?_eq_some_iff.1 hy).1
  refine CV_enter Try.f23 _ 41 [(0, .pointer (some ⟨p, 0, none⟩)), (1, .agg #[.int .i64 kp, .int .i64 kv, .int .i64 kc])] Try.func23 rfl rfl (by kernel_rfl) rfl ?_
  refine VC_seq ?_
  refine VC_region ?_
  have hzs1 := hS.size
  have hzl1 := ho.lt
  have hzk1 := hhi
  refine VL_box (d := 3) (t := 29) (c := #[.int .i64 kp, .int .i64 kv, .int .i64 kc]) (by kernel_rfl) (by kernel_rfl) ?_
  intro b1 w1 hn1
  replace hS := Step.trans hS (Step.weak (hn1.step No))
  replace ho := ho.no (hn1.step No)
  replace hv := hv.step (hn1.step No) (fun k hk1 hk2 hF => hF)
  replace hhi := Nat.le_trans hhi (hn1.step No).size
  have ho1 := hn1.own
  have hzhn1 := hn1.size
  have hqhn1 := hn1.eqb
  refine VL_pure 3 [0, 3] [(0, .pointer (some ⟨p, 0, none⟩)), (3, .pointer (some ⟨b1, 0, none⟩))] (by kernel_rfl) rfl ?_
  refine VL_end (by kernel_rfl) ?_
  refine VQ_next ?_
  refine VC_seq ?_
  refine VC_region ?_
  refine VL_pure 1 [0, 3, 8] [(0, .pointer (some ⟨p, 0, none⟩)), (3, .pointer (some ⟨b1, 0, none⟩)), (8, .pointer (some ⟨p, 0, none⟩))] (by kernel_rfl) rfl ?_
  refine VL_load (d := 9) (t := 29) (a := ⟨b1, 0, none⟩) (v := .agg #[.int .i64 kp, .int .i64 kv, .int .i64 kc]) (by kernel_rfl) (by kernel_rfl) (Loads.ownL ho1 (n := 3) (by kernel_rfl) (by kernel_rfl) (by kernel_rfl)) ?_
  have hzs2 := hS.size
  have hzl2 := ho.lt
  have hzl3 := ho1.lt
  refine VL_call (d := 10) (f := 32) (args := #[.pointer (some ⟨p, 0, none⟩), .agg #[.int .i64 kp, .int .i64 kv, .int .i64 kc]]) (by kernel_rfl) (by kernel_rfl) (by kernel_rfl) Try.call32 (rat_at ⟨_, _, _, _, ho, hn, hcn, hhi, hv⟩ hm hat) ?_
  rintro _ w2 ⟨rfl, hc1⟩
  replace hS := Step.trans hS (Step.weak hc1)
  replace ho := ho.no hc1
  replace hv := hv.step hc1 (fun k hk1 hk2 hF => hF)
  replace hhi := Nat.le_trans hhi (hc1).size
  replace ho1 := ho1.no hc1
  refine VL_pure 4 [0, 6] [(0, .pointer (some ⟨p, 0, none⟩)), (6, .int .i64 ((i : Nat) : Int))] (by kernel_rfl) rfl ?_
  refine VL_end (by kernel_rfl) ?_
  refine VQ_next ?_
  refine VC_seq ?_
  refine VC_seq ?_
  refine VC_region ?_
  refine VL_pure 2 [0, 6, 12] [(0, .pointer (some ⟨p, 0, none⟩)), (6, .int .i64 ((i : Nat) : Int)), (12, .bool (decide (((i : Nat) : Int) < 0)))] (by kernel_rfl) rfl ?_
  refine VL_end (by kernel_rfl) ?_
  refine VQ_next ?_
  refine VC_is (b := decide (((i : Nat) : Int) < 0)) false (by kernel_rfl) (decide_eq_false (by omega)) ?_
  refine VC_ite_false ?_
  refine VC_skip ?_
  refine VQ_next ?_
  refine VC_seq ?_
  refine VC_region ?_
  refine VL_pure 3 [0, 6, 15] [(0, .pointer (some ⟨p, 0, none⟩)), (6, .int .i64 ((i : Nat) : Int)), (15, .pointer (some ⟨p, 0, none⟩))] (by kernel_rfl) rfl ?_
  refine VL_load (d := 16) (t := 43) (a := ⟨p, 0, none⟩) (v := .slice A n c) (by kernel_rfl) (by kernel_rfl) (Loads.own1 ho (by kernel_rfl) (by rfl)) ?_
  refine VL_pure 5 [0, 6, 16, 17] [(0, .pointer (some ⟨p, 0, none⟩)), (6, .int .i64 ((i : Nat) : Int)), (16, .slice A n c), (17, .int .i64 ((i : Nat) : Int))] (by kernel_rfl) rfl ?_
  obtain ⟨sb1, so1, rfl, hlbsb1⟩ := (Sl2.sl hv).open (by rw [flat_len ecells_len]; have hq9 : L.length = n := hn; omega)
  refine VL_index (d := 18) (b := sb1) (o := so1) (len := n) (sz := 4) (m := ((i : Nat) : Int)) (by kernel_rfl) (by kernel_rfl) i (by rfl) (by omega) (so1 + i * 4) (by omega) ?_
  refine VL_pure 7 [0, 6, 19] [(0, .pointer (some ⟨p, 0, none⟩)), (6, .int .i64 ((i : Nat) : Int)), (19, .pointer (some ⟨sb1, so1 + i * 4 + 3, none⟩))] (by kernel_rfl) rfl ?_
  refine VL_load (d := 20) (t := 3) (a := ⟨sb1, so1 + i * 4 + 3, none⟩) (v := .int .i64 y.n) (by kernel_rfl) (by kernel_rfl) (Sl.flatOne (sz := 4) (Sl2.sl hv) ecells_len hy 3 (by rfl) (by decide) (by kernel_rfl) _ (by first | rfl | omega)) ?_
  refine VL_pure 9 [0, 6, 7] [(0, .pointer (some ⟨p, 0, none⟩)), (6, .int .i64 ((i : Nat) : Int)), (7, .int .i64 y.n)] (by kernel_rfl) rfl ?_
  refine VL_end (by kernel_rfl) ?_
  refine VQ_next ?_
  refine VC_seq ?_
  have hs1 := drew_step w2
  have hs1z : w2.heap.size = w2.drew.heap.size := rfl
  refine VC_text [[], [], [], [2], [2, 3], [2, 3, 4], [], [2, 3, 4, 5, 6], [1, 2, 3, 4, 5, 6, 7], [], [9], [9, 10], [9, 10, 11], [], [13], [9, 10, 11, 12, 13, 14], [1, 2, 3, 4, 5, 6, 7, 8, 9, 10, 11, 12, 13, 14, 15], [0, 1, 2, 3, 4, 5, 6, 7, 8, 9, 10, 11, 12, 13, 14, 15, 16], [0, 1, 2, 3, 4, 5, 6, 7, 8, 9, 10, 11, 12, 13, 14, 15, 16, 17], [0, 1, 2, 3, 4, 5, 6, 7, 8, 9, 10, 11, 12, 13, 14, 15, 16, 17, 18]] 17 (fun x y => Step (fun k => w2.heap.size ≤ k) x y) [1, 8, 16] [0, 2, 3, 4, 5, 6, 7, 9, 10, 11, 12, 13, 14, 15, 1, 8, 16] (by kernel_rfl) (by kernel_rfl) (by kernel_rfl) (by kernel_rfl) (fun x => Step.refl _ x) (fun h k => Step.trans h k) Step.weak ?_
  have hzs3 := hS.size
  have hzl4 := ho.lt
  have hzl5 := ho1.lt
  generalize w2.drew = w3 at hs1 hs1z ⊢
  replace hS := Step.trans hS (Step.weak hs1)
  replace ho := ho.no hs1
  replace hv := hv.step hs1 (fun k hk1 hk2 hF => hF)
  replace hhi := Nat.le_trans hhi (hs1).size
  replace ho1 := ho1.no hs1
  refine VT_pures 4 (kn' := [(4, .pointer (some ⟨p, 0, none⟩)), (3, .pointer (some ⟨p, 0, none⟩)), (2, .pointer (some ⟨p, 0, none⟩)), (0, .pointer (some ⟨p, 0, none⟩))]) (by kernel_rfl) ?_
  refine VT_load (d := 26) (t := 43) (a := ⟨p, 0, none⟩) (v := .slice (some ⟨sb1, so1, none⟩) n c) (by kernel_rfl) (by kernel_rfl) ?_ ?_
  · intro w4 hr1
    replace hS := Step.transNew hS hr1 (fun i hi hG => by (try simp only at hG); (first | show _ ∨ _ | show _ = _); omega)
    replace ho := ho.step hr1 (by (try simp only); omega)
    replace hv := hv.step hr1 (fun k hk1 hk2 hG => by (try simp only at hG); omega)
    replace hhi := Nat.le_trans hhi (hr1).size
    replace ho1 := ho1.step hr1 (by (try simp only); omega)
    exact (Loads.own1 ho (by kernel_rfl) (by rfl))
  refine VT_pures 1 (kn' := [(6, .int .i64 ((i : Nat) : Int)), (5, .slice (some ⟨sb1, so1, none⟩) n c), (4, .pointer (some ⟨p, 0, none⟩)), (3, .pointer (some ⟨p, 0, none⟩)), (2, .pointer (some ⟨p, 0, none⟩)), (0, .pointer (some ⟨p, 0, none⟩))]) (by kernel_rfl) ?_
  refine VT_sliceV (d := 28) (A := (some ⟨sb1, so1, none⟩)) (sz := 4) (len := n) (cap := c) (lo := none) (hi := (some ((i : Nat) : Int))) (mx := none) (by kernel_rfl) (by kernel_rfl) (fun h => by first | exact absurd rfl h | exact (fun h => by cases h)) (Sl2.sl hv) 0 i c rfl rfl rfl (by omega) (by omega) (by omega) i (by omega) c (by omega) _ (flat_cut ecells_len L 0 i) ?_
  intro A1 hsl1
  refine VT_pures 3 (kn' := [(11, .pointer (some ⟨p, 0, none⟩)), (10, .pointer (some ⟨p, 0, none⟩)), (9, .pointer (some ⟨p, 0, none⟩)), (7, .slice A1 i c), (6, .int .i64 ((i : Nat) : Int)), (5, .slice (some ⟨sb1, so1, none⟩) n c), (4, .pointer (some ⟨p, 0, none⟩)), (3, .pointer (some ⟨p, 0, none⟩)), (2, .pointer (some ⟨p, 0, none⟩)), (0, .pointer (some ⟨p, 0, none⟩))]) (by kernel_rfl) ?_
  refine VT_load (d := 33) (t := 43) (a := ⟨p, 0, none⟩) (v := .slice (some ⟨sb1, so1, none⟩) n c) (by kernel_rfl) (by kernel_rfl) ?_ ?_
  · intro w5 hr2
    replace hS := Step.transNew hS hr2 (fun i hi hG => by (try simp only at hG); (first | show _ ∨ _ | show _ = _); omega)
    replace ho := ho.step hr2 (by (try simp only); omega)
    replace hv := hv.step hr2 (fun k hk1 hk2 hG => by (try simp only at hG); omega)
    replace hhi := Nat.le_trans hhi (hr2).size
    replace ho1 := ho1.step hr2 (by (try simp only); omega)
    replace hsl1 := hsl1.step hr2 (fun k hk hG => by (try simp only at hG); omega)
    exact (Loads.own1 ho (by kernel_rfl) (by rfl))
  refine VT_pures 2 (kn' := [(14, .int .i64 (IntKind.wrap .i64 (((i : Nat) : Int) + 1))), (13, .int .i64 ((i : Nat) : Int)), (12, .slice (some ⟨sb1, so1, none⟩) n c), (11, .pointer (some ⟨p, 0, none⟩)), (10, .pointer (some ⟨p, 0, none⟩)), (9, .pointer (some ⟨p, 0, none⟩)), (7, .slice A1 i c), (6, .int .i64 ((i : Nat) : Int)), (5, .slice (some ⟨sb1, so1, none⟩) n c), (4, .pointer (some ⟨p, 0, none⟩)), (3, .pointer (some ⟨p, 0, none⟩)), (2, .pointer (some ⟨p, 0, none⟩)), (0, .pointer (some ⟨p, 0, none⟩))]) (by kernel_rfl) ?_
  refine VT_sliceV (d := 36) (A := (some ⟨sb1, so1, none⟩)) (sz := 4) (len := n) (cap := c) (lo := (some (IntKind.wrap .i64 (((i : Nat) : Int) + 1)))) (hi := none) (mx := none) (by kernel_rfl) (by kernel_rfl) (fun h => by first | exact absurd rfl h | exact (fun h => by cases h)) (Sl2.sl hv) (i + 1) n c (show IntKind.wrap .i64 (((i : Nat) : Int) + 1) = ((i + 1 : Nat) : Int) from (by rw [wrap_i64 _ (by omega) (by omega)]; omega)) rfl rfl (by omega) (by omega) (by omega) (n - (i + 1)) (by omega) (c - (i + 1)) (by omega) _ (flat_cut ecells_len L (i + 1) (n - (i + 1))) ?_
  intro A2 hsl2
  refine VT_chain (by kernel_rfl) ?_
  intro w6 hs2
  have hzhs2 := hs2.size
  replace hS := Step.trans hS (Step.weak hs2)
  replace ho := ho.no hs2
  replace hv := hv.step hs2 (fun k hk1 hk2 hF => hF)
  replace hhi := Nat.le_trans hhi (hs2).size
  replace ho1 := ho1.no hs2
  replace hsl1 := hsl1.no hs2
  replace hsl2 := hsl2.no hs2
  have hzs4 := hS.size
  have hzl6 := ho.lt
  have hzk2 := hhi
  have hzl7 := ho1.lt
  have hzs5 := hS.size
  have hzl8 := ho.lt
  have hzk3 := hhi
  have hzl9 := ho1.lt
  refine VTc_bs (d := 22) (e := 69) (c := #[]) (len := 0) (by kernel_rfl) (by kernel_rfl) (fun b w1 hn => hn.step _) ?_
  intro b2 w7 hn2
  replace hS := Step.trans hS (Step.weak (hn2.step No))
  replace ho := ho.no (hn2.step No)
  replace hv := hv.step (hn2.step No) (fun k hk1 hk2 hF => hF)
  replace hhi := Nat.le_trans hhi (hn2.step No).size
  replace ho1 := ho1.no (hn2.step No)
  replace hsl1 := hsl1.no (hn2.step No)
  replace hsl2 := hsl2.no (hn2.step No)
  have ho2 := hn2.own
  have hzhn2 := hn2.size
  have hqhn2 := hn2.eqb
  refine VT_chain (by kernel_rfl) ?_
  intro w8 hs3
  have hzhs3 := hs3.size
  replace hS := Step.trans hS (Step.weak hs3)
  replace ho := ho.no hs3
  replace hv := hv.step hs3 (fun k hk1 hk2 hF => hF)
  replace hhi := Nat.le_trans hhi (hs3).size
  replace ho1 := ho1.no hs3
  replace hsl1 := hsl1.no hs3
  replace hsl2 := hsl2.no hs3
  replace ho2 := ho2.no hs3
  have hzs6 := hS.size
  have hzl10 := ho.lt
  have hzk4 := hhi
  have hzl11 := ho1.lt
  have hzl12 := ho2.lt
  have hbase1 := Nat.le_of_lt ho2.lt
  have hrowhbase1 := RwS.of_new (n := 0) (sz := 4) (base := b2) ho2 (Nat.le_refl _) (by simp [maxLen]) (by rfl)
  refine VTc_appendZ (d := 29) (e := 69) (A := (some ⟨b2, 0, none⟩)) (mm := 0) (c := 0) (A2 := A1) (m2 := i) (c2 := c) (sz := 4) (bytes := 32) (by kernel_rfl) (by kernel_rfl) (by kernel_rfl) b2 w8.heap.size (flat Ent.cells ([])) (flat Ent.cells (L.take i)) hrowhbase1 (by rw [flat_len ecells_len, show (L.take i).length = i from (by simp only [List.length_take, List.length_drop]; have hq9 : L.length = n := hn; omega)]) (Sl.mono hsl1 (by first | exact Nat.le_refl _ | omega)) (flat_one' ecells_one _) i (by omega) (by simp only [maxLen]; omega) (by omega) (by omega) ?_ ?_
  · intro w1 hs1; exact Step.mono hs1 (fun i hi => by have hi1 := (RwS.lt hrowhbase1 i hi).1; (try simp only); omega)
  intro A3 c1 w9 hr3 hg1
  replace hr3 : RwS w9 4 b2 69 A3 i c1 (flat Ent.cells (L.take i)) := RwS.cast hr3 rfl (by simp only [flat_append, flat_one, List.append_assoc, List.nil_append, List.append_nil, show flat Ent.cells [] = [] from rfl])
  replace hg1 := Step.mono (G := fun k => b2 ≤ k) hg1 (fun i hi => (RwS.lt hrowhbase1 i hi).1)
  have hzhg1 := hg1.size
  replace hS := Step.transNew hS hg1 (fun i hi hG => by (try simp only at hG); (first | show _ ∨ _ | show _ = _); omega)
  replace ho := ho.step hg1 (by (try simp only); omega)
  replace hv := hv.step hg1 (fun k hk1 hk2 hG => by (try simp only at hG); omega)
  replace hhi := Nat.le_trans hhi (hg1).size
  replace ho1 := ho1.step hg1 (by (try simp only); omega)
  replace hsl2 := hsl2.step hg1 (fun k hk hG => by (try simp only at hG); omega)
  replace hbase1 := Nat.le_trans hbase1 (hg1).size
  have hlhr3 : (L.take i).length = i := by have hq9 := RwS.len hr3; rw [flat_len ecells_len] at hq9; omega
  refine VT_chain (by kernel_rfl) ?_
  intro w10 hs4
  have hzhs4 := hs4.size
  replace hS := Step.trans hS (Step.weak hs4)
  replace ho := ho.no hs4
  replace hv := hv.step hs4 (fun k hk1 hk2 hF => hF)
  replace hhi := Nat.le_trans hhi (hs4).size
  replace ho1 := ho1.no hs4
  replace hsl2 := hsl2.no hs4
  replace hbase1 := Nat.le_trans hbase1 (hs4).size
  replace hr3 := hr3.no hs4
  have hzs7 := hS.size
  have hzl13 := ho.lt
  have hzk5 := hhi
  have hzl14 := ho1.lt
  have hzk6 := hbase1
  refine VTc_appendZ (d := 37) (e := 69) (A := A3) (mm := i) (c := c1) (A2 := A2) (m2 := (n - (i + 1))) (c2 := (c - (i + 1))) (sz := 4) (bytes := 32) (by kernel_rfl) (by kernel_rfl) (by kernel_rfl) b2 w10.heap.size (flat Ent.cells (L.take i)) (flat Ent.cells ((L.drop (i + 1)).take (n - (i + 1)))) hr3 (by rw [flat_len ecells_len, show ((L.drop (i + 1)).take (n - (i + 1))).length = (n - (i + 1)) from (by simp only [List.length_take, List.length_drop]; have hq9 : L.length = n := hn; omega)]) (Sl.mono hsl2 (by first | exact Nat.le_refl _ | omega)) (flat_one' ecells_one _) (i + (n - (i + 1))) (by omega) (by simp only [maxLen]; omega) (by omega) (by omega) ?_ ?_
  · intro w1 hs1; exact Step.mono hs1 (fun i hi => by have hi1 := (RwS.lt hr3 i hi).1; (try simp only); omega)
  intro A4 c2 w11 hr4 hg2
  replace hr4 : RwS w11 4 b2 69 A4 (i + (n - (i + 1))) c2 (flat Ent.cells ((L.take i) ++ ((L.drop (i + 1)).take (n - (i + 1))))) := RwS.cast hr4 rfl (by simp only [flat_append, flat_one, List.append_assoc, List.nil_append, List.append_nil, show flat Ent.cells [] = [] from rfl])
  replace hg2 := Step.mono (G := fun k => b2 ≤ k) hg2 (fun i hi => (RwS.lt hr3 i hi).1)
  have hzhg2 := hg2.size
  replace hS := Step.transNew hS hg2 (fun i hi hG => by (try simp only at hG); (first | show _ ∨ _ | show _ = _); omega)
  replace ho := ho.step hg2 (by (try simp only); omega)
  replace hv := hv.step hg2 (fun k hk1 hk2 hG => by (try simp only at hG); omega)
  replace hhi := Nat.le_trans hhi (hg2).size
  replace ho1 := ho1.step hg2 (by (try simp only); omega)
  replace hbase1 := Nat.le_trans hbase1 (hg2).size
  have hlhr4 : ((L.take i) ++ ((L.drop (i + 1)).take (n - (i + 1)))).length = i + (n - (i + 1)) := by have hq9 := RwS.len hr4; rw [flat_len ecells_len] at hq9; omega
  refine VT_end ?_
  intro w12 hs5
  replace hS := Step.trans hS (Step.weak hs5)
  replace ho := ho.no hs5
  replace hv := hv.step hs5 (fun k hk1 hk2 hF => hF)
  replace hhi := Nat.le_trans hhi (hs5).size
  replace ho1 := ho1.no hs5
  replace hbase1 := Nat.le_trans hbase1 (hs5).size
  replace hr4 := hr4.no hs5
  refine VL_keep [7, 21, 37] [(7, .int .i64 y.n), (21, .pointer (some ⟨p, 0, none⟩)), (37, .slice A4 (i + (n - (i + 1))) c2)] (by kernel_rfl) ?_
  refine VL_pure 19 [7, 37, 39] [(7, .int .i64 y.n), (37, .slice A4 (i + (n - (i + 1))) c2), (39, .pointer (some ⟨p, 0, none⟩))] (by kernel_rfl) rfl ?_
  refine VL_store (b := p) (o := 0) (vs := [.slice A4 (i + (n - (i + 1))) c2]) (by kernel_rfl) (by kernel_rfl) ho (Nat.le_of_ble_eq_true (by kernel_rfl)) ?_
  intro w13 hw1
  replace hS := Step.trans hS (Step.mono hw1.step (by intro i hi; first | exact hi | (have hi9 : i = p := hi; (first | show _ ∨ _ | show _ = _); omega)))
  replace hv := hv.step hw1.step (fun k hk1 hk2 (hF : k = p) => by omega)
  replace hhi := Nat.le_trans hhi (hw1.step).size
  replace ho1 := ho1.step hw1.step (show ¬ b1 = p by omega)
  replace hbase1 := Nat.le_trans hbase1 (hw1.step).size
  replace hr4 := hr4.step hw1.step (fun k hk (hF : k = p) => by omega)
  have ho3 : Own w13 p #[.slice A4 (i + (n - (i + 1))) c2, .int .i64 room] 54 := Own.cast hw1.own (by kernel_rfl)
  have hzhw1 := hw1.same
  refine VL_end (by kernel_rfl) ?_
  refine VQ_next ?_
  refine VC_seq ?_
  refine VC_region ?_
  refine VL_pure 3 [4, 5] [(4, .int .i64 y.n), (5, .bool true)] (by kernel_rfl) rfl ?_
  refine VL_end (by kernel_rfl) ?_
  refine VQ_next ?_
  refine VC_ret ?_
  refine VQ_ret2 (.int .i64 y.n) (.bool true) (.inr rfl) rfl rfl rfl ?_
  exact ⟨rfl, Rt.sl ho3 (by simp only [List.length_append, List.length_take, List.length_drop]; omega) (RwS.cast hr4 (by omega) (by rw [List.take_of_length_le (show (L.drop (i + 1)).length ≤ _ by rw [List.length_drop]; omega)])) (by omega), hS⟩

end Go.Proofs.Ytfkahhkojlfmdaa
