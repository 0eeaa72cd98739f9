/- Layer 9: ConnsMap. -/
import Derived.Test.YtfkahhkojlfmdaaProg
import Derived.Test.YtfkahhkojlfmdaaCnMm
import Derived.Test.YtfkahhkojlfmdaaCn4
set_option linter.unusedVariables false
set_option linter.unusedSimpArgs false
namespace Go.Proofs.Ytfkahhkojlfmdaa
open Go.Vc Go.RowKit

set_option maxRecDepth 100000 in
set_option maxHeartbeats 4000000 in
theorem connsMap_any (A : Option Addr) (n cc : Nat) (q : Nat → Op4) (w : World) (hA : OpsAt w A n q) :
    CV Try.prog 4 #[.slice A n cc] w (fun x w1 => x = .bool true ∧ Step No w w1) := by
  have hS : Step No w w := Step.refl _ _
  refine CV_enter Try.f4 _ 131 [(0, .slice A n cc)] Try.func4 rfl rfl (by kernel_rfl) rfl ?_
  refine VC_seq ?_
  refine VC_region ?_
  refine VL_pure 1 [0] [(0, .slice A n cc)] (by kernel_rfl) rfl ?_
  refine VL_end (by kernel_rfl) ?_
  refine VQ_next ?_
  refine VC_seq ?_
  refine VC_seq ?_
  refine VC_region ?_
  have hzs1 := hS.size
  refine VL_call (d := 17) (f := 9) (args := #[]) (by kernel_rfl) (by kernel_rfl) (by kernel_rfl) Try.call9 (awake_any _) ?_
  rintro _ w1 ⟨rfl, hc1⟩
  replace hS := Step.trans hS hc1
  refine VL_pure 7 [0, 23] [(0, .slice A n cc), (23, .bool (decide (((n : Nat) : Int) > 60)))] (by kernel_rfl) rfl ?_
  refine VL_end (by kernel_rfl) ?_
  refine VQ_next ?_
  refine VC_dec (((n : Nat) : Int) > 60) (by kernel_rfl) (fun h1 => ?_) (fun h1 => ?_)
  · refine VC_seq ?_
    refine VC_region ?_
    have hzs2 := hS.size
    refine VL_call (d := 24) (f := 9) (args := #[]) (by kernel_rfl) (by kernel_rfl) (by kernel_rfl) Try.call9 (awake_any _) ?_
    rintro _ w2 ⟨rfl, hc2⟩
    replace hS := Step.trans hS hc2
    refine VL_pure 2 [2] [(2, .bool true)] (by kernel_rfl) rfl ?_
    refine VL_end (by kernel_rfl) ?_
    refine VQ_next ?_
    refine VC_ret ?_
    refine VQ_then_ret ?_
    refine VQ_ret1 (.bool true) (.inr rfl) rfl rfl ?_
    exact ⟨rfl, hS⟩
  · refine VC_skip ?_
    refine VQ_next ?_
    refine VC_seq ?_
    refine VC_region ?_
    have hzs3 := hS.size
    refine VL_call (d := 25) (f := 10) (args := #[.int .i64 64]) (by kernel_rfl) (by kernel_rfl) (by kernel_rfl) Try.call10 (tnew 64 _) ?_
    rintro _ w3 ⟨tb1, rfl, hftb1, hT1, hc3⟩
    replace hS := Step.trans hS hc3
    rw [show imax 0 (imin 64 64) = 64 from by decide] at hT1
    have hztb1 := hT1.lt
    refine VL_pure 2 [0, 3] [(0, .slice A n cc), (3, .pointer (some ⟨tb1, 0, none⟩))] (by kernel_rfl) rfl ?_
    refine VL_end (by kernel_rfl) ?_
    refine VQ_next ?_
    refine VC_seq ?_
    refine VC_region ?_
    refine VL_mkMap (d := 26) (by kernel_rfl) (by kernel_rfl) ?_
    intro mp1 w4 hn1
    replace hS := Step.trans hS (hn1.step No)
    replace hT1 := Tb.no hT1 (hn1.step No)
    have hM1 := New.map hn1 ek3 ui
    have hzhn1 := hn1.size
    have hqhn1 := hn1.eqb
    refine VL_pure 2 [0, 3, 4] [(0, .slice A n cc), (3, .pointer (some ⟨tb1, 0, none⟩)), (4, .map (some mp1))] (by kernel_rfl) rfl ?_
    refine VL_end (by kernel_rfl) ?_
    refine VQ_next ?_
    refine VC_seq ?_
    refine VC_seq ?_
    refine VC_region ?_
    refine VL_pure 3 [0, 3, 4, 28, 29] [(0, .slice A n cc), (3, .pointer (some ⟨tb1, 0, none⟩)), (4, .map (some mp1)), (28, .int .i64 ((n : Nat) : Int)), (29, .int .i64 0)] (by kernel_rfl) rfl ?_
    refine VL_end (by kernel_rfl) ?_
    refine VQ_next ?_
    refine VC_block ?_
    refine VC_loop (σ := Nat × (List Ent) × (List (K3 × Int))) (fun σs => [(0, .slice A n cc), (3, .pointer (some ⟨tb1, 0, none⟩)), (4, .map (some mp1)), (28, .int .i64 ((n : Nat) : Int)), (29, .int .i64 ((σs.1 : Nat) : Int))]) (fun σs wr => σs.1 ≤ n ∧ Tb wr tb1 64 σs.2.1 ∧ MapL wr mp1 ek3 ui σs.2.2 ∧ TM σs.2.1 σs.2.2 ∧ σs.2.1.length ≤ σs.1 ∧ (Step No w wr)) (fun σs wr => n - σs.1) ⟨0, [], []⟩ ⟨rfl, rfl, rfl, rfl, rfl, trivial⟩ ?_ ?_
    · exact ⟨Nat.zero_le _, hT1, hM1, TM.nil, Nat.le_refl _, hS⟩
    rintro ⟨k, L, M⟩ wr ⟨hk0, hT, hM, hTM, hLk, hS⟩
    try dsimp only at hk0 hT hM hTM hLk hS ⊢
    have hsr := hT.srt
    have hky := hM.keys
    refine VC_seq ?_
    refine VC_region ?_
    refine VL_pure 1 [0, 3, 4, 28, 29, 30] [(0, .slice A n cc), (3, .pointer (some ⟨tb1, 0, none⟩)), (4, .map (some mp1)), (28, .int .i64 ((n : Nat) : Int)), (29, .int .i64 ((k : Nat) : Int)), (30, .bool (decide (((k : Nat) : Int) < ((n : Nat) : Int))))] (by kernel_rfl) rfl ?_
    refine VL_end (by kernel_rfl) ?_
    refine VQ_next ?_
    refine VC_seq ?_
    refine VC_dec (((k : Nat) : Int) < ((n : Nat) : Int)) (by kernel_rfl) (fun h2 => ?_) (fun h2 => ?_)
    · refine VC_skip ?_
      refine VQ_next ?_
      refine VC_seq ?_
      refine VC_block ?_
      refine VC_seq ?_
      have hk : k < n := by omega
      obtain ⟨lb, lo, rfl, hL⟩ := hA (by omega)
      replace hL : OpsB w lb lo n q := hL
      refine VC_region ?_
      refine VL_pure 2 [0, 3, 4, 28, 29, 5] [(0, .slice (some ⟨lb, lo, none⟩) n cc), (3, .pointer (some ⟨tb1, 0, none⟩)), (4, .map (some mp1)), (28, .int .i64 ((n : Nat) : Int)), (29, .int .i64 ((k : Nat) : Int)), (5, .int .i64 ((k : Nat) : Int))] (by kernel_rfl) rfl ?_
      refine VL_end (by kernel_rfl) ?_
      refine VQ_next ?_
      refine VC_seq ?_
      refine VC_region ?_
      refine VL_pure 2 [0, 3, 4, 28, 29, 5, 32, 33] [(0, .slice (some ⟨lb, lo, none⟩) n cc), (3, .pointer (some ⟨tb1, 0, none⟩)), (4, .map (some mp1)), (28, .int .i64 ((n : Nat) : Int)), (29, .int .i64 ((k : Nat) : Int)), (5, .int .i64 ((k : Nat) : Int)), (32, .slice (some ⟨lb, lo, none⟩) n cc), (33, .int .i64 ((k : Nat) : Int))] (by kernel_rfl) rfl ?_
      refine VL_index (d := 34) (b := lb) (o := lo) (len := n) (sz := 4) (m := ((k : Nat) : Int)) (by kernel_rfl) (by kernel_rfl) k (by rfl) (by omega) (lo + k * 4) (by omega) ?_
      refine VL_pure 4 [0, 3, 4, 28, 29, 5, 35] [(0, .slice (some ⟨lb, lo, none⟩) n cc), (3, .pointer (some ⟨tb1, 0, none⟩)), (4, .map (some mp1)), (28, .int .i64 ((n : Nat) : Int)), (29, .int .i64 ((k : Nat) : Int)), (5, .int .i64 ((k : Nat) : Int)), (35, .pointer (some ⟨lb, lo + k * 4, none⟩))] (by kernel_rfl) rfl ?_
      refine VL_load (d := 36) (t := 29) (a := ⟨lb, lo + k * 4, none⟩) (v := .agg #[.int .i64 ((q k).p), .int .i64 ((q k).v), .int .i64 ((q k).c)]) (by kernel_rfl) (by kernel_rfl) (hL.key hS (by kernel_rfl) k hk) ?_
      have hzl1 := Tb.lt hT
      have hzl2 := MapL.lt hM
      have hzs4 := hS.size
      refine VL_box (d := 6) (t := 29) (c := #[.int .i64 0, .int .i64 0, .int .i64 0]) (by kernel_rfl) (by kernel_rfl) ?_
      intro b1 w5 hn2
      replace hT := Tb.no hT (hn2.step No)
      replace hM := MapL.no hM (hn2.step No)
      replace hS := Step.trans hS (hn2.step No)
      have ho1 := hn2.own
      have hzhn2 := hn2.size
      have hqhn2 := hn2.eqb
      refine VL_store (b := b1) (o := 0) (vs := [.int .i64 ((q k).p), .int .i64 ((q k).v), .int .i64 ((q k).c)]) (by kernel_rfl) (by kernel_rfl) ho1 (Nat.le_of_ble_eq_true (by kernel_rfl)) ?_
      intro w6 hw1
      replace hT := Tb.step hT hw1.step (show ¬ tb1 = b1 by omega)
      replace hM := MapL.step hM hw1.step (show ¬ mp1 = b1 by omega)
      replace hS := Step.transNew hS hw1.step (fun _ _ _ => by omega)
      have ho2 : Own w6 b1 #[.int .i64 ((q k).p), .int .i64 ((q k).v), .int .i64 ((q k).c)] 29 := Own.cast hw1.own (by kernel_rfl)
      have hzhw1 := hw1.same
      refine VL_end (by kernel_rfl) ?_
      refine VQ_next ?_
      refine VC_seq ?_
      refine VC_region ?_
      refine VL_pure 1 [0, 3, 4, 28, 29, 5, 6, 38] [(0, .slice (some ⟨lb, lo, none⟩) n cc), (3, .pointer (some ⟨tb1, 0, none⟩)), (4, .map (some mp1)), (28, .int .i64 ((n : Nat) : Int)), (29, .int .i64 ((k : Nat) : Int)), (5, .int .i64 ((k : Nat) : Int)), (6, .pointer (some ⟨b1, 0, none⟩)), (38, .map (some mp1))] (by kernel_rfl) rfl ?_
      refine VL_load (d := 39) (t := 29) (a := ⟨b1, 0, none⟩) (v := .agg #[.int .i64 ((q k).p), .int .i64 ((q k).v), .int .i64 ((q k).c)]) (by kernel_rfl) (by kernel_rfl) (Loads.ownL ho2 (n := 3) (by kernel_rfl) (by kernel_rfl) (by kernel_rfl)) ?_
      have hlk1 : (lookE L ((q k).p) ((q k).v) ((q k).c)) = getM M ((q k).p, (q k).v, (q k).c) := hTM.look _ _ _
      refine VL_lookup (ek := ek3) (u := ui) (d := 40) (m := mp1) (kt := 29) (z := .int .i64 0) (k := ((q k).p, (q k).v, (q k).c)) (ok := true) (by kernel_rfl) (by kernel_rfl) keyT3 hM (.int .i64 ((lookE L ((q k).p) ((q k).v) ((q k).c)).getD 0)) (by rw [← hlk1]; cases (lookE L ((q k).p) ((q k).v) ((q k).c)) <;> rfl) ?_
      refine VL_keep [0, 3, 4, 28, 29, 5, 6, 38, 39, 40] [(0, .slice (some ⟨lb, lo, none⟩) n cc), (3, .pointer (some ⟨tb1, 0, none⟩)), (4, .map (some mp1)), (28, .int .i64 ((n : Nat) : Int)), (29, .int .i64 ((k : Nat) : Int)), (5, .int .i64 ((k : Nat) : Int)), (6, .pointer (some ⟨b1, 0, none⟩)), (38, .map (some mp1)), (39, .agg #[.int .i64 ((q k).p), .int .i64 ((q k).v), .int .i64 ((q k).c)]), (40, .tuple #[.int .i64 ((lookE L ((q k).p) ((q k).v) ((q k).c)).getD 0), .bool ((getM M ((q k).p, (q k).v, (q k).c)).isSome)])] (by kernel_rfl) ?_
      have hex1 : (getM M ((q k).p, (q k).v, (q k).c)).isSome = (lookE L ((q k).p) ((q k).v) ((q k).c)).isSome := by rw [hlk1]
      refine VL_eq [(0, .slice (some ⟨lb, lo, none⟩) n cc), (3, .pointer (some ⟨tb1, 0, none⟩)), (4, .map (some mp1)), (28, .int .i64 ((n : Nat) : Int)), (29, .int .i64 ((k : Nat) : Int)), (5, .int .i64 ((k : Nat) : Int)), (6, .pointer (some ⟨b1, 0, none⟩)), (38, .map (some mp1)), (39, .agg #[.int .i64 ((q k).p), .int .i64 ((q k).v), .int .i64 ((q k).c)]), (40, .tuple #[.int .i64 ((lookE L ((q k).p) ((q k).v) ((q k).c)).getD 0), .bool ((lookE L ((q k).p) ((q k).v) ((q k).c)).isSome)])] (by rw [hex1]) ?_
      refine VL_pure 8 [0, 3, 4, 28, 29, 5, 6, 7, 8] [(0, .slice (some ⟨lb, lo, none⟩) n cc), (3, .pointer (some ⟨tb1, 0, none⟩)), (4, .map (some mp1)), (28, .int .i64 ((n : Nat) : Int)), (29, .int .i64 ((k : Nat) : Int)), (5, .int .i64 ((k : Nat) : Int)), (6, .pointer (some ⟨b1, 0, none⟩)), (7, .int .i64 ((lookE L ((q k).p) ((q k).v) ((q k).c)).getD 0)), (8, .bool ((lookE L ((q k).p) ((q k).v) ((q k).c)).isSome))] (by kernel_rfl) rfl ?_
      refine VL_end (by kernel_rfl) ?_
      refine VQ_next ?_
      refine VC_seq ?_
      refine VC_seq ?_
      refine VC_region ?_
      refine VL_pure 2 [0, 3, 4, 28, 29, 5, 6, 7, 8, 43, 44] [(0, .slice (some ⟨lb, lo, none⟩) n cc), (3, .pointer (some ⟨tb1, 0, none⟩)), (4, .map (some mp1)), (28, .int .i64 ((n : Nat) : Int)), (29, .int .i64 ((k : Nat) : Int)), (5, .int .i64 ((k : Nat) : Int)), (6, .pointer (some ⟨b1, 0, none⟩)), (7, .int .i64 ((lookE L ((q k).p) ((q k).v) ((q k).c)).getD 0)), (8, .bool ((lookE L ((q k).p) ((q k).v) ((q k).c)).isSome)), (43, .slice (some ⟨lb, lo, none⟩) n cc), (44, .int .i64 ((k : Nat) : Int))] (by kernel_rfl) rfl ?_
      refine VL_index (d := 45) (b := lb) (o := lo) (len := n) (sz := 4) (m := ((k : Nat) : Int)) (by kernel_rfl) (by kernel_rfl) k (by rfl) (by omega) (lo + k * 4) (by omega) ?_
      refine VL_pure 4 [0, 3, 4, 28, 29, 5, 6, 7, 8, 46] [(0, .slice (some ⟨lb, lo, none⟩) n cc), (3, .pointer (some ⟨tb1, 0, none⟩)), (4, .map (some mp1)), (28, .int .i64 ((n : Nat) : Int)), (29, .int .i64 ((k : Nat) : Int)), (5, .int .i64 ((k : Nat) : Int)), (6, .pointer (some ⟨b1, 0, none⟩)), (7, .int .i64 ((lookE L ((q k).p) ((q k).v) ((q k).c)).getD 0)), (8, .bool ((lookE L ((q k).p) ((q k).v) ((q k).c)).isSome)), (46, .pointer (some ⟨lb, lo + k * 4 + 3, none⟩))] (by kernel_rfl) rfl ?_
      refine VL_load (d := 47) (t := 3) (a := ⟨lb, lo + k * 4 + 3, none⟩) (v := .int .i64 ((q k).n)) (by kernel_rfl) (by kernel_rfl) (hL.num hS (by kernel_rfl) k hk) ?_
      refine VL_pure 6 [0, 3, 4, 28, 29, 5, 6, 7, 8, 48] [(0, .slice (some ⟨lb, lo, none⟩) n cc), (3, .pointer (some ⟨tb1, 0, none⟩)), (4, .map (some mp1)), (28, .int .i64 ((n : Nat) : Int)), (29, .int .i64 ((k : Nat) : Int)), (5, .int .i64 ((k : Nat) : Int)), (6, .pointer (some ⟨b1, 0, none⟩)), (7, .int .i64 ((lookE L ((q k).p) ((q k).v) ((q k).c)).getD 0)), (8, .bool ((lookE L ((q k).p) ((q k).v) ((q k).c)).isSome)), (48, .bool (decide (((q k).n) < 0)))] (by kernel_rfl) rfl ?_
      refine VL_end (by kernel_rfl) ?_
      refine VQ_next ?_
      refine VC_dec (((q k).n) < 0) (by kernel_rfl) (fun h3 => ?_) (fun h3 => ?_)
      · refine VC_seq ?_
        refine VC_region ?_
        refine VL_pure 1 [0, 3, 4, 28, 29, 6, 7, 8, 50] [(0, .slice (some ⟨lb, lo, none⟩) n cc), (3, .pointer (some ⟨tb1, 0, none⟩)), (4, .map (some mp1)), (28, .int .i64 ((n : Nat) : Int)), (29, .int .i64 ((k : Nat) : Int)), (6, .pointer (some ⟨b1, 0, none⟩)), (7, .int .i64 ((lookE L ((q k).p) ((q k).v) ((q k).c)).getD 0)), (8, .bool ((lookE L ((q k).p) ((q k).v) ((q k).c)).isSome)), (50, .pointer (some ⟨tb1, 0, none⟩))] (by kernel_rfl) rfl ?_
        refine VL_load (d := 51) (t := 29) (a := ⟨b1, 0, none⟩) (v := .agg #[.int .i64 ((q k).p), .int .i64 ((q k).v), .int .i64 ((q k).c)]) (by kernel_rfl) (by kernel_rfl) (Loads.ownL ho2 (n := 3) (by kernel_rfl) (by kernel_rfl) (by kernel_rfl)) ?_
        have hzl3 := Tb.lt hT
        have hzl4 := MapL.lt hM
        have hzs5 := hS.size
        have hzl5 := ho2.lt
        refine VL_call (d := 52) (f := 16) (args := #[.pointer (some ⟨tb1, 0, none⟩), .agg #[.int .i64 ((q k).p), .int .i64 ((q k).v), .int .i64 ((q k).c)]]) (by kernel_rfl) (by kernel_rfl) (by kernel_rfl) Try.call16 (tdrop ((q k).p) ((q k).v) ((q k).c) hT) ?_
        rintro _ w7 ⟨rfl, hT2, hc4⟩
        replace hM := MapL.step hM hc4 (show ¬ mp1 = tb1 by omega)
        replace hS := Step.transNew hS hc4 (fun _ _ _ => by omega)
        replace ho2 := ho2.step hc4 (show ¬ b1 = tb1 by omega)
        refine VL_pure 8 [0, 3, 4, 28, 29, 6, 7, 8, 9, 10] [(0, .slice (some ⟨lb, lo, none⟩) n cc), (3, .pointer (some ⟨tb1, 0, none⟩)), (4, .map (some mp1)), (28, .int .i64 ((n : Nat) : Int)), (29, .int .i64 ((k : Nat) : Int)), (6, .pointer (some ⟨b1, 0, none⟩)), (7, .int .i64 ((lookE L ((q k).p) ((q k).v) ((q k).c)).getD 0)), (8, .bool ((lookE L ((q k).p) ((q k).v) ((q k).c)).isSome)), (9, .int .i64 ((lookE L ((q k).p) ((q k).v) ((q k).c)).getD 0)), (10, .bool ((lookE L ((q k).p) ((q k).v) ((q k).c)).isSome))] (by kernel_rfl) rfl ?_
        refine VL_end (by kernel_rfl) ?_
        refine VQ_next ?_
        refine VC_seq ?_
        refine VC_seq ?_
        refine VC_region ?_
        refine VL_pure 4 [0, 3, 4, 28, 29, 6, 7, 9, 58] [(0, .slice (some ⟨lb, lo, none⟩) n cc), (3, .pointer (some ⟨tb1, 0, none⟩)), (4, .map (some mp1)), (28, .int .i64 ((n : Nat) : Int)), (29, .int .i64 ((k : Nat) : Int)), (6, .pointer (some ⟨b1, 0, none⟩)), (7, .int .i64 ((lookE L ((q k).p) ((q k).v) ((q k).c)).getD 0)), (9, .int .i64 ((lookE L ((q k).p) ((q k).v) ((q k).c)).getD 0)), (58, .bool (!(((lookE L ((q k).p) ((q k).v) ((q k).c)).isSome) == ((lookE L ((q k).p) ((q k).v) ((q k).c)).isSome))))] (by kernel_rfl) rfl ?_
        refine VL_known (!(((lookE L ((q k).p) ((q k).v) ((q k).c)).isSome) == ((lookE L ((q k).p) ((q k).v) ((q k).c)).isSome))) (fun bV => [(0, .slice (some ⟨lb, lo, none⟩) n cc), (3, .pointer (some ⟨tb1, 0, none⟩)), (4, .map (some mp1)), (28, .int .i64 ((n : Nat) : Int)), (29, .int .i64 ((k : Nat) : Int)), (6, .pointer (some ⟨b1, 0, none⟩)), (7, .int .i64 ((lookE L ((q k).p) ((q k).v) ((q k).c)).getD 0)), (9, .int .i64 ((lookE L ((q k).p) ((q k).v) ((q k).c)).getD 0)), (58, .bool bV)]) false rfl (by simp) ?_
        refine VL_pure 8 [0, 3, 4, 28, 29, 6, 62] [(0, .slice (some ⟨lb, lo, none⟩) n cc), (3, .pointer (some ⟨tb1, 0, none⟩)), (4, .map (some mp1)), (28, .int .i64 ((n : Nat) : Int)), (29, .int .i64 ((k : Nat) : Int)), (6, .pointer (some ⟨b1, 0, none⟩)), (62, .bool (((lookE L ((q k).p) ((q k).v) ((q k).c)).getD 0) != ((lookE L ((q k).p) ((q k).v) ((q k).c)).getD 0)))] (by kernel_rfl) rfl ?_
        refine VL_end (by kernel_rfl) ?_
        refine VQ_next ?_
        refine VC_is (b := ((lookE L ((q k).p) ((q k).v) ((q k).c)).getD 0) != ((lookE L ((q k).p) ((q k).v) ((q k).c)).getD 0)) false (by kernel_rfl) (by simp) ?_
        refine VC_ite_false ?_
        refine VC_skip ?_
        refine VQ_next ?_
        refine VC_seq ?_
        refine VC_region ?_
        refine VL_pure 1 [0, 3, 4, 28, 29, 6, 63] [(0, .slice (some ⟨lb, lo, none⟩) n cc), (3, .pointer (some ⟨tb1, 0, none⟩)), (4, .map (some mp1)), (28, .int .i64 ((n : Nat) : Int)), (29, .int .i64 ((k : Nat) : Int)), (6, .pointer (some ⟨b1, 0, none⟩)), (63, .map (some mp1))] (by kernel_rfl) rfl ?_
        refine VL_load (d := 64) (t := 29) (a := ⟨b1, 0, none⟩) (v := .agg #[.int .i64 ((q k).p), .int .i64 ((q k).v), .int .i64 ((q k).c)]) (by kernel_rfl) (by kernel_rfl) (Loads.ownL ho2 (n := 3) (by kernel_rfl) (by kernel_rfl) (by kernel_rfl)) ?_
        refine VL_del (ek := ek3) (u := ui) (m := mp1) (kt := 29) (k := ((q k).p, (q k).v, (q k).c)) (by kernel_rfl) (by kernel_rfl) keyT3 hM ?_
        intro w8 hw2
        replace hS := Step.transNew hS hw2.step (fun _ _ _ => by omega)
        replace ho2 := ho2.step hw2.step (show ¬ b1 = mp1 by omega)
        replace hT2 := Tb.step hT2 hw2.step (show ¬ tb1 = mp1 by omega)
        have hM2 := hw2.map
        have hzhw2 := hw2.same
        refine VL_end (by kernel_rfl) ?_
        refine VQ_next ?_
        refine VC_exit ?_
        refine VQ_then_exit ?_
        refine VQ_block_hit ?_
        refine VQ_next ?_
        refine VC_region ?_
        refine VL_pure 1 [0, 3, 4, 28, 91] [(0, .slice (some ⟨lb, lo, none⟩) n cc), (3, .pointer (some ⟨tb1, 0, none⟩)), (4, .map (some mp1)), (28, .int .i64 ((n : Nat) : Int)), (91, .int .i64 (IntKind.wrap .i64 (((k : Nat) : Int) + 1)))] (by kernel_rfl) rfl ?_
        have he1 : IntKind.wrap .i64 (((k : Nat) : Int) + 1) = ((k + 1 : Nat) : Int) := (by rw [wrap_i64 _ (by omega) (by omega)]; omega)
        refine VL_eq [(0, .slice (some ⟨lb, lo, none⟩) n cc), (3, .pointer (some ⟨tb1, 0, none⟩)), (4, .map (some mp1)), (28, .int .i64 ((n : Nat) : Int)), (91, .int .i64 ((k + 1 : Nat) : Int))] (by rw [he1]) ?_
        refine VL_pure 2 [0, 3, 4, 28, 29] [(0, .slice (some ⟨lb, lo, none⟩) n cc), (3, .pointer (some ⟨tb1, 0, none⟩)), (4, .map (some mp1)), (28, .int .i64 ((n : Nat) : Int)), (29, .int .i64 ((k + 1 : Nat) : Int))] (by kernel_rfl) rfl ?_
        refine VL_end (by kernel_rfl) ?_
        refine VQ_again ⟨k + 1, (delE L ((q k).p) ((q k).v) ((q k).c)), delM M ((q k).p, (q k).v, (q k).c)⟩ ⟨rfl, rfl, rfl, rfl, rfl, trivial⟩ ?_ ?_
        · exact ⟨by omega, hT2, hM2, (hTM.del _ _ _ hsr hky), (Nat.le_trans (len_delE_le _ _ _ _) (by (try dsimp only); omega)), hS⟩
        · (try dsimp only); omega
      · refine VC_skip ?_
        refine VQ_next ?_
        refine VC_seq ?_
        have hs1 := drew_step w6
        have hs1z : w6.heap.size = w6.drew.heap.size := rfl
        refine VC_text [[], [], [], [], [2, 3], [2, 3, 4], [2, 3, 4, 5], [0, 1, 2, 3, 4, 5, 6], [0, 1, 2, 3, 4, 5, 6, 7]] 7 (fun x y => Step (fun k => w6.heap.size ≤ k) x y) [] [0, 1, 2, 3, 4, 5, 6] (by kernel_rfl) (by kernel_rfl) (by kernel_rfl) (by kernel_rfl) (fun x => Step.refl _ x) (fun h k => Step.trans h k) Step.weak ?_
        have hzl6 := Tb.lt hT
        have hzl7 := MapL.lt hM
        have hzs6 := hS.size
        have hzl8 := ho2.lt
        generalize w6.drew = w9 at hs1 hs1z ⊢
        replace hT := Tb.no hT hs1
        replace hM := MapL.no hM hs1
        replace hS := Step.trans hS hs1
        replace ho2 := ho2.no hs1
        refine VT_pures 1 (kn' := [(0, .pointer (some ⟨tb1, 0, none⟩))]) (by kernel_rfl) ?_
        refine VT_load (d := 66) (t := 29) (a := ⟨b1, 0, none⟩) (v := .agg #[.int .i64 ((q k).p), .int .i64 ((q k).v), .int .i64 ((q k).c)]) (by kernel_rfl) (by kernel_rfl) ?_ ?_
        · intro w10 hr1
          replace hT := Tb.step hT hr1 (by (try simp only); omega)
          replace hM := MapL.step hM hr1 (by (try simp only); omega)
          replace hS := Step.transNew hS hr1 (fun i hi hG => by (try simp only at hG); omega)
          replace ho2 := ho2.step hr1 (by (try simp only); omega)
          exact (Loads.ownL ho2 (n := 3) (by kernel_rfl) (by kernel_rfl) (by kernel_rfl))
        refine VT_pures 2 (kn' := [(3, .int .i64 ((k : Nat) : Int)), (2, .slice (some ⟨lb, lo, none⟩) n cc), (1, .agg #[.int .i64 ((q k).p), .int .i64 ((q k).v), .int .i64 ((q k).c)]), (0, .pointer (some ⟨tb1, 0, none⟩))]) (by kernel_rfl) ?_
        refine VT_index (d := 69) (b := lb) (o := lo) (len := n) (sz := 4) (mm := ((k : Nat) : Int)) (by kernel_rfl) (by kernel_rfl) k (by rfl) (by omega) (lo + k * 4) (by omega) ?_
        refine VT_pures 1 (kn' := [(5, .pointer (some ⟨lb, lo + k * 4 + 3, none⟩)), (4, .pointer (some ⟨lb, lo + k * 4, none⟩)), (3, .int .i64 ((k : Nat) : Int)), (2, .slice (some ⟨lb, lo, none⟩) n cc), (1, .agg #[.int .i64 ((q k).p), .int .i64 ((q k).v), .int .i64 ((q k).c)]), (0, .pointer (some ⟨tb1, 0, none⟩))]) (by kernel_rfl) ?_
        refine VT_load (d := 71) (t := 3) (a := ⟨lb, lo + k * 4 + 3, none⟩) (v := .int .i64 ((q k).n)) (by kernel_rfl) (by kernel_rfl) ?_ ?_
        · intro w11 hr2
          replace hT := Tb.step hT hr2 (by (try simp only); omega)
          replace hM := MapL.step hM hr2 (by (try simp only); omega)
          replace hS := Step.transNew hS hr2 (fun i hi hG => by (try simp only at hG); omega)
          replace ho2 := ho2.step hr2 (by (try simp only); omega)
          exact (hL.num hS (by kernel_rfl) k hk)
        refine VT_end ?_
        intro w12 hs2
        replace hT := Tb.no hT hs2
        replace hM := MapL.no hM hs2
        replace hS := Step.trans hS hs2
        replace ho2 := ho2.no hs2
        refine VL_keep [0, 3, 4, 28, 29, 5, 6, 8, 65, 66, 71] [(0, .slice (some ⟨lb, lo, none⟩) n cc), (3, .pointer (some ⟨tb1, 0, none⟩)), (4, .map (some mp1)), (28, .int .i64 ((n : Nat) : Int)), (29, .int .i64 ((k : Nat) : Int)), (5, .int .i64 ((k : Nat) : Int)), (6, .pointer (some ⟨b1, 0, none⟩)), (8, .bool ((lookE L ((q k).p) ((q k).v) ((q k).c)).isSome)), (65, .pointer (some ⟨tb1, 0, none⟩)), (66, .agg #[.int .i64 ((q k).p), .int .i64 ((q k).v), .int .i64 ((q k).c)]), (71, .int .i64 ((q k).n))] (by kernel_rfl) ?_
        have hzl9 := Tb.lt hT
        have hzl10 := MapL.lt hM
        have hzs7 := hS.size
        have hzl11 := ho2.lt
        refine VL_call (d := 72) (f := 11) (args := #[.pointer (some ⟨tb1, 0, none⟩), .agg #[.int .i64 ((q k).p), .int .i64 ((q k).v), .int .i64 ((q k).c)], .int .i64 ((q k).n)]) (by kernel_rfl) (by kernel_rfl) (by kernel_rfl) Try.call11 (tput ((q k).p) ((q k).v) ((q k).c) ((q k).n) hT) ?_
        rintro _ w13 ⟨rfl, hT3, hc5⟩
        replace hM := MapL.step hM hc5 (show ¬ mp1 = tb1 by omega)
        replace hS := Step.transNew hS hc5 (fun _ _ _ => by omega)
        replace ho2 := ho2.step hc5 (show ¬ b1 = tb1 by omega)
        refine VL_pure 9 [0, 3, 4, 28, 29, 5, 6, 8, 11] [(0, .slice (some ⟨lb, lo, none⟩) n cc), (3, .pointer (some ⟨tb1, 0, none⟩)), (4, .map (some mp1)), (28, .int .i64 ((n : Nat) : Int)), (29, .int .i64 ((k : Nat) : Int)), (5, .int .i64 ((k : Nat) : Int)), (6, .pointer (some ⟨b1, 0, none⟩)), (8, .bool ((lookE L ((q k).p) ((q k).v) ((q k).c)).isSome)), (11, .int .i64 (putK L 64 ((q k).p) ((q k).v) ((q k).c)))] (by kernel_rfl) rfl ?_
        refine VL_end (by kernel_rfl) ?_
        refine VQ_next ?_
        refine VC_seq ?_
        refine VC_seq ?_
        refine VC_region ?_
        refine VL_pure 5 [0, 3, 4, 28, 29, 5, 6, 11, 74, 77] [(0, .slice (some ⟨lb, lo, none⟩) n cc), (3, .pointer (some ⟨tb1, 0, none⟩)), (4, .map (some mp1)), (28, .int .i64 ((n : Nat) : Int)), (29, .int .i64 ((k : Nat) : Int)), (5, .int .i64 ((k : Nat) : Int)), (6, .pointer (some ⟨b1, 0, none⟩)), (11, .int .i64 (putK L 64 ((q k).p) ((q k).v) ((q k).c))), (74, .bool ((putK L 64 ((q k).p) ((q k).v) ((q k).c)) == 0)), (77, .bool (!((lookE L ((q k).p) ((q k).v) ((q k).c)).isSome)))] (by kernel_rfl) rfl ?_
        refine VL_bool ((lookE L ((q k).p) ((q k).v) ((q k).c)).isSome) (fun bV => [(0, .slice (some ⟨lb, lo, none⟩) n cc), (3, .pointer (some ⟨tb1, 0, none⟩)), (4, .map (some mp1)), (28, .int .i64 ((n : Nat) : Int)), (29, .int .i64 ((k : Nat) : Int)), (5, .int .i64 ((k : Nat) : Int)), (6, .pointer (some ⟨b1, 0, none⟩)), (11, .int .i64 (putK L 64 ((q k).p) ((q k).v) ((q k).c))), (74, .bool ((putK L 64 ((q k).p) ((q k).v) ((q k).c)) == 0)), (77, .bool (!bV))]) rfl (fun hg1 => ?_) (fun hg1 => ?_)
        · refine VL_pure 9 [0, 3, 4, 28, 29, 5, 6, 11, 81] [(0, .slice (some ⟨lb, lo, none⟩) n cc), (3, .pointer (some ⟨tb1, 0, none⟩)), (4, .map (some mp1)), (28, .int .i64 ((n : Nat) : Int)), (29, .int .i64 ((k : Nat) : Int)), (5, .int .i64 ((k : Nat) : Int)), (6, .pointer (some ⟨b1, 0, none⟩)), (11, .int .i64 (putK L 64 ((q k).p) ((q k).v) ((q k).c))), (81, .bool (!(((putK L 64 ((q k).p) ((q k).v) ((q k).c)) == 0) == false)))] (by kernel_rfl) rfl ?_
          refine VL_end (by kernel_rfl) ?_
          refine VQ_next ?_
          refine VC_is (b := !(((putK L 64 ((q k).p) ((q k).v) ((q k).c)) == 0) == false)) false (by kernel_rfl) (by rw [putK_is (by omega)]; simp_all) ?_
          refine VC_ite_false ?_
          refine VC_skip ?_
          refine VQ_next ?_
          refine VC_seq ?_
          refine VC_region ?_
          refine VL_pure 2 [0, 3, 4, 28, 29, 5, 6, 83] [(0, .slice (some ⟨lb, lo, none⟩) n cc), (3, .pointer (some ⟨tb1, 0, none⟩)), (4, .map (some mp1)), (28, .int .i64 ((n : Nat) : Int)), (29, .int .i64 ((k : Nat) : Int)), (5, .int .i64 ((k : Nat) : Int)), (6, .pointer (some ⟨b1, 0, none⟩)), (83, .bool ((putK L 64 ((q k).p) ((q k).v) ((q k).c)) == 0))] (by kernel_rfl) rfl ?_
          refine VL_end (by kernel_rfl) ?_
          refine VQ_next ?_
          refine VC_eq (putK L 64 ((q k).p) ((q k).v) ((q k).c)) 0 (by kernel_rfl) (fun h4 => ?_) (fun h4 => ?_)
          · have hs3 := drew_step w13
            have hs3z : w13.heap.size = w13.drew.heap.size := rfl
            refine VC_text [[], [], [], [], [2, 3], [2, 3, 4], [2, 3, 4, 5], [0, 1, 2, 3, 4, 5, 6]] 7 (fun x y => Step (fun k => w13.heap.size ≤ k) x y) [] [0, 1, 2, 3, 4, 5, 6] (by kernel_rfl) (by kernel_rfl) (by kernel_rfl) (by kernel_rfl) (fun x => Step.refl _ x) (fun h k => Step.trans h k) Step.weak ?_
            have hzl12 := MapL.lt hM
            have hzs8 := hS.size
            have hzl13 := ho2.lt
            have hzl14 := Tb.lt hT3
            generalize w13.drew = w14 at hs3 hs3z ⊢
            replace hM := MapL.no hM hs3
            replace hS := Step.trans hS hs3
            replace ho2 := ho2.no hs3
            replace hT3 := Tb.no hT3 hs3
            refine VT_pures 1 (kn' := [(0, .map (some mp1))]) (by kernel_rfl) ?_
            refine VT_load (d := 85) (t := 29) (a := ⟨b1, 0, none⟩) (v := .agg #[.int .i64 ((q k).p), .int .i64 ((q k).v), .int .i64 ((q k).c)]) (by kernel_rfl) (by kernel_rfl) ?_ ?_
            · intro w15 hr3
              replace hM := MapL.step hM hr3 (by (try simp only); omega)
              replace hS := Step.transNew hS hr3 (fun i hi hG => by (try simp only at hG); omega)
              replace ho2 := ho2.step hr3 (by (try simp only); omega)
              replace hT3 := Tb.step hT3 hr3 (by (try simp only); omega)
              exact (Loads.ownL ho2 (n := 3) (by kernel_rfl) (by kernel_rfl) (by kernel_rfl))
            refine VT_pures 2 (kn' := [(3, .int .i64 ((k : Nat) : Int)), (2, .slice (some ⟨lb, lo, none⟩) n cc), (1, .agg #[.int .i64 ((q k).p), .int .i64 ((q k).v), .int .i64 ((q k).c)]), (0, .map (some mp1))]) (by kernel_rfl) ?_
            refine VT_index (d := 88) (b := lb) (o := lo) (len := n) (sz := 4) (mm := ((k : Nat) : Int)) (by kernel_rfl) (by kernel_rfl) k (by rfl) (by omega) (lo + k * 4) (by omega) ?_
            refine VT_pures 1 (kn' := [(5, .pointer (some ⟨lb, lo + k * 4 + 3, none⟩)), (4, .pointer (some ⟨lb, lo + k * 4, none⟩)), (3, .int .i64 ((k : Nat) : Int)), (2, .slice (some ⟨lb, lo, none⟩) n cc), (1, .agg #[.int .i64 ((q k).p), .int .i64 ((q k).v), .int .i64 ((q k).c)]), (0, .map (some mp1))]) (by kernel_rfl) ?_
            refine VT_load (d := 90) (t := 3) (a := ⟨lb, lo + k * 4 + 3, none⟩) (v := .int .i64 ((q k).n)) (by kernel_rfl) (by kernel_rfl) ?_ ?_
            · intro w16 hr4
              replace hM := MapL.step hM hr4 (by (try simp only); omega)
              replace hS := Step.transNew hS hr4 (fun i hi hG => by (try simp only at hG); omega)
              replace ho2 := ho2.step hr4 (by (try simp only); omega)
              replace hT3 := Tb.step hT3 hr4 (by (try simp only); omega)
              exact (hL.num hS (by kernel_rfl) k hk)
            refine VT_end ?_
            intro w17 hs4
            replace hM := MapL.no hM hs4
            replace hS := Step.trans hS hs4
            replace ho2 := ho2.no hs4
            replace hT3 := Tb.no hT3 hs4
            refine VL_keep [0, 3, 4, 28, 29, 84, 85, 90] [(0, .slice (some ⟨lb, lo, none⟩) n cc), (3, .pointer (some ⟨tb1, 0, none⟩)), (4, .map (some mp1)), (28, .int .i64 ((n : Nat) : Int)), (29, .int .i64 ((k : Nat) : Int)), (84, .map (some mp1)), (85, .agg #[.int .i64 ((q k).p), .int .i64 ((q k).v), .int .i64 ((q k).c)]), (90, .int .i64 ((q k).n))] (by kernel_rfl) ?_
            refine VL_upd (ek := ek3) (u := ui) (m := mp1) (kt := 29) (k := ((q k).p, (q k).v, (q k).c)) (v := ((q k).n)) (by kernel_rfl) (by kernel_rfl) keyT3 hM ?_
            intro w18 hw3
            replace hS := Step.transNew hS hw3.step (fun _ _ _ => by omega)
            replace ho2 := ho2.step hw3.step (show ¬ b1 = mp1 by omega)
            replace hT3 := Tb.step hT3 hw3.step (show ¬ tb1 = mp1 by omega)
            have hM3 := hw3.map
            have hzhw3 := hw3.same
            refine VL_end (by kernel_rfl) ?_
            refine VQ_block_normal ?_
            refine VQ_next ?_
            refine VC_region ?_
            refine VL_pure 1 [0, 3, 4, 28, 91] [(0, .slice (some ⟨lb, lo, none⟩) n cc), (3, .pointer (some ⟨tb1, 0, none⟩)), (4, .map (some mp1)), (28, .int .i64 ((n : Nat) : Int)), (91, .int .i64 (IntKind.wrap .i64 (((k : Nat) : Int) + 1)))] (by kernel_rfl) rfl ?_
            have he2 : IntKind.wrap .i64 (((k : Nat) : Int) + 1) = ((k + 1 : Nat) : Int) := (by rw [wrap_i64 _ (by omega) (by omega)]; omega)
            refine VL_eq [(0, .slice (some ⟨lb, lo, none⟩) n cc), (3, .pointer (some ⟨tb1, 0, none⟩)), (4, .map (some mp1)), (28, .int .i64 ((n : Nat) : Int)), (91, .int .i64 ((k + 1 : Nat) : Int))] (by rw [he2]) ?_
            refine VL_pure 2 [0, 3, 4, 28, 29] [(0, .slice (some ⟨lb, lo, none⟩) n cc), (3, .pointer (some ⟨tb1, 0, none⟩)), (4, .map (some mp1)), (28, .int .i64 ((n : Nat) : Int)), (29, .int .i64 ((k + 1 : Nat) : Int))] (by kernel_rfl) rfl ?_
            refine VL_end (by kernel_rfl) ?_
            refine VQ_again ⟨k + 1, (putE L 64 ((q k).p) ((q k).v) ((q k).c) ((q k).n)), putM M ((q k).p, (q k).v, (q k).c) ((q k).n)⟩ ⟨rfl, rfl, rfl, rfl, rfl, trivial⟩ ?_ ?_
            · exact ⟨by omega, hT3, hM3, (hTM.put hsr (by first | assumption | simp_all)), (Nat.le_trans (len_putE_le _ _ _ _ _ _) (by (try dsimp only); omega)), hS⟩
            · (try dsimp only); omega
          · refine VC_skip ?_
            refine VQ_block_normal ?_
            refine VQ_next ?_
            refine VC_region ?_
            refine VL_pure 1 [0, 3, 4, 28, 91] [(0, .slice (some ⟨lb, lo, none⟩) n cc), (3, .pointer (some ⟨tb1, 0, none⟩)), (4, .map (some mp1)), (28, .int .i64 ((n : Nat) : Int)), (91, .int .i64 (IntKind.wrap .i64 (((k : Nat) : Int) + 1)))] (by kernel_rfl) rfl ?_
            have he3 : IntKind.wrap .i64 (((k : Nat) : Int) + 1) = ((k + 1 : Nat) : Int) := (by rw [wrap_i64 _ (by omega) (by omega)]; omega)
            refine VL_eq [(0, .slice (some ⟨lb, lo, none⟩) n cc), (3, .pointer (some ⟨tb1, 0, none⟩)), (4, .map (some mp1)), (28, .int .i64 ((n : Nat) : Int)), (91, .int .i64 ((k + 1 : Nat) : Int))] (by rw [he3]) ?_
            refine VL_pure 2 [0, 3, 4, 28, 29] [(0, .slice (some ⟨lb, lo, none⟩) n cc), (3, .pointer (some ⟨tb1, 0, none⟩)), (4, .map (some mp1)), (28, .int .i64 ((n : Nat) : Int)), (29, .int .i64 ((k + 1 : Nat) : Int))] (by kernel_rfl) rfl ?_
            refine VL_end (by kernel_rfl) ?_
            refine VQ_again ⟨k + 1, L, M⟩ ⟨rfl, rfl, rfl, rfl, rfl, trivial⟩ ?_ ?_
            · exact ⟨by omega, (by have h9 := hT3; rw [putE_not (by first | assumption | simp_all)] at h9; exact h9), hM, hTM, (by (try dsimp only); omega), hS⟩
            · (try dsimp only); omega
        · refine VL_load (d := 78) (t := 29) (a := ⟨b1, 0, none⟩) (v := .agg #[.int .i64 ((q k).p), .int .i64 ((q k).v), .int .i64 ((q k).c)]) (by kernel_rfl) (by kernel_rfl) (Loads.ownL ho2 (n := 3) (by kernel_rfl) (by kernel_rfl) (by kernel_rfl)) ?_
          have hzl15 := MapL.lt hM
          have hzs9 := hS.size
          have hzl16 := ho2.lt
          have hzl17 := Tb.lt hT3
          refine VL_call (d := 79) (f := 13) (args := #[.agg #[.int .i64 ((q k).p), .int .i64 ((q k).v), .int .i64 ((q k).c)]]) (by kernel_rfl) (by kernel_rfl) (by kernel_rfl) Try.call13 (right_any _ _ _ _) ?_
          rintro _ w19 ⟨rfl, hc6⟩
          replace hM := MapL.no hM hc6
          replace hS := Step.trans hS hc6
          replace ho2 := ho2.no hc6
          replace hT3 := Tb.no hT3 hc6
          refine VL_pure 9 [0, 3, 4, 28, 29, 5, 6, 11, 81] [(0, .slice (some ⟨lb, lo, none⟩) n cc), (3, .pointer (some ⟨tb1, 0, none⟩)), (4, .map (some mp1)), (28, .int .i64 ((n : Nat) : Int)), (29, .int .i64 ((k : Nat) : Int)), (5, .int .i64 ((k : Nat) : Int)), (6, .pointer (some ⟨b1, 0, none⟩)), (11, .int .i64 (putK L 64 ((q k).p) ((q k).v) ((q k).c))), (81, .bool (!(((putK L 64 ((q k).p) ((q k).v) ((q k).c)) == 0) == (rightB ((q k).p) ((q k).v) ((q k).c)))))] (by kernel_rfl) rfl ?_
          refine VL_end (by kernel_rfl) ?_
          refine VQ_next ?_
          refine VC_is (b := !(((putK L 64 ((q k).p) ((q k).v) ((q k).c)) == 0) == (rightB ((q k).p) ((q k).v) ((q k).c)))) false (by kernel_rfl) (by rw [putK_is (by omega)]; simp_all) ?_
          refine VC_ite_false ?_
          refine VC_skip ?_
          refine VQ_next ?_
          refine VC_seq ?_
          refine VC_region ?_
          refine VL_pure 2 [0, 3, 4, 28, 29, 5, 6, 83] [(0, .slice (some ⟨lb, lo, none⟩) n cc), (3, .pointer (some ⟨tb1, 0, none⟩)), (4, .map (some mp1)), (28, .int .i64 ((n : Nat) : Int)), (29, .int .i64 ((k : Nat) : Int)), (5, .int .i64 ((k : Nat) : Int)), (6, .pointer (some ⟨b1, 0, none⟩)), (83, .bool ((putK L 64 ((q k).p) ((q k).v) ((q k).c)) == 0))] (by kernel_rfl) rfl ?_
          refine VL_end (by kernel_rfl) ?_
          refine VQ_next ?_
          refine VC_eq (putK L 64 ((q k).p) ((q k).v) ((q k).c)) 0 (by kernel_rfl) (fun h5 => ?_) (fun h5 => ?_)
          · have hs5 := drew_step w19
            have hs5z : w19.heap.size = w19.drew.heap.size := rfl
            refine VC_text [[], [], [], [], [2, 3], [2, 3, 4], [2, 3, 4, 5], [0, 1, 2, 3, 4, 5, 6]] 7 (fun x y => Step (fun k => w19.heap.size ≤ k) x y) [] [0, 1, 2, 3, 4, 5, 6] (by kernel_rfl) (by kernel_rfl) (by kernel_rfl) (by kernel_rfl) (fun x => Step.refl _ x) (fun h k => Step.trans h k) Step.weak ?_
            have hzl18 := MapL.lt hM
            have hzs10 := hS.size
            have hzl19 := ho2.lt
            have hzl20 := Tb.lt hT3
            generalize w19.drew = w20 at hs5 hs5z ⊢
            replace hM := MapL.no hM hs5
            replace hS := Step.trans hS hs5
            replace ho2 := ho2.no hs5
            replace hT3 := Tb.no hT3 hs5
            refine VT_pures 1 (kn' := [(0, .map (some mp1))]) (by kernel_rfl) ?_
            refine VT_load (d := 85) (t := 29) (a := ⟨b1, 0, none⟩) (v := .agg #[.int .i64 ((q k).p), .int .i64 ((q k).v), .int .i64 ((q k).c)]) (by kernel_rfl) (by kernel_rfl) ?_ ?_
            · intro w21 hr5
              replace hM := MapL.step hM hr5 (by (try simp only); omega)
              replace hS := Step.transNew hS hr5 (fun i hi hG => by (try simp only at hG); omega)
              replace ho2 := ho2.step hr5 (by (try simp only); omega)
              replace hT3 := Tb.step hT3 hr5 (by (try simp only); omega)
              exact (Loads.ownL ho2 (n := 3) (by kernel_rfl) (by kernel_rfl) (by kernel_rfl))
            refine VT_pures 2 (kn' := [(3, .int .i64 ((k : Nat) : Int)), (2, .slice (some ⟨lb, lo, none⟩) n cc), (1, .agg #[.int .i64 ((q k).p), .int .i64 ((q k).v), .int .i64 ((q k).c)]), (0, .map (some mp1))]) (by kernel_rfl) ?_
            refine VT_index (d := 88) (b := lb) (o := lo) (len := n) (sz := 4) (mm := ((k : Nat) : Int)) (by kernel_rfl) (by kernel_rfl) k (by rfl) (by omega) (lo + k * 4) (by omega) ?_
            refine VT_pures 1 (kn' := [(5, .pointer (some ⟨lb, lo + k * 4 + 3, none⟩)), (4, .pointer (some ⟨lb, lo + k * 4, none⟩)), (3, .int .i64 ((k : Nat) : Int)), (2, .slice (some ⟨lb, lo, none⟩) n cc), (1, .agg #[.int .i64 ((q k).p), .int .i64 ((q k).v), .int .i64 ((q k).c)]), (0, .map (some mp1))]) (by kernel_rfl) ?_
            refine VT_load (d := 90) (t := 3) (a := ⟨lb, lo + k * 4 + 3, none⟩) (v := .int .i64 ((q k).n)) (by kernel_rfl) (by kernel_rfl) ?_ ?_
            · intro w22 hr6
              replace hM := MapL.step hM hr6 (by (try simp only); omega)
              replace hS := Step.transNew hS hr6 (fun i hi hG => by (try simp only at hG); omega)
              replace ho2 := ho2.step hr6 (by (try simp only); omega)
              replace hT3 := Tb.step hT3 hr6 (by (try simp only); omega)
              exact (hL.num hS (by kernel_rfl) k hk)
            refine VT_end ?_
            intro w23 hs6
            replace hM := MapL.no hM hs6
            replace hS := Step.trans hS hs6
            replace ho2 := ho2.no hs6
            replace hT3 := Tb.no hT3 hs6
            refine VL_keep [0, 3, 4, 28, 29, 84, 85, 90] [(0, .slice (some ⟨lb, lo, none⟩) n cc), (3, .pointer (some ⟨tb1, 0, none⟩)), (4, .map (some mp1)), (28, .int .i64 ((n : Nat) : Int)), (29, .int .i64 ((k : Nat) : Int)), (84, .map (some mp1)), (85, .agg #[.int .i64 ((q k).p), .int .i64 ((q k).v), .int .i64 ((q k).c)]), (90, .int .i64 ((q k).n))] (by kernel_rfl) ?_
            refine VL_upd (ek := ek3) (u := ui) (m := mp1) (kt := 29) (k := ((q k).p, (q k).v, (q k).c)) (v := ((q k).n)) (by kernel_rfl) (by kernel_rfl) keyT3 hM ?_
            intro w24 hw4
            replace hS := Step.transNew hS hw4.step (fun _ _ _ => by omega)
            replace ho2 := ho2.step hw4.step (show ¬ b1 = mp1 by omega)
            replace hT3 := Tb.step hT3 hw4.step (show ¬ tb1 = mp1 by omega)
            have hM4 := hw4.map
            have hzhw4 := hw4.same
            refine VL_end (by kernel_rfl) ?_
            refine VQ_block_normal ?_
            refine VQ_next ?_
            refine VC_region ?_
            refine VL_pure 1 [0, 3, 4, 28, 91] [(0, .slice (some ⟨lb, lo, none⟩) n cc), (3, .pointer (some ⟨tb1, 0, none⟩)), (4, .map (some mp1)), (28, .int .i64 ((n : Nat) : Int)), (91, .int .i64 (IntKind.wrap .i64 (((k : Nat) : Int) + 1)))] (by kernel_rfl) rfl ?_
            have he4 : IntKind.wrap .i64 (((k : Nat) : Int) + 1) = ((k + 1 : Nat) : Int) := (by rw [wrap_i64 _ (by omega) (by omega)]; omega)
            refine VL_eq [(0, .slice (some ⟨lb, lo, none⟩) n cc), (3, .pointer (some ⟨tb1, 0, none⟩)), (4, .map (some mp1)), (28, .int .i64 ((n : Nat) : Int)), (91, .int .i64 ((k + 1 : Nat) : Int))] (by rw [he4]) ?_
            refine VL_pure 2 [0, 3, 4, 28, 29] [(0, .slice (some ⟨lb, lo, none⟩) n cc), (3, .pointer (some ⟨tb1, 0, none⟩)), (4, .map (some mp1)), (28, .int .i64 ((n : Nat) : Int)), (29, .int .i64 ((k + 1 : Nat) : Int))] (by kernel_rfl) rfl ?_
            refine VL_end (by kernel_rfl) ?_
            refine VQ_again ⟨k + 1, (putE L 64 ((q k).p) ((q k).v) ((q k).c) ((q k).n)), putM M ((q k).p, (q k).v, (q k).c) ((q k).n)⟩ ⟨rfl, rfl, rfl, rfl, rfl, trivial⟩ ?_ ?_
            · exact ⟨by omega, hT3, hM4, (hTM.put hsr (by first | assumption | simp_all)), (Nat.le_trans (len_putE_le _ _ _ _ _ _) (by (try dsimp only); omega)), hS⟩
            · (try dsimp only); omega
          · refine VC_skip ?_
            refine VQ_block_normal ?_
            refine VQ_next ?_
            refine VC_region ?_
            refine VL_pure 1 [0, 3, 4, 28, 91] [(0, .slice (some ⟨lb, lo, none⟩) n cc), (3, .pointer (some ⟨tb1, 0, none⟩)), (4, .map (some mp1)), (28, .int .i64 ((n : Nat) : Int)), (91, .int .i64 (IntKind.wrap .i64 (((k : Nat) : Int) + 1)))] (by kernel_rfl) rfl ?_
            have he5 : IntKind.wrap .i64 (((k : Nat) : Int) + 1) = ((k + 1 : Nat) : Int) := (by rw [wrap_i64 _ (by omega) (by omega)]; omega)
            refine VL_eq [(0, .slice (some ⟨lb, lo, none⟩) n cc), (3, .pointer (some ⟨tb1, 0, none⟩)), (4, .map (some mp1)), (28, .int .i64 ((n : Nat) : Int)), (91, .int .i64 ((k + 1 : Nat) : Int))] (by rw [he5]) ?_
            refine VL_pure 2 [0, 3, 4, 28, 29] [(0, .slice (some ⟨lb, lo, none⟩) n cc), (3, .pointer (some ⟨tb1, 0, none⟩)), (4, .map (some mp1)), (28, .int .i64 ((n : Nat) : Int)), (29, .int .i64 ((k + 1 : Nat) : Int))] (by kernel_rfl) rfl ?_
            refine VL_end (by kernel_rfl) ?_
            refine VQ_again ⟨k + 1, L, M⟩ ⟨rfl, rfl, rfl, rfl, rfl, trivial⟩ ?_ ?_
            · exact ⟨by omega, (by have h9 := hT3; rw [putE_not (by first | assumption | simp_all)] at h9; exact h9), hM, hTM, (by (try dsimp only); omega), hS⟩
            · (try dsimp only); omega
    · refine VC_exit ?_
      refine VQ_then_exit ?_
      refine VQ_then_exit ?_
      refine VQ_block_hit ?_
      refine VQ_next ?_
      refine VC_seq ?_
      refine VC_seq ?_
      refine VC_region ?_
      refine VL_pure 3 [0, 3, 4, 93, 94] [(0, .slice A n cc), (3, .pointer (some ⟨tb1, 0, none⟩)), (4, .map (some mp1)), (93, .int .i64 ((n : Nat) : Int)), (94, .int .i64 0)] (by kernel_rfl) rfl ?_
      refine VL_end (by kernel_rfl) ?_
      refine VQ_next ?_
      refine VC_block ?_
      refine VC_loop (σ := Nat) (fun σs => [(0, .slice A n cc), (3, .pointer (some ⟨tb1, 0, none⟩)), (4, .map (some mp1)), (93, .int .i64 ((n : Nat) : Int)), (94, .int .i64 ((σs : Nat) : Int))]) (fun σs wr => σs ≤ n ∧ (Tb wr tb1 64 L) ∧ (MapL wr mp1 ek3 ui M) ∧ (Step No w wr)) (fun σs wr => n - σs) 0 ⟨rfl, rfl, rfl, rfl, rfl, trivial⟩ ?_ ?_
      · exact ⟨Nat.zero_le _, hT, hM, hS⟩
      rintro i wr ⟨hi0, hT, hM, hS⟩
      try dsimp only at hi0 hT hM hS ⊢
      refine VC_seq ?_
      refine VC_region ?_
      refine VL_pure 1 [0, 3, 4, 93, 94, 95] [(0, .slice A n cc), (3, .pointer (some ⟨tb1, 0, none⟩)), (4, .map (some mp1)), (93, .int .i64 ((n : Nat) : Int)), (94, .int .i64 ((i : Nat) : Int)), (95, .bool (decide (((i : Nat) : Int) < ((n : Nat) : Int))))] (by kernel_rfl) rfl ?_
      refine VL_end (by kernel_rfl) ?_
      refine VQ_next ?_
      refine VC_seq ?_
      refine VC_dec (((i : Nat) : Int) < ((n : Nat) : Int)) (by kernel_rfl) (fun h6 => ?_) (fun h6 => ?_)
      · refine VC_skip ?_
        refine VQ_next ?_
        refine VC_seq ?_
        refine VC_block ?_
        refine VC_seq ?_
        refine VC_region ?_
        refine VL_pure 2 [0, 3, 4, 93, 94, 12] [(0, .slice A n cc), (3, .pointer (some ⟨tb1, 0, none⟩)), (4, .map (some mp1)), (93, .int .i64 ((n : Nat) : Int)), (94, .int .i64 ((i : Nat) : Int)), (12, .int .i64 ((i : Nat) : Int))] (by kernel_rfl) rfl ?_
        refine VL_end (by kernel_rfl) ?_
        refine VQ_next ?_
        refine VC_seq ?_
        have hk2 : i < n := by omega
        obtain ⟨lb2, lo2, rfl, hL2⟩ := hA (by omega)
        replace hL2 : OpsB w lb2 lo2 n q := hL2
        refine VC_region ?_
        refine VL_pure 3 [0, 3, 4, 93, 94, 12, 98, 99, 100] [(0, .slice (some ⟨lb2, lo2, none⟩) n cc), (3, .pointer (some ⟨tb1, 0, none⟩)), (4, .map (some mp1)), (93, .int .i64 ((n : Nat) : Int)), (94, .int .i64 ((i : Nat) : Int)), (12, .int .i64 ((i : Nat) : Int)), (98, .map (some mp1)), (99, .slice (some ⟨lb2, lo2, none⟩) n cc), (100, .int .i64 ((i : Nat) : Int))] (by kernel_rfl) rfl ?_
        refine VL_index (d := 101) (b := lb2) (o := lo2) (len := n) (sz := 4) (m := ((i : Nat) : Int)) (by kernel_rfl) (by kernel_rfl) i (by rfl) (by omega) (lo2 + i * 4) (by omega) ?_
        refine VL_pure 5 [0, 3, 4, 93, 94, 12, 98, 102] [(0, .slice (some ⟨lb2, lo2, none⟩) n cc), (3, .pointer (some ⟨tb1, 0, none⟩)), (4, .map (some mp1)), (93, .int .i64 ((n : Nat) : Int)), (94, .int .i64 ((i : Nat) : Int)), (12, .int .i64 ((i : Nat) : Int)), (98, .map (some mp1)), (102, .pointer (some ⟨lb2, lo2 + i * 4, none⟩))] (by kernel_rfl) rfl ?_
        refine VL_load (d := 103) (t := 29) (a := ⟨lb2, lo2 + i * 4, none⟩) (v := .agg #[.int .i64 ((q i).p), .int .i64 ((q i).v), .int .i64 ((q i).c)]) (by kernel_rfl) (by kernel_rfl) (hL2.key hS (by kernel_rfl) i hk2) ?_
        have hlk2 : (lookE L ((q i).p) ((q i).v) ((q i).c)) = getM M ((q i).p, (q i).v, (q i).c) := hTM.look _ _ _
        refine VL_lookup (ek := ek3) (u := ui) (d := 104) (m := mp1) (kt := 29) (z := .int .i64 0) (k := ((q i).p, (q i).v, (q i).c)) (ok := true) (by kernel_rfl) (by kernel_rfl) keyT3 hM (.int .i64 ((lookE L ((q i).p) ((q i).v) ((q i).c)).getD 0)) (by rw [← hlk2]; cases (lookE L ((q i).p) ((q i).v) ((q i).c)) <;> rfl) ?_
        refine VL_keep [0, 3, 4, 93, 94, 12, 98, 102, 103, 104] [(0, .slice (some ⟨lb2, lo2, none⟩) n cc), (3, .pointer (some ⟨tb1, 0, none⟩)), (4, .map (some mp1)), (93, .int .i64 ((n : Nat) : Int)), (94, .int .i64 ((i : Nat) : Int)), (12, .int .i64 ((i : Nat) : Int)), (98, .map (some mp1)), (102, .pointer (some ⟨lb2, lo2 + i * 4, none⟩)), (103, .agg #[.int .i64 ((q i).p), .int .i64 ((q i).v), .int .i64 ((q i).c)]), (104, .tuple #[.int .i64 ((lookE L ((q i).p) ((q i).v) ((q i).c)).getD 0), .bool ((getM M ((q i).p, (q i).v, (q i).c)).isSome)])] (by kernel_rfl) ?_
        have hex2 : (getM M ((q i).p, (q i).v, (q i).c)).isSome = (lookE L ((q i).p) ((q i).v) ((q i).c)).isSome := by rw [hlk2]
        refine VL_eq [(0, .slice (some ⟨lb2, lo2, none⟩) n cc), (3, .pointer (some ⟨tb1, 0, none⟩)), (4, .map (some mp1)), (93, .int .i64 ((n : Nat) : Int)), (94, .int .i64 ((i : Nat) : Int)), (12, .int .i64 ((i : Nat) : Int)), (98, .map (some mp1)), (102, .pointer (some ⟨lb2, lo2 + i * 4, none⟩)), (103, .agg #[.int .i64 ((q i).p), .int .i64 ((q i).v), .int .i64 ((q i).c)]), (104, .tuple #[.int .i64 ((lookE L ((q i).p) ((q i).v) ((q i).c)).getD 0), .bool ((lookE L ((q i).p) ((q i).v) ((q i).c)).isSome)])] (by rw [hex2]) ?_
        refine VL_pure 12 [0, 3, 4, 93, 94, 12, 13, 14] [(0, .slice (some ⟨lb2, lo2, none⟩) n cc), (3, .pointer (some ⟨tb1, 0, none⟩)), (4, .map (some mp1)), (93, .int .i64 ((n : Nat) : Int)), (94, .int .i64 ((i : Nat) : Int)), (12, .int .i64 ((i : Nat) : Int)), (13, .int .i64 ((lookE L ((q i).p) ((q i).v) ((q i).c)).getD 0)), (14, .bool ((lookE L ((q i).p) ((q i).v) ((q i).c)).isSome))] (by kernel_rfl) rfl ?_
        refine VL_end (by kernel_rfl) ?_
        refine VQ_next ?_
        refine VC_seq ?_
        refine VC_region ?_
        refine VL_pure 3 [0, 3, 4, 93, 94, 13, 14, 108, 109, 110] [(0, .slice (some ⟨lb2, lo2, none⟩) n cc), (3, .pointer (some ⟨tb1, 0, none⟩)), (4, .map (some mp1)), (93, .int .i64 ((n : Nat) : Int)), (94, .int .i64 ((i : Nat) : Int)), (13, .int .i64 ((lookE L ((q i).p) ((q i).v) ((q i).c)).getD 0)), (14, .bool ((lookE L ((q i).p) ((q i).v) ((q i).c)).isSome)), (108, .pointer (some ⟨tb1, 0, none⟩)), (109, .slice (some ⟨lb2, lo2, none⟩) n cc), (110, .int .i64 ((i : Nat) : Int))] (by kernel_rfl) rfl ?_
        refine VL_index (d := 111) (b := lb2) (o := lo2) (len := n) (sz := 4) (m := ((i : Nat) : Int)) (by kernel_rfl) (by kernel_rfl) i (by rfl) (by omega) (lo2 + i * 4) (by omega) ?_
        refine VL_pure 5 [0, 3, 4, 93, 94, 13, 14, 108, 112] [(0, .slice (some ⟨lb2, lo2, none⟩) n cc), (3, .pointer (some ⟨tb1, 0, none⟩)), (4, .map (some mp1)), (93, .int .i64 ((n : Nat) : Int)), (94, .int .i64 ((i : Nat) : Int)), (13, .int .i64 ((lookE L ((q i).p) ((q i).v) ((q i).c)).getD 0)), (14, .bool ((lookE L ((q i).p) ((q i).v) ((q i).c)).isSome)), (108, .pointer (some ⟨tb1, 0, none⟩)), (112, .pointer (some ⟨lb2, lo2 + i * 4, none⟩))] (by kernel_rfl) rfl ?_
        refine VL_load (d := 113) (t := 29) (a := ⟨lb2, lo2 + i * 4, none⟩) (v := .agg #[.int .i64 ((q i).p), .int .i64 ((q i).v), .int .i64 ((q i).c)]) (by kernel_rfl) (by kernel_rfl) (hL2.key hS (by kernel_rfl) i hk2) ?_
        have hzl21 := Tb.lt hT
        have hzl22 := MapL.lt hM
        have hzs11 := hS.size
        refine VL_call (d := 114) (f := 14) (args := #[.pointer (some ⟨tb1, 0, none⟩), .agg #[.int .i64 ((q i).p), .int .i64 ((q i).v), .int .i64 ((q i).c)]]) (by kernel_rfl) (by kernel_rfl) (by kernel_rfl) Try.call14 (tget ((q i).p) ((q i).v) ((q i).c) hT) ?_
        rintro _ w25 ⟨rfl, hc7⟩
        replace hT := Tb.no hT hc7
        replace hM := MapL.no hM hc7
        replace hS := Step.trans hS hc7
        refine VL_pure 12 [0, 3, 4, 93, 94, 13, 14, 15, 16] [(0, .slice (some ⟨lb2, lo2, none⟩) n cc), (3, .pointer (some ⟨tb1, 0, none⟩)), (4, .map (some mp1)), (93, .int .i64 ((n : Nat) : Int)), (94, .int .i64 ((i : Nat) : Int)), (13, .int .i64 ((lookE L ((q i).p) ((q i).v) ((q i).c)).getD 0)), (14, .bool ((lookE L ((q i).p) ((q i).v) ((q i).c)).isSome)), (15, .int .i64 ((lookE L ((q i).p) ((q i).v) ((q i).c)).getD 0)), (16, .bool ((lookE L ((q i).p) ((q i).v) ((q i).c)).isSome))] (by kernel_rfl) rfl ?_
        refine VL_end (by kernel_rfl) ?_
        refine VQ_next ?_
        refine VC_seq ?_
        refine VC_region ?_
        refine VL_pure 4 [0, 3, 4, 93, 94, 13, 15, 120] [(0, .slice (some ⟨lb2, lo2, none⟩) n cc), (3, .pointer (some ⟨tb1, 0, none⟩)), (4, .map (some mp1)), (93, .int .i64 ((n : Nat) : Int)), (94, .int .i64 ((i : Nat) : Int)), (13, .int .i64 ((lookE L ((q i).p) ((q i).v) ((q i).c)).getD 0)), (15, .int .i64 ((lookE L ((q i).p) ((q i).v) ((q i).c)).getD 0)), (120, .bool (!(((lookE L ((q i).p) ((q i).v) ((q i).c)).isSome) == ((lookE L ((q i).p) ((q i).v) ((q i).c)).isSome))))] (by kernel_rfl) rfl ?_
        refine VL_known (!(((lookE L ((q i).p) ((q i).v) ((q i).c)).isSome) == ((lookE L ((q i).p) ((q i).v) ((q i).c)).isSome))) (fun bV => [(0, .slice (some ⟨lb2, lo2, none⟩) n cc), (3, .pointer (some ⟨tb1, 0, none⟩)), (4, .map (some mp1)), (93, .int .i64 ((n : Nat) : Int)), (94, .int .i64 ((i : Nat) : Int)), (13, .int .i64 ((lookE L ((q i).p) ((q i).v) ((q i).c)).getD 0)), (15, .int .i64 ((lookE L ((q i).p) ((q i).v) ((q i).c)).getD 0)), (120, .bool bV)]) false rfl (by simp) ?_
        refine VL_pure 8 [0, 3, 4, 93, 94, 124] [(0, .slice (some ⟨lb2, lo2, none⟩) n cc), (3, .pointer (some ⟨tb1, 0, none⟩)), (4, .map (some mp1)), (93, .int .i64 ((n : Nat) : Int)), (94, .int .i64 ((i : Nat) : Int)), (124, .bool (((lookE L ((q i).p) ((q i).v) ((q i).c)).getD 0) != ((lookE L ((q i).p) ((q i).v) ((q i).c)).getD 0)))] (by kernel_rfl) rfl ?_
        refine VL_end (by kernel_rfl) ?_
        refine VQ_next ?_
        refine VC_is (b := ((lookE L ((q i).p) ((q i).v) ((q i).c)).getD 0) != ((lookE L ((q i).p) ((q i).v) ((q i).c)).getD 0)) false (by kernel_rfl) (by simp) ?_
        refine VC_ite_false ?_
        refine VC_skip ?_
        refine VQ_block_normal ?_
        refine VQ_next ?_
        refine VC_region ?_
        refine VL_pure 1 [0, 3, 4, 93, 125] [(0, .slice (some ⟨lb2, lo2, none⟩) n cc), (3, .pointer (some ⟨tb1, 0, none⟩)), (4, .map (some mp1)), (93, .int .i64 ((n : Nat) : Int)), (125, .int .i64 (IntKind.wrap .i64 (((i : Nat) : Int) + 1)))] (by kernel_rfl) rfl ?_
        have he6 : IntKind.wrap .i64 (((i : Nat) : Int) + 1) = ((i + 1 : Nat) : Int) := (by rw [wrap_i64 _ (by omega) (by omega)]; omega)
        refine VL_eq [(0, .slice (some ⟨lb2, lo2, none⟩) n cc), (3, .pointer (some ⟨tb1, 0, none⟩)), (4, .map (some mp1)), (93, .int .i64 ((n : Nat) : Int)), (125, .int .i64 ((i + 1 : Nat) : Int))] (by rw [he6]) ?_
        refine VL_pure 2 [0, 3, 4, 93, 94] [(0, .slice (some ⟨lb2, lo2, none⟩) n cc), (3, .pointer (some ⟨tb1, 0, none⟩)), (4, .map (some mp1)), (93, .int .i64 ((n : Nat) : Int)), (94, .int .i64 ((i + 1 : Nat) : Int))] (by kernel_rfl) rfl ?_
        refine VL_end (by kernel_rfl) ?_
        refine VQ_again (i + 1) ⟨rfl, rfl, rfl, rfl, rfl, trivial⟩ ?_ ?_
        · exact ⟨by omega, hT, hM, hS⟩
        · (try dsimp only); omega
      · refine VC_exit ?_
        refine VQ_then_exit ?_
        refine VQ_then_exit ?_
        refine VQ_block_hit ?_
        refine VQ_next ?_
        refine VC_seq ?_
        refine VC_region ?_
        refine VL_pure 1 [4, 126] [(4, .map (some mp1)), (126, .pointer (some ⟨tb1, 0, none⟩))] (by kernel_rfl) rfl ?_
        have hzl23 := Tb.lt hT
        have hzl24 := MapL.lt hM
        have hzs12 := hS.size
        refine VL_call (d := 127) (f := 15) (args := #[.pointer (some ⟨tb1, 0, none⟩)]) (by kernel_rfl) (by kernel_rfl) (by kernel_rfl) Try.call15 (tlen hT) ?_
        rintro _ w26 ⟨rfl, hc8⟩
        replace hT := Tb.no hT hc8
        replace hM := MapL.no hM hc8
        replace hS := Step.trans hS hc8
        refine VL_pure 3 [127, 128] [(127, .int .i64 ((L.length : Nat) : Int)), (128, .map (some mp1))] (by kernel_rfl) rfl ?_
        refine VL_mlen (d := 129) (m := mp1) (by kernel_rfl) (by kernel_rfl) hM ?_
        refine VL_pure 6 [2] [(2, .bool (((L.length : Nat) : Int) == ((M.length : Nat) : Int)))] (by kernel_rfl) rfl ?_
        refine VL_end (by kernel_rfl) ?_
        refine VQ_next ?_
        refine VC_ret ?_
        refine VQ_ret1 (.bool (((L.length : Nat) : Int) == ((M.length : Nat) : Int))) (.inr rfl) rfl rfl ?_
        exact ⟨congrArg Value.bool (by rw [hTM.len]; simp), hS⟩

end Go.Proofs.Ytfkahhkojlfmdaa
