/- Layer 9: ConnsOrder. -/
import Derived.Test.YtfkahhkojlfmdaaProg
import Derived.Test.YtfkahhkojlfmdaaCng
import Derived.Test.YtfkahhkojlfmdaaCn4
set_option linter.unusedVariables false
set_option linter.unusedSimpArgs false
namespace Go.Proofs.Ytfkahhkojlfmdaa
open Go.Vc Go.RowKit

def eqK (p v c p2 v2 c2 : Int) : Bool := decide (p = p2 ∧ v = v2 ∧ c = c2)
set_option maxRecDepth 100000 in
set_option maxHeartbeats 4000000 in
theorem connsOrder_any (A : Option Addr) (n cc : Nat) (q : Nat → Op4) (ap av ac bp bv bc dp dv dc : Int) (ea : Nat) (hea : ea < 256) (w : World) (hA : OpsAt w A n q) :
    CV Try.prog 6 #[.slice A n cc, .agg #[.int .i64 ap, .int .i64 av, .int .i64 ac], .agg #[.int .i64 bp, .int .i64 bv, .int .i64 bc], .agg #[.int .i64 dp, .int .i64 dv, .int .i64 dc], .int .u8 ((ea : Nat) : Int)] w (fun x w1 => x = .bool true ∧ Step No w w1) := by
  have hS : Step No w w := Step.refl _ _
  have hew : IntKind.wrap .i64 ((ea : Nat) : Int) = (ea : Int) := wrap_i64 _ (by omega) (by omega)
  refine CV_enterM Try.f6 _ 120 [(0, .slice A n cc), (1, .agg #[.int .i64 ap, .int .i64 av, .int .i64 ac]), (2, .agg #[.int .i64 bp, .int .i64 bv, .int .i64 bc]), (3, .agg #[.int .i64 dp, .int .i64 dv, .int .i64 dc]), (4, .int .u8 ((ea : Nat) : Int))] Try.func6 rfl rfl (by kernel_rfl) rfl ?_
  refine VC_seq ?_
  refine VC_region ?_
  have hzs1 := hS.size
  refine VL_box (d := 6) (t := 29) (c := #[.int .i64 ap, .int .i64 av, .int .i64 ac]) (by kernel_rfl) (by kernel_rfl) ?_
  intro b1 w1 hn1
  replace hS := Step.trans hS (hn1.step No)
  have ho1 := hn1.own
  have hzhn1 := hn1.size
  have hqhn1 := hn1.eqb
  have hzs2 := hS.size
  have hzl1 := ho1.lt
  refine VL_box (d := 7) (t := 29) (c := #[.int .i64 bp, .int .i64 bv, .int .i64 bc]) (by kernel_rfl) (by kernel_rfl) ?_
  intro b2 w2 hn2
  replace hS := Step.trans hS (hn2.step No)
  replace ho1 := ho1.no (hn2.step No)
  have ho2 := hn2.own
  have hzhn2 := hn2.size
  have hqhn2 := hn2.eqb
  have hzs3 := hS.size
  have hzl2 := ho1.lt
  have hzl3 := ho2.lt
  refine VL_box (d := 8) (t := 29) (c := #[.int .i64 dp, .int .i64 dv, .int .i64 dc]) (by kernel_rfl) (by kernel_rfl) ?_
  intro b3 w3 hn3
  replace hS := Step.trans hS (hn3.step No)
  replace ho1 := ho1.no (hn3.step No)
  replace ho2 := ho2.no (hn3.step No)
  have ho3 := hn3.own
  have hzhn3 := hn3.size
  have hqhn3 := hn3.eqb
  have hzs4 := hS.size
  have hzl4 := ho1.lt
  have hzl5 := ho2.lt
  have hzl6 := ho3.lt
  refine VL_box (d := 9) (t := 5) (c := #[.int .u8 ((ea : Nat) : Int)]) (by kernel_rfl) (by kernel_rfl) ?_
  intro b4 w4 hn4
  replace hS := Step.trans hS (hn4.step No)
  replace ho1 := ho1.no (hn4.step No)
  replace ho2 := ho2.no (hn4.step No)
  replace ho3 := ho3.no (hn4.step No)
  have ho4 := hn4.own
  have hzhn4 := hn4.size
  have hqhn4 := hn4.eqb
  have hzs5 := hS.size
  have hzl7 := ho1.lt
  have hzl8 := ho2.lt
  have hzl9 := ho3.lt
  have hzl10 := ho4.lt
  refine VL_box (d := 10) (t := 4) (c := #[.bool false]) (by kernel_rfl) (by kernel_rfl) ?_
  intro b5 w5 hn5
  replace hS := Step.trans hS (hn5.step No)
  replace ho1 := ho1.no (hn5.step No)
  replace ho2 := ho2.no (hn5.step No)
  replace ho3 := ho3.no (hn5.step No)
  replace ho4 := ho4.no (hn5.step No)
  have ho5 := hn5.own
  have hzhn5 := hn5.size
  have hqhn5 := hn5.eqb
  refine VL_end (by kernel_rfl) ?_
  refine VQ_next ?_
  refine VC_seq ?_
  refine VC_seq ?_
  refine VC_region ?_
  have hzs6 := hS.size
  have hzl11 := ho1.lt
  have hzl12 := ho2.lt
  have hzl13 := ho3.lt
  have hzl14 := ho4.lt
  have hzl15 := ho5.lt
  refine VL_call (d := 17) (f := 9) (args := #[]) (by kernel_rfl) (by kernel_rfl) (by kernel_rfl) Try.call9 (awake_any _) ?_
  rintro _ w6 ⟨rfl, hc1⟩
  replace hS := Step.trans hS hc1
  replace ho1 := ho1.no hc1
  replace ho2 := ho2.no hc1
  replace ho3 := ho3.no hc1
  replace ho4 := ho4.no hc1
  replace ho5 := ho5.no hc1
  refine VL_pure 7 [0, 6, 7, 8, 9, 10, 23] [(0, .slice A n cc), (6, .pointer (some ⟨b1, 0, none⟩)), (7, .pointer (some ⟨b2, 0, none⟩)), (8, .pointer (some ⟨b3, 0, none⟩)), (9, .pointer (some ⟨b4, 0, none⟩)), (10, .pointer (some ⟨b5, 0, none⟩)), (23, .bool (decide (((n : Nat) : Int) > 200)))] (by kernel_rfl) rfl ?_
  refine VL_end (by kernel_rfl) ?_
  refine VQ_next ?_
  refine VC_dec (((n : Nat) : Int) > 200) (by kernel_rfl) (fun h1 => ?_) (fun h1 => ?_)
  · refine VC_seq ?_
    refine VC_region ?_
    have hzs7 := hS.size
    have hzl16 := ho1.lt
    have hzl17 := ho2.lt
    have hzl18 := ho3.lt
    have hzl19 := ho4.lt
    have hzl20 := ho5.lt
    refine VL_call (d := 24) (f := 9) (args := #[]) (by kernel_rfl) (by kernel_rfl) (by kernel_rfl) Try.call9 (awake_any _) ?_
    rintro _ w7 ⟨rfl, hc2⟩
    replace hS := Step.trans hS hc2
    replace ho1 := ho1.no hc2
    replace ho2 := ho2.no hc2
    replace ho3 := ho3.no hc2
    replace ho4 := ho4.no hc2
    replace ho5 := ho5.no hc2
    refine VL_store (b := b5) (o := 0) (vs := [.bool true]) (by kernel_rfl) (by kernel_rfl) ho5 (Nat.le_of_ble_eq_true (by kernel_rfl)) ?_
    intro w8 hw1
    replace hS := Step.transNew hS hw1.step (fun _ _ _ => by omega)
    replace ho1 := ho1.step hw1.step (show ¬ b1 = b5 by omega)
    replace ho2 := ho2.step hw1.step (show ¬ b2 = b5 by omega)
    replace ho3 := ho3.step hw1.step (show ¬ b3 = b5 by omega)
    replace ho4 := ho4.step hw1.step (show ¬ b4 = b5 by omega)
    have ho6 : Own w8 b5 #[.bool true] 4 := Own.cast hw1.own (by kernel_rfl)
    have hzhw1 := hw1.same
    refine VL_end (by kernel_rfl) ?_
    refine VQ_next ?_
    refine VC_ret ?_
    refine VQ_then_ret ?_
    have hzs8 := hS.size
    have hzl21 := ho1.lt
    have hzl22 := ho2.lt
    have hzl23 := ho3.lt
    have hzl24 := ho4.lt
    have hzl25 := ho6.lt
    have hzr := ho6.lt
    refine VQ_retMC1 (.bool true) [] (.inr rfl) rfl rfl trivial (fun w9 hq9 => Loads.own1 (ho6.step hq9 (by simp; try omega)) (by kernel_rfl) rfl) ?_
    intro w9 hq1
    replace hq1 : Step No w8 w9 := Step.mono hq1 (fun i hi => by simp at hi)
    replace hS := Step.trans hS hq1
    replace ho1 := ho1.no hq1
    replace ho2 := ho2.no hq1
    replace ho3 := ho3.no hq1
    replace ho4 := ho4.no hq1
    replace ho6 := ho6.no hq1
    exact ⟨rfl, hS⟩
  · refine VC_skip ?_
    refine VQ_next ?_
    refine VC_seq ?_
    refine VC_region ?_
    have hzs9 := hS.size
    have hzl26 := ho1.lt
    have hzl27 := ho2.lt
    have hzl28 := ho3.lt
    have hzl29 := ho4.lt
    have hzl30 := ho5.lt
    refine VL_call (d := 25) (f := 10) (args := #[.int .i64 64]) (by kernel_rfl) (by kernel_rfl) (by kernel_rfl) Try.call10 (tnew 64 _) ?_
    rintro _ w10 ⟨tb1, rfl, hftb1, hT1, hc3⟩
    replace hS := Step.trans hS hc3
    replace ho1 := ho1.no hc3
    replace ho2 := ho2.no hc3
    replace ho3 := ho3.no hc3
    replace ho4 := ho4.no hc3
    replace ho5 := ho5.no hc3
    rw [show imax 0 (imin 64 64) = 64 from by decide] at hT1
    have hztb1 := hT1.lt
    have hzs10 := hS.size
    have hzl31 := ho1.lt
    have hzl32 := ho2.lt
    have hzl33 := ho3.lt
    have hzl34 := ho4.lt
    have hzl35 := ho5.lt
    have hzl36 := Tb.lt hT1
    refine VL_box (d := 11) (t := 24) (c := #[.pointer none]) (by kernel_rfl) (by kernel_rfl) ?_
    intro b6 w11 hn6
    replace hS := Step.trans hS (hn6.step No)
    replace ho1 := ho1.no (hn6.step No)
    replace ho2 := ho2.no (hn6.step No)
    replace ho3 := ho3.no (hn6.step No)
    replace ho4 := ho4.no (hn6.step No)
    replace ho5 := ho5.no (hn6.step No)
    replace hT1 := Tb.no hT1 (hn6.step No)
    have ho7 := hn6.own
    have hzhn6 := hn6.size
    have hqhn6 := hn6.eqb
    refine VL_store (b := b6) (o := 0) (vs := [.pointer (some ⟨tb1, 0, none⟩)]) (by kernel_rfl) (by kernel_rfl) ho7 (Nat.le_of_ble_eq_true (by kernel_rfl)) ?_
    intro w12 hw2
    replace hS := Step.transNew hS hw2.step (fun _ _ _ => by omega)
    replace ho1 := ho1.step hw2.step (show ¬ b1 = b6 by omega)
    replace ho2 := ho2.step hw2.step (show ¬ b2 = b6 by omega)
    replace ho3 := ho3.step hw2.step (show ¬ b3 = b6 by omega)
    replace ho4 := ho4.step hw2.step (show ¬ b4 = b6 by omega)
    replace ho5 := ho5.step hw2.step (show ¬ b5 = b6 by omega)
    replace hT1 := Tb.step hT1 hw2.step (show ¬ tb1 = b6 by omega)
    have ho8 : Own w12 b6 #[.pointer (some ⟨tb1, 0, none⟩)] 24 := Own.cast hw2.own (by kernel_rfl)
    have hzhw2 := hw2.same
    refine VL_end (by kernel_rfl) ?_
    refine VQ_next ?_
    refine VC_seq ?_
    refine VC_seq ?_
    refine VC_region ?_
    refine VL_pure 3 [0, 6, 7, 8, 9, 10, 11, 27, 28] [(0, .slice A n cc), (6, .pointer (some ⟨b1, 0, none⟩)), (7, .pointer (some ⟨b2, 0, none⟩)), (8, .pointer (some ⟨b3, 0, none⟩)), (9, .pointer (some ⟨b4, 0, none⟩)), (10, .pointer (some ⟨b5, 0, none⟩)), (11, .pointer (some ⟨b6, 0, none⟩)), (27, .int .i64 ((n : Nat) : Int)), (28, .int .i64 0)] (by kernel_rfl) rfl ?_
    refine VL_end (by kernel_rfl) ?_
    refine VQ_next ?_
    refine VC_block ?_
    refine VC_loop (σ := Nat × (List Ent)) (fun σs => [(0, .slice A n cc), (6, .pointer (some ⟨b1, 0, none⟩)), (7, .pointer (some ⟨b2, 0, none⟩)), (8, .pointer (some ⟨b3, 0, none⟩)), (9, .pointer (some ⟨b4, 0, none⟩)), (10, .pointer (some ⟨b5, 0, none⟩)), (11, .pointer (some ⟨b6, 0, none⟩)), (27, .int .i64 ((n : Nat) : Int)), (28, .int .i64 ((σs.1 : Nat) : Int))]) (fun σs wr => σs.1 ≤ n ∧ Tb wr tb1 64 σs.2 ∧ (Step No w wr) ∧ (Own wr b1 #[.int .i64 ap, .int .i64 av, .int .i64 ac] 29) ∧ (Own wr b2 #[.int .i64 bp, .int .i64 bv, .int .i64 bc] 29) ∧ (Own wr b3 #[.int .i64 dp, .int .i64 dv, .int .i64 dc] 29) ∧ (Own wr b4 #[.int .u8 ((ea : Nat) : Int)] 5) ∧ (Own wr b5 #[.bool false] 4) ∧ (Own wr b6 #[.pointer (some ⟨tb1, 0, none⟩)] 24)) (fun σs wr => n - σs.1) ⟨0, []⟩ ⟨rfl, rfl, rfl, rfl, rfl, rfl, rfl, rfl, rfl, trivial⟩ ?_ ?_
    · exact ⟨Nat.zero_le _, hT1, hS, ho1, ho2, ho3, ho4, ho5, ho8⟩
    rintro ⟨k, L⟩ wr ⟨hk0, hT, hS, ho1, ho2, ho3, ho4, ho5, ho8⟩
    try dsimp only at hk0 hT hS ho1 ho2 ho3 ho4 ho5 ho8 ⊢
    refine VC_seq ?_
    refine VC_region ?_
    refine VL_pure 1 [0, 6, 7, 8, 9, 10, 11, 27, 28, 29] [(0, .slice A n cc), (6, .pointer (some ⟨b1, 0, none⟩)), (7, .pointer (some ⟨b2, 0, none⟩)), (8, .pointer (some ⟨b3, 0, none⟩)), (9, .pointer (some ⟨b4, 0, none⟩)), (10, .pointer (some ⟨b5, 0, none⟩)), (11, .pointer (some ⟨b6, 0, none⟩)), (27, .int .i64 ((n : Nat) : Int)), (28, .int .i64 ((k : Nat) : Int)), (29, .bool (decide (((k : Nat) : Int) < ((n : Nat) : Int))))] (by kernel_rfl) rfl ?_
    refine VL_end (by kernel_rfl) ?_
    refine VQ_next ?_
    refine VC_seq ?_
    refine VC_dec (((k : Nat) : Int) < ((n : Nat) : Int)) (by kernel_rfl) (fun h2 => ?_) (fun h2 => ?_)
    · refine VC_skip ?_
      refine VQ_next ?_
      refine VC_seq ?_
      refine VC_block ?_
      refine VC_seq ?_
      refine VC_region ?_
      refine VL_pure 2 [0, 6, 7, 8, 9, 10, 11, 27, 28, 12] [(0, .slice A n cc), (6, .pointer (some ⟨b1, 0, none⟩)), (7, .pointer (some ⟨b2, 0, none⟩)), (8, .pointer (some ⟨b3, 0, none⟩)), (9, .pointer (some ⟨b4, 0, none⟩)), (10, .pointer (some ⟨b5, 0, none⟩)), (11, .pointer (some ⟨b6, 0, none⟩)), (27, .int .i64 ((n : Nat) : Int)), (28, .int .i64 ((k : Nat) : Int)), (12, .int .i64 ((k : Nat) : Int))] (by kernel_rfl) rfl ?_
      refine VL_end (by kernel_rfl) ?_
      refine VQ_next ?_
      have hk : k < n := by omega
      obtain ⟨lb, lo, rfl, hL⟩ := hA (by omega)
      replace hL : OpsB w lb lo n q := hL
      refine VC_det [[], [], [], [1, 2], [1, 2, 3], [1, 2, 3, 4], [], [], [6, 7], [6, 7, 8], [6, 7, 8, 9], [0, 1, 2, 3, 4, 5, 6, 7, 8, 9, 10]] 11 [.pointer (some ⟨tb1, 0, none⟩), .slice (some ⟨lb, lo, none⟩) n cc, .int .i64 ((k : Nat) : Int), .pointer (some ⟨lb, lo + k * 4, none⟩), .pointer (some ⟨lb, lo + k * 4, none⟩), .agg #[.int .i64 ((q k).p), .int .i64 ((q k).v), .int .i64 ((q k).c)], .slice (some ⟨lb, lo, none⟩) n cc, .int .i64 ((k : Nat) : Int), .pointer (some ⟨lb, lo + k * 4, none⟩), .pointer (some ⟨lb, lo + k * 4 + 3, none⟩), .int .i64 ((q k).n)] [1, 2, 4, 6, 7, 9] [0, 3, 5, 8, 10] (by kernel_rfl) (by kernel_rfl) (by kernel_rfl) (by kernel_rfl) ?_ ?_
      · intro w13 hs1
        replace hT := Tb.no hT hs1
        replace hS := Step.trans hS hs1
        replace ho1 := ho1.no hs1
        replace ho2 := ho2.no hs1
        replace ho3 := ho3.no hs1
        replace ho4 := ho4.no hs1
        replace ho5 := ho5.no hs1
        replace ho8 := ho8.no hs1
        exact ⟨Det1_load (d := 31) (t := 24) (a := ⟨b6, 0, none⟩) (by kernel_rfl) (by kernel_rfl) (Loads.own1 ho8 (by kernel_rfl) (by rfl)), Det1_index (d := 34) (b := lb) (o := lo) (len := n) (sz := 4) (m := ((k : Nat) : Int)) (by kernel_rfl) (by kernel_rfl) k (by rfl) (by omega) (lo + k * 4) (by omega), Det1_load (d := 36) (t := 29) (a := ⟨lb, lo + k * 4, none⟩) (by kernel_rfl) (by kernel_rfl) (hL.key hS (by kernel_rfl) k hk), Det1_index (d := 39) (b := lb) (o := lo) (len := n) (sz := 4) (m := ((k : Nat) : Int)) (by kernel_rfl) (by kernel_rfl) k (by rfl) (by omega) (lo + k * 4) (by omega), Det1_load (d := 41) (t := 3) (a := ⟨lb, lo + k * 4 + 3, none⟩) (by kernel_rfl) (by kernel_rfl) (hL.num hS (by kernel_rfl) k hk), trivial⟩
      intro w13 hs1
      replace hT := Tb.no hT hs1
      replace hS := Step.trans hS hs1
      replace ho1 := ho1.no hs1
      replace ho2 := ho2.no hs1
      replace ho3 := ho3.no hs1
      replace ho4 := ho4.no hs1
      replace ho5 := ho5.no hs1
      replace ho8 := ho8.no hs1
      refine VL_keep [0, 6, 7, 8, 9, 10, 11, 27, 28, 31, 36, 41] [(0, .slice (some ⟨lb, lo, none⟩) n cc), (6, .pointer (some ⟨b1, 0, none⟩)), (7, .pointer (some ⟨b2, 0, none⟩)), (8, .pointer (some ⟨b3, 0, none⟩)), (9, .pointer (some ⟨b4, 0, none⟩)), (10, .pointer (some ⟨b5, 0, none⟩)), (11, .pointer (some ⟨b6, 0, none⟩)), (27, .int .i64 ((n : Nat) : Int)), (28, .int .i64 ((k : Nat) : Int)), (31, .pointer (some ⟨tb1, 0, none⟩)), (36, .agg #[.int .i64 ((q k).p), .int .i64 ((q k).v), .int .i64 ((q k).c)]), (41, .int .i64 ((q k).n))] (by kernel_rfl) ?_
      have hzl37 := Tb.lt hT
      have hzs11 := hS.size
      have hzl38 := ho1.lt
      have hzl39 := ho2.lt
      have hzl40 := ho3.lt
      have hzl41 := ho4.lt
      have hzl42 := ho5.lt
      have hzl43 := ho8.lt
      refine VL_call (d := 42) (f := 11) (args := #[.pointer (some ⟨tb1, 0, none⟩), .agg #[.int .i64 ((q k).p), .int .i64 ((q k).v), .int .i64 ((q k).c)], .int .i64 ((q k).n)]) (by kernel_rfl) (by kernel_rfl) (by kernel_rfl) Try.call11 (tput ((q k).p) ((q k).v) ((q k).c) ((q k).n) hT) ?_
      rintro _ w14 ⟨rfl, hT2, hc4⟩
      replace hS := Step.transNew hS hc4 (fun _ _ _ => by omega)
      replace ho1 := ho1.step hc4 (show ¬ b1 = tb1 by omega)
      replace ho2 := ho2.step hc4 (show ¬ b2 = tb1 by omega)
      replace ho3 := ho3.step hc4 (show ¬ b3 = tb1 by omega)
      replace ho4 := ho4.step hc4 (show ¬ b4 = tb1 by omega)
      replace ho5 := ho5.step hc4 (show ¬ b5 = tb1 by omega)
      replace ho8 := ho8.step hc4 (show ¬ b6 = tb1 by omega)
      refine VL_end (by kernel_rfl) ?_
      refine VQ_block_normal ?_
      refine VQ_next ?_
      refine VC_region ?_
      refine VL_pure 1 [0, 6, 7, 8, 9, 10, 11, 27, 43] [(0, .slice (some ⟨lb, lo, none⟩) n cc), (6, .pointer (some ⟨b1, 0, none⟩)), (7, .pointer (some ⟨b2, 0, none⟩)), (8, .pointer (some ⟨b3, 0, none⟩)), (9, .pointer (some ⟨b4, 0, none⟩)), (10, .pointer (some ⟨b5, 0, none⟩)), (11, .pointer (some ⟨b6, 0, none⟩)), (27, .int .i64 ((n : Nat) : Int)), (43, .int .i64 (IntKind.wrap .i64 (((k : Nat) : Int) + 1)))] (by kernel_rfl) rfl ?_
      refine VL_eq [(0, .slice (some ⟨lb, lo, none⟩) n cc), (6, .pointer (some ⟨b1, 0, none⟩)), (7, .pointer (some ⟨b2, 0, none⟩)), (8, .pointer (some ⟨b3, 0, none⟩)), (9, .pointer (some ⟨b4, 0, none⟩)), (10, .pointer (some ⟨b5, 0, none⟩)), (11, .pointer (some ⟨b6, 0, none⟩)), (27, .int .i64 ((n : Nat) : Int)), (43, .int .i64 ((k + 1 : Nat) : Int))] (by rw [wrap_i64 _ (by omega) (by omega)]; rfl) ?_
      refine VL_pure 2 [0, 6, 7, 8, 9, 10, 11, 27, 28] [(0, .slice (some ⟨lb, lo, none⟩) n cc), (6, .pointer (some ⟨b1, 0, none⟩)), (7, .pointer (some ⟨b2, 0, none⟩)), (8, .pointer (some ⟨b3, 0, none⟩)), (9, .pointer (some ⟨b4, 0, none⟩)), (10, .pointer (some ⟨b5, 0, none⟩)), (11, .pointer (some ⟨b6, 0, none⟩)), (27, .int .i64 ((n : Nat) : Int)), (28, .int .i64 ((k + 1 : Nat) : Int))] (by kernel_rfl) rfl ?_
      refine VL_end (by kernel_rfl) ?_
      refine VQ_again ⟨k + 1, (putE L 64 ((q k).p) ((q k).v) ((q k).c) ((q k).n))⟩ ⟨rfl, rfl, rfl, rfl, rfl, rfl, rfl, rfl, rfl, trivial⟩ ?_ ?_
      · exact ⟨by omega, hT2, hS, ho1, ho2, ho3, ho4, ho5, ho8⟩
      · (try dsimp only); omega
    · refine VC_exit ?_
      refine VQ_then_exit ?_
      refine VQ_then_exit ?_
      refine VQ_block_hit ?_
      refine VQ_next ?_
      refine VC_seq ?_
      refine VC_region ?_
      refine VL_load (d := 44) (t := 24) (a := ⟨b6, 0, none⟩) (v := .pointer (some ⟨tb1, 0, none⟩)) (by kernel_rfl) (by kernel_rfl) (Loads.own1 ho8 (by kernel_rfl) (by rfl)) ?_
      have hzl44 := Tb.lt hT
      have hzs12 := hS.size
      have hzl45 := ho1.lt
      have hzl46 := ho2.lt
      have hzl47 := ho3.lt
      have hzl48 := ho4.lt
      have hzl49 := ho5.lt
      have hzl50 := ho8.lt
      refine VL_call (d := 45) (f := 15) (args := #[.pointer (some ⟨tb1, 0, none⟩)]) (by kernel_rfl) (by kernel_rfl) (by kernel_rfl) Try.call15 (tlen hT) ?_
      rintro _ w15 ⟨rfl, hc5⟩
      replace hT := Tb.no hT hc5
      replace hS := Step.trans hS hc5
      replace ho1 := ho1.no hc5
      replace ho2 := ho2.no hc5
      replace ho3 := ho3.no hc5
      replace ho4 := ho4.no hc5
      replace ho5 := ho5.no hc5
      replace ho8 := ho8.no hc5
      refine VL_pure 3 [6, 7, 8, 9, 10, 11, 13] [(6, .pointer (some ⟨b1, 0, none⟩)), (7, .pointer (some ⟨b2, 0, none⟩)), (8, .pointer (some ⟨b3, 0, none⟩)), (9, .pointer (some ⟨b4, 0, none⟩)), (10, .pointer (some ⟨b5, 0, none⟩)), (11, .pointer (some ⟨b6, 0, none⟩)), (13, .int .i64 ((L.length : Nat) : Int))] (by kernel_rfl) rfl ?_
      refine VL_end (by kernel_rfl) ?_
      refine VQ_next ?_
      refine VC_seq ?_
      refine VC_region ?_
      have hzl51 := Tb.lt hT
      have hzs13 := hS.size
      have hzl52 := ho1.lt
      have hzl53 := ho2.lt
      have hzl54 := ho3.lt
      have hzl55 := ho4.lt
      have hzl56 := ho5.lt
      have hzl57 := ho8.lt
      refine VL_box (d := 14) (t := 3) (c := #[.int .i64 0]) (by kernel_rfl) (by kernel_rfl) ?_
      intro b7 w16 hn7
      replace hT := Tb.no hT (hn7.step No)
      replace hS := Step.trans hS (hn7.step No)
      replace ho1 := ho1.no (hn7.step No)
      replace ho2 := ho2.no (hn7.step No)
      replace ho3 := ho3.no (hn7.step No)
      replace ho4 := ho4.no (hn7.step No)
      replace ho5 := ho5.no (hn7.step No)
      replace ho8 := ho8.no (hn7.step No)
      have ho9 := hn7.own
      have hzhn7 := hn7.size
      have hqhn7 := hn7.eqb
      refine VL_store (b := b7) (o := 0) (vs := [.int .i64 0]) (by kernel_rfl) (by kernel_rfl) ho9 (Nat.le_of_ble_eq_true (by kernel_rfl)) ?_
      intro w17 hw3
      replace hT := Tb.step hT hw3.step (show ¬ tb1 = b7 by omega)
      replace hS := Step.transNew hS hw3.step (fun _ _ _ => by omega)
      replace ho1 := ho1.step hw3.step (show ¬ b1 = b7 by omega)
      replace ho2 := ho2.step hw3.step (show ¬ b2 = b7 by omega)
      replace ho3 := ho3.step hw3.step (show ¬ b3 = b7 by omega)
      replace ho4 := ho4.step hw3.step (show ¬ b4 = b7 by omega)
      replace ho5 := ho5.step hw3.step (show ¬ b5 = b7 by omega)
      replace ho8 := ho8.step hw3.step (show ¬ b6 = b7 by omega)
      have ho10 : Own w17 b7 #[.int .i64 0] 3 := Own.cast hw3.own (by kernel_rfl)
      have hzhw3 := hw3.same
      refine VL_end (by kernel_rfl) ?_
      refine VQ_next ?_
      refine VC_seq ?_
      refine VC_region ?_
      have hzl58 := Tb.lt hT
      have hzs14 := hS.size
      have hzl59 := ho1.lt
      have hzl60 := ho2.lt
      have hzl61 := ho3.lt
      have hzl62 := ho4.lt
      have hzl63 := ho5.lt
      have hzl64 := ho8.lt
      have hzl65 := ho10.lt
      refine VL_box (d := 15) (t := 29) (c := #[.int .i64 0, .int .i64 0, .int .i64 0]) (by kernel_rfl) (by kernel_rfl) ?_
      intro b8 w18 hn8
      replace hT := Tb.no hT (hn8.step No)
      replace hS := Step.trans hS (hn8.step No)
      replace ho1 := ho1.no (hn8.step No)
      replace ho2 := ho2.no (hn8.step No)
      replace ho3 := ho3.no (hn8.step No)
      replace ho4 := ho4.no (hn8.step No)
      replace ho5 := ho5.no (hn8.step No)
      replace ho8 := ho8.no (hn8.step No)
      replace ho10 := ho10.no (hn8.step No)
      have ho11 := hn8.own
      have hzhn8 := hn8.size
      have hqhn8 := hn8.eqb
      refine VL_end (by kernel_rfl) ?_
      refine VQ_next ?_
      refine VC_seq ?_
      refine VC_seq ?_
      refine VC_region ?_
      refine VL_load (d := 46) (t := 24) (a := ⟨b6, 0, none⟩) (v := .pointer (some ⟨tb1, 0, none⟩)) (by kernel_rfl) (by kernel_rfl) (Loads.own1 ho8 (by kernel_rfl) (by rfl)) ?_
      have hzl66 := Tb.lt hT
      have hzs15 := hS.size
      have hzl67 := ho1.lt
      have hzl68 := ho2.lt
      have hzl69 := ho3.lt
      have hzl70 := ho4.lt
      have hzl71 := ho5.lt
      have hzl72 := ho8.lt
      have hzl73 := ho10.lt
      have hzl74 := ho11.lt
      refine VL_call (d := 47) (f := 17) (args := #[.pointer (some ⟨tb1, 0, none⟩)]) (by kernel_rfl) (by kernel_rfl) (by kernel_rfl) Try.call17 (all_any tb1 _) ?_
      rintro _ w19 ⟨bb1, rfl, hfbb1, hbb1, hc6⟩
      replace hT := Tb.no hT hc6
      replace hS := Step.trans hS hc6
      replace ho1 := ho1.no hc6
      replace ho2 := ho2.no hc6
      replace ho3 := ho3.no hc6
      replace ho4 := ho4.no hc6
      replace ho5 := ho5.no hc6
      replace ho8 := ho8.no hc6
      replace ho10 := ho10.no hc6
      replace ho11 := ho11.no hc6
      have hzbb1 := hbb1.lt
      refine VL_end (by kernel_rfl) ?_
      refine VQ_next ?_
      refine VC_block ?_
      have hzl75 := Tb.lt hT
      have hzs16 := hS.size
      have hzl76 := ho1.lt
      have hzl77 := ho2.lt
      have hzl78 := ho3.lt
      have hzl79 := ho4.lt
      have hzl80 := ho5.lt
      have hzl81 := ho8.lt
      have hzl82 := ho10.lt
      have hzl83 := ho11.lt
      have hzl84 := hbb1.lt
      have hsrt := hT.srt
      have hsm := hT.small
      have hzl85 := Tb.lt hT
      have hzs17 := hS.size
      have hzl86 := ho1.lt
      have hzl87 := ho2.lt
      have hzl88 := ho3.lt
      have hzl89 := ho4.lt
      have hzl90 := ho5.lt
      have hzl91 := ho8.lt
      have hzl92 := ho10.lt
      have hzl93 := ho11.lt
      have hzl94 := hbb1.lt
      refine VC_range (gf := 28) (lb := #[.pointer (some ⟨bb1, 0, none⟩)]) (xs := (entV L)) (by kernel_rfl) Try.call28 (titer bb1 tb1 64 L) (fun a ha => by obtain ⟨x, _, rfl⟩ := List.mem_map.1 ha; rfl) (by kernel_rfl) (fun M i => i = b7 ∨ i = b8 ∨ i = tb1) (fun M i hi => by (try simp only at hi); omega) (fun M k W => (k ≤ ea) ∧ (Tb W tb1 64 (L.drop (k))) ∧ (Step No w W) ∧ (Own W b1 #[.int .i64 ap, .int .i64 av, .int .i64 ac] 29) ∧ (Own W b2 #[.int .i64 bp, .int .i64 bv, .int .i64 bc] 29) ∧ (Own W b3 #[.int .i64 dp, .int .i64 dv, .int .i64 dc] 29) ∧ (Own W b4 #[.int .u8 ((ea : Nat) : Int)] 5) ∧ (Own W b5 #[.bool false] 4) ∧ (Own W b6 #[.pointer (some ⟨tb1, 0, none⟩)] 24) ∧ (Own W b7 #[.int .i64 ((k : Nat) : Int)] 3) ∧ (Own W b8 #[.int .i64 (lastE L (k)).p, .int .i64 (lastE L (k)).v, .int .i64 (lastE L (k)).c] 29) ∧ (Own W bb1 #[.pointer (some ⟨tb1, 0, none⟩)] 24)) (fun e W => (e = Exit.exit 2) ∧ ((ea + 1) ≤ L.length) ∧ (Tb W tb1 64 (L.drop ((ea + 1)))) ∧ (Step No w W) ∧ (Own W b1 #[.int .i64 ap, .int .i64 av, .int .i64 ac] 29) ∧ (Own W b2 #[.int .i64 bp, .int .i64 bv, .int .i64 bc] 29) ∧ (Own W b3 #[.int .i64 dp, .int .i64 dv, .int .i64 dc] 29) ∧ (Own W b4 #[.int .u8 ((ea : Nat) : Int)] 5) ∧ (Own W b5 #[.bool false] 4) ∧ (Own W b6 #[.pointer (some ⟨tb1, 0, none⟩)] 24) ∧ (Own W b7 #[.int .i64 (((ea + 1) : Nat) : Int)] 3) ∧ (Own W b8 #[.int .i64 (lastE L ((ea + 1))).p, .int .i64 (lastE L ((ea + 1))).v, .int .i64 (lastE L ((ea + 1))).c] 29) ∧ (Own W bb1 #[.pointer (some ⟨tb1, 0, none⟩)] 24)) (by rintro M k W W' ⟨hke, hT, hS, ho1, ho2, ho3, ho4, ho5, ho8, ho10, ho11, hbb1⟩ hs; exact ⟨hke, Tb.step hT hs (show ¬ tb1 = (w19.heap.size + 1) by omega), Step.transNew hS hs (fun i hi hG => by have : i = (w19.heap.size + 1) := hG; omega), ho1.step hs (show ¬ b1 = (w19.heap.size + 1) by omega), ho2.step hs (show ¬ b2 = (w19.heap.size + 1) by omega), ho3.step hs (show ¬ b3 = (w19.heap.size + 1) by omega), ho4.step hs (show ¬ b4 = (w19.heap.size + 1) by omega), ho5.step hs (show ¬ b5 = (w19.heap.size + 1) by omega), ho8.step hs (show ¬ b6 = (w19.heap.size + 1) by omega), ho10.step hs (show ¬ b7 = (w19.heap.size + 1) by omega), ho11.step hs (show ¬ b8 = (w19.heap.size + 1) by omega), hbb1.step hs (show ¬ bb1 = (w19.heap.size + 1) by omega)⟩) (by rintro e W W' ⟨hee, hel, hT, hS, ho1, ho2, ho3, ho4, ho5, ho8, ho10, ho11, hbb1⟩ hs; exact ⟨hee, hel, Tb.step hT hs (show ¬ tb1 = (w19.heap.size + 1) by omega), Step.transNew hS hs (fun i hi hG => by have : i = (w19.heap.size + 1) := hG; omega), ho1.step hs (show ¬ b1 = (w19.heap.size + 1) by omega), ho2.step hs (show ¬ b2 = (w19.heap.size + 1) by omega), ho3.step hs (show ¬ b3 = (w19.heap.size + 1) by omega), ho4.step hs (show ¬ b4 = (w19.heap.size + 1) by omega), ho5.step hs (show ¬ b5 = (w19.heap.size + 1) by omega), ho8.step hs (show ¬ b6 = (w19.heap.size + 1) by omega), ho10.step hs (show ¬ b7 = (w19.heap.size + 1) by omega), ho11.step hs (show ¬ b8 = (w19.heap.size + 1) by omega), hbb1.step hs (show ¬ bb1 = (w19.heap.size + 1) by omega)⟩) (by rintro M k W W' ⟨hke, hT, hS, ho1, ho2, ho3, ho4, ho5, ho8, ho10, ho11, hbb1⟩ hs; exact ⟨hke, (Tb.no hT hs), Step.trans hS hs, ho1.no hs, ho2.no hs, ho3.no hs, ho4.no hs, ho5.no hs, ho8.no hs, ho10.no hs, ho11.no hs, hbb1.no hs⟩) (by rintro e W W' ⟨hee, hel, hT, hS, ho1, ho2, ho3, ho4, ho5, ho8, ho10, ho11, hbb1⟩ hs; exact ⟨hee, hel, (Tb.no hT hs), Step.trans hS hs, ho1.no hs, ho2.no hs, ho3.no hs, ho4.no hs, ho5.no hs, ho8.no hs, ho10.no hs, ho11.no hs, hbb1.no hs⟩) (by rintro M k W ⟨hke, hT, hS, ho1, ho2, ho3, ho4, ho5, ho8, ho10, ho11, hbb1⟩; exact fun h0 => by subst h0; exact ⟨hbb1, hT⟩) (fun W hs _ => ⟨hbb1.no hs, hT.no hs⟩) (fun M W hMm hM2 hs _ => ⟨Nat.zero_le _, (Tb.no hT hs), Step.trans hS hs, ho1.no hs, ho2.no hs, ho3.no hs, ho4.no hs, ho5.no hs, ho8.no hs, ho10.no hs, ho11.no hs, hbb1.no hs⟩) ?_ ?_ ?_
      · intro M k w20 args hM hM2 hx hJ0 hsz
        obtain ⟨hke, hT, hS, ho1, ho2, ho3, ho4, ho5, ho8, ho10, ho11, hbb1⟩ := hJ0
        obtain ⟨y, hy, rfl⟩ := entV_inv hx
        have hAs : Step No w20 w20 := Step.refl _ _
        have hML : M ≤ w20.heap.size := hM2
        have hky := (List.getElem?_eq_some_iff.1 hy).1
        refine VC_keep [9, 10, 11, 14, 15, 48] [(9, .pointer (some ⟨b4, 0, none⟩)), (10, .pointer (some ⟨b5, 0, none⟩)), (11, .pointer (some ⟨b6, 0, none⟩)), (14, .pointer (some ⟨b7, 0, none⟩)), (15, .pointer (some ⟨b8, 0, none⟩)), (48, .agg #[.int .i64 y.p, .int .i64 y.v, .int .i64 y.c])] (by kernel_rfl) ?_
        refine VC_region ?_
        have hzl95 := Tb.lt hT
        have hzs18 := hS.size
        have hzl96 := ho1.lt
        have hzl97 := ho2.lt
        have hzl98 := ho3.lt
        have hzl99 := ho4.lt
        have hzl100 := ho5.lt
        have hzl101 := ho8.lt
        have hzl102 := ho10.lt
        have hzl103 := ho11.lt
        have hzl104 := hbb1.lt
        have hzk1 := hML
        have hzs19 := hAs.size
        refine VL_box (d := 16) (t := 29) (c := #[.int .i64 0, .int .i64 0, .int .i64 0]) (by kernel_rfl) (by kernel_rfl) ?_
        intro b9 w21 hn9
        replace hT := Tb.no hT (hn9.step No)
        replace hS := Step.trans hS (hn9.step No)
        replace ho1 := ho1.no (hn9.step No)
        replace ho2 := ho2.no (hn9.step No)
        replace ho3 := ho3.no (hn9.step No)
        replace ho4 := ho4.no (hn9.step No)
        replace ho5 := ho5.no (hn9.step No)
        replace ho8 := ho8.no (hn9.step No)
        replace ho10 := ho10.no (hn9.step No)
        replace ho11 := ho11.no (hn9.step No)
        replace hbb1 := hbb1.no (hn9.step No)
        replace hML := Nat.le_trans hML (hn9.step No).size
        replace hAs := Step.trans hAs (hn9.step No)
        have ho12 := hn9.own
        have hzhn9 := hn9.size
        have hqhn9 := hn9.eqb
        refine VL_store (b := b9) (o := 0) (vs := [.int .i64 y.p, .int .i64 y.v, .int .i64 y.c]) (by kernel_rfl) (by kernel_rfl) ho12 (Nat.le_of_ble_eq_true (by kernel_rfl)) ?_
        intro w22 hw4
        replace hT := Tb.step hT hw4.step (show ¬ tb1 = b9 by omega)
        replace hS := Step.transNew hS hw4.step (fun _ _ _ => by omega)
        replace ho1 := ho1.step hw4.step (show ¬ b1 = b9 by omega)
        replace ho2 := ho2.step hw4.step (show ¬ b2 = b9 by omega)
        replace ho3 := ho3.step hw4.step (show ¬ b3 = b9 by omega)
        replace ho4 := ho4.step hw4.step (show ¬ b4 = b9 by omega)
        replace ho5 := ho5.step hw4.step (show ¬ b5 = b9 by omega)
        replace ho8 := ho8.step hw4.step (show ¬ b6 = b9 by omega)
        replace ho10 := ho10.step hw4.step (show ¬ b7 = b9 by omega)
        replace ho11 := ho11.step hw4.step (show ¬ b8 = b9 by omega)
        replace hbb1 := hbb1.step hw4.step (show ¬ bb1 = b9 by omega)
        replace hML := Nat.le_trans hML (hw4.step).size
        replace hAs := Step.transNew hAs hw4.step (fun _ _ _ => by omega)
        have ho13 : Own w22 b9 #[.int .i64 y.p, .int .i64 y.v, .int .i64 y.c] 29 := Own.cast hw4.own (by kernel_rfl)
        have hzhw4 := hw4.same
        refine VL_end (by kernel_rfl) ?_
        refine VQ_begin hAs ?_
        intro w23 hb1 hzhb1
        have hzl105 := Tb.lt hT
        have hzs20 := hS.size
        have hzl106 := ho1.lt
        have hzl107 := ho2.lt
        have hzl108 := ho3.lt
        have hzl109 := ho4.lt
        have hzl110 := ho5.lt
        have hzl111 := ho8.lt
        have hzl112 := ho10.lt
        have hzl113 := ho11.lt
        have hzl114 := hbb1.lt
        have hzk2 := hML
        have hzl115 := ho13.lt
        replace hT := Tb.step hT hb1 (show ¬ tb1 = (w19.heap.size + 1) by omega)
        replace hS := Step.transNew hS hb1 (fun _ _ _ => by omega)
        replace ho1 := ho1.step hb1 (show ¬ b1 = (w19.heap.size + 1) by omega)
        replace ho2 := ho2.step hb1 (show ¬ b2 = (w19.heap.size + 1) by omega)
        replace ho3 := ho3.step hb1 (show ¬ b3 = (w19.heap.size + 1) by omega)
        replace ho4 := ho4.step hb1 (show ¬ b4 = (w19.heap.size + 1) by omega)
        replace ho5 := ho5.step hb1 (show ¬ b5 = (w19.heap.size + 1) by omega)
        replace ho8 := ho8.step hb1 (show ¬ b6 = (w19.heap.size + 1) by omega)
        replace ho10 := ho10.step hb1 (show ¬ b7 = (w19.heap.size + 1) by omega)
        replace ho11 := ho11.step hb1 (show ¬ b8 = (w19.heap.size + 1) by omega)
        replace hbb1 := hbb1.step hb1 (show ¬ bb1 = (w19.heap.size + 1) by omega)
        replace hML := Nat.le_trans hML (hb1).size
        replace ho13 := ho13.step hb1 (show ¬ b9 = (w19.heap.size + 1) by omega)
        have hR1 : Step ((fun M i => i = b7 ∨ i = b8 ∨ i = tb1) M) w23 w23 := Step.refl _ _
        refine VC_block ?_
        refine VC_seq ?_
        refine VC_seq ?_
        refine VC_region ?_
        refine VL_load (d := 50) (t := 3) (a := ⟨b7, 0, none⟩) (v := .int .i64 ((k : Nat) : Int)) (by kernel_rfl) (by kernel_rfl) (Loads.own1 ho10 (by kernel_rfl) (by rfl)) ?_
        refine VL_pure 3 [9, 10, 11, 14, 15, 16, 52] [(9, .pointer (some ⟨b4, 0, none⟩)), (10, .pointer (some ⟨b5, 0, none⟩)), (11, .pointer (some ⟨b6, 0, none⟩)), (14, .pointer (some ⟨b7, 0, none⟩)), (15, .pointer (some ⟨b8, 0, none⟩)), (16, .pointer (some ⟨b9, 0, none⟩)), (52, .bool (decide (((k : Nat) : Int) > 0)))] (by kernel_rfl) rfl ?_
        refine VL_dec (((k : Nat) : Int) > 0) (fun bV => [(9, .pointer (some ⟨b4, 0, none⟩)), (10, .pointer (some ⟨b5, 0, none⟩)), (11, .pointer (some ⟨b6, 0, none⟩)), (14, .pointer (some ⟨b7, 0, none⟩)), (15, .pointer (some ⟨b8, 0, none⟩)), (16, .pointer (some ⟨b9, 0, none⟩)), (52, .bool bV)]) rfl (fun hg1 => ?_) (fun hg1 => ?_)
        · refine VL_load (d := 53) (t := 29) (a := ⟨b8, 0, none⟩) (v := .agg #[.int .i64 ((lastE L (k)).p), .int .i64 ((lastE L (k)).v), .int .i64 ((lastE L (k)).c)]) (by kernel_rfl) (by kernel_rfl) (Loads.ownL ho11 (n := 3) (by kernel_rfl) (by kernel_rfl) (by kernel_rfl)) ?_
          refine VL_load (d := 54) (t := 29) (a := ⟨b9, 0, none⟩) (v := .agg #[.int .i64 y.p, .int .i64 y.v, .int .i64 y.c]) (by kernel_rfl) (by kernel_rfl) (Loads.ownL ho13 (n := 3) (by kernel_rfl) (by kernel_rfl) (by kernel_rfl)) ?_
          have hzl116 := Tb.lt hT
          have hzs21 := hS.size
          have hzl117 := ho1.lt
          have hzl118 := ho2.lt
          have hzl119 := ho3.lt
          have hzl120 := ho4.lt
          have hzl121 := ho5.lt
          have hzl122 := ho8.lt
          have hzl123 := ho10.lt
          have hzl124 := ho11.lt
          have hzl125 := hbb1.lt
          have hzl126 := ho13.lt
          have hzs22 := hR1.size
          refine VL_call (d := 55) (f := 20) (args := #[.agg #[.int .i64 ((lastE L (k)).p), .int .i64 ((lastE L (k)).v), .int .i64 ((lastE L (k)).c)], .agg #[.int .i64 y.p, .int .i64 y.v, .int .i64 y.c]]) (by kernel_rfl) (by kernel_rfl) (by kernel_rfl) Try.call20 (before_any ((lastE L (k)).p) ((lastE L (k)).v) ((lastE L (k)).c) y.p y.v y.c _) ?_
          rintro _ w24 ⟨rfl, hc7⟩
          replace hT := Tb.no hT hc7
          replace hS := Step.trans hS hc7
          replace ho1 := ho1.no hc7
          replace ho2 := ho2.no hc7
          replace ho3 := ho3.no hc7
          replace ho4 := ho4.no hc7
          replace ho5 := ho5.no hc7
          replace ho8 := ho8.no hc7
          replace ho10 := ho10.no hc7
          replace ho11 := ho11.no hc7
          replace hbb1 := hbb1.no hc7
          replace hML := Nat.le_trans hML (hc7).size
          replace ho13 := ho13.no hc7
          replace hR1 := Step.trans hR1 (Step.weak hc7)
          refine VL_pure 8 [9, 10, 11, 14, 15, 16, 57] [(9, .pointer (some ⟨b4, 0, none⟩)), (10, .pointer (some ⟨b5, 0, none⟩)), (11, .pointer (some ⟨b6, 0, none⟩)), (14, .pointer (some ⟨b7, 0, none⟩)), (15, .pointer (some ⟨b8, 0, none⟩)), (16, .pointer (some ⟨b9, 0, none⟩)), (57, .bool (!(befK ((lastE L (k)).p) ((lastE L (k)).v) ((lastE L (k)).c) y.p y.v y.c)))] (by kernel_rfl) rfl ?_
          refine VL_end (by kernel_rfl) ?_
          refine VQ_next ?_
          refine VC_is (b := !(befK ((lastE L (k)).p) ((lastE L (k)).v) ((lastE L (k)).c) y.p y.v y.c)) false (by kernel_rfl) (by rw [lastE_bef hsrt hy (by omega)]; rfl) ?_
          refine VC_ite_false ?_
          refine VC_skip ?_
          refine VQ_next ?_
          refine VC_seq ?_
          refine VC_region ?_
          refine VL_load (d := 58) (t := 29) (a := ⟨b9, 0, none⟩) (v := .agg #[.int .i64 y.p, .int .i64 y.v, .int .i64 y.c]) (by kernel_rfl) (by kernel_rfl) (Loads.ownL ho13 (n := 3) (by kernel_rfl) (by kernel_rfl) (by kernel_rfl)) ?_
          refine VL_store (b := b8) (o := 0) (vs := [.int .i64 y.p, .int .i64 y.v, .int .i64 y.c]) (by kernel_rfl) (by kernel_rfl) ho11 (Nat.le_of_ble_eq_true (by kernel_rfl)) ?_
          intro w25 hw5
          replace hT := Tb.step hT hw5.step (show ¬ tb1 = b8 by omega)
          replace hS := Step.transNew hS hw5.step (fun _ _ _ => by omega)
          replace ho1 := ho1.step hw5.step (show ¬ b1 = b8 by omega)
          replace ho2 := ho2.step hw5.step (show ¬ b2 = b8 by omega)
          replace ho3 := ho3.step hw5.step (show ¬ b3 = b8 by omega)
          replace ho4 := ho4.step hw5.step (show ¬ b4 = b8 by omega)
          replace ho5 := ho5.step hw5.step (show ¬ b5 = b8 by omega)
          replace ho8 := ho8.step hw5.step (show ¬ b6 = b8 by omega)
          replace ho10 := ho10.step hw5.step (show ¬ b7 = b8 by omega)
          replace hbb1 := hbb1.step hw5.step (show ¬ bb1 = b8 by omega)
          replace hML := Nat.le_trans hML (hw5.step).size
          replace ho13 := ho13.step hw5.step (show ¬ b9 = b8 by omega)
          replace hR1 := Step.trans hR1 (Step.mono hw5.step (by intro i hi; first | exact hi | (have hi9 : i = b8 := hi; (first | show _ ∨ _ | show _ = _); omega)))
          have ho14 : Own w25 b8 #[.int .i64 y.p, .int .i64 y.v, .int .i64 y.c] 29 := Own.cast hw5.own (by kernel_rfl)
          have hzhw5 := hw5.same
          refine VL_end (by kernel_rfl) ?_
          refine VQ_next ?_
          refine VC_seq ?_
          refine VC_region ?_
          refine VL_load (d := 59) (t := 24) (a := ⟨b6, 0, none⟩) (v := .pointer (some ⟨tb1, 0, none⟩)) (by kernel_rfl) (by kernel_rfl) (Loads.own1 ho8 (by kernel_rfl) (by rfl)) ?_
          refine VL_load (d := 60) (t := 29) (a := ⟨b9, 0, none⟩) (v := .agg #[.int .i64 y.p, .int .i64 y.v, .int .i64 y.c]) (by kernel_rfl) (by kernel_rfl) (Loads.ownL ho13 (n := 3) (by kernel_rfl) (by kernel_rfl) (by kernel_rfl)) ?_
          have hzl127 := Tb.lt hT
          have hzs23 := hS.size
          have hzl128 := ho1.lt
          have hzl129 := ho2.lt
          have hzl130 := ho3.lt
          have hzl131 := ho4.lt
          have hzl132 := ho5.lt
          have hzl133 := ho8.lt
          have hzl134 := ho10.lt
          have hzl135 := hbb1.lt
          have hzl136 := ho13.lt
          have hzs24 := hR1.size
          have hzl137 := ho14.lt
          refine VL_call (d := 61) (f := 16) (args := #[.pointer (some ⟨tb1, 0, none⟩), .agg #[.int .i64 y.p, .int .i64 y.v, .int .i64 y.c]]) (by kernel_rfl) (by kernel_rfl) (by kernel_rfl) Try.call16 (tdrop y.p y.v y.c hT) ?_
          rintro _ w26 ⟨rfl, hT3, hc8⟩
          replace hS := Step.transNew hS hc8 (fun _ _ _ => by omega)
          replace ho1 := ho1.step hc8 (show ¬ b1 = tb1 by omega)
          replace ho2 := ho2.step hc8 (show ¬ b2 = tb1 by omega)
          replace ho3 := ho3.step hc8 (show ¬ b3 = tb1 by omega)
          replace ho4 := ho4.step hc8 (show ¬ b4 = tb1 by omega)
          replace ho5 := ho5.step hc8 (show ¬ b5 = tb1 by omega)
          replace ho8 := ho8.step hc8 (show ¬ b6 = tb1 by omega)
          replace ho10 := ho10.step hc8 (show ¬ b7 = tb1 by omega)
          replace hbb1 := hbb1.step hc8 (show ¬ bb1 = tb1 by omega)
          replace hML := Nat.le_trans hML (hc8).size
          replace ho13 := ho13.step hc8 (show ¬ b9 = tb1 by omega)
          replace hR1 := Step.trans hR1 (Step.mono hc8 (by intro i hi; first | exact hi | (have hi9 : i = tb1 := hi; (first | show _ ∨ _ | show _ = _); omega)))
          replace ho14 := ho14.step hc8 (show ¬ b8 = tb1 by omega)
          refine VL_end (by kernel_rfl) ?_
          refine VQ_next ?_
          refine VC_seq ?_
          refine VC_region ?_
          refine VL_load (d := 62) (t := 3) (a := ⟨b7, 0, none⟩) (v := .int .i64 ((k : Nat) : Int)) (by kernel_rfl) (by kernel_rfl) (Loads.own1 ho10 (by kernel_rfl) (by rfl)) ?_
          refine VL_pure 2 [9, 14, 63] [(9, .pointer (some ⟨b4, 0, none⟩)), (14, .pointer (some ⟨b7, 0, none⟩)), (63, .int .i64 (IntKind.wrap .i64 (((k : Nat) : Int) + 1)))] (by kernel_rfl) rfl ?_
          refine VL_eq [(9, .pointer (some ⟨b4, 0, none⟩)), (14, .pointer (some ⟨b7, 0, none⟩)), (63, .int .i64 ((k + 1 : Nat) : Int))] (by rw [wrap_i64 _ (by omega) (by omega)]; rfl) ?_
          refine VL_store (b := b7) (o := 0) (vs := [.int .i64 ((k + 1 : Nat) : Int)]) (by kernel_rfl) (by kernel_rfl) ho10 (Nat.le_of_ble_eq_true (by kernel_rfl)) ?_
          intro w27 hw6
          replace hS := Step.transNew hS hw6.step (fun _ _ _ => by omega)
          replace ho1 := ho1.step hw6.step (show ¬ b1 = b7 by omega)
          replace ho2 := ho2.step hw6.step (show ¬ b2 = b7 by omega)
          replace ho3 := ho3.step hw6.step (show ¬ b3 = b7 by omega)
          replace ho4 := ho4.step hw6.step (show ¬ b4 = b7 by omega)
          replace ho5 := ho5.step hw6.step (show ¬ b5 = b7 by omega)
          replace ho8 := ho8.step hw6.step (show ¬ b6 = b7 by omega)
          replace hbb1 := hbb1.step hw6.step (show ¬ bb1 = b7 by omega)
          replace hML := Nat.le_trans hML (hw6.step).size
          replace ho13 := ho13.step hw6.step (show ¬ b9 = b7 by omega)
          replace hR1 := Step.trans hR1 (Step.mono hw6.step (by intro i hi; first | exact hi | (have hi9 : i = b7 := hi; (first | show _ ∨ _ | show _ = _); omega)))
          replace ho14 := ho14.step hw6.step (show ¬ b8 = b7 by omega)
          replace hT3 := Tb.step hT3 hw6.step (show ¬ tb1 = b7 by omega)
          have ho15 : Own w27 b7 #[.int .i64 ((k + 1 : Nat) : Int)] 3 := Own.cast hw6.own (by kernel_rfl)
          have hzhw6 := hw6.same
          refine VL_end (by kernel_rfl) ?_
          refine VQ_next ?_
          refine VC_seq ?_
          refine VC_region ?_
          refine VL_load (d := 64) (t := 3) (a := ⟨b7, 0, none⟩) (v := .int .i64 ((k + 1 : Nat) : Int)) (by kernel_rfl) (by kernel_rfl) (Loads.own1 ho15 (by kernel_rfl) (by rfl)) ?_
          refine VL_load (d := 65) (t := 5) (a := ⟨b4, 0, none⟩) (v := .int .u8 ((ea : Nat) : Int)) (by kernel_rfl) (by kernel_rfl) (Loads.own1 ho4 (by kernel_rfl) (by rfl)) ?_
          refine VL_pure 4 [67] [(67, .bool (decide (((k + 1 : Nat) : Int) > (IntKind.wrap .i64 ((ea : Nat) : Int)))))] (by kernel_rfl) rfl ?_
          refine VL_end (by kernel_rfl) ?_
          refine VQ_next ?_
          refine VC_dec (((k + 1 : Nat) : Int) > (IntKind.wrap .i64 ((ea : Nat) : Int))) (by kernel_rfl) (fun h3 => ?_) (fun h3 => ?_)
          · refine VC_exit ?_
            refine VQ_block_miss (by kernel_rfl) ?_
            exact VQ_round_exit hR1 (by have h9 : ea + 1 = k + 1 := (by omega); rw [h9]; exact ⟨rfl, by omega, (by have h9 := hT3; rw [delE_head hsrt hy] at h9; exact h9), hS, ho1, ho2, ho3, ho4, ho5, ho8, (Own.cast ho15 (by first | rfl | (push_cast; rfl))), (Own.cast ho14 (by rw [lastE_next hy])), hbb1⟩)
          · refine VC_skip ?_
            refine VQ_block_normal ?_
            exact VQ_round_end hR1 ⟨by omega, (by have h9 := hT3; rw [delE_head hsrt hy] at h9; exact h9), hS, ho1, ho2, ho3, ho4, ho5, ho8, (Own.cast ho15 (by first | rfl | (push_cast; rfl))), (Own.cast ho14 (by rw [lastE_next hy])), hbb1⟩
        · refine VL_pure 8 [9, 10, 11, 14, 15, 16, 57] [(9, .pointer (some ⟨b4, 0, none⟩)), (10, .pointer (some ⟨b5, 0, none⟩)), (11, .pointer (some ⟨b6, 0, none⟩)), (14, .pointer (some ⟨b7, 0, none⟩)), (15, .pointer (some ⟨b8, 0, none⟩)), (16, .pointer (some ⟨b9, 0, none⟩)), (57, .bool false)] (by kernel_rfl) rfl ?_
          refine VL_end (by kernel_rfl) ?_
          refine VQ_next ?_
          refine VC_false (by kernel_rfl) ?_
          refine VC_skip ?_
          refine VQ_next ?_
          refine VC_seq ?_
          refine VC_region ?_
          refine VL_load (d := 58) (t := 29) (a := ⟨b9, 0, none⟩) (v := .agg #[.int .i64 y.p, .int .i64 y.v, .int .i64 y.c]) (by kernel_rfl) (by kernel_rfl) (Loads.ownL ho13 (n := 3) (by kernel_rfl) (by kernel_rfl) (by kernel_rfl)) ?_
          refine VL_store (b := b8) (o := 0) (vs := [.int .i64 y.p, .int .i64 y.v, .int .i64 y.c]) (by kernel_rfl) (by kernel_rfl) ho11 (Nat.le_of_ble_eq_true (by kernel_rfl)) ?_
          intro w28 hw7
          replace hT := Tb.step hT hw7.step (show ¬ tb1 = b8 by omega)
          replace hS := Step.transNew hS hw7.step (fun _ _ _ => by omega)
          replace ho1 := ho1.step hw7.step (show ¬ b1 = b8 by omega)
          replace ho2 := ho2.step hw7.step (show ¬ b2 = b8 by omega)
          replace ho3 := ho3.step hw7.step (show ¬ b3 = b8 by omega)
          replace ho4 := ho4.step hw7.step (show ¬ b4 = b8 by omega)
          replace ho5 := ho5.step hw7.step (show ¬ b5 = b8 by omega)
          replace ho8 := ho8.step hw7.step (show ¬ b6 = b8 by omega)
          replace ho10 := ho10.step hw7.step (show ¬ b7 = b8 by omega)
          replace hbb1 := hbb1.step hw7.step (show ¬ bb1 = b8 by omega)
          replace hML := Nat.le_trans hML (hw7.step).size
          replace ho13 := ho13.step hw7.step (show ¬ b9 = b8 by omega)
          replace hR1 := Step.trans hR1 (Step.mono hw7.step (by intro i hi; first | exact hi | (have hi9 : i = b8 := hi; (first | show _ ∨ _ | show _ = _); omega)))
          have ho16 : Own w28 b8 #[.int .i64 y.p, .int .i64 y.v, .int .i64 y.c] 29 := Own.cast hw7.own (by kernel_rfl)
          have hzhw7 := hw7.same
          refine VL_end (by kernel_rfl) ?_
          refine VQ_next ?_
          refine VC_seq ?_
          refine VC_region ?_
          refine VL_load (d := 59) (t := 24) (a := ⟨b6, 0, none⟩) (v := .pointer (some ⟨tb1, 0, none⟩)) (by kernel_rfl) (by kernel_rfl) (Loads.own1 ho8 (by kernel_rfl) (by rfl)) ?_
          refine VL_load (d := 60) (t := 29) (a := ⟨b9, 0, none⟩) (v := .agg #[.int .i64 y.p, .int .i64 y.v, .int .i64 y.c]) (by kernel_rfl) (by kernel_rfl) (Loads.ownL ho13 (n := 3) (by kernel_rfl) (by kernel_rfl) (by kernel_rfl)) ?_
          have hzl138 := Tb.lt hT
          have hzs25 := hS.size
          have hzl139 := ho1.lt
          have hzl140 := ho2.lt
          have hzl141 := ho3.lt
          have hzl142 := ho4.lt
          have hzl143 := ho5.lt
          have hzl144 := ho8.lt
          have hzl145 := ho10.lt
          have hzl146 := hbb1.lt
          have hzl147 := ho13.lt
          have hzs26 := hR1.size
          have hzl148 := ho16.lt
          refine VL_call (d := 61) (f := 16) (args := #[.pointer (some ⟨tb1, 0, none⟩), .agg #[.int .i64 y.p, .int .i64 y.v, .int .i64 y.c]]) (by kernel_rfl) (by kernel_rfl) (by kernel_rfl) Try.call16 (tdrop y.p y.v y.c hT) ?_
          rintro _ w29 ⟨rfl, hT4, hc9⟩
          replace hS := Step.transNew hS hc9 (fun _ _ _ => by omega)
          replace ho1 := ho1.step hc9 (show ¬ b1 = tb1 by omega)
          replace ho2 := ho2.step hc9 (show ¬ b2 = tb1 by omega)
          replace ho3 := ho3.step hc9 (show ¬ b3 = tb1 by omega)
          replace ho4 := ho4.step hc9 (show ¬ b4 = tb1 by omega)
          replace ho5 := ho5.step hc9 (show ¬ b5 = tb1 by omega)
          replace ho8 := ho8.step hc9 (show ¬ b6 = tb1 by omega)
          replace ho10 := ho10.step hc9 (show ¬ b7 = tb1 by omega)
          replace hbb1 := hbb1.step hc9 (show ¬ bb1 = tb1 by omega)
          replace hML := Nat.le_trans hML (hc9).size
          replace ho13 := ho13.step hc9 (show ¬ b9 = tb1 by omega)
          replace hR1 := Step.trans hR1 (Step.mono hc9 (by intro i hi; first | exact hi | (have hi9 : i = tb1 := hi; (first | show _ ∨ _ | show _ = _); omega)))
          replace ho16 := ho16.step hc9 (show ¬ b8 = tb1 by omega)
          refine VL_end (by kernel_rfl) ?_
          refine VQ_next ?_
          refine VC_seq ?_
          refine VC_region ?_
          refine VL_load (d := 62) (t := 3) (a := ⟨b7, 0, none⟩) (v := .int .i64 ((k : Nat) : Int)) (by kernel_rfl) (by kernel_rfl) (Loads.own1 ho10 (by kernel_rfl) (by rfl)) ?_
          refine VL_pure 2 [9, 14, 63] [(9, .pointer (some ⟨b4, 0, none⟩)), (14, .pointer (some ⟨b7, 0, none⟩)), (63, .int .i64 (IntKind.wrap .i64 (((k : Nat) : Int) + 1)))] (by kernel_rfl) rfl ?_
          refine VL_eq [(9, .pointer (some ⟨b4, 0, none⟩)), (14, .pointer (some ⟨b7, 0, none⟩)), (63, .int .i64 ((k + 1 : Nat) : Int))] (by rw [wrap_i64 _ (by omega) (by omega)]; rfl) ?_
          refine VL_store (b := b7) (o := 0) (vs := [.int .i64 ((k + 1 : Nat) : Int)]) (by kernel_rfl) (by kernel_rfl) ho10 (Nat.le_of_ble_eq_true (by kernel_rfl)) ?_
          intro w30 hw8
          replace hS := Step.transNew hS hw8.step (fun _ _ _ => by omega)
          replace ho1 := ho1.step hw8.step (show ¬ b1 = b7 by omega)
          replace ho2 := ho2.step hw8.step (show ¬ b2 = b7 by omega)
          replace ho3 := ho3.step hw8.step (show ¬ b3 = b7 by omega)
          replace ho4 := ho4.step hw8.step (show ¬ b4 = b7 by omega)
          replace ho5 := ho5.step hw8.step (show ¬ b5 = b7 by omega)
          replace ho8 := ho8.step hw8.step (show ¬ b6 = b7 by omega)
          replace hbb1 := hbb1.step hw8.step (show ¬ bb1 = b7 by omega)
          replace hML := Nat.le_trans hML (hw8.step).size
          replace ho13 := ho13.step hw8.step (show ¬ b9 = b7 by omega)
          replace hR1 := Step.trans hR1 (Step.mono hw8.step (by intro i hi; first | exact hi | (have hi9 : i = b7 := hi; (first | show _ ∨ _ | show _ = _); omega)))
          replace ho16 := ho16.step hw8.step (show ¬ b8 = b7 by omega)
          replace hT4 := Tb.step hT4 hw8.step (show ¬ tb1 = b7 by omega)
          have ho17 : Own w30 b7 #[.int .i64 ((k + 1 : Nat) : Int)] 3 := Own.cast hw8.own (by kernel_rfl)
          have hzhw8 := hw8.same
          refine VL_end (by kernel_rfl) ?_
          refine VQ_next ?_
          refine VC_seq ?_
          refine VC_region ?_
          refine VL_load (d := 64) (t := 3) (a := ⟨b7, 0, none⟩) (v := .int .i64 ((k + 1 : Nat) : Int)) (by kernel_rfl) (by kernel_rfl) (Loads.own1 ho17 (by kernel_rfl) (by rfl)) ?_
          refine VL_load (d := 65) (t := 5) (a := ⟨b4, 0, none⟩) (v := .int .u8 ((ea : Nat) : Int)) (by kernel_rfl) (by kernel_rfl) (Loads.own1 ho4 (by kernel_rfl) (by rfl)) ?_
          refine VL_pure 4 [67] [(67, .bool (decide (((k + 1 : Nat) : Int) > (IntKind.wrap .i64 ((ea : Nat) : Int)))))] (by kernel_rfl) rfl ?_
          refine VL_end (by kernel_rfl) ?_
          refine VQ_next ?_
          refine VC_dec (((k + 1 : Nat) : Int) > (IntKind.wrap .i64 ((ea : Nat) : Int))) (by kernel_rfl) (fun h4 => ?_) (fun h4 => ?_)
          · refine VC_exit ?_
            refine VQ_block_miss (by kernel_rfl) ?_
            exact VQ_round_exit hR1 (by have h9 : ea + 1 = k + 1 := (by omega); rw [h9]; exact ⟨rfl, by omega, (by have h9 := hT4; rw [delE_head hsrt hy] at h9; exact h9), hS, ho1, ho2, ho3, ho4, ho5, ho8, (Own.cast ho17 (by first | rfl | (push_cast; rfl))), (Own.cast ho16 (by rw [lastE_next hy])), hbb1⟩)
          · refine VC_skip ?_
            refine VQ_block_normal ?_
            exact VQ_round_end hR1 ⟨by omega, (by have h9 := hT4; rw [delE_head hsrt hy] at h9; exact h9), hS, ho1, ho2, ho3, ho4, ho5, ho8, (Own.cast ho17 (by first | rfl | (push_cast; rfl))), (Own.cast ho16 (by rw [lastE_next hy])), hbb1⟩
      · intro M w31 hM hzM hJ0 hD
        rw [entV_len] at hJ0
        obtain ⟨hke, hT, hS, ho1, ho2, ho3, ho4, ho5, ho8, ho10, ho11, hbb1⟩ := hJ0
        have hmk1 := hD
        refine VQ_block_normal ?_
        refine VQ_next ?_
        refine VC_seq ?_
        refine VC_seq ?_
        have hs2 := drew_step w31
        have hs2z : w31.heap.size = w31.drew.heap.size := rfl
        refine VC_text [[], [], [], [2], [2, 3], [1, 2, 3, 4], [0, 1, 2, 3, 4, 5], [0, 1, 2, 3, 4, 5, 6], [0, 1, 2, 3, 4, 5, 6, 7], [0, 1, 2, 3, 4, 5, 6, 7, 8], [0, 1, 2, 3, 4, 5, 6, 7], [0, 1, 2, 3, 4, 5, 6, 7], [0, 1, 2, 3, 4, 5, 6, 7, 10, 11], [0, 1, 2, 3, 4, 5, 6, 7, 8, 9, 10, 11, 12], [0, 1, 2, 3, 4, 5, 6, 7, 8, 9, 10, 11, 12, 13]] 13 (fun x y => Step (fun k => w31.heap.size ≤ k) x y) [9] [0, 1, 2, 3, 4, 5, 6, 7, 8, 10, 11, 12, 9] (by kernel_rfl) (by kernel_rfl) (by kernel_rfl) (by kernel_rfl) (fun x => Step.refl _ x) (fun h k => Step.trans h k) Step.weak ?_
        have hzl149 := Tb.lt hT
        have hzs27 := hS.size
        have hzl150 := ho1.lt
        have hzl151 := ho2.lt
        have hzl152 := ho3.lt
        have hzl153 := ho4.lt
        have hzl154 := ho5.lt
        have hzl155 := ho8.lt
        have hzl156 := ho10.lt
        have hzl157 := ho11.lt
        have hzl158 := hbb1.lt
        have hzl159 := hmk1.lt
        generalize w31.drew = w32 at hs2 hs2z ⊢
        replace hT := Tb.no hT hs2
        replace hS := Step.trans hS hs2
        replace ho1 := ho1.no hs2
        replace ho2 := ho2.no hs2
        replace ho3 := ho3.no hs2
        replace ho4 := ho4.no hs2
        replace ho5 := ho5.no hs2
        replace ho8 := ho8.no hs2
        replace ho10 := ho10.no hs2
        replace ho11 := ho11.no hs2
        replace hbb1 := hbb1.no hs2
        replace hmk1 := hmk1.no hs2
        refine VT_load (d := 68) (t := 3) (a := ⟨b7, 0, none⟩) (v := .int .i64 ((L.length : Nat) : Int)) (by kernel_rfl) (by kernel_rfl) ?_ ?_
        · intro w33 hr1
          replace hT := Tb.step hT hr1 (by (try simp only); omega)
          replace hS := Step.transNew hS hr1 (fun i hi hG => by (try simp only at hG); omega)
          replace ho1 := ho1.step hr1 (by (try simp only); omega)
          replace ho2 := ho2.step hr1 (by (try simp only); omega)
          replace ho3 := ho3.step hr1 (by (try simp only); omega)
          replace ho4 := ho4.step hr1 (by (try simp only); omega)
          replace ho5 := ho5.step hr1 (by (try simp only); omega)
          replace ho8 := ho8.step hr1 (by (try simp only); omega)
          replace ho10 := ho10.step hr1 (by (try simp only); omega)
          replace ho11 := ho11.step hr1 (by (try simp only); omega)
          replace hbb1 := hbb1.step hr1 (by (try simp only); omega)
          replace hmk1 := hmk1.step hr1 (by (try simp only); omega)
          exact (Loads.own1 ho10 (by kernel_rfl) (by rfl))
        refine VT_pures 1 (kn' := [(1, .int .i64 ((L.length : Nat) : Int)), (0, .int .i64 ((L.length : Nat) : Int))]) (by kernel_rfl) ?_
        refine VT_load (d := 70) (t := 5) (a := ⟨b4, 0, none⟩) (v := .int .u8 ((ea : Nat) : Int)) (by kernel_rfl) (by kernel_rfl) ?_ ?_
        · intro w34 hr2
          replace hT := Tb.step hT hr2 (by (try simp only); omega)
          replace hS := Step.transNew hS hr2 (fun i hi hG => by (try simp only at hG); omega)
          replace ho1 := ho1.step hr2 (by (try simp only); omega)
          replace ho2 := ho2.step hr2 (by (try simp only); omega)
          replace ho3 := ho3.step hr2 (by (try simp only); omega)
          replace ho4 := ho4.step hr2 (by (try simp only); omega)
          replace ho5 := ho5.step hr2 (by (try simp only); omega)
          replace ho8 := ho8.step hr2 (by (try simp only); omega)
          replace ho10 := ho10.step hr2 (by (try simp only); omega)
          replace ho11 := ho11.step hr2 (by (try simp only); omega)
          replace hbb1 := hbb1.step hr2 (by (try simp only); omega)
          replace hmk1 := hmk1.step hr2 (by (try simp only); omega)
          exact (Loads.own1 ho4 (by kernel_rfl) (by rfl))
        refine VT_pures 5 (kn' := [(7, .bool (((L.length : Nat) : Int) != (imin ((L.length : Nat) : Int) (IntKind.wrap .i64 ((IntKind.wrap .i64 ((ea : Nat) : Int)) + 1))))), (6, .bool (((L.length : Nat) : Int) != (imin ((L.length : Nat) : Int) (IntKind.wrap .i64 ((IntKind.wrap .i64 ((ea : Nat) : Int)) + 1))))), (5, .int .i64 (imin ((L.length : Nat) : Int) (IntKind.wrap .i64 ((IntKind.wrap .i64 ((ea : Nat) : Int)) + 1)))), (4, .int .i64 (IntKind.wrap .i64 ((IntKind.wrap .i64 ((ea : Nat) : Int)) + 1))), (3, .int .i64 (IntKind.wrap .i64 ((ea : Nat) : Int))), (2, .int .u8 ((ea : Nat) : Int)), (1, .int .i64 ((L.length : Nat) : Int)), (0, .int .i64 ((L.length : Nat) : Int))]) (by kernel_rfl) ?_
        have hg2 : (((L.length : Nat) : Int) != (imin ((L.length : Nat) : Int) (IntKind.wrap .i64 ((IntKind.wrap .i64 ((ea : Nat) : Int)) + 1)))) = false := (by rw [bne_eq_false_iff_eq, hew, wrap_i64 _ (by omega) (by omega)]; unfold imin; split <;> omega)
        refine VT_eq [(7, .bool false), (6, .bool false), (5, .int .i64 (imin ((L.length : Nat) : Int) (IntKind.wrap .i64 ((IntKind.wrap .i64 ((ea : Nat) : Int)) + 1)))), (4, .int .i64 (IntKind.wrap .i64 ((IntKind.wrap .i64 ((ea : Nat) : Int)) + 1))), (3, .int .i64 (IntKind.wrap .i64 ((ea : Nat) : Int))), (2, .int .u8 ((ea : Nat) : Int)), (1, .int .i64 ((L.length : Nat) : Int)), (0, .int .i64 ((L.length : Nat) : Int))] (by simp only [hg2, Bool.not_true, Bool.not_false]) ?_
        refine VT_load (d := 76) (t := 24) (a := ⟨b6, 0, none⟩) (v := .pointer (some ⟨tb1, 0, none⟩)) (by kernel_rfl) (by kernel_rfl) ?_ ?_
        · intro w35 hr3
          replace hT := Tb.step hT hr3 (by (try simp only); omega)
          replace hS := Step.transNew hS hr3 (fun i hi hG => by (try simp only at hG); omega)
          replace ho1 := ho1.step hr3 (by (try simp only); omega)
          replace ho2 := ho2.step hr3 (by (try simp only); omega)
          replace ho3 := ho3.step hr3 (by (try simp only); omega)
          replace ho4 := ho4.step hr3 (by (try simp only); omega)
          replace ho5 := ho5.step hr3 (by (try simp only); omega)
          replace ho8 := ho8.step hr3 (by (try simp only); omega)
          replace ho10 := ho10.step hr3 (by (try simp only); omega)
          replace ho11 := ho11.step hr3 (by (try simp only); omega)
          replace hbb1 := hbb1.step hr3 (by (try simp only); omega)
          replace hmk1 := hmk1.step hr3 (by (try simp only); omega)
          exact (Loads.own1 ho8 (by kernel_rfl) (by rfl))
        refine VT_pures 1 (kn' := [(10, .int .i64 ((L.length : Nat) : Int)), (8, .pointer (some ⟨tb1, 0, none⟩)), (7, .bool false), (6, .bool false), (5, .int .i64 (imin ((L.length : Nat) : Int) (IntKind.wrap .i64 ((IntKind.wrap .i64 ((ea : Nat) : Int)) + 1)))), (4, .int .i64 (IntKind.wrap .i64 ((IntKind.wrap .i64 ((ea : Nat) : Int)) + 1))), (3, .int .i64 (IntKind.wrap .i64 ((ea : Nat) : Int))), (2, .int .u8 ((ea : Nat) : Int)), (1, .int .i64 ((L.length : Nat) : Int)), (0, .int .i64 ((L.length : Nat) : Int))]) (by kernel_rfl) ?_
        refine VT_load (d := 79) (t := 3) (a := ⟨b7, 0, none⟩) (v := .int .i64 ((L.length : Nat) : Int)) (by kernel_rfl) (by kernel_rfl) ?_ ?_
        · intro w36 hr4
          replace hT := Tb.step hT hr4 (by (try simp only); omega)
          replace hS := Step.transNew hS hr4 (fun i hi hG => by (try simp only at hG); omega)
          replace ho1 := ho1.step hr4 (by (try simp only); omega)
          replace ho2 := ho2.step hr4 (by (try simp only); omega)
          replace ho3 := ho3.step hr4 (by (try simp only); omega)
          replace ho4 := ho4.step hr4 (by (try simp only); omega)
          replace ho5 := ho5.step hr4 (by (try simp only); omega)
          replace ho8 := ho8.step hr4 (by (try simp only); omega)
          replace ho10 := ho10.step hr4 (by (try simp only); omega)
          replace ho11 := ho11.step hr4 (by (try simp only); omega)
          replace hbb1 := hbb1.step hr4 (by (try simp only); omega)
          replace hmk1 := hmk1.step hr4 (by (try simp only); omega)
          exact (Loads.own1 ho10 (by kernel_rfl) (by rfl))
        refine VT_pures 1 (kn' := [(12, .int .i64 (IntKind.wrap .i64 (((L.length : Nat) : Int) - ((L.length : Nat) : Int)))), (11, .int .i64 ((L.length : Nat) : Int)), (10, .int .i64 ((L.length : Nat) : Int)), (8, .pointer (some ⟨tb1, 0, none⟩)), (7, .bool false), (6, .bool false), (5, .int .i64 (imin ((L.length : Nat) : Int) (IntKind.wrap .i64 ((IntKind.wrap .i64 ((ea : Nat) : Int)) + 1)))), (4, .int .i64 (IntKind.wrap .i64 ((IntKind.wrap .i64 ((ea : Nat) : Int)) + 1))), (3, .int .i64 (IntKind.wrap .i64 ((ea : Nat) : Int))), (2, .int .u8 ((ea : Nat) : Int)), (1, .int .i64 ((L.length : Nat) : Int)), (0, .int .i64 ((L.length : Nat) : Int))]) (by kernel_rfl) ?_
        refine VT_chain (by kernel_rfl) ?_
        intro w37 hs3
        have hzhs3 := hs3.size
        replace hT := Tb.no hT hs3
        replace hS := Step.trans hS hs3
        replace ho1 := ho1.no hs3
        replace ho2 := ho2.no hs3
        replace ho3 := ho3.no hs3
        replace ho4 := ho4.no hs3
        replace ho5 := ho5.no hs3
        replace ho8 := ho8.no hs3
        replace ho10 := ho10.no hs3
        replace ho11 := ho11.no hs3
        replace hbb1 := hbb1.no hs3
        replace hmk1 := hmk1.no hs3
        have hzl160 := Tb.lt hT
        have hzs28 := hS.size
        have hzl161 := ho1.lt
        have hzl162 := ho2.lt
        have hzl163 := ho3.lt
        have hzl164 := ho4.lt
        have hzl165 := ho5.lt
        have hzl166 := ho8.lt
        have hzl167 := ho10.lt
        have hzl168 := ho11.lt
        have hzl169 := hbb1.lt
        have hzl170 := hmk1.lt
        refine VTc_call (d := 77) (f := 15) (args := #[.pointer (some ⟨tb1, 0, none⟩)]) (by kernel_rfl) (by kernel_rfl) (by kernel_rfl) Try.call15 (tlen hT) ?_ ?_
        · rintro _ w38 ⟨rfl, hc10⟩
          exact Step.mono hc10 (by intro i hi; first | exact hi.elim | ((try simp only at hi ⊢); omega))
        rintro _ w38 ⟨rfl, hc10⟩
        have hzhc10 := (hc10).size
        replace hT := Tb.no hT hc10
        replace hS := Step.trans hS hc10
        replace ho1 := ho1.no hc10
        replace ho2 := ho2.no hc10
        replace ho3 := ho3.no hc10
        replace ho4 := ho4.no hc10
        replace ho5 := ho5.no hc10
        replace ho8 := ho8.no hc10
        replace ho10 := ho10.no hc10
        replace ho11 := ho11.no hc10
        replace hbb1 := hbb1.no hc10
        replace hmk1 := hmk1.no hc10
        refine VT_end ?_
        intro w39 hs4
        replace hT := Tb.no hT hs4
        replace hS := Step.trans hS hs4
        replace ho1 := ho1.no hs4
        replace ho2 := ho2.no hs4
        replace ho3 := ho3.no hs4
        replace ho4 := ho4.no hs4
        replace ho5 := ho5.no hs4
        replace ho8 := ho8.no hs4
        replace ho10 := ho10.no hs4
        replace ho11 := ho11.no hs4
        replace hbb1 := hbb1.no hs4
        replace hmk1 := hmk1.no hs4
        refine VL_keep [6, 7, 8, 10, 75, 80, 77] [(6, .pointer (some ⟨b1, 0, none⟩)), (7, .pointer (some ⟨b2, 0, none⟩)), (8, .pointer (some ⟨b3, 0, none⟩)), (10, .pointer (some ⟨b5, 0, none⟩)), (75, .bool false), (80, .int .i64 (IntKind.wrap .i64 (((L.length : Nat) : Int) - ((L.length : Nat) : Int)))), (77, .int .i64 (((L.drop (L.length)).length : Nat) : Int))] (by kernel_rfl) ?_
        refine VL_pure 15 [6, 7, 8, 10, 82] [(6, .pointer (some ⟨b1, 0, none⟩)), (7, .pointer (some ⟨b2, 0, none⟩)), (8, .pointer (some ⟨b3, 0, none⟩)), (10, .pointer (some ⟨b5, 0, none⟩)), (82, .bool ((((L.drop (L.length)).length : Nat) : Int) != (IntKind.wrap .i64 (((L.length : Nat) : Int) - ((L.length : Nat) : Int)))))] (by kernel_rfl) rfl ?_
        refine VL_end (by kernel_rfl) ?_
        refine VQ_next ?_
        refine VC_is (b := (((L.drop (L.length)).length : Nat) : Int) != (IntKind.wrap .i64 (((L.length : Nat) : Int) - ((L.length : Nat) : Int)))) false (by kernel_rfl) (by rw [bne_eq_false_iff_eq, List.length_drop, wrap_i64 _ (by omega) (by omega)]; omega) ?_
        refine VC_ite_false ?_
        refine VC_skip ?_
        refine VQ_next ?_
        refine VC_seq ?_
        refine VC_seq ?_
        have hs5 := drew_step w39
        have hs5z : w39.heap.size = w39.drew.heap.size := rfl
        refine VC_text [[], [], [0, 1], [0, 1, 2], [0, 1, 2, 3], [0, 1, 2, 3], [0, 1, 2, 3, 4, 5], [0, 1, 2, 3, 4, 5, 6], [0, 1, 2, 3, 4, 5, 6, 7], [0, 1, 2, 3, 4, 5, 6, 7, 8], [0, 1, 2, 3, 4, 5, 6, 7, 8], [0, 1, 2, 3, 4, 5, 6, 7, 8, 9, 10], [0, 1, 2, 3, 4, 5, 6, 7, 8], [0, 1, 2, 3, 4, 5, 6, 7, 8], [0, 1, 2, 3, 4, 5, 6, 7, 8, 12, 13], [0, 1, 2, 3, 4, 5, 6, 7, 8, 12, 13, 14], [0, 1, 2, 3, 4, 5, 6, 7, 8, 12, 13, 14, 15], [0, 1, 2, 3, 4, 5, 6, 7, 8, 12, 13, 14, 15], [0, 1, 2, 3, 4, 5, 6, 7, 8, 12, 13, 14, 15, 16, 17], [0, 1, 2, 3, 4, 5, 6, 7, 8, 12, 13, 14, 15, 16, 17, 18], [0, 1, 2, 3, 4, 5, 6, 7, 8, 9, 10, 11, 12, 13, 14, 15, 16, 17, 18, 19], [0, 1, 2, 3, 4, 5, 6, 7, 8, 9, 10, 11, 12, 13, 14, 15, 16, 17, 18, 19, 20]] 20 (fun x y => Step (fun k => w39.heap.size ≤ k) x y) [2, 6, 14, 18] [0, 1, 2, 3, 4, 5, 6, 7, 8, 9, 10, 11, 12, 13, 14, 15, 16, 17, 18, 19] (by kernel_rfl) (by kernel_rfl) (by kernel_rfl) (by kernel_rfl) (fun x => Step.refl _ x) (fun h k => Step.trans h k) Step.weak ?_
        have hzs29 := hS.size
        have hzl171 := ho1.lt
        have hzl172 := ho2.lt
        have hzl173 := ho3.lt
        have hzl174 := ho5.lt
        have hzl175 := hmk1.lt
        generalize w39.drew = w40 at hs5 hs5z ⊢
        replace hS := Step.trans hS hs5
        replace ho1 := ho1.no hs5
        replace ho2 := ho2.no hs5
        replace ho3 := ho3.no hs5
        replace ho5 := ho5.no hs5
        replace hmk1 := hmk1.no hs5
        refine VT_load (d := 83) (t := 29) (a := ⟨b1, 0, none⟩) (v := .agg #[.int .i64 ap, .int .i64 av, .int .i64 ac]) (by kernel_rfl) (by kernel_rfl) ?_ ?_
        · intro w41 hr5
          replace hS := Step.transNew hS hr5 (fun i hi hG => by (try simp only at hG); omega)
          replace ho1 := ho1.step hr5 (by (try simp only); omega)
          replace ho2 := ho2.step hr5 (by (try simp only); omega)
          replace ho3 := ho3.step hr5 (by (try simp only); omega)
          replace ho5 := ho5.step hr5 (by (try simp only); omega)
          replace hmk1 := hmk1.step hr5 (by (try simp only); omega)
          exact (Loads.ownL ho1 (n := 3) (by kernel_rfl) (by kernel_rfl) (by kernel_rfl))
        refine VT_load (d := 84) (t := 29) (a := ⟨b2, 0, none⟩) (v := .agg #[.int .i64 bp, .int .i64 bv, .int .i64 bc]) (by kernel_rfl) (by kernel_rfl) ?_ ?_
        · intro w42 hr6
          replace hS := Step.transNew hS hr6 (fun i hi hG => by (try simp only at hG); omega)
          replace ho1 := ho1.step hr6 (by (try simp only); omega)
          replace ho2 := ho2.step hr6 (by (try simp only); omega)
          replace ho3 := ho3.step hr6 (by (try simp only); omega)
          replace ho5 := ho5.step hr6 (by (try simp only); omega)
          replace hmk1 := hmk1.step hr6 (by (try simp only); omega)
          exact (Loads.ownL ho2 (n := 3) (by kernel_rfl) (by kernel_rfl) (by kernel_rfl))
        refine VT_chain (by kernel_rfl) ?_
        intro w43 hs6
        have hzhs6 := hs6.size
        replace hS := Step.trans hS hs6
        replace ho1 := ho1.no hs6
        replace ho2 := ho2.no hs6
        replace ho3 := ho3.no hs6
        replace ho5 := ho5.no hs6
        replace hmk1 := hmk1.no hs6
        have hzs30 := hS.size
        have hzl176 := ho1.lt
        have hzl177 := ho2.lt
        have hzl178 := ho3.lt
        have hzl179 := ho5.lt
        have hzl180 := hmk1.lt
        refine VTc_call (d := 85) (f := 20) (args := #[.agg #[.int .i64 ap, .int .i64 av, .int .i64 ac], .agg #[.int .i64 bp, .int .i64 bv, .int .i64 bc]]) (by kernel_rfl) (by kernel_rfl) (by kernel_rfl) Try.call20 (before_any ap av ac bp bv bc _) ?_ ?_
        · rintro _ w44 ⟨rfl, hc11⟩
          exact Step.mono hc11 (by intro i hi; first | exact hi.elim | ((try simp only at hi ⊢); omega))
        rintro _ w44 ⟨rfl, hc11⟩
        have hzhc11 := (hc11).size
        replace hS := Step.trans hS hc11
        replace ho1 := ho1.no hc11
        replace ho2 := ho2.no hc11
        replace ho3 := ho3.no hc11
        replace ho5 := ho5.no hc11
        replace hmk1 := hmk1.no hc11
        refine VT_pures 1 (kn' := [(3, .bool (befK ap av ac bp bv bc)), (2, .bool (befK ap av ac bp bv bc)), (1, .agg #[.int .i64 bp, .int .i64 bv, .int .i64 bc]), (0, .agg #[.int .i64 ap, .int .i64 av, .int .i64 ac])]) (by kernel_rfl) ?_
        rcases Bool.eq_false_or_eq_true (befK ap av ac bp bv bc) with hg3 | hg3
        · refine VT_eq [(3, .bool true), (2, .bool true), (1, .agg #[.int .i64 bp, .int .i64 bv, .int .i64 bc]), (0, .agg #[.int .i64 ap, .int .i64 av, .int .i64 ac])] (by simp only [hg3, Bool.not_true, Bool.not_false]) ?_
          try simp only [bne_iff_ne, beq_iff_eq, decide_eq_true_eq, decide_eq_false_iff_not, bne_eq_false_iff_eq, beq_eq_false_iff_ne, ne_eq] at hg3
          refine VT_load (d := 87) (t := 29) (a := ⟨b2, 0, none⟩) (v := .agg #[.int .i64 bp, .int .i64 bv, .int .i64 bc]) (by kernel_rfl) (by kernel_rfl) ?_ ?_
          · intro w45 hr7
            replace hS := Step.transNew hS hr7 (fun i hi hG => by (try simp only at hG); omega)
            replace ho1 := ho1.step hr7 (by (try simp only); omega)
            replace ho2 := ho2.step hr7 (by (try simp only); omega)
            replace ho3 := ho3.step hr7 (by (try simp only); omega)
            replace ho5 := ho5.step hr7 (by (try simp only); omega)
            replace hmk1 := hmk1.step hr7 (by (try simp only); omega)
            exact (Loads.ownL ho2 (n := 3) (by kernel_rfl) (by kernel_rfl) (by kernel_rfl))
          refine VT_load (d := 88) (t := 29) (a := ⟨b1, 0, none⟩) (v := .agg #[.int .i64 ap, .int .i64 av, .int .i64 ac]) (by kernel_rfl) (by kernel_rfl) ?_ ?_
          · intro w46 hr8
            replace hS := Step.transNew hS hr8 (fun i hi hG => by (try simp only at hG); omega)
            replace ho1 := ho1.step hr8 (by (try simp only); omega)
            replace ho2 := ho2.step hr8 (by (try simp only); omega)
            replace ho3 := ho3.step hr8 (by (try simp only); omega)
            replace ho5 := ho5.step hr8 (by (try simp only); omega)
            replace hmk1 := hmk1.step hr8 (by (try simp only); omega)
            exact (Loads.ownL ho1 (n := 3) (by kernel_rfl) (by kernel_rfl) (by kernel_rfl))
          refine VT_chain (by kernel_rfl) ?_
          intro w47 hs7
          have hzhs7 := hs7.size
          replace hS := Step.trans hS hs7
          replace ho1 := ho1.no hs7
          replace ho2 := ho2.no hs7
          replace ho3 := ho3.no hs7
          replace ho5 := ho5.no hs7
          replace hmk1 := hmk1.no hs7
          have hzs31 := hS.size
          have hzl181 := ho1.lt
          have hzl182 := ho2.lt
          have hzl183 := ho3.lt
          have hzl184 := ho5.lt
          have hzl185 := hmk1.lt
          refine VTc_call (d := 89) (f := 20) (args := #[.agg #[.int .i64 bp, .int .i64 bv, .int .i64 bc], .agg #[.int .i64 ap, .int .i64 av, .int .i64 ac]]) (by kernel_rfl) (by kernel_rfl) (by kernel_rfl) Try.call20 (before_any bp bv bc ap av ac _) ?_ ?_
          · rintro _ w48 ⟨rfl, hc12⟩
            exact Step.mono hc12 (by intro i hi; first | exact hi.elim | ((try simp only at hi ⊢); omega))
          rintro _ w48 ⟨rfl, hc12⟩
          have hzhc12 := (hc12).size
          replace hS := Step.trans hS hc12
          replace ho1 := ho1.no hc12
          replace ho2 := ho2.no hc12
          replace ho3 := ho3.no hc12
          replace ho5 := ho5.no hc12
          replace hmk1 := hmk1.no hc12
          refine VT_pures 2 (kn' := [(8, .bool (befK bp bv bc ap av ac)), (7, .bool (befK bp bv bc ap av ac)), (6, .bool (befK bp bv bc ap av ac)), (5, .agg #[.int .i64 ap, .int .i64 av, .int .i64 ac]), (4, .agg #[.int .i64 bp, .int .i64 bv, .int .i64 bc]), (3, .bool true), (2, .bool true), (1, .agg #[.int .i64 bp, .int .i64 bv, .int .i64 bc]), (0, .agg #[.int .i64 ap, .int .i64 av, .int .i64 ac])]) (by kernel_rfl) ?_
          rcases Bool.eq_false_or_eq_true (befK bp bv bc ap av ac) with hg4 | hg4
          · refine VT_eq [(8, .bool true), (7, .bool true), (6, .bool true), (5, .agg #[.int .i64 ap, .int .i64 av, .int .i64 ac]), (4, .agg #[.int .i64 bp, .int .i64 bv, .int .i64 bc]), (3, .bool true), (2, .bool true), (1, .agg #[.int .i64 bp, .int .i64 bv, .int .i64 bc]), (0, .agg #[.int .i64 ap, .int .i64 av, .int .i64 ac])] (by simp only [hg4, Bool.not_true, Bool.not_false]) ?_
            try simp only [bne_iff_ne, beq_iff_eq, decide_eq_true_eq, decide_eq_false_iff_not, bne_eq_false_iff_eq, beq_eq_false_iff_ne, ne_eq] at hg4
            refine VT_pures 11 (kn' := [(19, undef), (18, undef), (17, undef), (16, undef), (15, undef), (14, undef), (13, undef), (12, undef), (11, undef), (10, undef), (9, undef), (8, .bool true), (7, .bool true), (6, .bool true), (5, .agg #[.int .i64 ap, .int .i64 av, .int .i64 ac]), (4, .agg #[.int .i64 bp, .int .i64 bv, .int .i64 bc]), (3, .bool true), (2, .bool true), (1, .agg #[.int .i64 bp, .int .i64 bv, .int .i64 bc]), (0, .agg #[.int .i64 ap, .int .i64 av, .int .i64 ac])]) (by kernel_rfl) ?_
            refine VT_end ?_
            intro w49 hs8
            replace hS := Step.trans hS hs8
            replace ho1 := ho1.no hs8
            replace ho2 := ho2.no hs8
            replace ho3 := ho3.no hs8
            replace ho5 := ho5.no hs8
            replace hmk1 := hmk1.no hs8
            refine VL_keep [6, 7, 8, 10, 91, 94, 102] [(6, .pointer (some ⟨b1, 0, none⟩)), (7, .pointer (some ⟨b2, 0, none⟩)), (8, .pointer (some ⟨b3, 0, none⟩)), (10, .pointer (some ⟨b5, 0, none⟩)), (91, .bool true), (94, undef), (102, undef)] (by kernel_rfl) ?_
            refine VL_pure 22 [6, 7, 8, 10, 104] [(6, .pointer (some ⟨b1, 0, none⟩)), (7, .pointer (some ⟨b2, 0, none⟩)), (8, .pointer (some ⟨b3, 0, none⟩)), (10, .pointer (some ⟨b5, 0, none⟩)), (104, .bool true)] (by kernel_rfl) rfl ?_
            refine VL_end (by kernel_rfl) ?_
            refine VQ_next ?_
            refine VC_true (by kernel_rfl) ?_
            refine VC_seq ?_
            refine VC_region ?_
            refine VL_store (b := b5) (o := 0) (vs := [.bool false]) (by kernel_rfl) (by kernel_rfl) ho5 (Nat.le_of_ble_eq_true (by kernel_rfl)) ?_
            intro w50 hw9
            replace hS := Step.transNew hS hw9.step (fun _ _ _ => by omega)
            replace ho1 := ho1.step hw9.step (show ¬ b1 = b5 by omega)
            replace ho2 := ho2.step hw9.step (show ¬ b2 = b5 by omega)
            replace ho3 := ho3.step hw9.step (show ¬ b3 = b5 by omega)
            replace hmk1 := hmk1.step hw9.step (show ¬ w19.heap.size = b5 by omega)
            have ho18 : Own w50 b5 #[.bool false] 4 := Own.cast hw9.own (by kernel_rfl)
            have hzhw9 := hw9.same
            refine VL_end (by kernel_rfl) ?_
            refine VQ_next ?_
            refine VC_ret ?_
            refine VQ_then_ret ?_
            have hzs32 := hS.size
            have hzl186 := ho1.lt
            have hzl187 := ho2.lt
            have hzl188 := ho3.lt
            have hzl189 := hmk1.lt
            have hzl190 := ho18.lt
            have hzr := ho18.lt
            refine VQ_retMC1 (.bool false) [w19.heap.size] (.inr rfl) rfl rfl ⟨hmk1, (by simp), trivial⟩ (fun w9 hq9 => Loads.own1 (ho18.step hq9 (by simp; try omega)) (by kernel_rfl) rfl) ?_
            intro w51 hq2
            replace hq2 : Step (Just w19.heap.size) w50 w51 := Step.mono hq2 (fun i hi => by simpa using hi)
            replace hS := Step.transNew hS hq2 (fun _ _ _ => by omega)
            replace ho1 := ho1.step hq2 (show ¬ b1 = w19.heap.size by omega)
            replace ho2 := ho2.step hq2 (show ¬ b2 = w19.heap.size by omega)
            replace ho3 := ho3.step hq2 (show ¬ b3 = w19.heap.size by omega)
            replace ho18 := ho18.step hq2 (show ¬ b5 = w19.heap.size by omega)
            exact ⟨congrArg Value.bool (by (try simp only [befK_iff, befK_false, eqK, decide_eq_true_eq, decide_eq_false_iff_not] at *); first | rfl | omega), hS⟩
          · refine VT_eq [(8, .bool false), (7, .bool false), (6, .bool false), (5, .agg #[.int .i64 ap, .int .i64 av, .int .i64 ac]), (4, .agg #[.int .i64 bp, .int .i64 bv, .int .i64 bc]), (3, .bool true), (2, .bool true), (1, .agg #[.int .i64 bp, .int .i64 bv, .int .i64 bc]), (0, .agg #[.int .i64 ap, .int .i64 av, .int .i64 ac])] (by simp only [hg4, Bool.not_true, Bool.not_false]) ?_
            try simp only [bne_iff_ne, beq_iff_eq, decide_eq_true_eq, decide_eq_false_iff_not, bne_eq_false_iff_eq, beq_eq_false_iff_ne, ne_eq] at hg4
            refine VT_load (d := 92) (t := 29) (a := ⟨b1, 0, none⟩) (v := .agg #[.int .i64 ap, .int .i64 av, .int .i64 ac]) (by kernel_rfl) (by kernel_rfl) ?_ ?_
            · intro w52 hr9
              replace hS := Step.transNew hS hr9 (fun i hi hG => by (try simp only at hG); omega)
              replace ho1 := ho1.step hr9 (by (try simp only); omega)
              replace ho2 := ho2.step hr9 (by (try simp only); omega)
              replace ho3 := ho3.step hr9 (by (try simp only); omega)
              replace ho5 := ho5.step hr9 (by (try simp only); omega)
              replace hmk1 := hmk1.step hr9 (by (try simp only); omega)
              exact (Loads.ownL ho1 (n := 3) (by kernel_rfl) (by kernel_rfl) (by kernel_rfl))
            refine VT_load (d := 93) (t := 29) (a := ⟨b2, 0, none⟩) (v := .agg #[.int .i64 bp, .int .i64 bv, .int .i64 bc]) (by kernel_rfl) (by kernel_rfl) ?_ ?_
            · intro w53 hr10
              replace hS := Step.transNew hS hr10 (fun i hi hG => by (try simp only at hG); omega)
              replace ho1 := ho1.step hr10 (by (try simp only); omega)
              replace ho2 := ho2.step hr10 (by (try simp only); omega)
              replace ho3 := ho3.step hr10 (by (try simp only); omega)
              replace ho5 := ho5.step hr10 (by (try simp only); omega)
              replace hmk1 := hmk1.step hr10 (by (try simp only); omega)
              exact (Loads.ownL ho2 (n := 3) (by kernel_rfl) (by kernel_rfl) (by kernel_rfl))
            refine VT_agEq (d := 94) (dd := 9) (ls := ([.int .i64] ++ [.int .i64] ++ [.int .i64] ++ [])) (pos := true) (t := 29) (xs := #[.int .i64 ap, .int .i64 av, .int .i64 ac]) (ys := #[.int .i64 bp, .int .i64 bv, .int .i64 bc]) (by kernel_rfl) (by kernel_rfl) (by kernel_rfl) (by kernel_rfl) (by first | exact ⟨⟨_, rfl⟩, ⟨_, rfl⟩, ⟨_, rfl⟩, trivial⟩ | trivial) (by first | exact ⟨⟨_, rfl⟩, ⟨_, rfl⟩, ⟨_, rfl⟩, trivial⟩ | trivial) (eqK ap av ac bp bv bc) (by rw [Bool.eq_iff_iff]; simp [cellsEq, leafEq, eqK]) ?_
            refine VT_load (d := 95) (t := 29) (a := ⟨b1, 0, none⟩) (v := .agg #[.int .i64 ap, .int .i64 av, .int .i64 ac]) (by kernel_rfl) (by kernel_rfl) ?_ ?_
            · intro w54 hr11
              replace hS := Step.transNew hS hr11 (fun i hi hG => by (try simp only at hG); omega)
              replace ho1 := ho1.step hr11 (by (try simp only); omega)
              replace ho2 := ho2.step hr11 (by (try simp only); omega)
              replace ho3 := ho3.step hr11 (by (try simp only); omega)
              replace ho5 := ho5.step hr11 (by (try simp only); omega)
              replace hmk1 := hmk1.step hr11 (by (try simp only); omega)
              exact (Loads.ownL ho1 (n := 3) (by kernel_rfl) (by kernel_rfl) (by kernel_rfl))
            refine VT_load (d := 96) (t := 29) (a := ⟨b2, 0, none⟩) (v := .agg #[.int .i64 bp, .int .i64 bv, .int .i64 bc]) (by kernel_rfl) (by kernel_rfl) ?_ ?_
            · intro w55 hr12
              replace hS := Step.transNew hS hr12 (fun i hi hG => by (try simp only at hG); omega)
              replace ho1 := ho1.step hr12 (by (try simp only); omega)
              replace ho2 := ho2.step hr12 (by (try simp only); omega)
              replace ho3 := ho3.step hr12 (by (try simp only); omega)
              replace ho5 := ho5.step hr12 (by (try simp only); omega)
              replace hmk1 := hmk1.step hr12 (by (try simp only); omega)
              exact (Loads.ownL ho2 (n := 3) (by kernel_rfl) (by kernel_rfl) (by kernel_rfl))
            refine VT_chain (by kernel_rfl) ?_
            intro w56 hs9
            have hzhs9 := hs9.size
            replace hS := Step.trans hS hs9
            replace ho1 := ho1.no hs9
            replace ho2 := ho2.no hs9
            replace ho3 := ho3.no hs9
            replace ho5 := ho5.no hs9
            replace hmk1 := hmk1.no hs9
            have hzs33 := hS.size
            have hzl191 := ho1.lt
            have hzl192 := ho2.lt
            have hzl193 := ho3.lt
            have hzl194 := ho5.lt
            have hzl195 := hmk1.lt
            refine VTc_call (d := 97) (f := 20) (args := #[.agg #[.int .i64 ap, .int .i64 av, .int .i64 ac], .agg #[.int .i64 bp, .int .i64 bv, .int .i64 bc]]) (by kernel_rfl) (by kernel_rfl) (by kernel_rfl) Try.call20 (before_any ap av ac bp bv bc _) ?_ ?_
            · rintro _ w57 ⟨rfl, hc13⟩
              exact Step.mono hc13 (by intro i hi; first | exact hi.elim | ((try simp only at hi ⊢); omega))
            rintro _ w57 ⟨rfl, hc13⟩
            have hzhc13 := (hc13).size
            replace hS := Step.trans hS hc13
            replace ho1 := ho1.no hc13
            replace ho2 := ho2.no hc13
            replace ho3 := ho3.no hc13
            replace ho5 := ho5.no hc13
            replace hmk1 := hmk1.no hc13
            refine VT_pures 1 (kn' := [(15, .bool (befK ap av ac bp bv bc)), (14, .bool (befK ap av ac bp bv bc)), (13, .agg #[.int .i64 bp, .int .i64 bv, .int .i64 bc]), (12, .agg #[.int .i64 ap, .int .i64 av, .int .i64 ac]), (11, .bool (eqK ap av ac bp bv bc)), (10, .agg #[.int .i64 bp, .int .i64 bv, .int .i64 bc]), (9, .agg #[.int .i64 ap, .int .i64 av, .int .i64 ac]), (8, .bool false), (7, .bool false), (6, .bool false), (5, .agg #[.int .i64 ap, .int .i64 av, .int .i64 ac]), (4, .agg #[.int .i64 bp, .int .i64 bv, .int .i64 bc]), (3, .bool true), (2, .bool true), (1, .agg #[.int .i64 bp, .int .i64 bv, .int .i64 bc]), (0, .agg #[.int .i64 ap, .int .i64 av, .int .i64 ac])]) (by kernel_rfl) ?_
            rcases Bool.eq_false_or_eq_true (befK ap av ac bp bv bc) with hg5 | hg5
            · refine VT_eq [(15, .bool true), (14, .bool true), (13, .agg #[.int .i64 bp, .int .i64 bv, .int .i64 bc]), (12, .agg #[.int .i64 ap, .int .i64 av, .int .i64 ac]), (11, .bool (eqK ap av ac bp bv bc)), (10, .agg #[.int .i64 bp, .int .i64 bv, .int .i64 bc]), (9, .agg #[.int .i64 ap, .int .i64 av, .int .i64 ac]), (8, .bool false), (7, .bool false), (6, .bool false), (5, .agg #[.int .i64 ap, .int .i64 av, .int .i64 ac]), (4, .agg #[.int .i64 bp, .int .i64 bv, .int .i64 bc]), (3, .bool true), (2, .bool true), (1, .agg #[.int .i64 bp, .int .i64 bv, .int .i64 bc]), (0, .agg #[.int .i64 ap, .int .i64 av, .int .i64 ac])] (by simp only [hg5, Bool.not_true, Bool.not_false]) ?_
              try simp only [bne_iff_ne, beq_iff_eq, decide_eq_true_eq, decide_eq_false_iff_not, bne_eq_false_iff_eq, beq_eq_false_iff_ne, ne_eq] at hg5
              refine VT_pures 4 (kn' := [(19, .bool true), (18, undef), (17, undef), (16, undef), (15, .bool true), (14, .bool true), (13, .agg #[.int .i64 bp, .int .i64 bv, .int .i64 bc]), (12, .agg #[.int .i64 ap, .int .i64 av, .int .i64 ac]), (11, .bool (eqK ap av ac bp bv bc)), (10, .agg #[.int .i64 bp, .int .i64 bv, .int .i64 bc]), (9, .agg #[.int .i64 ap, .int .i64 av, .int .i64 ac]), (8, .bool false), (7, .bool false), (6, .bool false), (5, .agg #[.int .i64 ap, .int .i64 av, .int .i64 ac]), (4, .agg #[.int .i64 bp, .int .i64 bv, .int .i64 bc]), (3, .bool true), (2, .bool true), (1, .agg #[.int .i64 bp, .int .i64 bv, .int .i64 bc]), (0, .agg #[.int .i64 ap, .int .i64 av, .int .i64 ac])]) (by kernel_rfl) ?_
              refine VT_end ?_
              intro w58 hs10
              replace hS := Step.trans hS hs10
              replace ho1 := ho1.no hs10
              replace ho2 := ho2.no hs10
              replace ho3 := ho3.no hs10
              replace ho5 := ho5.no hs10
              replace hmk1 := hmk1.no hs10
              refine VL_keep [6, 7, 8, 10, 91, 94, 102] [(6, .pointer (some ⟨b1, 0, none⟩)), (7, .pointer (some ⟨b2, 0, none⟩)), (8, .pointer (some ⟨b3, 0, none⟩)), (10, .pointer (some ⟨b5, 0, none⟩)), (91, .bool false), (94, .bool (eqK ap av ac bp bv bc)), (102, .bool true)] (by kernel_rfl) ?_
              refine VL_pure 22 [6, 7, 8, 10, 104] [(6, .pointer (some ⟨b1, 0, none⟩)), (7, .pointer (some ⟨b2, 0, none⟩)), (8, .pointer (some ⟨b3, 0, none⟩)), (10, .pointer (some ⟨b5, 0, none⟩)), (104, .bool ((eqK ap av ac bp bv bc) == true))] (by kernel_rfl) rfl ?_
              refine VL_end (by kernel_rfl) ?_
              refine VQ_next ?_
              refine VC_cond ((eqK ap av ac bp bv bc) == true) (by kernel_rfl) (fun h5 => ?_) (fun h5 => ?_)
              · try simp only [Bool.and_eq_true, Bool.or_eq_true, decide_eq_true_eq, Bool.not_eq_true', decide_eq_false_iff_not, Bool.and_eq_false_iff, Bool.or_eq_false_iff, beq_iff_eq, bne_iff_ne, beq_eq_false_iff_ne, bne_eq_false_iff_eq, Bool.not_eq_eq_eq_not, Bool.not_true, Bool.not_false] at h5
                refine VC_seq ?_
                refine VC_region ?_
                refine VL_store (b := b5) (o := 0) (vs := [.bool false]) (by kernel_rfl) (by kernel_rfl) ho5 (Nat.le_of_ble_eq_true (by kernel_rfl)) ?_
                intro w59 hw10
                replace hS := Step.transNew hS hw10.step (fun _ _ _ => by omega)
                replace ho1 := ho1.step hw10.step (show ¬ b1 = b5 by omega)
                replace ho2 := ho2.step hw10.step (show ¬ b2 = b5 by omega)
                replace ho3 := ho3.step hw10.step (show ¬ b3 = b5 by omega)
                replace hmk1 := hmk1.step hw10.step (show ¬ w19.heap.size = b5 by omega)
                have ho19 : Own w59 b5 #[.bool false] 4 := Own.cast hw10.own (by kernel_rfl)
                have hzhw10 := hw10.same
                refine VL_end (by kernel_rfl) ?_
                refine VQ_next ?_
                refine VC_ret ?_
                refine VQ_then_ret ?_
                have hzs34 := hS.size
                have hzl196 := ho1.lt
                have hzl197 := ho2.lt
                have hzl198 := ho3.lt
                have hzl199 := hmk1.lt
                have hzl200 := ho19.lt
                have hzr := ho19.lt
                refine VQ_retMC1 (.bool false) [w19.heap.size] (.inr rfl) rfl rfl ⟨hmk1, (by simp), trivial⟩ (fun w9 hq9 => Loads.own1 (ho19.step hq9 (by simp; try omega)) (by kernel_rfl) rfl) ?_
                intro w60 hq3
                replace hq3 : Step (Just w19.heap.size) w59 w60 := Step.mono hq3 (fun i hi => by simpa using hi)
                replace hS := Step.transNew hS hq3 (fun _ _ _ => by omega)
                replace ho1 := ho1.step hq3 (show ¬ b1 = w19.heap.size by omega)
                replace ho2 := ho2.step hq3 (show ¬ b2 = w19.heap.size by omega)
                replace ho3 := ho3.step hq3 (show ¬ b3 = w19.heap.size by omega)
                replace ho19 := ho19.step hq3 (show ¬ b5 = w19.heap.size by omega)
                exact ⟨congrArg Value.bool (by (try simp only [befK_iff, befK_false, eqK, decide_eq_true_eq, decide_eq_false_iff_not] at *); first | rfl | omega), hS⟩
              · try simp only [Bool.and_eq_true, Bool.or_eq_true, decide_eq_true_eq, Bool.not_eq_true', decide_eq_false_iff_not, Bool.and_eq_false_iff, Bool.or_eq_false_iff, beq_iff_eq, bne_iff_ne, beq_eq_false_iff_ne, bne_eq_false_iff_eq, Bool.not_eq_eq_eq_not, Bool.not_true, Bool.not_false] at h5
                refine VC_skip ?_
                refine VQ_next ?_
                refine VC_seq ?_
                refine VC_region ?_
                refine VL_load (d := 105) (t := 29) (a := ⟨b1, 0, none⟩) (v := .agg #[.int .i64 ap, .int .i64 av, .int .i64 ac]) (by kernel_rfl) (by kernel_rfl) (Loads.ownL ho1 (n := 3) (by kernel_rfl) (by kernel_rfl) (by kernel_rfl)) ?_
                refine VL_load (d := 106) (t := 29) (a := ⟨b2, 0, none⟩) (v := .agg #[.int .i64 bp, .int .i64 bv, .int .i64 bc]) (by kernel_rfl) (by kernel_rfl) (Loads.ownL ho2 (n := 3) (by kernel_rfl) (by kernel_rfl) (by kernel_rfl)) ?_
                have hzs35 := hS.size
                have hzl201 := ho1.lt
                have hzl202 := ho2.lt
                have hzl203 := ho3.lt
                have hzl204 := ho5.lt
                have hzl205 := hmk1.lt
                refine VL_call (d := 107) (f := 20) (args := #[.agg #[.int .i64 ap, .int .i64 av, .int .i64 ac], .agg #[.int .i64 bp, .int .i64 bv, .int .i64 bc]]) (by kernel_rfl) (by kernel_rfl) (by kernel_rfl) Try.call20 (before_any ap av ac bp bv bc _) ?_
                rintro _ w61 ⟨rfl, hc14⟩
                replace hS := Step.trans hS hc14
                replace ho1 := ho1.no hc14
                replace ho2 := ho2.no hc14
                replace ho3 := ho3.no hc14
                replace ho5 := ho5.no hc14
                replace hmk1 := hmk1.no hc14
                refine VL_pure 5 [6, 7, 8, 10, 109] [(6, .pointer (some ⟨b1, 0, none⟩)), (7, .pointer (some ⟨b2, 0, none⟩)), (8, .pointer (some ⟨b3, 0, none⟩)), (10, .pointer (some ⟨b5, 0, none⟩)), (109, .bool (!(befK ap av ac bp bv bc)))] (by kernel_rfl) rfl ?_
                refine VL_bool (befK ap av ac bp bv bc) (fun bV => [(6, .pointer (some ⟨b1, 0, none⟩)), (7, .pointer (some ⟨b2, 0, none⟩)), (8, .pointer (some ⟨b3, 0, none⟩)), (10, .pointer (some ⟨b5, 0, none⟩)), (109, .bool (!bV))]) rfl (fun hg6 => ?_) (fun hg6 => ?_)
                · refine VL_load (d := 110) (t := 29) (a := ⟨b2, 0, none⟩) (v := .agg #[.int .i64 bp, .int .i64 bv, .int .i64 bc]) (by kernel_rfl) (by kernel_rfl) (Loads.ownL ho2 (n := 3) (by kernel_rfl) (by kernel_rfl) (by kernel_rfl)) ?_
                  refine VL_load (d := 111) (t := 29) (a := ⟨b3, 0, none⟩) (v := .agg #[.int .i64 dp, .int .i64 dv, .int .i64 dc]) (by kernel_rfl) (by kernel_rfl) (Loads.ownL ho3 (n := 3) (by kernel_rfl) (by kernel_rfl) (by kernel_rfl)) ?_
                  have hzs36 := hS.size
                  have hzl206 := ho1.lt
                  have hzl207 := ho2.lt
                  have hzl208 := ho3.lt
                  have hzl209 := ho5.lt
                  have hzl210 := hmk1.lt
                  refine VL_call (d := 112) (f := 20) (args := #[.agg #[.int .i64 bp, .int .i64 bv, .int .i64 bc], .agg #[.int .i64 dp, .int .i64 dv, .int .i64 dc]]) (by kernel_rfl) (by kernel_rfl) (by kernel_rfl) Try.call20 (before_any bp bv bc dp dv dc _) ?_
                  rintro _ w62 ⟨rfl, hc15⟩
                  replace hS := Step.trans hS hc15
                  replace ho1 := ho1.no hc15
                  replace ho2 := ho2.no hc15
                  replace ho3 := ho3.no hc15
                  replace ho5 := ho5.no hc15
                  replace hmk1 := hmk1.no hc15
                  refine VL_pure 11 [6, 8, 10, 115] [(6, .pointer (some ⟨b1, 0, none⟩)), (8, .pointer (some ⟨b3, 0, none⟩)), (10, .pointer (some ⟨b5, 0, none⟩)), (115, .bool (!(befK bp bv bc dp dv dc)))] (by kernel_rfl) rfl ?_
                  refine VL_bool (befK bp bv bc dp dv dc) (fun bV => [(6, .pointer (some ⟨b1, 0, none⟩)), (8, .pointer (some ⟨b3, 0, none⟩)), (10, .pointer (some ⟨b5, 0, none⟩)), (115, .bool (!bV))]) rfl (fun hg7 => ?_) (fun hg7 => ?_)
                  · refine VL_load (d := 116) (t := 29) (a := ⟨b1, 0, none⟩) (v := .agg #[.int .i64 ap, .int .i64 av, .int .i64 ac]) (by kernel_rfl) (by kernel_rfl) (Loads.ownL ho1 (n := 3) (by kernel_rfl) (by kernel_rfl) (by kernel_rfl)) ?_
                    refine VL_load (d := 117) (t := 29) (a := ⟨b3, 0, none⟩) (v := .agg #[.int .i64 dp, .int .i64 dv, .int .i64 dc]) (by kernel_rfl) (by kernel_rfl) (Loads.ownL ho3 (n := 3) (by kernel_rfl) (by kernel_rfl) (by kernel_rfl)) ?_
                    have hzs37 := hS.size
                    have hzl211 := ho1.lt
                    have hzl212 := ho2.lt
                    have hzl213 := ho3.lt
                    have hzl214 := ho5.lt
                    have hzl215 := hmk1.lt
                    refine VL_call (d := 118) (f := 20) (args := #[.agg #[.int .i64 ap, .int .i64 av, .int .i64 ac], .agg #[.int .i64 dp, .int .i64 dv, .int .i64 dc]]) (by kernel_rfl) (by kernel_rfl) (by kernel_rfl) Try.call20 (before_any ap av ac dp dv dc _) ?_
                    rintro _ w63 ⟨rfl, hc16⟩
                    replace hS := Step.trans hS hc16
                    replace ho1 := ho1.no hc16
                    replace ho2 := ho2.no hc16
                    replace ho3 := ho3.no hc16
                    replace ho5 := ho5.no hc16
                    replace hmk1 := hmk1.no hc16
                    refine VL_pure 15 [10, 119] [(10, .pointer (some ⟨b5, 0, none⟩)), (119, .bool (befK ap av ac dp dv dc))] (by kernel_rfl) rfl ?_
                    refine VL_store (b := b5) (o := 0) (vs := [.bool (befK ap av ac dp dv dc)]) (by kernel_rfl) (by kernel_rfl) ho5 (Nat.le_of_ble_eq_true (by kernel_rfl)) ?_
                    intro w64 hw11
                    replace hS := Step.transNew hS hw11.step (fun _ _ _ => by omega)
                    replace ho1 := ho1.step hw11.step (show ¬ b1 = b5 by omega)
                    replace ho2 := ho2.step hw11.step (show ¬ b2 = b5 by omega)
                    replace ho3 := ho3.step hw11.step (show ¬ b3 = b5 by omega)
                    replace hmk1 := hmk1.step hw11.step (show ¬ w19.heap.size = b5 by omega)
                    have ho20 : Own w64 b5 #[.bool (befK ap av ac dp dv dc)] 4 := Own.cast hw11.own (by kernel_rfl)
                    have hzhw11 := hw11.same
                    refine VL_end (by kernel_rfl) ?_
                    refine VQ_next ?_
                    refine VC_ret ?_
                    have hzs38 := hS.size
                    have hzl216 := ho1.lt
                    have hzl217 := ho2.lt
                    have hzl218 := ho3.lt
                    have hzl219 := hmk1.lt
                    have hzl220 := ho20.lt
                    have hzr := ho20.lt
                    refine VQ_retMC1 (.bool (befK ap av ac dp dv dc)) [w19.heap.size] (.inr rfl) rfl rfl ⟨hmk1, (by simp), trivial⟩ (fun w9 hq9 => Loads.own1 (ho20.step hq9 (by simp; try omega)) (by kernel_rfl) rfl) ?_
                    intro w65 hq4
                    replace hq4 : Step (Just w19.heap.size) w64 w65 := Step.mono hq4 (fun i hi => by simpa using hi)
                    replace hS := Step.transNew hS hq4 (fun _ _ _ => by omega)
                    replace ho1 := ho1.step hq4 (show ¬ b1 = w19.heap.size by omega)
                    replace ho2 := ho2.step hq4 (show ¬ b2 = w19.heap.size by omega)
                    replace ho3 := ho3.step hq4 (show ¬ b3 = w19.heap.size by omega)
                    replace ho20 := ho20.step hq4 (show ¬ b5 = w19.heap.size by omega)
                    exact ⟨congrArg Value.bool (by (try simp only [befK_iff, befK_false, eqK, decide_eq_true_eq, decide_eq_false_iff_not] at *); first | rfl | omega), hS⟩
                  · refine VL_pure 15 [10, 119] [(10, .pointer (some ⟨b5, 0, none⟩)), (119, .bool true)] (by kernel_rfl) rfl ?_
                    refine VL_store (b := b5) (o := 0) (vs := [.bool true]) (by kernel_rfl) (by kernel_rfl) ho5 (Nat.le_of_ble_eq_true (by kernel_rfl)) ?_
                    intro w66 hw12
                    replace hS := Step.transNew hS hw12.step (fun _ _ _ => by omega)
                    replace ho1 := ho1.step hw12.step (show ¬ b1 = b5 by omega)
                    replace ho2 := ho2.step hw12.step (show ¬ b2 = b5 by omega)
                    replace ho3 := ho3.step hw12.step (show ¬ b3 = b5 by omega)
                    replace hmk1 := hmk1.step hw12.step (show ¬ w19.heap.size = b5 by omega)
                    have ho21 : Own w66 b5 #[.bool true] 4 := Own.cast hw12.own (by kernel_rfl)
                    have hzhw12 := hw12.same
                    refine VL_end (by kernel_rfl) ?_
                    refine VQ_next ?_
                    refine VC_ret ?_
                    have hzs39 := hS.size
                    have hzl221 := ho1.lt
                    have hzl222 := ho2.lt
                    have hzl223 := ho3.lt
                    have hzl224 := hmk1.lt
                    have hzl225 := ho21.lt
                    have hzr := ho21.lt
                    refine VQ_retMC1 (.bool true) [w19.heap.size] (.inr rfl) rfl rfl ⟨hmk1, (by simp), trivial⟩ (fun w9 hq9 => Loads.own1 (ho21.step hq9 (by simp; try omega)) (by kernel_rfl) rfl) ?_
                    intro w67 hq5
                    replace hq5 : Step (Just w19.heap.size) w66 w67 := Step.mono hq5 (fun i hi => by simpa using hi)
                    replace hS := Step.transNew hS hq5 (fun _ _ _ => by omega)
                    replace ho1 := ho1.step hq5 (show ¬ b1 = w19.heap.size by omega)
                    replace ho2 := ho2.step hq5 (show ¬ b2 = w19.heap.size by omega)
                    replace ho3 := ho3.step hq5 (show ¬ b3 = w19.heap.size by omega)
                    replace ho21 := ho21.step hq5 (show ¬ b5 = w19.heap.size by omega)
                    exact ⟨rfl, hS⟩
                · refine VL_pure 15 [10, 119] [(10, .pointer (some ⟨b5, 0, none⟩)), (119, .bool true)] (by kernel_rfl) rfl ?_
                  refine VL_store (b := b5) (o := 0) (vs := [.bool true]) (by kernel_rfl) (by kernel_rfl) ho5 (Nat.le_of_ble_eq_true (by kernel_rfl)) ?_
                  intro w68 hw13
                  replace hS := Step.transNew hS hw13.step (fun _ _ _ => by omega)
                  replace ho1 := ho1.step hw13.step (show ¬ b1 = b5 by omega)
                  replace ho2 := ho2.step hw13.step (show ¬ b2 = b5 by omega)
                  replace ho3 := ho3.step hw13.step (show ¬ b3 = b5 by omega)
                  replace hmk1 := hmk1.step hw13.step (show ¬ w19.heap.size = b5 by omega)
                  have ho22 : Own w68 b5 #[.bool true] 4 := Own.cast hw13.own (by kernel_rfl)
                  have hzhw13 := hw13.same
                  refine VL_end (by kernel_rfl) ?_
                  refine VQ_next ?_
                  refine VC_ret ?_
                  have hzs40 := hS.size
                  have hzl226 := ho1.lt
                  have hzl227 := ho2.lt
                  have hzl228 := ho3.lt
                  have hzl229 := hmk1.lt
                  have hzl230 := ho22.lt
                  have hzr := ho22.lt
                  refine VQ_retMC1 (.bool true) [w19.heap.size] (.inr rfl) rfl rfl ⟨hmk1, (by simp), trivial⟩ (fun w9 hq9 => Loads.own1 (ho22.step hq9 (by simp; try omega)) (by kernel_rfl) rfl) ?_
                  intro w69 hq6
                  replace hq6 : Step (Just w19.heap.size) w68 w69 := Step.mono hq6 (fun i hi => by simpa using hi)
                  replace hS := Step.transNew hS hq6 (fun _ _ _ => by omega)
                  replace ho1 := ho1.step hq6 (show ¬ b1 = w19.heap.size by omega)
                  replace ho2 := ho2.step hq6 (show ¬ b2 = w19.heap.size by omega)
                  replace ho3 := ho3.step hq6 (show ¬ b3 = w19.heap.size by omega)
                  replace ho22 := ho22.step hq6 (show ¬ b5 = w19.heap.size by omega)
                  exact ⟨rfl, hS⟩
            · refine VT_eq [(15, .bool false), (14, .bool false), (13, .agg #[.int .i64 bp, .int .i64 bv, .int .i64 bc]), (12, .agg #[.int .i64 ap, .int .i64 av, .int .i64 ac]), (11, .bool (eqK ap av ac bp bv bc)), (10, .agg #[.int .i64 bp, .int .i64 bv, .int .i64 bc]), (9, .agg #[.int .i64 ap, .int .i64 av, .int .i64 ac]), (8, .bool false), (7, .bool false), (6, .bool false), (5, .agg #[.int .i64 ap, .int .i64 av, .int .i64 ac]), (4, .agg #[.int .i64 bp, .int .i64 bv, .int .i64 bc]), (3, .bool true), (2, .bool true), (1, .agg #[.int .i64 bp, .int .i64 bv, .int .i64 bc]), (0, .agg #[.int .i64 ap, .int .i64 av, .int .i64 ac])] (by simp only [hg5, Bool.not_true, Bool.not_false]) ?_
              try simp only [bne_iff_ne, beq_iff_eq, decide_eq_true_eq, decide_eq_false_iff_not, bne_eq_false_iff_eq, beq_eq_false_iff_ne, ne_eq] at hg5
              refine VT_load (d := 99) (t := 29) (a := ⟨b2, 0, none⟩) (v := .agg #[.int .i64 bp, .int .i64 bv, .int .i64 bc]) (by kernel_rfl) (by kernel_rfl) ?_ ?_
              · intro w70 hr13
                replace hS := Step.transNew hS hr13 (fun i hi hG => by (try simp only at hG); omega)
                replace ho1 := ho1.step hr13 (by (try simp only); omega)
                replace ho2 := ho2.step hr13 (by (try simp only); omega)
                replace ho3 := ho3.step hr13 (by (try simp only); omega)
                replace ho5 := ho5.step hr13 (by (try simp only); omega)
                replace hmk1 := hmk1.step hr13 (by (try simp only); omega)
                exact (Loads.ownL ho2 (n := 3) (by kernel_rfl) (by kernel_rfl) (by kernel_rfl))
              refine VT_load (d := 100) (t := 29) (a := ⟨b1, 0, none⟩) (v := .agg #[.int .i64 ap, .int .i64 av, .int .i64 ac]) (by kernel_rfl) (by kernel_rfl) ?_ ?_
              · intro w71 hr14
                replace hS := Step.transNew hS hr14 (fun i hi hG => by (try simp only at hG); omega)
                replace ho1 := ho1.step hr14 (by (try simp only); omega)
                replace ho2 := ho2.step hr14 (by (try simp only); omega)
                replace ho3 := ho3.step hr14 (by (try simp only); omega)
                replace ho5 := ho5.step hr14 (by (try simp only); omega)
                replace hmk1 := hmk1.step hr14 (by (try simp only); omega)
                exact (Loads.ownL ho1 (n := 3) (by kernel_rfl) (by kernel_rfl) (by kernel_rfl))
              refine VT_chain (by kernel_rfl) ?_
              intro w72 hs11
              have hzhs11 := hs11.size
              replace hS := Step.trans hS hs11
              replace ho1 := ho1.no hs11
              replace ho2 := ho2.no hs11
              replace ho3 := ho3.no hs11
              replace ho5 := ho5.no hs11
              replace hmk1 := hmk1.no hs11
              have hzs41 := hS.size
              have hzl231 := ho1.lt
              have hzl232 := ho2.lt
              have hzl233 := ho3.lt
              have hzl234 := ho5.lt
              have hzl235 := hmk1.lt
              refine VTc_call (d := 101) (f := 20) (args := #[.agg #[.int .i64 bp, .int .i64 bv, .int .i64 bc], .agg #[.int .i64 ap, .int .i64 av, .int .i64 ac]]) (by kernel_rfl) (by kernel_rfl) (by kernel_rfl) Try.call20 (before_any bp bv bc ap av ac _) ?_ ?_
              · rintro _ w73 ⟨rfl, hc17⟩
                exact Step.mono hc17 (by intro i hi; first | exact hi.elim | ((try simp only at hi ⊢); omega))
              rintro _ w73 ⟨rfl, hc17⟩
              have hzhc17 := (hc17).size
              replace hS := Step.trans hS hc17
              replace ho1 := ho1.no hc17
              replace ho2 := ho2.no hc17
              replace ho3 := ho3.no hc17
              replace ho5 := ho5.no hc17
              replace hmk1 := hmk1.no hc17
              refine VT_pures 1 (kn' := [(19, .bool (befK bp bv bc ap av ac)), (18, .bool (befK bp bv bc ap av ac)), (17, .agg #[.int .i64 ap, .int .i64 av, .int .i64 ac]), (16, .agg #[.int .i64 bp, .int .i64 bv, .int .i64 bc]), (15, .bool false), (14, .bool false), (13, .agg #[.int .i64 bp, .int .i64 bv, .int .i64 bc]), (12, .agg #[.int .i64 ap, .int .i64 av, .int .i64 ac]), (11, .bool (eqK ap av ac bp bv bc)), (10, .agg #[.int .i64 bp, .int .i64 bv, .int .i64 bc]), (9, .agg #[.int .i64 ap, .int .i64 av, .int .i64 ac]), (8, .bool false), (7, .bool false), (6, .bool false), (5, .agg #[.int .i64 ap, .int .i64 av, .int .i64 ac]), (4, .agg #[.int .i64 bp, .int .i64 bv, .int .i64 bc]), (3, .bool true), (2, .bool true), (1, .agg #[.int .i64 bp, .int .i64 bv, .int .i64 bc]), (0, .agg #[.int .i64 ap, .int .i64 av, .int .i64 ac])]) (by kernel_rfl) ?_
              refine VT_end ?_
              intro w74 hs12
              replace hS := Step.trans hS hs12
              replace ho1 := ho1.no hs12
              replace ho2 := ho2.no hs12
              replace ho3 := ho3.no hs12
              replace ho5 := ho5.no hs12
              replace hmk1 := hmk1.no hs12
              refine VL_keep [6, 7, 8, 10, 91, 94, 102] [(6, .pointer (some ⟨b1, 0, none⟩)), (7, .pointer (some ⟨b2, 0, none⟩)), (8, .pointer (some ⟨b3, 0, none⟩)), (10, .pointer (some ⟨b5, 0, none⟩)), (91, .bool false), (94, .bool (eqK ap av ac bp bv bc)), (102, .bool (befK bp bv bc ap av ac))] (by kernel_rfl) ?_
              refine VL_pure 22 [6, 7, 8, 10, 104] [(6, .pointer (some ⟨b1, 0, none⟩)), (7, .pointer (some ⟨b2, 0, none⟩)), (8, .pointer (some ⟨b3, 0, none⟩)), (10, .pointer (some ⟨b5, 0, none⟩)), (104, .bool ((eqK ap av ac bp bv bc) == (befK bp bv bc ap av ac)))] (by kernel_rfl) rfl ?_
              refine VL_end (by kernel_rfl) ?_
              refine VQ_next ?_
              refine VC_is (b := (eqK ap av ac bp bv bc) == (befK bp bv bc ap av ac)) false (by kernel_rfl) (by cases hq1 : eqK ap av ac bp bv bc <;> cases hq2 : befK bp bv bc ap av ac <;> first | rfl | (exfalso; simp only [befK_iff, befK_false, eqK, decide_eq_true_eq, decide_eq_false_iff_not] at *; omega)) ?_
              refine VC_ite_false ?_
              refine VC_skip ?_
              refine VQ_next ?_
              refine VC_seq ?_
              refine VC_region ?_
              refine VL_load (d := 105) (t := 29) (a := ⟨b1, 0, none⟩) (v := .agg #[.int .i64 ap, .int .i64 av, .int .i64 ac]) (by kernel_rfl) (by kernel_rfl) (Loads.ownL ho1 (n := 3) (by kernel_rfl) (by kernel_rfl) (by kernel_rfl)) ?_
              refine VL_load (d := 106) (t := 29) (a := ⟨b2, 0, none⟩) (v := .agg #[.int .i64 bp, .int .i64 bv, .int .i64 bc]) (by kernel_rfl) (by kernel_rfl) (Loads.ownL ho2 (n := 3) (by kernel_rfl) (by kernel_rfl) (by kernel_rfl)) ?_
              have hzs42 := hS.size
              have hzl236 := ho1.lt
              have hzl237 := ho2.lt
              have hzl238 := ho3.lt
              have hzl239 := ho5.lt
              have hzl240 := hmk1.lt
              refine VL_call (d := 107) (f := 20) (args := #[.agg #[.int .i64 ap, .int .i64 av, .int .i64 ac], .agg #[.int .i64 bp, .int .i64 bv, .int .i64 bc]]) (by kernel_rfl) (by kernel_rfl) (by kernel_rfl) Try.call20 (before_any ap av ac bp bv bc _) ?_
              rintro _ w75 ⟨rfl, hc18⟩
              replace hS := Step.trans hS hc18
              replace ho1 := ho1.no hc18
              replace ho2 := ho2.no hc18
              replace ho3 := ho3.no hc18
              replace ho5 := ho5.no hc18
              replace hmk1 := hmk1.no hc18
              refine VL_pure 5 [6, 7, 8, 10, 109] [(6, .pointer (some ⟨b1, 0, none⟩)), (7, .pointer (some ⟨b2, 0, none⟩)), (8, .pointer (some ⟨b3, 0, none⟩)), (10, .pointer (some ⟨b5, 0, none⟩)), (109, .bool (!(befK ap av ac bp bv bc)))] (by kernel_rfl) rfl ?_
              refine VL_bool (befK ap av ac bp bv bc) (fun bV => [(6, .pointer (some ⟨b1, 0, none⟩)), (7, .pointer (some ⟨b2, 0, none⟩)), (8, .pointer (some ⟨b3, 0, none⟩)), (10, .pointer (some ⟨b5, 0, none⟩)), (109, .bool (!bV))]) rfl (fun hg8 => ?_) (fun hg8 => ?_)
              · refine VL_load (d := 110) (t := 29) (a := ⟨b2, 0, none⟩) (v := .agg #[.int .i64 bp, .int .i64 bv, .int .i64 bc]) (by kernel_rfl) (by kernel_rfl) (Loads.ownL ho2 (n := 3) (by kernel_rfl) (by kernel_rfl) (by kernel_rfl)) ?_
                refine VL_load (d := 111) (t := 29) (a := ⟨b3, 0, none⟩) (v := .agg #[.int .i64 dp, .int .i64 dv, .int .i64 dc]) (by kernel_rfl) (by kernel_rfl) (Loads.ownL ho3 (n := 3) (by kernel_rfl) (by kernel_rfl) (by kernel_rfl)) ?_
                have hzs43 := hS.size
                have hzl241 := ho1.lt
                have hzl242 := ho2.lt
                have hzl243 := ho3.lt
                have hzl244 := ho5.lt
                have hzl245 := hmk1.lt
                refine VL_call (d := 112) (f := 20) (args := #[.agg #[.int .i64 bp, .int .i64 bv, .int .i64 bc], .agg #[.int .i64 dp, .int .i64 dv, .int .i64 dc]]) (by kernel_rfl) (by kernel_rfl) (by kernel_rfl) Try.call20 (before_any bp bv bc dp dv dc _) ?_
                rintro _ w76 ⟨rfl, hc19⟩
                replace hS := Step.trans hS hc19
                replace ho1 := ho1.no hc19
                replace ho2 := ho2.no hc19
                replace ho3 := ho3.no hc19
                replace ho5 := ho5.no hc19
                replace hmk1 := hmk1.no hc19
                refine VL_pure 11 [6, 8, 10, 115] [(6, .pointer (some ⟨b1, 0, none⟩)), (8, .pointer (some ⟨b3, 0, none⟩)), (10, .pointer (some ⟨b5, 0, none⟩)), (115, .bool (!(befK bp bv bc dp dv dc)))] (by kernel_rfl) rfl ?_
                refine VL_bool (befK bp bv bc dp dv dc) (fun bV => [(6, .pointer (some ⟨b1, 0, none⟩)), (8, .pointer (some ⟨b3, 0, none⟩)), (10, .pointer (some ⟨b5, 0, none⟩)), (115, .bool (!bV))]) rfl (fun hg9 => ?_) (fun hg9 => ?_)
                · refine VL_load (d := 116) (t := 29) (a := ⟨b1, 0, none⟩) (v := .agg #[.int .i64 ap, .int .i64 av, .int .i64 ac]) (by kernel_rfl) (by kernel_rfl) (Loads.ownL ho1 (n := 3) (by kernel_rfl) (by kernel_rfl) (by kernel_rfl)) ?_
                  refine VL_load (d := 117) (t := 29) (a := ⟨b3, 0, none⟩) (v := .agg #[.int .i64 dp, .int .i64 dv, .int .i64 dc]) (by kernel_rfl) (by kernel_rfl) (Loads.ownL ho3 (n := 3) (by kernel_rfl) (by kernel_rfl) (by kernel_rfl)) ?_
                  have hzs44 := hS.size
                  have hzl246 := ho1.lt
                  have hzl247 := ho2.lt
                  have hzl248 := ho3.lt
                  have hzl249 := ho5.lt
                  have hzl250 := hmk1.lt
                  refine VL_call (d := 118) (f := 20) (args := #[.agg #[.int .i64 ap, .int .i64 av, .int .i64 ac], .agg #[.int .i64 dp, .int .i64 dv, .int .i64 dc]]) (by kernel_rfl) (by kernel_rfl) (by kernel_rfl) Try.call20 (before_any ap av ac dp dv dc _) ?_
                  rintro _ w77 ⟨rfl, hc20⟩
                  replace hS := Step.trans hS hc20
                  replace ho1 := ho1.no hc20
                  replace ho2 := ho2.no hc20
                  replace ho3 := ho3.no hc20
                  replace ho5 := ho5.no hc20
                  replace hmk1 := hmk1.no hc20
                  refine VL_pure 15 [10, 119] [(10, .pointer (some ⟨b5, 0, none⟩)), (119, .bool (befK ap av ac dp dv dc))] (by kernel_rfl) rfl ?_
                  refine VL_store (b := b5) (o := 0) (vs := [.bool (befK ap av ac dp dv dc)]) (by kernel_rfl) (by kernel_rfl) ho5 (Nat.le_of_ble_eq_true (by kernel_rfl)) ?_
                  intro w78 hw14
                  replace hS := Step.transNew hS hw14.step (fun _ _ _ => by omega)
                  replace ho1 := ho1.step hw14.step (show ¬ b1 = b5 by omega)
                  replace ho2 := ho2.step hw14.step (show ¬ b2 = b5 by omega)
                  replace ho3 := ho3.step hw14.step (show ¬ b3 = b5 by omega)
                  replace hmk1 := hmk1.step hw14.step (show ¬ w19.heap.size = b5 by omega)
                  have ho23 : Own w78 b5 #[.bool (befK ap av ac dp dv dc)] 4 := Own.cast hw14.own (by kernel_rfl)
                  have hzhw14 := hw14.same
                  refine VL_end (by kernel_rfl) ?_
                  refine VQ_next ?_
                  refine VC_ret ?_
                  have hzs45 := hS.size
                  have hzl251 := ho1.lt
                  have hzl252 := ho2.lt
                  have hzl253 := ho3.lt
                  have hzl254 := hmk1.lt
                  have hzl255 := ho23.lt
                  have hzr := ho23.lt
                  refine VQ_retMC1 (.bool (befK ap av ac dp dv dc)) [w19.heap.size] (.inr rfl) rfl rfl ⟨hmk1, (by simp), trivial⟩ (fun w9 hq9 => Loads.own1 (ho23.step hq9 (by simp; try omega)) (by kernel_rfl) rfl) ?_
                  intro w79 hq7
                  replace hq7 : Step (Just w19.heap.size) w78 w79 := Step.mono hq7 (fun i hi => by simpa using hi)
                  replace hS := Step.transNew hS hq7 (fun _ _ _ => by omega)
                  replace ho1 := ho1.step hq7 (show ¬ b1 = w19.heap.size by omega)
                  replace ho2 := ho2.step hq7 (show ¬ b2 = w19.heap.size by omega)
                  replace ho3 := ho3.step hq7 (show ¬ b3 = w19.heap.size by omega)
                  replace ho23 := ho23.step hq7 (show ¬ b5 = w19.heap.size by omega)
                  exact ⟨congrArg Value.bool (by (try simp only [befK_iff, befK_false, eqK, decide_eq_true_eq, decide_eq_false_iff_not] at *); first | rfl | omega), hS⟩
                · refine VL_pure 15 [10, 119] [(10, .pointer (some ⟨b5, 0, none⟩)), (119, .bool true)] (by kernel_rfl) rfl ?_
                  refine VL_store (b := b5) (o := 0) (vs := [.bool true]) (by kernel_rfl) (by kernel_rfl) ho5 (Nat.le_of_ble_eq_true (by kernel_rfl)) ?_
                  intro w80 hw15
                  replace hS := Step.transNew hS hw15.step (fun _ _ _ => by omega)
                  replace ho1 := ho1.step hw15.step (show ¬ b1 = b5 by omega)
                  replace ho2 := ho2.step hw15.step (show ¬ b2 = b5 by omega)
                  replace ho3 := ho3.step hw15.step (show ¬ b3 = b5 by omega)
                  replace hmk1 := hmk1.step hw15.step (show ¬ w19.heap.size = b5 by omega)
                  have ho24 : Own w80 b5 #[.bool true] 4 := Own.cast hw15.own (by kernel_rfl)
                  have hzhw15 := hw15.same
                  refine VL_end (by kernel_rfl) ?_
                  refine VQ_next ?_
                  refine VC_ret ?_
                  have hzs46 := hS.size
                  have hzl256 := ho1.lt
                  have hzl257 := ho2.lt
                  have hzl258 := ho3.lt
                  have hzl259 := hmk1.lt
                  have hzl260 := ho24.lt
                  have hzr := ho24.lt
                  refine VQ_retMC1 (.bool true) [w19.heap.size] (.inr rfl) rfl rfl ⟨hmk1, (by simp), trivial⟩ (fun w9 hq9 => Loads.own1 (ho24.step hq9 (by simp; try omega)) (by kernel_rfl) rfl) ?_
                  intro w81 hq8
                  replace hq8 : Step (Just w19.heap.size) w80 w81 := Step.mono hq8 (fun i hi => by simpa using hi)
                  replace hS := Step.transNew hS hq8 (fun _ _ _ => by omega)
                  replace ho1 := ho1.step hq8 (show ¬ b1 = w19.heap.size by omega)
                  replace ho2 := ho2.step hq8 (show ¬ b2 = w19.heap.size by omega)
                  replace ho3 := ho3.step hq8 (show ¬ b3 = w19.heap.size by omega)
                  replace ho24 := ho24.step hq8 (show ¬ b5 = w19.heap.size by omega)
                  exact ⟨rfl, hS⟩
              · refine VL_pure 15 [10, 119] [(10, .pointer (some ⟨b5, 0, none⟩)), (119, .bool true)] (by kernel_rfl) rfl ?_
                refine VL_store (b := b5) (o := 0) (vs := [.bool true]) (by kernel_rfl) (by kernel_rfl) ho5 (Nat.le_of_ble_eq_true (by kernel_rfl)) ?_
                intro w82 hw16
                replace hS := Step.transNew hS hw16.step (fun _ _ _ => by omega)
                replace ho1 := ho1.step hw16.step (show ¬ b1 = b5 by omega)
                replace ho2 := ho2.step hw16.step (show ¬ b2 = b5 by omega)
                replace ho3 := ho3.step hw16.step (show ¬ b3 = b5 by omega)
                replace hmk1 := hmk1.step hw16.step (show ¬ w19.heap.size = b5 by omega)
                have ho25 : Own w82 b5 #[.bool true] 4 := Own.cast hw16.own (by kernel_rfl)
                have hzhw16 := hw16.same
                refine VL_end (by kernel_rfl) ?_
                refine VQ_next ?_
                refine VC_ret ?_
                have hzs47 := hS.size
                have hzl261 := ho1.lt
                have hzl262 := ho2.lt
                have hzl263 := ho3.lt
                have hzl264 := hmk1.lt
                have hzl265 := ho25.lt
                have hzr := ho25.lt
                refine VQ_retMC1 (.bool true) [w19.heap.size] (.inr rfl) rfl rfl ⟨hmk1, (by simp), trivial⟩ (fun w9 hq9 => Loads.own1 (ho25.step hq9 (by simp; try omega)) (by kernel_rfl) rfl) ?_
                intro w83 hq9
                replace hq9 : Step (Just w19.heap.size) w82 w83 := Step.mono hq9 (fun i hi => by simpa using hi)
                replace hS := Step.transNew hS hq9 (fun _ _ _ => by omega)
                replace ho1 := ho1.step hq9 (show ¬ b1 = w19.heap.size by omega)
                replace ho2 := ho2.step hq9 (show ¬ b2 = w19.heap.size by omega)
                replace ho3 := ho3.step hq9 (show ¬ b3 = w19.heap.size by omega)
                replace ho25 := ho25.step hq9 (show ¬ b5 = w19.heap.size by omega)
                exact ⟨rfl, hS⟩
        · refine VT_eq [(3, .bool false), (2, .bool false), (1, .agg #[.int .i64 bp, .int .i64 bv, .int .i64 bc]), (0, .agg #[.int .i64 ap, .int .i64 av, .int .i64 ac])] (by simp only [hg3, Bool.not_true, Bool.not_false]) ?_
          try simp only [bne_iff_ne, beq_iff_eq, decide_eq_true_eq, decide_eq_false_iff_not, bne_eq_false_iff_eq, beq_eq_false_iff_ne, ne_eq] at hg3
          refine VT_pures 5 (kn' := [(8, .bool false), (7, .bool false), (6, undef), (5, undef), (4, undef), (3, .bool false), (2, .bool false), (1, .agg #[.int .i64 bp, .int .i64 bv, .int .i64 bc]), (0, .agg #[.int .i64 ap, .int .i64 av, .int .i64 ac])]) (by kernel_rfl) ?_
          refine VT_load (d := 92) (t := 29) (a := ⟨b1, 0, none⟩) (v := .agg #[.int .i64 ap, .int .i64 av, .int .i64 ac]) (by kernel_rfl) (by kernel_rfl) ?_ ?_
          · intro w84 hr15
            replace hS := Step.transNew hS hr15 (fun i hi hG => by (try simp only at hG); omega)
            replace ho1 := ho1.step hr15 (by (try simp only); omega)
            replace ho2 := ho2.step hr15 (by (try simp only); omega)
            replace ho3 := ho3.step hr15 (by (try simp only); omega)
            replace ho5 := ho5.step hr15 (by (try simp only); omega)
            replace hmk1 := hmk1.step hr15 (by (try simp only); omega)
            exact (Loads.ownL ho1 (n := 3) (by kernel_rfl) (by kernel_rfl) (by kernel_rfl))
          refine VT_load (d := 93) (t := 29) (a := ⟨b2, 0, none⟩) (v := .agg #[.int .i64 bp, .int .i64 bv, .int .i64 bc]) (by kernel_rfl) (by kernel_rfl) ?_ ?_
          · intro w85 hr16
            replace hS := Step.transNew hS hr16 (fun i hi hG => by (try simp only at hG); omega)
            replace ho1 := ho1.step hr16 (by (try simp only); omega)
            replace ho2 := ho2.step hr16 (by (try simp only); omega)
            replace ho3 := ho3.step hr16 (by (try simp only); omega)
            replace ho5 := ho5.step hr16 (by (try simp only); omega)
            replace hmk1 := hmk1.step hr16 (by (try simp only); omega)
            exact (Loads.ownL ho2 (n := 3) (by kernel_rfl) (by kernel_rfl) (by kernel_rfl))
          refine VT_agEq (d := 94) (dd := 9) (ls := ([.int .i64] ++ [.int .i64] ++ [.int .i64] ++ [])) (pos := true) (t := 29) (xs := #[.int .i64 ap, .int .i64 av, .int .i64 ac]) (ys := #[.int .i64 bp, .int .i64 bv, .int .i64 bc]) (by kernel_rfl) (by kernel_rfl) (by kernel_rfl) (by kernel_rfl) (by first | exact ⟨⟨_, rfl⟩, ⟨_, rfl⟩, ⟨_, rfl⟩, trivial⟩ | trivial) (by first | exact ⟨⟨_, rfl⟩, ⟨_, rfl⟩, ⟨_, rfl⟩, trivial⟩ | trivial) (eqK ap av ac bp bv bc) (by rw [Bool.eq_iff_iff]; simp [cellsEq, leafEq, eqK]) ?_
          refine VT_load (d := 95) (t := 29) (a := ⟨b1, 0, none⟩) (v := .agg #[.int .i64 ap, .int .i64 av, .int .i64 ac]) (by kernel_rfl) (by kernel_rfl) ?_ ?_
          · intro w86 hr17
            replace hS := Step.transNew hS hr17 (fun i hi hG => by (try simp only at hG); omega)
            replace ho1 := ho1.step hr17 (by (try simp only); omega)
            replace ho2 := ho2.step hr17 (by (try simp only); omega)
            replace ho3 := ho3.step hr17 (by (try simp only); omega)
            replace ho5 := ho5.step hr17 (by (try simp only); omega)
            replace hmk1 := hmk1.step hr17 (by (try simp only); omega)
            exact (Loads.ownL ho1 (n := 3) (by kernel_rfl) (by kernel_rfl) (by kernel_rfl))
          refine VT_load (d := 96) (t := 29) (a := ⟨b2, 0, none⟩) (v := .agg #[.int .i64 bp, .int .i64 bv, .int .i64 bc]) (by kernel_rfl) (by kernel_rfl) ?_ ?_
          · intro w87 hr18
            replace hS := Step.transNew hS hr18 (fun i hi hG => by (try simp only at hG); omega)
            replace ho1 := ho1.step hr18 (by (try simp only); omega)
            replace ho2 := ho2.step hr18 (by (try simp only); omega)
            replace ho3 := ho3.step hr18 (by (try simp only); omega)
            replace ho5 := ho5.step hr18 (by (try simp only); omega)
            replace hmk1 := hmk1.step hr18 (by (try simp only); omega)
            exact (Loads.ownL ho2 (n := 3) (by kernel_rfl) (by kernel_rfl) (by kernel_rfl))
          refine VT_chain (by kernel_rfl) ?_
          intro w88 hs13
          have hzhs13 := hs13.size
          replace hS := Step.trans hS hs13
          replace ho1 := ho1.no hs13
          replace ho2 := ho2.no hs13
          replace ho3 := ho3.no hs13
          replace ho5 := ho5.no hs13
          replace hmk1 := hmk1.no hs13
          have hzs48 := hS.size
          have hzl266 := ho1.lt
          have hzl267 := ho2.lt
          have hzl268 := ho3.lt
          have hzl269 := ho5.lt
          have hzl270 := hmk1.lt
          refine VTc_call (d := 97) (f := 20) (args := #[.agg #[.int .i64 ap, .int .i64 av, .int .i64 ac], .agg #[.int .i64 bp, .int .i64 bv, .int .i64 bc]]) (by kernel_rfl) (by kernel_rfl) (by kernel_rfl) Try.call20 (before_any ap av ac bp bv bc _) ?_ ?_
          · rintro _ w89 ⟨rfl, hc21⟩
            exact Step.mono hc21 (by intro i hi; first | exact hi.elim | ((try simp only at hi ⊢); omega))
          rintro _ w89 ⟨rfl, hc21⟩
          have hzhc21 := (hc21).size
          replace hS := Step.trans hS hc21
          replace ho1 := ho1.no hc21
          replace ho2 := ho2.no hc21
          replace ho3 := ho3.no hc21
          replace ho5 := ho5.no hc21
          replace hmk1 := hmk1.no hc21
          refine VT_pures 1 (kn' := [(15, .bool (befK ap av ac bp bv bc)), (14, .bool (befK ap av ac bp bv bc)), (13, .agg #[.int .i64 bp, .int .i64 bv, .int .i64 bc]), (12, .agg #[.int .i64 ap, .int .i64 av, .int .i64 ac]), (11, .bool (eqK ap av ac bp bv bc)), (10, .agg #[.int .i64 bp, .int .i64 bv, .int .i64 bc]), (9, .agg #[.int .i64 ap, .int .i64 av, .int .i64 ac]), (8, .bool false), (7, .bool false), (6, undef), (5, undef), (4, undef), (3, .bool false), (2, .bool false), (1, .agg #[.int .i64 bp, .int .i64 bv, .int .i64 bc]), (0, .agg #[.int .i64 ap, .int .i64 av, .int .i64 ac])]) (by kernel_rfl) ?_
          rcases Bool.eq_false_or_eq_true (befK ap av ac bp bv bc) with hg10 | hg10
          · refine VT_eq [(15, .bool true), (14, .bool true), (13, .agg #[.int .i64 bp, .int .i64 bv, .int .i64 bc]), (12, .agg #[.int .i64 ap, .int .i64 av, .int .i64 ac]), (11, .bool (eqK ap av ac bp bv bc)), (10, .agg #[.int .i64 bp, .int .i64 bv, .int .i64 bc]), (9, .agg #[.int .i64 ap, .int .i64 av, .int .i64 ac]), (8, .bool false), (7, .bool false), (6, undef), (5, undef), (4, undef), (3, .bool false), (2, .bool false), (1, .agg #[.int .i64 bp, .int .i64 bv, .int .i64 bc]), (0, .agg #[.int .i64 ap, .int .i64 av, .int .i64 ac])] (by simp only [hg10, Bool.not_true, Bool.not_false]) ?_
            try simp only [bne_iff_ne, beq_iff_eq, decide_eq_true_eq, decide_eq_false_iff_not, bne_eq_false_iff_eq, beq_eq_false_iff_ne, ne_eq] at hg10
            refine VT_pures 4 (kn' := [(19, .bool true), (18, undef), (17, undef), (16, undef), (15, .bool true), (14, .bool true), (13, .agg #[.int .i64 bp, .int .i64 bv, .int .i64 bc]), (12, .agg #[.int .i64 ap, .int .i64 av, .int .i64 ac]), (11, .bool (eqK ap av ac bp bv bc)), (10, .agg #[.int .i64 bp, .int .i64 bv, .int .i64 bc]), (9, .agg #[.int .i64 ap, .int .i64 av, .int .i64 ac]), (8, .bool false), (7, .bool false), (6, undef), (5, undef), (4, undef), (3, .bool false), (2, .bool false), (1, .agg #[.int .i64 bp, .int .i64 bv, .int .i64 bc]), (0, .agg #[.int .i64 ap, .int .i64 av, .int .i64 ac])]) (by kernel_rfl) ?_
            refine VT_end ?_
            intro w90 hs14
            replace hS := Step.trans hS hs14
            replace ho1 := ho1.no hs14
            replace ho2 := ho2.no hs14
            replace ho3 := ho3.no hs14
            replace ho5 := ho5.no hs14
            replace hmk1 := hmk1.no hs14
            refine VL_keep [6, 7, 8, 10, 91, 94, 102] [(6, .pointer (some ⟨b1, 0, none⟩)), (7, .pointer (some ⟨b2, 0, none⟩)), (8, .pointer (some ⟨b3, 0, none⟩)), (10, .pointer (some ⟨b5, 0, none⟩)), (91, .bool false), (94, .bool (eqK ap av ac bp bv bc)), (102, .bool true)] (by kernel_rfl) ?_
            refine VL_pure 22 [6, 7, 8, 10, 104] [(6, .pointer (some ⟨b1, 0, none⟩)), (7, .pointer (some ⟨b2, 0, none⟩)), (8, .pointer (some ⟨b3, 0, none⟩)), (10, .pointer (some ⟨b5, 0, none⟩)), (104, .bool ((eqK ap av ac bp bv bc) == true))] (by kernel_rfl) rfl ?_
            refine VL_end (by kernel_rfl) ?_
            refine VQ_next ?_
            refine VC_cond ((eqK ap av ac bp bv bc) == true) (by kernel_rfl) (fun h6 => ?_) (fun h6 => ?_)
            · try simp only [Bool.and_eq_true, Bool.or_eq_true, decide_eq_true_eq, Bool.not_eq_true', decide_eq_false_iff_not, Bool.and_eq_false_iff, Bool.or_eq_false_iff, beq_iff_eq, bne_iff_ne, beq_eq_false_iff_ne, bne_eq_false_iff_eq, Bool.not_eq_eq_eq_not, Bool.not_true, Bool.not_false] at h6
              refine VC_seq ?_
              refine VC_region ?_
              refine VL_store (b := b5) (o := 0) (vs := [.bool false]) (by kernel_rfl) (by kernel_rfl) ho5 (Nat.le_of_ble_eq_true (by kernel_rfl)) ?_
              intro w91 hw17
              replace hS := Step.transNew hS hw17.step (fun _ _ _ => by omega)
              replace ho1 := ho1.step hw17.step (show ¬ b1 = b5 by omega)
              replace ho2 := ho2.step hw17.step (show ¬ b2 = b5 by omega)
              replace ho3 := ho3.step hw17.step (show ¬ b3 = b5 by omega)
              replace hmk1 := hmk1.step hw17.step (show ¬ w19.heap.size = b5 by omega)
              have ho26 : Own w91 b5 #[.bool false] 4 := Own.cast hw17.own (by kernel_rfl)
              have hzhw17 := hw17.same
              refine VL_end (by kernel_rfl) ?_
              refine VQ_next ?_
              refine VC_ret ?_
              refine VQ_then_ret ?_
              have hzs49 := hS.size
              have hzl271 := ho1.lt
              have hzl272 := ho2.lt
              have hzl273 := ho3.lt
              have hzl274 := hmk1.lt
              have hzl275 := ho26.lt
              have hzr := ho26.lt
              refine VQ_retMC1 (.bool false) [w19.heap.size] (.inr rfl) rfl rfl ⟨hmk1, (by simp), trivial⟩ (fun w9 hq9 => Loads.own1 (ho26.step hq9 (by simp; try omega)) (by kernel_rfl) rfl) ?_
              intro w92 hq10
              replace hq10 : Step (Just w19.heap.size) w91 w92 := Step.mono hq10 (fun i hi => by simpa using hi)
              replace hS := Step.transNew hS hq10 (fun _ _ _ => by omega)
              replace ho1 := ho1.step hq10 (show ¬ b1 = w19.heap.size by omega)
              replace ho2 := ho2.step hq10 (show ¬ b2 = w19.heap.size by omega)
              replace ho3 := ho3.step hq10 (show ¬ b3 = w19.heap.size by omega)
              replace ho26 := ho26.step hq10 (show ¬ b5 = w19.heap.size by omega)
              exact ⟨congrArg Value.bool (by (try simp only [befK_iff, befK_false, eqK, decide_eq_true_eq, decide_eq_false_iff_not] at *); first | rfl | omega), hS⟩
            · try simp only [Bool.and_eq_true, Bool.or_eq_true, decide_eq_true_eq, Bool.not_eq_true', decide_eq_false_iff_not, Bool.and_eq_false_iff, Bool.or_eq_false_iff, beq_iff_eq, bne_iff_ne, beq_eq_false_iff_ne, bne_eq_false_iff_eq, Bool.not_eq_eq_eq_not, Bool.not_true, Bool.not_false] at h6
              refine VC_skip ?_
              refine VQ_next ?_
              refine VC_seq ?_
              refine VC_region ?_
              refine VL_load (d := 105) (t := 29) (a := ⟨b1, 0, none⟩) (v := .agg #[.int .i64 ap, .int .i64 av, .int .i64 ac]) (by kernel_rfl) (by kernel_rfl) (Loads.ownL ho1 (n := 3) (by kernel_rfl) (by kernel_rfl) (by kernel_rfl)) ?_
              refine VL_load (d := 106) (t := 29) (a := ⟨b2, 0, none⟩) (v := .agg #[.int .i64 bp, .int .i64 bv, .int .i64 bc]) (by kernel_rfl) (by kernel_rfl) (Loads.ownL ho2 (n := 3) (by kernel_rfl) (by kernel_rfl) (by kernel_rfl)) ?_
              have hzs50 := hS.size
              have hzl276 := ho1.lt
              have hzl277 := ho2.lt
              have hzl278 := ho3.lt
              have hzl279 := ho5.lt
              have hzl280 := hmk1.lt
              refine VL_call (d := 107) (f := 20) (args := #[.agg #[.int .i64 ap, .int .i64 av, .int .i64 ac], .agg #[.int .i64 bp, .int .i64 bv, .int .i64 bc]]) (by kernel_rfl) (by kernel_rfl) (by kernel_rfl) Try.call20 (before_any ap av ac bp bv bc _) ?_
              rintro _ w93 ⟨rfl, hc22⟩
              replace hS := Step.trans hS hc22
              replace ho1 := ho1.no hc22
              replace ho2 := ho2.no hc22
              replace ho3 := ho3.no hc22
              replace ho5 := ho5.no hc22
              replace hmk1 := hmk1.no hc22
              refine VL_pure 5 [6, 7, 8, 10, 109] [(6, .pointer (some ⟨b1, 0, none⟩)), (7, .pointer (some ⟨b2, 0, none⟩)), (8, .pointer (some ⟨b3, 0, none⟩)), (10, .pointer (some ⟨b5, 0, none⟩)), (109, .bool (!(befK ap av ac bp bv bc)))] (by kernel_rfl) rfl ?_
              refine VL_bool (befK ap av ac bp bv bc) (fun bV => [(6, .pointer (some ⟨b1, 0, none⟩)), (7, .pointer (some ⟨b2, 0, none⟩)), (8, .pointer (some ⟨b3, 0, none⟩)), (10, .pointer (some ⟨b5, 0, none⟩)), (109, .bool (!bV))]) rfl (fun hg11 => ?_) (fun hg11 => ?_)
              · refine VL_load (d := 110) (t := 29) (a := ⟨b2, 0, none⟩) (v := .agg #[.int .i64 bp, .int .i64 bv, .int .i64 bc]) (by kernel_rfl) (by kernel_rfl) (Loads.ownL ho2 (n := 3) (by kernel_rfl) (by kernel_rfl) (by kernel_rfl)) ?_
                refine VL_load (d := 111) (t := 29) (a := ⟨b3, 0, none⟩) (v := .agg #[.int .i64 dp, .int .i64 dv, .int .i64 dc]) (by kernel_rfl) (by kernel_rfl) (Loads.ownL ho3 (n := 3) (by kernel_rfl) (by kernel_rfl) (by kernel_rfl)) ?_
                have hzs51 := hS.size
                have hzl281 := ho1.lt
                have hzl282 := ho2.lt
                have hzl283 := ho3.lt
                have hzl284 := ho5.lt
                have hzl285 := hmk1.lt
                refine VL_call (d := 112) (f := 20) (args := #[.agg #[.int .i64 bp, .int .i64 bv, .int .i64 bc], .agg #[.int .i64 dp, .int .i64 dv, .int .i64 dc]]) (by kernel_rfl) (by kernel_rfl) (by kernel_rfl) Try.call20 (before_any bp bv bc dp dv dc _) ?_
                rintro _ w94 ⟨rfl, hc23⟩
                replace hS := Step.trans hS hc23
                replace ho1 := ho1.no hc23
                replace ho2 := ho2.no hc23
                replace ho3 := ho3.no hc23
                replace ho5 := ho5.no hc23
                replace hmk1 := hmk1.no hc23
                refine VL_pure 11 [6, 8, 10, 115] [(6, .pointer (some ⟨b1, 0, none⟩)), (8, .pointer (some ⟨b3, 0, none⟩)), (10, .pointer (some ⟨b5, 0, none⟩)), (115, .bool (!(befK bp bv bc dp dv dc)))] (by kernel_rfl) rfl ?_
                refine VL_bool (befK bp bv bc dp dv dc) (fun bV => [(6, .pointer (some ⟨b1, 0, none⟩)), (8, .pointer (some ⟨b3, 0, none⟩)), (10, .pointer (some ⟨b5, 0, none⟩)), (115, .bool (!bV))]) rfl (fun hg12 => ?_) (fun hg12 => ?_)
                · refine VL_load (d := 116) (t := 29) (a := ⟨b1, 0, none⟩) (v := .agg #[.int .i64 ap, .int .i64 av, .int .i64 ac]) (by kernel_rfl) (by kernel_rfl) (Loads.ownL ho1 (n := 3) (by kernel_rfl) (by kernel_rfl) (by kernel_rfl)) ?_
                  refine VL_load (d := 117) (t := 29) (a := ⟨b3, 0, none⟩) (v := .agg #[.int .i64 dp, .int .i64 dv, .int .i64 dc]) (by kernel_rfl) (by kernel_rfl) (Loads.ownL ho3 (n := 3) (by kernel_rfl) (by kernel_rfl) (by kernel_rfl)) ?_
                  have hzs52 := hS.size
                  have hzl286 := ho1.lt
                  have hzl287 := ho2.lt
                  have hzl288 := ho3.lt
                  have hzl289 := ho5.lt
                  have hzl290 := hmk1.lt
                  refine VL_call (d := 118) (f := 20) (args := #[.agg #[.int .i64 ap, .int .i64 av, .int .i64 ac], .agg #[.int .i64 dp, .int .i64 dv, .int .i64 dc]]) (by kernel_rfl) (by kernel_rfl) (by kernel_rfl) Try.call20 (before_any ap av ac dp dv dc _) ?_
                  rintro _ w95 ⟨rfl, hc24⟩
                  replace hS := Step.trans hS hc24
                  replace ho1 := ho1.no hc24
                  replace ho2 := ho2.no hc24
                  replace ho3 := ho3.no hc24
                  replace ho5 := ho5.no hc24
                  replace hmk1 := hmk1.no hc24
                  refine VL_pure 15 [10, 119] [(10, .pointer (some ⟨b5, 0, none⟩)), (119, .bool (befK ap av ac dp dv dc))] (by kernel_rfl) rfl ?_
                  refine VL_store (b := b5) (o := 0) (vs := [.bool (befK ap av ac dp dv dc)]) (by kernel_rfl) (by kernel_rfl) ho5 (Nat.le_of_ble_eq_true (by kernel_rfl)) ?_
                  intro w96 hw18
                  replace hS := Step.transNew hS hw18.step (fun _ _ _ => by omega)
                  replace ho1 := ho1.step hw18.step (show ¬ b1 = b5 by omega)
                  replace ho2 := ho2.step hw18.step (show ¬ b2 = b5 by omega)
                  replace ho3 := ho3.step hw18.step (show ¬ b3 = b5 by omega)
                  replace hmk1 := hmk1.step hw18.step (show ¬ w19.heap.size = b5 by omega)
                  have ho27 : Own w96 b5 #[.bool (befK ap av ac dp dv dc)] 4 := Own.cast hw18.own (by kernel_rfl)
                  have hzhw18 := hw18.same
                  refine VL_end (by kernel_rfl) ?_
                  refine VQ_next ?_
                  refine VC_ret ?_
                  have hzs53 := hS.size
                  have hzl291 := ho1.lt
                  have hzl292 := ho2.lt
                  have hzl293 := ho3.lt
                  have hzl294 := hmk1.lt
                  have hzl295 := ho27.lt
                  have hzr := ho27.lt
                  refine VQ_retMC1 (.bool (befK ap av ac dp dv dc)) [w19.heap.size] (.inr rfl) rfl rfl ⟨hmk1, (by simp), trivial⟩ (fun w9 hq9 => Loads.own1 (ho27.step hq9 (by simp; try omega)) (by kernel_rfl) rfl) ?_
                  intro w97 hq11
                  replace hq11 : Step (Just w19.heap.size) w96 w97 := Step.mono hq11 (fun i hi => by simpa using hi)
                  replace hS := Step.transNew hS hq11 (fun _ _ _ => by omega)
                  replace ho1 := ho1.step hq11 (show ¬ b1 = w19.heap.size by omega)
                  replace ho2 := ho2.step hq11 (show ¬ b2 = w19.heap.size by omega)
                  replace ho3 := ho3.step hq11 (show ¬ b3 = w19.heap.size by omega)
                  replace ho27 := ho27.step hq11 (show ¬ b5 = w19.heap.size by omega)
                  exact ⟨congrArg Value.bool (by (try simp only [befK_iff, befK_false, eqK, decide_eq_true_eq, decide_eq_false_iff_not] at *); first | rfl | omega), hS⟩
                · refine VL_pure 15 [10, 119] [(10, .pointer (some ⟨b5, 0, none⟩)), (119, .bool true)] (by kernel_rfl) rfl ?_
                  refine VL_store (b := b5) (o := 0) (vs := [.bool true]) (by kernel_rfl) (by kernel_rfl) ho5 (Nat.le_of_ble_eq_true (by kernel_rfl)) ?_
                  intro w98 hw19
                  replace hS := Step.transNew hS hw19.step (fun _ _ _ => by omega)
                  replace ho1 := ho1.step hw19.step (show ¬ b1 = b5 by omega)
                  replace ho2 := ho2.step hw19.step (show ¬ b2 = b5 by omega)
                  replace ho3 := ho3.step hw19.step (show ¬ b3 = b5 by omega)
                  replace hmk1 := hmk1.step hw19.step (show ¬ w19.heap.size = b5 by omega)
                  have ho28 : Own w98 b5 #[.bool true] 4 := Own.cast hw19.own (by kernel_rfl)
                  have hzhw19 := hw19.same
                  refine VL_end (by kernel_rfl) ?_
                  refine VQ_next ?_
                  refine VC_ret ?_
                  have hzs54 := hS.size
                  have hzl296 := ho1.lt
                  have hzl297 := ho2.lt
                  have hzl298 := ho3.lt
                  have hzl299 := hmk1.lt
                  have hzl300 := ho28.lt
                  have hzr := ho28.lt
                  refine VQ_retMC1 (.bool true) [w19.heap.size] (.inr rfl) rfl rfl ⟨hmk1, (by simp), trivial⟩ (fun w9 hq9 => Loads.own1 (ho28.step hq9 (by simp; try omega)) (by kernel_rfl) rfl) ?_
                  intro w99 hq12
                  replace hq12 : Step (Just w19.heap.size) w98 w99 := Step.mono hq12 (fun i hi => by simpa using hi)
                  replace hS := Step.transNew hS hq12 (fun _ _ _ => by omega)
                  replace ho1 := ho1.step hq12 (show ¬ b1 = w19.heap.size by omega)
                  replace ho2 := ho2.step hq12 (show ¬ b2 = w19.heap.size by omega)
                  replace ho3 := ho3.step hq12 (show ¬ b3 = w19.heap.size by omega)
                  replace ho28 := ho28.step hq12 (show ¬ b5 = w19.heap.size by omega)
                  exact ⟨rfl, hS⟩
              · refine VL_pure 15 [10, 119] [(10, .pointer (some ⟨b5, 0, none⟩)), (119, .bool true)] (by kernel_rfl) rfl ?_
                refine VL_store (b := b5) (o := 0) (vs := [.bool true]) (by kernel_rfl) (by kernel_rfl) ho5 (Nat.le_of_ble_eq_true (by kernel_rfl)) ?_
                intro w100 hw20
                replace hS := Step.transNew hS hw20.step (fun _ _ _ => by omega)
                replace ho1 := ho1.step hw20.step (show ¬ b1 = b5 by omega)
                replace ho2 := ho2.step hw20.step (show ¬ b2 = b5 by omega)
                replace ho3 := ho3.step hw20.step (show ¬ b3 = b5 by omega)
                replace hmk1 := hmk1.step hw20.step (show ¬ w19.heap.size = b5 by omega)
                have ho29 : Own w100 b5 #[.bool true] 4 := Own.cast hw20.own (by kernel_rfl)
                have hzhw20 := hw20.same
                refine VL_end (by kernel_rfl) ?_
                refine VQ_next ?_
                refine VC_ret ?_
                have hzs55 := hS.size
                have hzl301 := ho1.lt
                have hzl302 := ho2.lt
                have hzl303 := ho3.lt
                have hzl304 := hmk1.lt
                have hzl305 := ho29.lt
                have hzr := ho29.lt
                refine VQ_retMC1 (.bool true) [w19.heap.size] (.inr rfl) rfl rfl ⟨hmk1, (by simp), trivial⟩ (fun w9 hq9 => Loads.own1 (ho29.step hq9 (by simp; try omega)) (by kernel_rfl) rfl) ?_
                intro w101 hq13
                replace hq13 : Step (Just w19.heap.size) w100 w101 := Step.mono hq13 (fun i hi => by simpa using hi)
                replace hS := Step.transNew hS hq13 (fun _ _ _ => by omega)
                replace ho1 := ho1.step hq13 (show ¬ b1 = w19.heap.size by omega)
                replace ho2 := ho2.step hq13 (show ¬ b2 = w19.heap.size by omega)
                replace ho3 := ho3.step hq13 (show ¬ b3 = w19.heap.size by omega)
                replace ho29 := ho29.step hq13 (show ¬ b5 = w19.heap.size by omega)
                exact ⟨rfl, hS⟩
          · refine VT_eq [(15, .bool false), (14, .bool false), (13, .agg #[.int .i64 bp, .int .i64 bv, .int .i64 bc]), (12, .agg #[.int .i64 ap, .int .i64 av, .int .i64 ac]), (11, .bool (eqK ap av ac bp bv bc)), (10, .agg #[.int .i64 bp, .int .i64 bv, .int .i64 bc]), (9, .agg #[.int .i64 ap, .int .i64 av, .int .i64 ac]), (8, .bool false), (7, .bool false), (6, undef), (5, undef), (4, undef), (3, .bool false), (2, .bool false), (1, .agg #[.int .i64 bp, .int .i64 bv, .int .i64 bc]), (0, .agg #[.int .i64 ap, .int .i64 av, .int .i64 ac])] (by simp only [hg10, Bool.not_true, Bool.not_false]) ?_
            try simp only [bne_iff_ne, beq_iff_eq, decide_eq_true_eq, decide_eq_false_iff_not, bne_eq_false_iff_eq, beq_eq_false_iff_ne, ne_eq] at hg10
            refine VT_load (d := 99) (t := 29) (a := ⟨b2, 0, none⟩) (v := .agg #[.int .i64 bp, .int .i64 bv, .int .i64 bc]) (by kernel_rfl) (by kernel_rfl) ?_ ?_
            · intro w102 hr19
              replace hS := Step.transNew hS hr19 (fun i hi hG => by (try simp only at hG); omega)
              replace ho1 := ho1.step hr19 (by (try simp only); omega)
              replace ho2 := ho2.step hr19 (by (try simp only); omega)
              replace ho3 := ho3.step hr19 (by (try simp only); omega)
              replace ho5 := ho5.step hr19 (by (try simp only); omega)
              replace hmk1 := hmk1.step hr19 (by (try simp only); omega)
              exact (Loads.ownL ho2 (n := 3) (by kernel_rfl) (by kernel_rfl) (by kernel_rfl))
            refine VT_load (d := 100) (t := 29) (a := ⟨b1, 0, none⟩) (v := .agg #[.int .i64 ap, .int .i64 av, .int .i64 ac]) (by kernel_rfl) (by kernel_rfl) ?_ ?_
            · intro w103 hr20
              replace hS := Step.transNew hS hr20 (fun i hi hG => by (try simp only at hG); omega)
              replace ho1 := ho1.step hr20 (by (try simp only); omega)
              replace ho2 := ho2.step hr20 (by (try simp only); omega)
              replace ho3 := ho3.step hr20 (by (try simp only); omega)
              replace ho5 := ho5.step hr20 (by (try simp only); omega)
              replace hmk1 := hmk1.step hr20 (by (try simp only); omega)
              exact (Loads.ownL ho1 (n := 3) (by kernel_rfl) (by kernel_rfl) (by kernel_rfl))
            refine VT_chain (by kernel_rfl) ?_
            intro w104 hs15
            have hzhs15 := hs15.size
            replace hS := Step.trans hS hs15
            replace ho1 := ho1.no hs15
            replace ho2 := ho2.no hs15
            replace ho3 := ho3.no hs15
            replace ho5 := ho5.no hs15
            replace hmk1 := hmk1.no hs15
            have hzs56 := hS.size
            have hzl306 := ho1.lt
            have hzl307 := ho2.lt
            have hzl308 := ho3.lt
            have hzl309 := ho5.lt
            have hzl310 := hmk1.lt
            refine VTc_call (d := 101) (f := 20) (args := #[.agg #[.int .i64 bp, .int .i64 bv, .int .i64 bc], .agg #[.int .i64 ap, .int .i64 av, .int .i64 ac]]) (by kernel_rfl) (by kernel_rfl) (by kernel_rfl) Try.call20 (before_any bp bv bc ap av ac _) ?_ ?_
            · rintro _ w105 ⟨rfl, hc25⟩
              exact Step.mono hc25 (by intro i hi; first | exact hi.elim | ((try simp only at hi ⊢); omega))
            rintro _ w105 ⟨rfl, hc25⟩
            have hzhc25 := (hc25).size
            replace hS := Step.trans hS hc25
            replace ho1 := ho1.no hc25
            replace ho2 := ho2.no hc25
            replace ho3 := ho3.no hc25
            replace ho5 := ho5.no hc25
            replace hmk1 := hmk1.no hc25
            refine VT_pures 1 (kn' := [(19, .bool (befK bp bv bc ap av ac)), (18, .bool (befK bp bv bc ap av ac)), (17, .agg #[.int .i64 ap, .int .i64 av, .int .i64 ac]), (16, .agg #[.int .i64 bp, .int .i64 bv, .int .i64 bc]), (15, .bool false), (14, .bool false), (13, .agg #[.int .i64 bp, .int .i64 bv, .int .i64 bc]), (12, .agg #[.int .i64 ap, .int .i64 av, .int .i64 ac]), (11, .bool (eqK ap av ac bp bv bc)), (10, .agg #[.int .i64 bp, .int .i64 bv, .int .i64 bc]), (9, .agg #[.int .i64 ap, .int .i64 av, .int .i64 ac]), (8, .bool false), (7, .bool false), (6, undef), (5, undef), (4, undef), (3, .bool false), (2, .bool false), (1, .agg #[.int .i64 bp, .int .i64 bv, .int .i64 bc]), (0, .agg #[.int .i64 ap, .int .i64 av, .int .i64 ac])]) (by kernel_rfl) ?_
            refine VT_end ?_
            intro w106 hs16
            replace hS := Step.trans hS hs16
            replace ho1 := ho1.no hs16
            replace ho2 := ho2.no hs16
            replace ho3 := ho3.no hs16
            replace ho5 := ho5.no hs16
            replace hmk1 := hmk1.no hs16
            refine VL_keep [6, 7, 8, 10, 91, 94, 102] [(6, .pointer (some ⟨b1, 0, none⟩)), (7, .pointer (some ⟨b2, 0, none⟩)), (8, .pointer (some ⟨b3, 0, none⟩)), (10, .pointer (some ⟨b5, 0, none⟩)), (91, .bool false), (94, .bool (eqK ap av ac bp bv bc)), (102, .bool (befK bp bv bc ap av ac))] (by kernel_rfl) ?_
            refine VL_pure 22 [6, 7, 8, 10, 104] [(6, .pointer (some ⟨b1, 0, none⟩)), (7, .pointer (some ⟨b2, 0, none⟩)), (8, .pointer (some ⟨b3, 0, none⟩)), (10, .pointer (some ⟨b5, 0, none⟩)), (104, .bool ((eqK ap av ac bp bv bc) == (befK bp bv bc ap av ac)))] (by kernel_rfl) rfl ?_
            refine VL_end (by kernel_rfl) ?_
            refine VQ_next ?_
            refine VC_is (b := (eqK ap av ac bp bv bc) == (befK bp bv bc ap av ac)) false (by kernel_rfl) (by cases hq1 : eqK ap av ac bp bv bc <;> cases hq2 : befK bp bv bc ap av ac <;> first | rfl | (exfalso; simp only [befK_iff, befK_false, eqK, decide_eq_true_eq, decide_eq_false_iff_not] at *; omega)) ?_
            refine VC_ite_false ?_
            refine VC_skip ?_
            refine VQ_next ?_
            refine VC_seq ?_
            refine VC_region ?_
            refine VL_load (d := 105) (t := 29) (a := ⟨b1, 0, none⟩) (v := .agg #[.int .i64 ap, .int .i64 av, .int .i64 ac]) (by kernel_rfl) (by kernel_rfl) (Loads.ownL ho1 (n := 3) (by kernel_rfl) (by kernel_rfl) (by kernel_rfl)) ?_
            refine VL_load (d := 106) (t := 29) (a := ⟨b2, 0, none⟩) (v := .agg #[.int .i64 bp, .int .i64 bv, .int .i64 bc]) (by kernel_rfl) (by kernel_rfl) (Loads.ownL ho2 (n := 3) (by kernel_rfl) (by kernel_rfl) (by kernel_rfl)) ?_
            have hzs57 := hS.size
            have hzl311 := ho1.lt
            have hzl312 := ho2.lt
            have hzl313 := ho3.lt
            have hzl314 := ho5.lt
            have hzl315 := hmk1.lt
            refine VL_call (d := 107) (f := 20) (args := #[.agg #[.int .i64 ap, .int .i64 av, .int .i64 ac], .agg #[.int .i64 bp, .int .i64 bv, .int .i64 bc]]) (by kernel_rfl) (by kernel_rfl) (by kernel_rfl) Try.call20 (before_any ap av ac bp bv bc _) ?_
            rintro _ w107 ⟨rfl, hc26⟩
            replace hS := Step.trans hS hc26
            replace ho1 := ho1.no hc26
            replace ho2 := ho2.no hc26
            replace ho3 := ho3.no hc26
            replace ho5 := ho5.no hc26
            replace hmk1 := hmk1.no hc26
            refine VL_pure 5 [6, 7, 8, 10, 109] [(6, .pointer (some ⟨b1, 0, none⟩)), (7, .pointer (some ⟨b2, 0, none⟩)), (8, .pointer (some ⟨b3, 0, none⟩)), (10, .pointer (some ⟨b5, 0, none⟩)), (109, .bool (!(befK ap av ac bp bv bc)))] (by kernel_rfl) rfl ?_
            refine VL_bool (befK ap av ac bp bv bc) (fun bV => [(6, .pointer (some ⟨b1, 0, none⟩)), (7, .pointer (some ⟨b2, 0, none⟩)), (8, .pointer (some ⟨b3, 0, none⟩)), (10, .pointer (some ⟨b5, 0, none⟩)), (109, .bool (!bV))]) rfl (fun hg13 => ?_) (fun hg13 => ?_)
            · refine VL_load (d := 110) (t := 29) (a := ⟨b2, 0, none⟩) (v := .agg #[.int .i64 bp, .int .i64 bv, .int .i64 bc]) (by kernel_rfl) (by kernel_rfl) (Loads.ownL ho2 (n := 3) (by kernel_rfl) (by kernel_rfl) (by kernel_rfl)) ?_
              refine VL_load (d := 111) (t := 29) (a := ⟨b3, 0, none⟩) (v := .agg #[.int .i64 dp, .int .i64 dv, .int .i64 dc]) (by kernel_rfl) (by kernel_rfl) (Loads.ownL ho3 (n := 3) (by kernel_rfl) (by kernel_rfl) (by kernel_rfl)) ?_
              have hzs58 := hS.size
              have hzl316 := ho1.lt
              have hzl317 := ho2.lt
              have hzl318 := ho3.lt
              have hzl319 := ho5.lt
              have hzl320 := hmk1.lt
              refine VL_call (d := 112) (f := 20) (args := #[.agg #[.int .i64 bp, .int .i64 bv, .int .i64 bc], .agg #[.int .i64 dp, .int .i64 dv, .int .i64 dc]]) (by kernel_rfl) (by kernel_rfl) (by kernel_rfl) Try.call20 (before_any bp bv bc dp dv dc _) ?_
              rintro _ w108 ⟨rfl, hc27⟩
              replace hS := Step.trans hS hc27
              replace ho1 := ho1.no hc27
              replace ho2 := ho2.no hc27
              replace ho3 := ho3.no hc27
              replace ho5 := ho5.no hc27
              replace hmk1 := hmk1.no hc27
              refine VL_pure 11 [6, 8, 10, 115] [(6, .pointer (some ⟨b1, 0, none⟩)), (8, .pointer (some ⟨b3, 0, none⟩)), (10, .pointer (some ⟨b5, 0, none⟩)), (115, .bool (!(befK bp bv bc dp dv dc)))] (by kernel_rfl) rfl ?_
              refine VL_bool (befK bp bv bc dp dv dc) (fun bV => [(6, .pointer (some ⟨b1, 0, none⟩)), (8, .pointer (some ⟨b3, 0, none⟩)), (10, .pointer (some ⟨b5, 0, none⟩)), (115, .bool (!bV))]) rfl (fun hg14 => ?_) (fun hg14 => ?_)
              · refine VL_load (d := 116) (t := 29) (a := ⟨b1, 0, none⟩) (v := .agg #[.int .i64 ap, .int .i64 av, .int .i64 ac]) (by kernel_rfl) (by kernel_rfl) (Loads.ownL ho1 (n := 3) (by kernel_rfl) (by kernel_rfl) (by kernel_rfl)) ?_
                refine VL_load (d := 117) (t := 29) (a := ⟨b3, 0, none⟩) (v := .agg #[.int .i64 dp, .int .i64 dv, .int .i64 dc]) (by kernel_rfl) (by kernel_rfl) (Loads.ownL ho3 (n := 3) (by kernel_rfl) (by kernel_rfl) (by kernel_rfl)) ?_
                have hzs59 := hS.size
                have hzl321 := ho1.lt
                have hzl322 := ho2.lt
                have hzl323 := ho3.lt
                have hzl324 := ho5.lt
                have hzl325 := hmk1.lt
                refine VL_call (d := 118) (f := 20) (args := #[.agg #[.int .i64 ap, .int .i64 av, .int .i64 ac], .agg #[.int .i64 dp, .int .i64 dv, .int .i64 dc]]) (by kernel_rfl) (by kernel_rfl) (by kernel_rfl) Try.call20 (before_any ap av ac dp dv dc _) ?_
                rintro _ w109 ⟨rfl, hc28⟩
                replace hS := Step.trans hS hc28
                replace ho1 := ho1.no hc28
                replace ho2 := ho2.no hc28
                replace ho3 := ho3.no hc28
                replace ho5 := ho5.no hc28
                replace hmk1 := hmk1.no hc28
                refine VL_pure 15 [10, 119] [(10, .pointer (some ⟨b5, 0, none⟩)), (119, .bool (befK ap av ac dp dv dc))] (by kernel_rfl) rfl ?_
                refine VL_store (b := b5) (o := 0) (vs := [.bool (befK ap av ac dp dv dc)]) (by kernel_rfl) (by kernel_rfl) ho5 (Nat.le_of_ble_eq_true (by kernel_rfl)) ?_
                intro w110 hw21
                replace hS := Step.transNew hS hw21.step (fun _ _ _ => by omega)
                replace ho1 := ho1.step hw21.step (show ¬ b1 = b5 by omega)
                replace ho2 := ho2.step hw21.step (show ¬ b2 = b5 by omega)
                replace ho3 := ho3.step hw21.step (show ¬ b3 = b5 by omega)
                replace hmk1 := hmk1.step hw21.step (show ¬ w19.heap.size = b5 by omega)
                have ho30 : Own w110 b5 #[.bool (befK ap av ac dp dv dc)] 4 := Own.cast hw21.own (by kernel_rfl)
                have hzhw21 := hw21.same
                refine VL_end (by kernel_rfl) ?_
                refine VQ_next ?_
                refine VC_ret ?_
                have hzs60 := hS.size
                have hzl326 := ho1.lt
                have hzl327 := ho2.lt
                have hzl328 := ho3.lt
                have hzl329 := hmk1.lt
                have hzl330 := ho30.lt
                have hzr := ho30.lt
                refine VQ_retMC1 (.bool (befK ap av ac dp dv dc)) [w19.heap.size] (.inr rfl) rfl rfl ⟨hmk1, (by simp), trivial⟩ (fun w9 hq9 => Loads.own1 (ho30.step hq9 (by simp; try omega)) (by kernel_rfl) rfl) ?_
                intro w111 hq14
                replace hq14 : Step (Just w19.heap.size) w110 w111 := Step.mono hq14 (fun i hi => by simpa using hi)
                replace hS := Step.transNew hS hq14 (fun _ _ _ => by omega)
                replace ho1 := ho1.step hq14 (show ¬ b1 = w19.heap.size by omega)
                replace ho2 := ho2.step hq14 (show ¬ b2 = w19.heap.size by omega)
                replace ho3 := ho3.step hq14 (show ¬ b3 = w19.heap.size by omega)
                replace ho30 := ho30.step hq14 (show ¬ b5 = w19.heap.size by omega)
                exact ⟨congrArg Value.bool (by (try simp only [befK_iff, befK_false, eqK, decide_eq_true_eq, decide_eq_false_iff_not] at *); first | rfl | omega), hS⟩
              · refine VL_pure 15 [10, 119] [(10, .pointer (some ⟨b5, 0, none⟩)), (119, .bool true)] (by kernel_rfl) rfl ?_
                refine VL_store (b := b5) (o := 0) (vs := [.bool true]) (by kernel_rfl) (by kernel_rfl) ho5 (Nat.le_of_ble_eq_true (by kernel_rfl)) ?_
                intro w112 hw22
                replace hS := Step.transNew hS hw22.step (fun _ _ _ => by omega)
                replace ho1 := ho1.step hw22.step (show ¬ b1 = b5 by omega)
                replace ho2 := ho2.step hw22.step (show ¬ b2 = b5 by omega)
                replace ho3 := ho3.step hw22.step (show ¬ b3 = b5 by omega)
                replace hmk1 := hmk1.step hw22.step (show ¬ w19.heap.size = b5 by omega)
                have ho31 : Own w112 b5 #[.bool true] 4 := Own.cast hw22.own (by kernel_rfl)
                have hzhw22 := hw22.same
                refine VL_end (by kernel_rfl) ?_
                refine VQ_next ?_
                refine VC_ret ?_
                have hzs61 := hS.size
                have hzl331 := ho1.lt
                have hzl332 := ho2.lt
                have hzl333 := ho3.lt
                have hzl334 := hmk1.lt
                have hzl335 := ho31.lt
                have hzr := ho31.lt
                refine VQ_retMC1 (.bool true) [w19.heap.size] (.inr rfl) rfl rfl ⟨hmk1, (by simp), trivial⟩ (fun w9 hq9 => Loads.own1 (ho31.step hq9 (by simp; try omega)) (by kernel_rfl) rfl) ?_
                intro w113 hq15
                replace hq15 : Step (Just w19.heap.size) w112 w113 := Step.mono hq15 (fun i hi => by simpa using hi)
                replace hS := Step.transNew hS hq15 (fun _ _ _ => by omega)
                replace ho1 := ho1.step hq15 (show ¬ b1 = w19.heap.size by omega)
                replace ho2 := ho2.step hq15 (show ¬ b2 = w19.heap.size by omega)
                replace ho3 := ho3.step hq15 (show ¬ b3 = w19.heap.size by omega)
                replace ho31 := ho31.step hq15 (show ¬ b5 = w19.heap.size by omega)
                exact ⟨rfl, hS⟩
            · refine VL_pure 15 [10, 119] [(10, .pointer (some ⟨b5, 0, none⟩)), (119, .bool true)] (by kernel_rfl) rfl ?_
              refine VL_store (b := b5) (o := 0) (vs := [.bool true]) (by kernel_rfl) (by kernel_rfl) ho5 (Nat.le_of_ble_eq_true (by kernel_rfl)) ?_
              intro w114 hw23
              replace hS := Step.transNew hS hw23.step (fun _ _ _ => by omega)
              replace ho1 := ho1.step hw23.step (show ¬ b1 = b5 by omega)
              replace ho2 := ho2.step hw23.step (show ¬ b2 = b5 by omega)
              replace ho3 := ho3.step hw23.step (show ¬ b3 = b5 by omega)
              replace hmk1 := hmk1.step hw23.step (show ¬ w19.heap.size = b5 by omega)
              have ho32 : Own w114 b5 #[.bool true] 4 := Own.cast hw23.own (by kernel_rfl)
              have hzhw23 := hw23.same
              refine VL_end (by kernel_rfl) ?_
              refine VQ_next ?_
              refine VC_ret ?_
              have hzs62 := hS.size
              have hzl336 := ho1.lt
              have hzl337 := ho2.lt
              have hzl338 := ho3.lt
              have hzl339 := hmk1.lt
              have hzl340 := ho32.lt
              have hzr := ho32.lt
              refine VQ_retMC1 (.bool true) [w19.heap.size] (.inr rfl) rfl rfl ⟨hmk1, (by simp), trivial⟩ (fun w9 hq9 => Loads.own1 (ho32.step hq9 (by simp; try omega)) (by kernel_rfl) rfl) ?_
              intro w115 hq16
              replace hq16 : Step (Just w19.heap.size) w114 w115 := Step.mono hq16 (fun i hi => by simpa using hi)
              replace hS := Step.transNew hS hq16 (fun _ _ _ => by omega)
              replace ho1 := ho1.step hq16 (show ¬ b1 = w19.heap.size by omega)
              replace ho2 := ho2.step hq16 (show ¬ b2 = w19.heap.size by omega)
              replace ho3 := ho3.step hq16 (show ¬ b3 = w19.heap.size by omega)
              replace ho32 := ho32.step hq16 (show ¬ b5 = w19.heap.size by omega)
              exact ⟨rfl, hS⟩
      · intro e w116 hzM hJ0 hD
        obtain ⟨hee, hel, hT, hS, ho1, ho2, ho3, ho4, ho5, ho8, ho10, ho11, hbb1⟩ := hJ0
        subst hee
        have hmk2 := hD
        refine VQ_block_hit ?_
        refine VQ_next ?_
        refine VC_seq ?_
        refine VC_seq ?_
        have hs17 := drew_step w116
        have hs17z : w116.heap.size = w116.drew.heap.size := rfl
        refine VC_text [[], [], [], [2], [2, 3], [1, 2, 3, 4], [0, 1, 2, 3, 4, 5], [0, 1, 2, 3, 4, 5, 6], [0, 1, 2, 3, 4, 5, 6, 7], [0, 1, 2, 3, 4, 5, 6, 7, 8], [0, 1, 2, 3, 4, 5, 6, 7], [0, 1, 2, 3, 4, 5, 6, 7], [0, 1, 2, 3, 4, 5, 6, 7, 10, 11], [0, 1, 2, 3, 4, 5, 6, 7, 8, 9, 10, 11, 12], [0, 1, 2, 3, 4, 5, 6, 7, 8, 9, 10, 11, 12, 13]] 13 (fun x y => Step (fun k => w116.heap.size ≤ k) x y) [9] [0, 1, 2, 3, 4, 5, 6, 7, 8, 10, 11, 12, 9] (by kernel_rfl) (by kernel_rfl) (by kernel_rfl) (by kernel_rfl) (fun x => Step.refl _ x) (fun h k => Step.trans h k) Step.weak ?_
        have hzl341 := Tb.lt hT
        have hzs63 := hS.size
        have hzl342 := ho1.lt
        have hzl343 := ho2.lt
        have hzl344 := ho3.lt
        have hzl345 := ho4.lt
        have hzl346 := ho5.lt
        have hzl347 := ho8.lt
        have hzl348 := ho10.lt
        have hzl349 := ho11.lt
        have hzl350 := hbb1.lt
        have hzl351 := hmk2.lt
        generalize w116.drew = w117 at hs17 hs17z ⊢
        replace hT := Tb.no hT hs17
        replace hS := Step.trans hS hs17
        replace ho1 := ho1.no hs17
        replace ho2 := ho2.no hs17
        replace ho3 := ho3.no hs17
        replace ho4 := ho4.no hs17
        replace ho5 := ho5.no hs17
        replace ho8 := ho8.no hs17
        replace ho10 := ho10.no hs17
        replace ho11 := ho11.no hs17
        replace hbb1 := hbb1.no hs17
        replace hmk2 := hmk2.no hs17
        refine VT_load (d := 68) (t := 3) (a := ⟨b7, 0, none⟩) (v := .int .i64 ((ea + 1 : Nat) : Int)) (by kernel_rfl) (by kernel_rfl) ?_ ?_
        · intro w118 hr21
          replace hT := Tb.step hT hr21 (by (try simp only); omega)
          replace hS := Step.transNew hS hr21 (fun i hi hG => by (try simp only at hG); omega)
          replace ho1 := ho1.step hr21 (by (try simp only); omega)
          replace ho2 := ho2.step hr21 (by (try simp only); omega)
          replace ho3 := ho3.step hr21 (by (try simp only); omega)
          replace ho4 := ho4.step hr21 (by (try simp only); omega)
          replace ho5 := ho5.step hr21 (by (try simp only); omega)
          replace ho8 := ho8.step hr21 (by (try simp only); omega)
          replace ho10 := ho10.step hr21 (by (try simp only); omega)
          replace ho11 := ho11.step hr21 (by (try simp only); omega)
          replace hbb1 := hbb1.step hr21 (by (try simp only); omega)
          replace hmk2 := hmk2.step hr21 (by (try simp only); omega)
          exact (Loads.own1 ho10 (by kernel_rfl) (by rfl))
        refine VT_pures 1 (kn' := [(1, .int .i64 ((L.length : Nat) : Int)), (0, .int .i64 ((ea + 1 : Nat) : Int))]) (by kernel_rfl) ?_
        refine VT_load (d := 70) (t := 5) (a := ⟨b4, 0, none⟩) (v := .int .u8 ((ea : Nat) : Int)) (by kernel_rfl) (by kernel_rfl) ?_ ?_
        · intro w119 hr22
          replace hT := Tb.step hT hr22 (by (try simp only); omega)
          replace hS := Step.transNew hS hr22 (fun i hi hG => by (try simp only at hG); omega)
          replace ho1 := ho1.step hr22 (by (try simp only); omega)
          replace ho2 := ho2.step hr22 (by (try simp only); omega)
          replace ho3 := ho3.step hr22 (by (try simp only); omega)
          replace ho4 := ho4.step hr22 (by (try simp only); omega)
          replace ho5 := ho5.step hr22 (by (try simp only); omega)
          replace ho8 := ho8.step hr22 (by (try simp only); omega)
          replace ho10 := ho10.step hr22 (by (try simp only); omega)
          replace ho11 := ho11.step hr22 (by (try simp only); omega)
          replace hbb1 := hbb1.step hr22 (by (try simp only); omega)
          replace hmk2 := hmk2.step hr22 (by (try simp only); omega)
          exact (Loads.own1 ho4 (by kernel_rfl) (by rfl))
        refine VT_pures 5 (kn' := [(7, .bool (((ea + 1 : Nat) : Int) != (imin ((L.length : Nat) : Int) (IntKind.wrap .i64 ((IntKind.wrap .i64 ((ea : Nat) : Int)) + 1))))), (6, .bool (((ea + 1 : Nat) : Int) != (imin ((L.length : Nat) : Int) (IntKind.wrap .i64 ((IntKind.wrap .i64 ((ea : Nat) : Int)) + 1))))), (5, .int .i64 (imin ((L.length : Nat) : Int) (IntKind.wrap .i64 ((IntKind.wrap .i64 ((ea : Nat) : Int)) + 1)))), (4, .int .i64 (IntKind.wrap .i64 ((IntKind.wrap .i64 ((ea : Nat) : Int)) + 1))), (3, .int .i64 (IntKind.wrap .i64 ((ea : Nat) : Int))), (2, .int .u8 ((ea : Nat) : Int)), (1, .int .i64 ((L.length : Nat) : Int)), (0, .int .i64 ((ea + 1 : Nat) : Int))]) (by kernel_rfl) ?_
        have hg15 : (((ea + 1 : Nat) : Int) != (imin ((L.length : Nat) : Int) (IntKind.wrap .i64 ((IntKind.wrap .i64 ((ea : Nat) : Int)) + 1)))) = false := (by rw [bne_eq_false_iff_eq, hew, wrap_i64 _ (by omega) (by omega)]; unfold imin; split <;> omega)
        refine VT_eq [(7, .bool false), (6, .bool false), (5, .int .i64 (imin ((L.length : Nat) : Int) (IntKind.wrap .i64 ((IntKind.wrap .i64 ((ea : Nat) : Int)) + 1)))), (4, .int .i64 (IntKind.wrap .i64 ((IntKind.wrap .i64 ((ea : Nat) : Int)) + 1))), (3, .int .i64 (IntKind.wrap .i64 ((ea : Nat) : Int))), (2, .int .u8 ((ea : Nat) : Int)), (1, .int .i64 ((L.length : Nat) : Int)), (0, .int .i64 ((ea + 1 : Nat) : Int))] (by simp only [hg15, Bool.not_true, Bool.not_false]) ?_
        refine VT_load (d := 76) (t := 24) (a := ⟨b6, 0, none⟩) (v := .pointer (some ⟨tb1, 0, none⟩)) (by kernel_rfl) (by kernel_rfl) ?_ ?_
        · intro w120 hr23
          replace hT := Tb.step hT hr23 (by (try simp only); omega)
          replace hS := Step.transNew hS hr23 (fun i hi hG => by (try simp only at hG); omega)
          replace ho1 := ho1.step hr23 (by (try simp only); omega)
          replace ho2 := ho2.step hr23 (by (try simp only); omega)
          replace ho3 := ho3.step hr23 (by (try simp only); omega)
          replace ho4 := ho4.step hr23 (by (try simp only); omega)
          replace ho5 := ho5.step hr23 (by (try simp only); omega)
          replace ho8 := ho8.step hr23 (by (try simp only); omega)
          replace ho10 := ho10.step hr23 (by (try simp only); omega)
          replace ho11 := ho11.step hr23 (by (try simp only); omega)
          replace hbb1 := hbb1.step hr23 (by (try simp only); omega)
          replace hmk2 := hmk2.step hr23 (by (try simp only); omega)
          exact (Loads.own1 ho8 (by kernel_rfl) (by rfl))
        refine VT_pures 1 (kn' := [(10, .int .i64 ((L.length : Nat) : Int)), (8, .pointer (some ⟨tb1, 0, none⟩)), (7, .bool false), (6, .bool false), (5, .int .i64 (imin ((L.length : Nat) : Int) (IntKind.wrap .i64 ((IntKind.wrap .i64 ((ea : Nat) : Int)) + 1)))), (4, .int .i64 (IntKind.wrap .i64 ((IntKind.wrap .i64 ((ea : Nat) : Int)) + 1))), (3, .int .i64 (IntKind.wrap .i64 ((ea : Nat) : Int))), (2, .int .u8 ((ea : Nat) : Int)), (1, .int .i64 ((L.length : Nat) : Int)), (0, .int .i64 ((ea + 1 : Nat) : Int))]) (by kernel_rfl) ?_
        refine VT_load (d := 79) (t := 3) (a := ⟨b7, 0, none⟩) (v := .int .i64 ((ea + 1 : Nat) : Int)) (by kernel_rfl) (by kernel_rfl) ?_ ?_
        · intro w121 hr24
          replace hT := Tb.step hT hr24 (by (try simp only); omega)
          replace hS := Step.transNew hS hr24 (fun i hi hG => by (try simp only at hG); omega)
          replace ho1 := ho1.step hr24 (by (try simp only); omega)
          replace ho2 := ho2.step hr24 (by (try simp only); omega)
          replace ho3 := ho3.step hr24 (by (try simp only); omega)
          replace ho4 := ho4.step hr24 (by (try simp only); omega)
          replace ho5 := ho5.step hr24 (by (try simp only); omega)
          replace ho8 := ho8.step hr24 (by (try simp only); omega)
          replace ho10 := ho10.step hr24 (by (try simp only); omega)
          replace ho11 := ho11.step hr24 (by (try simp only); omega)
          replace hbb1 := hbb1.step hr24 (by (try simp only); omega)
          replace hmk2 := hmk2.step hr24 (by (try simp only); omega)
          exact (Loads.own1 ho10 (by kernel_rfl) (by rfl))
        refine VT_pures 1 (kn' := [(12, .int .i64 (IntKind.wrap .i64 (((L.length : Nat) : Int) - ((ea + 1 : Nat) : Int)))), (11, .int .i64 ((ea + 1 : Nat) : Int)), (10, .int .i64 ((L.length : Nat) : Int)), (8, .pointer (some ⟨tb1, 0, none⟩)), (7, .bool false), (6, .bool false), (5, .int .i64 (imin ((L.length : Nat) : Int) (IntKind.wrap .i64 ((IntKind.wrap .i64 ((ea : Nat) : Int)) + 1)))), (4, .int .i64 (IntKind.wrap .i64 ((IntKind.wrap .i64 ((ea : Nat) : Int)) + 1))), (3, .int .i64 (IntKind.wrap .i64 ((ea : Nat) : Int))), (2, .int .u8 ((ea : Nat) : Int)), (1, .int .i64 ((L.length : Nat) : Int)), (0, .int .i64 ((ea + 1 : Nat) : Int))]) (by kernel_rfl) ?_
        refine VT_chain (by kernel_rfl) ?_
        intro w122 hs18
        have hzhs18 := hs18.size
        replace hT := Tb.no hT hs18
        replace hS := Step.trans hS hs18
        replace ho1 := ho1.no hs18
        replace ho2 := ho2.no hs18
        replace ho3 := ho3.no hs18
        replace ho4 := ho4.no hs18
        replace ho5 := ho5.no hs18
        replace ho8 := ho8.no hs18
        replace ho10 := ho10.no hs18
        replace ho11 := ho11.no hs18
        replace hbb1 := hbb1.no hs18
        replace hmk2 := hmk2.no hs18
        have hzl352 := Tb.lt hT
        have hzs64 := hS.size
        have hzl353 := ho1.lt
        have hzl354 := ho2.lt
        have hzl355 := ho3.lt
        have hzl356 := ho4.lt
        have hzl357 := ho5.lt
        have hzl358 := ho8.lt
        have hzl359 := ho10.lt
        have hzl360 := ho11.lt
        have hzl361 := hbb1.lt
        have hzl362 := hmk2.lt
        refine VTc_call (d := 77) (f := 15) (args := #[.pointer (some ⟨tb1, 0, none⟩)]) (by kernel_rfl) (by kernel_rfl) (by kernel_rfl) Try.call15 (tlen hT) ?_ ?_
        · rintro _ w123 ⟨rfl, hc29⟩
          exact Step.mono hc29 (by intro i hi; first | exact hi.elim | ((try simp only at hi ⊢); omega))
        rintro _ w123 ⟨rfl, hc29⟩
        have hzhc29 := (hc29).size
        replace hT := Tb.no hT hc29
        replace hS := Step.trans hS hc29
        replace ho1 := ho1.no hc29
        replace ho2 := ho2.no hc29
        replace ho3 := ho3.no hc29
        replace ho4 := ho4.no hc29
        replace ho5 := ho5.no hc29
        replace ho8 := ho8.no hc29
        replace ho10 := ho10.no hc29
        replace ho11 := ho11.no hc29
        replace hbb1 := hbb1.no hc29
        replace hmk2 := hmk2.no hc29
        refine VT_end ?_
        intro w124 hs19
        replace hT := Tb.no hT hs19
        replace hS := Step.trans hS hs19
        replace ho1 := ho1.no hs19
        replace ho2 := ho2.no hs19
        replace ho3 := ho3.no hs19
        replace ho4 := ho4.no hs19
        replace ho5 := ho5.no hs19
        replace ho8 := ho8.no hs19
        replace ho10 := ho10.no hs19
        replace ho11 := ho11.no hs19
        replace hbb1 := hbb1.no hs19
        replace hmk2 := hmk2.no hs19
        refine VL_keep [6, 7, 8, 10, 75, 80, 77] [(6, .pointer (some ⟨b1, 0, none⟩)), (7, .pointer (some ⟨b2, 0, none⟩)), (8, .pointer (some ⟨b3, 0, none⟩)), (10, .pointer (some ⟨b5, 0, none⟩)), (75, .bool false), (80, .int .i64 (IntKind.wrap .i64 (((L.length : Nat) : Int) - ((ea + 1 : Nat) : Int)))), (77, .int .i64 (((L.drop (ea + 1)).length : Nat) : Int))] (by kernel_rfl) ?_
        refine VL_pure 15 [6, 7, 8, 10, 82] [(6, .pointer (some ⟨b1, 0, none⟩)), (7, .pointer (some ⟨b2, 0, none⟩)), (8, .pointer (some ⟨b3, 0, none⟩)), (10, .pointer (some ⟨b5, 0, none⟩)), (82, .bool ((((L.drop (ea + 1)).length : Nat) : Int) != (IntKind.wrap .i64 (((L.length : Nat) : Int) - ((ea + 1 : Nat) : Int)))))] (by kernel_rfl) rfl ?_
        refine VL_end (by kernel_rfl) ?_
        refine VQ_next ?_
        refine VC_is (b := (((L.drop (ea + 1)).length : Nat) : Int) != (IntKind.wrap .i64 (((L.length : Nat) : Int) - ((ea + 1 : Nat) : Int)))) false (by kernel_rfl) (by rw [bne_eq_false_iff_eq, List.length_drop, wrap_i64 _ (by omega) (by omega)]; omega) ?_
        refine VC_ite_false ?_
        refine VC_skip ?_
        refine VQ_next ?_
        refine VC_seq ?_
        refine VC_seq ?_
        have hs20 := drew_step w124
        have hs20z : w124.heap.size = w124.drew.heap.size := rfl
        refine VC_text [[], [], [0, 1], [0, 1, 2], [0, 1, 2, 3], [0, 1, 2, 3], [0, 1, 2, 3, 4, 5], [0, 1, 2, 3, 4, 5, 6], [0, 1, 2, 3, 4, 5, 6, 7], [0, 1, 2, 3, 4, 5, 6, 7, 8], [0, 1, 2, 3, 4, 5, 6, 7, 8], [0, 1, 2, 3, 4, 5, 6, 7, 8, 9, 10], [0, 1, 2, 3, 4, 5, 6, 7, 8], [0, 1, 2, 3, 4, 5, 6, 7, 8], [0, 1, 2, 3, 4, 5, 6, 7, 8, 12, 13], [0, 1, 2, 3, 4, 5, 6, 7, 8, 12, 13, 14], [0, 1, 2, 3, 4, 5, 6, 7, 8, 12, 13, 14, 15], [0, 1, 2, 3, 4, 5, 6, 7, 8, 12, 13, 14, 15], [0, 1, 2, 3, 4, 5, 6, 7, 8, 12, 13, 14, 15, 16, 17], [0, 1, 2, 3, 4, 5, 6, 7, 8, 12, 13, 14, 15, 16, 17, 18], [0, 1, 2, 3, 4, 5, 6, 7, 8, 9, 10, 11, 12, 13, 14, 15, 16, 17, 18, 19], [0, 1, 2, 3, 4, 5, 6, 7, 8, 9, 10, 11, 12, 13, 14, 15, 16, 17, 18, 19, 20]] 20 (fun x y => Step (fun k => w124.heap.size ≤ k) x y) [2, 6, 14, 18] [0, 1, 2, 3, 4, 5, 6, 7, 8, 9, 10, 11, 12, 13, 14, 15, 16, 17, 18, 19] (by kernel_rfl) (by kernel_rfl) (by kernel_rfl) (by kernel_rfl) (fun x => Step.refl _ x) (fun h k => Step.trans h k) Step.weak ?_
        have hzs65 := hS.size
        have hzl363 := ho1.lt
        have hzl364 := ho2.lt
        have hzl365 := ho3.lt
        have hzl366 := ho5.lt
        have hzl367 := hmk2.lt
        generalize w124.drew = w125 at hs20 hs20z ⊢
        replace hS := Step.trans hS hs20
        replace ho1 := ho1.no hs20
        replace ho2 := ho2.no hs20
        replace ho3 := ho3.no hs20
        replace ho5 := ho5.no hs20
        replace hmk2 := hmk2.no hs20
        refine VT_load (d := 83) (t := 29) (a := ⟨b1, 0, none⟩) (v := .agg #[.int .i64 ap, .int .i64 av, .int .i64 ac]) (by kernel_rfl) (by kernel_rfl) ?_ ?_
        · intro w126 hr25
          replace hS := Step.transNew hS hr25 (fun i hi hG => by (try simp only at hG); omega)
          replace ho1 := ho1.step hr25 (by (try simp only); omega)
          replace ho2 := ho2.step hr25 (by (try simp only); omega)
          replace ho3 := ho3.step hr25 (by (try simp only); omega)
          replace ho5 := ho5.step hr25 (by (try simp only); omega)
          replace hmk2 := hmk2.step hr25 (by (try simp only); omega)
          exact (Loads.ownL ho1 (n := 3) (by kernel_rfl) (by kernel_rfl) (by kernel_rfl))
        refine VT_load (d := 84) (t := 29) (a := ⟨b2, 0, none⟩) (v := .agg #[.int .i64 bp, .int .i64 bv, .int .i64 bc]) (by kernel_rfl) (by kernel_rfl) ?_ ?_
        · intro w127 hr26
          replace hS := Step.transNew hS hr26 (fun i hi hG => by (try simp only at hG); omega)
          replace ho1 := ho1.step hr26 (by (try simp only); omega)
          replace ho2 := ho2.step hr26 (by (try simp only); omega)
          replace ho3 := ho3.step hr26 (by (try simp only); omega)
          replace ho5 := ho5.step hr26 (by (try simp only); omega)
          replace hmk2 := hmk2.step hr26 (by (try simp only); omega)
          exact (Loads.ownL ho2 (n := 3) (by kernel_rfl) (by kernel_rfl) (by kernel_rfl))
        refine VT_chain (by kernel_rfl) ?_
        intro w128 hs21
        have hzhs21 := hs21.size
        replace hS := Step.trans hS hs21
        replace ho1 := ho1.no hs21
        replace ho2 := ho2.no hs21
        replace ho3 := ho3.no hs21
        replace ho5 := ho5.no hs21
        replace hmk2 := hmk2.no hs21
        have hzs66 := hS.size
        have hzl368 := ho1.lt
        have hzl369 := ho2.lt
        have hzl370 := ho3.lt
        have hzl371 := ho5.lt
        have hzl372 := hmk2.lt
        refine VTc_call (d := 85) (f := 20) (args := #[.agg #[.int .i64 ap, .int .i64 av, .int .i64 ac], .agg #[.int .i64 bp, .int .i64 bv, .int .i64 bc]]) (by kernel_rfl) (by kernel_rfl) (by kernel_rfl) Try.call20 (before_any ap av ac bp bv bc _) ?_ ?_
        · rintro _ w129 ⟨rfl, hc30⟩
          exact Step.mono hc30 (by intro i hi; first | exact hi.elim | ((try simp only at hi ⊢); omega))
        rintro _ w129 ⟨rfl, hc30⟩
        have hzhc30 := (hc30).size
        replace hS := Step.trans hS hc30
        replace ho1 := ho1.no hc30
        replace ho2 := ho2.no hc30
        replace ho3 := ho3.no hc30
        replace ho5 := ho5.no hc30
        replace hmk2 := hmk2.no hc30
        refine VT_pures 1 (kn' := [(3, .bool (befK ap av ac bp bv bc)), (2, .bool (befK ap av ac bp bv bc)), (1, .agg #[.int .i64 bp, .int .i64 bv, .int .i64 bc]), (0, .agg #[.int .i64 ap, .int .i64 av, .int .i64 ac])]) (by kernel_rfl) ?_
        rcases Bool.eq_false_or_eq_true (befK ap av ac bp bv bc) with hg16 | hg16
        · refine VT_eq [(3, .bool true), (2, .bool true), (1, .agg #[.int .i64 bp, .int .i64 bv, .int .i64 bc]), (0, .agg #[.int .i64 ap, .int .i64 av, .int .i64 ac])] (by simp only [hg16, Bool.not_true, Bool.not_false]) ?_
          try simp only [bne_iff_ne, beq_iff_eq, decide_eq_true_eq, decide_eq_false_iff_not, bne_eq_false_iff_eq, beq_eq_false_iff_ne, ne_eq] at hg16
          refine VT_load (d := 87) (t := 29) (a := ⟨b2, 0, none⟩) (v := .agg #[.int .i64 bp, .int .i64 bv, .int .i64 bc]) (by kernel_rfl) (by kernel_rfl) ?_ ?_
          · intro w130 hr27
            replace hS := Step.transNew hS hr27 (fun i hi hG => by (try simp only at hG); omega)
            replace ho1 := ho1.step hr27 (by (try simp only); omega)
            replace ho2 := ho2.step hr27 (by (try simp only); omega)
            replace ho3 := ho3.step hr27 (by (try simp only); omega)
            replace ho5 := ho5.step hr27 (by (try simp only); omega)
            replace hmk2 := hmk2.step hr27 (by (try simp only); omega)
            exact (Loads.ownL ho2 (n := 3) (by kernel_rfl) (by kernel_rfl) (by kernel_rfl))
          refine VT_load (d := 88) (t := 29) (a := ⟨b1, 0, none⟩) (v := .agg #[.int .i64 ap, .int .i64 av, .int .i64 ac]) (by kernel_rfl) (by kernel_rfl) ?_ ?_
          · intro w131 hr28
            replace hS := Step.transNew hS hr28 (fun i hi hG => by (try simp only at hG); omega)
            replace ho1 := ho1.step hr28 (by (try simp only); omega)
            replace ho2 := ho2.step hr28 (by (try simp only); omega)
            replace ho3 := ho3.step hr28 (by (try simp only); omega)
            replace ho5 := ho5.step hr28 (by (try simp only); omega)
            replace hmk2 := hmk2.step hr28 (by (try simp only); omega)
            exact (Loads.ownL ho1 (n := 3) (by kernel_rfl) (by kernel_rfl) (by kernel_rfl))
          refine VT_chain (by kernel_rfl) ?_
          intro w132 hs22
          have hzhs22 := hs22.size
          replace hS := Step.trans hS hs22
          replace ho1 := ho1.no hs22
          replace ho2 := ho2.no hs22
          replace ho3 := ho3.no hs22
          replace ho5 := ho5.no hs22
          replace hmk2 := hmk2.no hs22
          have hzs67 := hS.size
          have hzl373 := ho1.lt
          have hzl374 := ho2.lt
          have hzl375 := ho3.lt
          have hzl376 := ho5.lt
          have hzl377 := hmk2.lt
          refine VTc_call (d := 89) (f := 20) (args := #[.agg #[.int .i64 bp, .int .i64 bv, .int .i64 bc], .agg #[.int .i64 ap, .int .i64 av, .int .i64 ac]]) (by kernel_rfl) (by kernel_rfl) (by kernel_rfl) Try.call20 (before_any bp bv bc ap av ac _) ?_ ?_
          · rintro _ w133 ⟨rfl, hc31⟩
            exact Step.mono hc31 (by intro i hi; first | exact hi.elim | ((try simp only at hi ⊢); omega))
          rintro _ w133 ⟨rfl, hc31⟩
          have hzhc31 := (hc31).size
          replace hS := Step.trans hS hc31
          replace ho1 := ho1.no hc31
          replace ho2 := ho2.no hc31
          replace ho3 := ho3.no hc31
          replace ho5 := ho5.no hc31
          replace hmk2 := hmk2.no hc31
          refine VT_pures 2 (kn' := [(8, .bool (befK bp bv bc ap av ac)), (7, .bool (befK bp bv bc ap av ac)), (6, .bool (befK bp bv bc ap av ac)), (5, .agg #[.int .i64 ap, .int .i64 av, .int .i64 ac]), (4, .agg #[.int .i64 bp, .int .i64 bv, .int .i64 bc]), (3, .bool true), (2, .bool true), (1, .agg #[.int .i64 bp, .int .i64 bv, .int .i64 bc]), (0, .agg #[.int .i64 ap, .int .i64 av, .int .i64 ac])]) (by kernel_rfl) ?_
          rcases Bool.eq_false_or_eq_true (befK bp bv bc ap av ac) with hg17 | hg17
          · refine VT_eq [(8, .bool true), (7, .bool true), (6, .bool true), (5, .agg #[.int .i64 ap, .int .i64 av, .int .i64 ac]), (4, .agg #[.int .i64 bp, .int .i64 bv, .int .i64 bc]), (3, .bool true), (2, .bool true), (1, .agg #[.int .i64 bp, .int .i64 bv, .int .i64 bc]), (0, .agg #[.int .i64 ap, .int .i64 av, .int .i64 ac])] (by simp only [hg17, Bool.not_true, Bool.not_false]) ?_
            try simp only [bne_iff_ne, beq_iff_eq, decide_eq_true_eq, decide_eq_false_iff_not, bne_eq_false_iff_eq, beq_eq_false_iff_ne, ne_eq] at hg17
            refine VT_pures 11 (kn' := [(19, undef), (18, undef), (17, undef), (16, undef), (15, undef), (14, undef), (13, undef), (12, undef), (11, undef), (10, undef), (9, undef), (8, .bool true), (7, .bool true), (6, .bool true), (5, .agg #[.int .i64 ap, .int .i64 av, .int .i64 ac]), (4, .agg #[.int .i64 bp, .int .i64 bv, .int .i64 bc]), (3, .bool true), (2, .bool true), (1, .agg #[.int .i64 bp, .int .i64 bv, .int .i64 bc]), (0, .agg #[.int .i64 ap, .int .i64 av, .int .i64 ac])]) (by kernel_rfl) ?_
            refine VT_end ?_
            intro w134 hs23
            replace hS := Step.trans hS hs23
            replace ho1 := ho1.no hs23
            replace ho2 := ho2.no hs23
            replace ho3 := ho3.no hs23
            replace ho5 := ho5.no hs23
            replace hmk2 := hmk2.no hs23
            refine VL_keep [6, 7, 8, 10, 91, 94, 102] [(6, .pointer (some ⟨b1, 0, none⟩)), (7, .pointer (some ⟨b2, 0, none⟩)), (8, .pointer (some ⟨b3, 0, none⟩)), (10, .pointer (some ⟨b5, 0, none⟩)), (91, .bool true), (94, undef), (102, undef)] (by kernel_rfl) ?_
            refine VL_pure 22 [6, 7, 8, 10, 104] [(6, .pointer (some ⟨b1, 0, none⟩)), (7, .pointer (some ⟨b2, 0, none⟩)), (8, .pointer (some ⟨b3, 0, none⟩)), (10, .pointer (some ⟨b5, 0, none⟩)), (104, .bool true)] (by kernel_rfl) rfl ?_
            refine VL_end (by kernel_rfl) ?_
            refine VQ_next ?_
            refine VC_true (by kernel_rfl) ?_
            refine VC_seq ?_
            refine VC_region ?_
            refine VL_store (b := b5) (o := 0) (vs := [.bool false]) (by kernel_rfl) (by kernel_rfl) ho5 (Nat.le_of_ble_eq_true (by kernel_rfl)) ?_
            intro w135 hw24
            replace hS := Step.transNew hS hw24.step (fun _ _ _ => by omega)
            replace ho1 := ho1.step hw24.step (show ¬ b1 = b5 by omega)
            replace ho2 := ho2.step hw24.step (show ¬ b2 = b5 by omega)
            replace ho3 := ho3.step hw24.step (show ¬ b3 = b5 by omega)
            replace hmk2 := hmk2.step hw24.step (show ¬ w19.heap.size = b5 by omega)
            have ho33 : Own w135 b5 #[.bool false] 4 := Own.cast hw24.own (by kernel_rfl)
            have hzhw24 := hw24.same
            refine VL_end (by kernel_rfl) ?_
            refine VQ_next ?_
            refine VC_ret ?_
            refine VQ_then_ret ?_
            have hzs68 := hS.size
            have hzl378 := ho1.lt
            have hzl379 := ho2.lt
            have hzl380 := ho3.lt
            have hzl381 := hmk2.lt
            have hzl382 := ho33.lt
            have hzr := ho33.lt
            refine VQ_retMC1 (.bool false) [w19.heap.size] (.inr rfl) rfl rfl ⟨hmk2, (by simp), trivial⟩ (fun w9 hq9 => Loads.own1 (ho33.step hq9 (by simp; try omega)) (by kernel_rfl) rfl) ?_
            intro w136 hq17
            replace hq17 : Step (Just w19.heap.size) w135 w136 := Step.mono hq17 (fun i hi => by simpa using hi)
            replace hS := Step.transNew hS hq17 (fun _ _ _ => by omega)
            replace ho1 := ho1.step hq17 (show ¬ b1 = w19.heap.size by omega)
            replace ho2 := ho2.step hq17 (show ¬ b2 = w19.heap.size by omega)
            replace ho3 := ho3.step hq17 (show ¬ b3 = w19.heap.size by omega)
            replace ho33 := ho33.step hq17 (show ¬ b5 = w19.heap.size by omega)
            exact ⟨congrArg Value.bool (by (try simp only [befK_iff, befK_false, eqK, decide_eq_true_eq, decide_eq_false_iff_not] at *); first | rfl | omega), hS⟩
          · refine VT_eq [(8, .bool false), (7, .bool false), (6, .bool false), (5, .agg #[.int .i64 ap, .int .i64 av, .int .i64 ac]), (4, .agg #[.int .i64 bp, .int .i64 bv, .int .i64 bc]), (3, .bool true), (2, .bool true), (1, .agg #[.int .i64 bp, .int .i64 bv, .int .i64 bc]), (0, .agg #[.int .i64 ap, .int .i64 av, .int .i64 ac])] (by simp only [hg17, Bool.not_true, Bool.not_false]) ?_
            try simp only [bne_iff_ne, beq_iff_eq, decide_eq_true_eq, decide_eq_false_iff_not, bne_eq_false_iff_eq, beq_eq_false_iff_ne, ne_eq] at hg17
            refine VT_load (d := 92) (t := 29) (a := ⟨b1, 0, none⟩) (v := .agg #[.int .i64 ap, .int .i64 av, .int .i64 ac]) (by kernel_rfl) (by kernel_rfl) ?_ ?_
            · intro w137 hr29
              replace hS := Step.transNew hS hr29 (fun i hi hG => by (try simp only at hG); omega)
              replace ho1 := ho1.step hr29 (by (try simp only); omega)
              replace ho2 := ho2.step hr29 (by (try simp only); omega)
              replace ho3 := ho3.step hr29 (by (try simp only); omega)
              replace ho5 := ho5.step hr29 (by (try simp only); omega)
              replace hmk2 := hmk2.step hr29 (by (try simp only); omega)
              exact (Loads.ownL ho1 (n := 3) (by kernel_rfl) (by kernel_rfl) (by kernel_rfl))
            refine VT_load (d := 93) (t := 29) (a := ⟨b2, 0, none⟩) (v := .agg #[.int .i64 bp, .int .i64 bv, .int .i64 bc]) (by kernel_rfl) (by kernel_rfl) ?_ ?_
            · intro w138 hr30
              replace hS := Step.transNew hS hr30 (fun i hi hG => by (try simp only at hG); omega)
              replace ho1 := ho1.step hr30 (by (try simp only); omega)
              replace ho2 := ho2.step hr30 (by (try simp only); omega)
              replace ho3 := ho3.step hr30 (by (try simp only); omega)
              replace ho5 := ho5.step hr30 (by (try simp only); omega)
              replace hmk2 := hmk2.step hr30 (by (try simp only); omega)
              exact (Loads.ownL ho2 (n := 3) (by kernel_rfl) (by kernel_rfl) (by kernel_rfl))
            refine VT_agEq (d := 94) (dd := 9) (ls := ([.int .i64] ++ [.int .i64] ++ [.int .i64] ++ [])) (pos := true) (t := 29) (xs := #[.int .i64 ap, .int .i64 av, .int .i64 ac]) (ys := #[.int .i64 bp, .int .i64 bv, .int .i64 bc]) (by kernel_rfl) (by kernel_rfl) (by kernel_rfl) (by kernel_rfl) (by first | exact ⟨⟨_, rfl⟩, ⟨_, rfl⟩, ⟨_, rfl⟩, trivial⟩ | trivial) (by first | exact ⟨⟨_, rfl⟩, ⟨_, rfl⟩, ⟨_, rfl⟩, trivial⟩ | trivial) (eqK ap av ac bp bv bc) (by rw [Bool.eq_iff_iff]; simp [cellsEq, leafEq, eqK]) ?_
            refine VT_load (d := 95) (t := 29) (a := ⟨b1, 0, none⟩) (v := .agg #[.int .i64 ap, .int .i64 av, .int .i64 ac]) (by kernel_rfl) (by kernel_rfl) ?_ ?_
            · intro w139 hr31
              replace hS := Step.transNew hS hr31 (fun i hi hG => by (try simp only at hG); omega)
              replace ho1 := ho1.step hr31 (by (try simp only); omega)
              replace ho2 := ho2.step hr31 (by (try simp only); omega)
              replace ho3 := ho3.step hr31 (by (try simp only); omega)
              replace ho5 := ho5.step hr31 (by (try simp only); omega)
              replace hmk2 := hmk2.step hr31 (by (try simp only); omega)
              exact (Loads.ownL ho1 (n := 3) (by kernel_rfl) (by kernel_rfl) (by kernel_rfl))
            refine VT_load (d := 96) (t := 29) (a := ⟨b2, 0, none⟩) (v := .agg #[.int .i64 bp, .int .i64 bv, .int .i64 bc]) (by kernel_rfl) (by kernel_rfl) ?_ ?_
            · intro w140 hr32
              replace hS := Step.transNew hS hr32 (fun i hi hG => by (try simp only at hG); omega)
              replace ho1 := ho1.step hr32 (by (try simp only); omega)
              replace ho2 := ho2.step hr32 (by (try simp only); omega)
              replace ho3 := ho3.step hr32 (by (try simp only); omega)
              replace ho5 := ho5.step hr32 (by (try simp only); omega)
              replace hmk2 := hmk2.step hr32 (by (try simp only); omega)
              exact (Loads.ownL ho2 (n := 3) (by kernel_rfl) (by kernel_rfl) (by kernel_rfl))
            refine VT_chain (by kernel_rfl) ?_
            intro w141 hs24
            have hzhs24 := hs24.size
            replace hS := Step.trans hS hs24
            replace ho1 := ho1.no hs24
            replace ho2 := ho2.no hs24
            replace ho3 := ho3.no hs24
            replace ho5 := ho5.no hs24
            replace hmk2 := hmk2.no hs24
            have hzs69 := hS.size
            have hzl383 := ho1.lt
            have hzl384 := ho2.lt
            have hzl385 := ho3.lt
            have hzl386 := ho5.lt
            have hzl387 := hmk2.lt
            refine VTc_call (d := 97) (f := 20) (args := #[.agg #[.int .i64 ap, .int .i64 av, .int .i64 ac], .agg #[.int .i64 bp, .int .i64 bv, .int .i64 bc]]) (by kernel_rfl) (by kernel_rfl) (by kernel_rfl) Try.call20 (before_any ap av ac bp bv bc _) ?_ ?_
            · rintro _ w142 ⟨rfl, hc32⟩
              exact Step.mono hc32 (by intro i hi; first | exact hi.elim | ((try simp only at hi ⊢); omega))
            rintro _ w142 ⟨rfl, hc32⟩
            have hzhc32 := (hc32).size
            replace hS := Step.trans hS hc32
            replace ho1 := ho1.no hc32
            replace ho2 := ho2.no hc32
            replace ho3 := ho3.no hc32
            replace ho5 := ho5.no hc32
            replace hmk2 := hmk2.no hc32
            refine VT_pures 1 (kn' := [(15, .bool (befK ap av ac bp bv bc)), (14, .bool (befK ap av ac bp bv bc)), (13, .agg #[.int .i64 bp, .int .i64 bv, .int .i64 bc]), (12, .agg #[.int .i64 ap, .int .i64 av, .int .i64 ac]), (11, .bool (eqK ap av ac bp bv bc)), (10, .agg #[.int .i64 bp, .int .i64 bv, .int .i64 bc]), (9, .agg #[.int .i64 ap, .int .i64 av, .int .i64 ac]), (8, .bool false), (7, .bool false), (6, .bool false), (5, .agg #[.int .i64 ap, .int .i64 av, .int .i64 ac]), (4, .agg #[.int .i64 bp, .int .i64 bv, .int .i64 bc]), (3, .bool true), (2, .bool true), (1, .agg #[.int .i64 bp, .int .i64 bv, .int .i64 bc]), (0, .agg #[.int .i64 ap, .int .i64 av, .int .i64 ac])]) (by kernel_rfl) ?_
            rcases Bool.eq_false_or_eq_true (befK ap av ac bp bv bc) with hg18 | hg18
            · refine VT_eq [(15, .bool true), (14, .bool true), (13, .agg #[.int .i64 bp, .int .i64 bv, .int .i64 bc]), (12, .agg #[.int .i64 ap, .int .i64 av, .int .i64 ac]), (11, .bool (eqK ap av ac bp bv bc)), (10, .agg #[.int .i64 bp, .int .i64 bv, .int .i64 bc]), (9, .agg #[.int .i64 ap, .int .i64 av, .int .i64 ac]), (8, .bool false), (7, .bool false), (6, .bool false), (5, .agg #[.int .i64 ap, .int .i64 av, .int .i64 ac]), (4, .agg #[.int .i64 bp, .int .i64 bv, .int .i64 bc]), (3, .bool true), (2, .bool true), (1, .agg #[.int .i64 bp, .int .i64 bv, .int .i64 bc]), (0, .agg #[.int .i64 ap, .int .i64 av, .int .i64 ac])] (by simp only [hg18, Bool.not_true, Bool.not_false]) ?_
              try simp only [bne_iff_ne, beq_iff_eq, decide_eq_true_eq, decide_eq_false_iff_not, bne_eq_false_iff_eq, beq_eq_false_iff_ne, ne_eq] at hg18
              refine VT_pures 4 (kn' := [(19, .bool true), (18, undef), (17, undef), (16, undef), (15, .bool true), (14, .bool true), (13, .agg #[.int .i64 bp, .int .i64 bv, .int .i64 bc]), (12, .agg #[.int .i64 ap, .int .i64 av, .int .i64 ac]), (11, .bool (eqK ap av ac bp bv bc)), (10, .agg #[.int .i64 bp, .int .i64 bv, .int .i64 bc]), (9, .agg #[.int .i64 ap, .int .i64 av, .int .i64 ac]), (8, .bool false), (7, .bool false), (6, .bool false), (5, .agg #[.int .i64 ap, .int .i64 av, .int .i64 ac]), (4, .agg #[.int .i64 bp, .int .i64 bv, .int .i64 bc]), (3, .bool true), (2, .bool true), (1, .agg #[.int .i64 bp, .int .i64 bv, .int .i64 bc]), (0, .agg #[.int .i64 ap, .int .i64 av, .int .i64 ac])]) (by kernel_rfl) ?_
              refine VT_end ?_
              intro w143 hs25
              replace hS := Step.trans hS hs25
              replace ho1 := ho1.no hs25
              replace ho2 := ho2.no hs25
              replace ho3 := ho3.no hs25
              replace ho5 := ho5.no hs25
              replace hmk2 := hmk2.no hs25
              refine VL_keep [6, 7, 8, 10, 91, 94, 102] [(6, .pointer (some ⟨b1, 0, none⟩)), (7, .pointer (some ⟨b2, 0, none⟩)), (8, .pointer (some ⟨b3, 0, none⟩)), (10, .pointer (some ⟨b5, 0, none⟩)), (91, .bool false), (94, .bool (eqK ap av ac bp bv bc)), (102, .bool true)] (by kernel_rfl) ?_
              refine VL_pure 22 [6, 7, 8, 10, 104] [(6, .pointer (some ⟨b1, 0, none⟩)), (7, .pointer (some ⟨b2, 0, none⟩)), (8, .pointer (some ⟨b3, 0, none⟩)), (10, .pointer (some ⟨b5, 0, none⟩)), (104, .bool ((eqK ap av ac bp bv bc) == true))] (by kernel_rfl) rfl ?_
              refine VL_end (by kernel_rfl) ?_
              refine VQ_next ?_
              refine VC_cond ((eqK ap av ac bp bv bc) == true) (by kernel_rfl) (fun h7 => ?_) (fun h7 => ?_)
              · try simp only [Bool.and_eq_true, Bool.or_eq_true, decide_eq_true_eq, Bool.not_eq_true', decide_eq_false_iff_not, Bool.and_eq_false_iff, Bool.or_eq_false_iff, beq_iff_eq, bne_iff_ne, beq_eq_false_iff_ne, bne_eq_false_iff_eq, Bool.not_eq_eq_eq_not, Bool.not_true, Bool.not_false] at h7
                refine VC_seq ?_
                refine VC_region ?_
                refine VL_store (b := b5) (o := 0) (vs := [.bool false]) (by kernel_rfl) (by kernel_rfl) ho5 (Nat.le_of_ble_eq_true (by kernel_rfl)) ?_
                intro w144 hw25
                replace hS := Step.transNew hS hw25.step (fun _ _ _ => by omega)
                replace ho1 := ho1.step hw25.step (show ¬ b1 = b5 by omega)
                replace ho2 := ho2.step hw25.step (show ¬ b2 = b5 by omega)
                replace ho3 := ho3.step hw25.step (show ¬ b3 = b5 by omega)
                replace hmk2 := hmk2.step hw25.step (show ¬ w19.heap.size = b5 by omega)
                have ho34 : Own w144 b5 #[.bool false] 4 := Own.cast hw25.own (by kernel_rfl)
                have hzhw25 := hw25.same
                refine VL_end (by kernel_rfl) ?_
                refine VQ_next ?_
                refine VC_ret ?_
                refine VQ_then_ret ?_
                have hzs70 := hS.size
                have hzl388 := ho1.lt
                have hzl389 := ho2.lt
                have hzl390 := ho3.lt
                have hzl391 := hmk2.lt
                have hzl392 := ho34.lt
                have hzr := ho34.lt
                refine VQ_retMC1 (.bool false) [w19.heap.size] (.inr rfl) rfl rfl ⟨hmk2, (by simp), trivial⟩ (fun w9 hq9 => Loads.own1 (ho34.step hq9 (by simp; try omega)) (by kernel_rfl) rfl) ?_
                intro w145 hq18
                replace hq18 : Step (Just w19.heap.size) w144 w145 := Step.mono hq18 (fun i hi => by simpa using hi)
                replace hS := Step.transNew hS hq18 (fun _ _ _ => by omega)
                replace ho1 := ho1.step hq18 (show ¬ b1 = w19.heap.size by omega)
                replace ho2 := ho2.step hq18 (show ¬ b2 = w19.heap.size by omega)
                replace ho3 := ho3.step hq18 (show ¬ b3 = w19.heap.size by omega)
                replace ho34 := ho34.step hq18 (show ¬ b5 = w19.heap.size by omega)
                exact ⟨congrArg Value.bool (by (try simp only [befK_iff, befK_false, eqK, decide_eq_true_eq, decide_eq_false_iff_not] at *); first | rfl | omega), hS⟩
              · try simp only [Bool.and_eq_true, Bool.or_eq_true, decide_eq_true_eq, Bool.not_eq_true', decide_eq_false_iff_not, Bool.and_eq_false_iff, Bool.or_eq_false_iff, beq_iff_eq, bne_iff_ne, beq_eq_false_iff_ne, bne_eq_false_iff_eq, Bool.not_eq_eq_eq_not, Bool.not_true, Bool.not_false] at h7
                refine VC_skip ?_
                refine VQ_next ?_
                refine VC_seq ?_
                refine VC_region ?_
                refine VL_load (d := 105) (t := 29) (a := ⟨b1, 0, none⟩) (v := .agg #[.int .i64 ap, .int .i64 av, .int .i64 ac]) (by kernel_rfl) (by kernel_rfl) (Loads.ownL ho1 (n := 3) (by kernel_rfl) (by kernel_rfl) (by kernel_rfl)) ?_
                refine VL_load (d := 106) (t := 29) (a := ⟨b2, 0, none⟩) (v := .agg #[.int .i64 bp, .int .i64 bv, .int .i64 bc]) (by kernel_rfl) (by kernel_rfl) (Loads.ownL ho2 (n := 3) (by kernel_rfl) (by kernel_rfl) (by kernel_rfl)) ?_
                have hzs71 := hS.size
                have hzl393 := ho1.lt
                have hzl394 := ho2.lt
                have hzl395 := ho3.lt
                have hzl396 := ho5.lt
                have hzl397 := hmk2.lt
                refine VL_call (d := 107) (f := 20) (args := #[.agg #[.int .i64 ap, .int .i64 av, .int .i64 ac], .agg #[.int .i64 bp, .int .i64 bv, .int .i64 bc]]) (by kernel_rfl) (by kernel_rfl) (by kernel_rfl) Try.call20 (before_any ap av ac bp bv bc _) ?_
                rintro _ w146 ⟨rfl, hc33⟩
                replace hS := Step.trans hS hc33
                replace ho1 := ho1.no hc33
                replace ho2 := ho2.no hc33
                replace ho3 := ho3.no hc33
                replace ho5 := ho5.no hc33
                replace hmk2 := hmk2.no hc33
                refine VL_pure 5 [6, 7, 8, 10, 109] [(6, .pointer (some ⟨b1, 0, none⟩)), (7, .pointer (some ⟨b2, 0, none⟩)), (8, .pointer (some ⟨b3, 0, none⟩)), (10, .pointer (some ⟨b5, 0, none⟩)), (109, .bool (!(befK ap av ac bp bv bc)))] (by kernel_rfl) rfl ?_
                refine VL_bool (befK ap av ac bp bv bc) (fun bV => [(6, .pointer (some ⟨b1, 0, none⟩)), (7, .pointer (some ⟨b2, 0, none⟩)), (8, .pointer (some ⟨b3, 0, none⟩)), (10, .pointer (some ⟨b5, 0, none⟩)), (109, .bool (!bV))]) rfl (fun hg19 => ?_) (fun hg19 => ?_)
                · refine VL_load (d := 110) (t := 29) (a := ⟨b2, 0, none⟩) (v := .agg #[.int .i64 bp, .int .i64 bv, .int .i64 bc]) (by kernel_rfl) (by kernel_rfl) (Loads.ownL ho2 (n := 3) (by kernel_rfl) (by kernel_rfl) (by kernel_rfl)) ?_
                  refine VL_load (d := 111) (t := 29) (a := ⟨b3, 0, none⟩) (v := .agg #[.int .i64 dp, .int .i64 dv, .int .i64 dc]) (by kernel_rfl) (by kernel_rfl) (Loads.ownL ho3 (n := 3) (by kernel_rfl) (by kernel_rfl) (by kernel_rfl)) ?_
                  have hzs72 := hS.size
                  have hzl398 := ho1.lt
                  have hzl399 := ho2.lt
                  have hzl400 := ho3.lt
                  have hzl401 := ho5.lt
                  have hzl402 := hmk2.lt
                  refine VL_call (d := 112) (f := 20) (args := #[.agg #[.int .i64 bp, .int .i64 bv, .int .i64 bc], .agg #[.int .i64 dp, .int .i64 dv, .int .i64 dc]]) (by kernel_rfl) (by kernel_rfl) (by kernel_rfl) Try.call20 (before_any bp bv bc dp dv dc _) ?_
                  rintro _ w147 ⟨rfl, hc34⟩
                  replace hS := Step.trans hS hc34
                  replace ho1 := ho1.no hc34
                  replace ho2 := ho2.no hc34
                  replace ho3 := ho3.no hc34
                  replace ho5 := ho5.no hc34
                  replace hmk2 := hmk2.no hc34
                  refine VL_pure 11 [6, 8, 10, 115] [(6, .pointer (some ⟨b1, 0, none⟩)), (8, .pointer (some ⟨b3, 0, none⟩)), (10, .pointer (some ⟨b5, 0, none⟩)), (115, .bool (!(befK bp bv bc dp dv dc)))] (by kernel_rfl) rfl ?_
                  refine VL_bool (befK bp bv bc dp dv dc) (fun bV => [(6, .pointer (some ⟨b1, 0, none⟩)), (8, .pointer (some ⟨b3, 0, none⟩)), (10, .pointer (some ⟨b5, 0, none⟩)), (115, .bool (!bV))]) rfl (fun hg20 => ?_) (fun hg20 => ?_)
                  · refine VL_load (d := 116) (t := 29) (a := ⟨b1, 0, none⟩) (v := .agg #[.int .i64 ap, .int .i64 av, .int .i64 ac]) (by kernel_rfl) (by kernel_rfl) (Loads.ownL ho1 (n := 3) (by kernel_rfl) (by kernel_rfl) (by kernel_rfl)) ?_
                    refine VL_load (d := 117) (t := 29) (a := ⟨b3, 0, none⟩) (v := .agg #[.int .i64 dp, .int .i64 dv, .int .i64 dc]) (by kernel_rfl) (by kernel_rfl) (Loads.ownL ho3 (n := 3) (by kernel_rfl) (by kernel_rfl) (by kernel_rfl)) ?_
                    have hzs73 := hS.size
                    have hzl403 := ho1.lt
                    have hzl404 := ho2.lt
                    have hzl405 := ho3.lt
                    have hzl406 := ho5.lt
                    have hzl407 := hmk2.lt
                    refine VL_call (d := 118) (f := 20) (args := #[.agg #[.int .i64 ap, .int .i64 av, .int .i64 ac], .agg #[.int .i64 dp, .int .i64 dv, .int .i64 dc]]) (by kernel_rfl) (by kernel_rfl) (by kernel_rfl) Try.call20 (before_any ap av ac dp dv dc _) ?_
                    rintro _ w148 ⟨rfl, hc35⟩
                    replace hS := Step.trans hS hc35
                    replace ho1 := ho1.no hc35
                    replace ho2 := ho2.no hc35
                    replace ho3 := ho3.no hc35
                    replace ho5 := ho5.no hc35
                    replace hmk2 := hmk2.no hc35
                    refine VL_pure 15 [10, 119] [(10, .pointer (some ⟨b5, 0, none⟩)), (119, .bool (befK ap av ac dp dv dc))] (by kernel_rfl) rfl ?_
                    refine VL_store (b := b5) (o := 0) (vs := [.bool (befK ap av ac dp dv dc)]) (by kernel_rfl) (by kernel_rfl) ho5 (Nat.le_of_ble_eq_true (by kernel_rfl)) ?_
                    intro w149 hw26
                    replace hS := Step.transNew hS hw26.step (fun _ _ _ => by omega)
                    replace ho1 := ho1.step hw26.step (show ¬ b1 = b5 by omega)
                    replace ho2 := ho2.step hw26.step (show ¬ b2 = b5 by omega)
                    replace ho3 := ho3.step hw26.step (show ¬ b3 = b5 by omega)
                    replace hmk2 := hmk2.step hw26.step (show ¬ w19.heap.size = b5 by omega)
                    have ho35 : Own w149 b5 #[.bool (befK ap av ac dp dv dc)] 4 := Own.cast hw26.own (by kernel_rfl)
                    have hzhw26 := hw26.same
                    refine VL_end (by kernel_rfl) ?_
                    refine VQ_next ?_
                    refine VC_ret ?_
                    have hzs74 := hS.size
                    have hzl408 := ho1.lt
                    have hzl409 := ho2.lt
                    have hzl410 := ho3.lt
                    have hzl411 := hmk2.lt
                    have hzl412 := ho35.lt
                    have hzr := ho35.lt
                    refine VQ_retMC1 (.bool (befK ap av ac dp dv dc)) [w19.heap.size] (.inr rfl) rfl rfl ⟨hmk2, (by simp), trivial⟩ (fun w9 hq9 => Loads.own1 (ho35.step hq9 (by simp; try omega)) (by kernel_rfl) rfl) ?_
                    intro w150 hq19
                    replace hq19 : Step (Just w19.heap.size) w149 w150 := Step.mono hq19 (fun i hi => by simpa using hi)
                    replace hS := Step.transNew hS hq19 (fun _ _ _ => by omega)
                    replace ho1 := ho1.step hq19 (show ¬ b1 = w19.heap.size by omega)
                    replace ho2 := ho2.step hq19 (show ¬ b2 = w19.heap.size by omega)
                    replace ho3 := ho3.step hq19 (show ¬ b3 = w19.heap.size by omega)
                    replace ho35 := ho35.step hq19 (show ¬ b5 = w19.heap.size by omega)
                    exact ⟨congrArg Value.bool (by (try simp only [befK_iff, befK_false, eqK, decide_eq_true_eq, decide_eq_false_iff_not] at *); first | rfl | omega), hS⟩
                  · refine VL_pure 15 [10, 119] [(10, .pointer (some ⟨b5, 0, none⟩)), (119, .bool true)] (by kernel_rfl) rfl ?_
                    refine VL_store (b := b5) (o := 0) (vs := [.bool true]) (by kernel_rfl) (by kernel_rfl) ho5 (Nat.le_of_ble_eq_true (by kernel_rfl)) ?_
                    intro w151 hw27
                    replace hS := Step.transNew hS hw27.step (fun _ _ _ => by omega)
                    replace ho1 := ho1.step hw27.step (show ¬ b1 = b5 by omega)
                    replace ho2 := ho2.step hw27.step (show ¬ b2 = b5 by omega)
                    replace ho3 := ho3.step hw27.step (show ¬ b3 = b5 by omega)
                    replace hmk2 := hmk2.step hw27.step (show ¬ w19.heap.size = b5 by omega)
                    have ho36 : Own w151 b5 #[.bool true] 4 := Own.cast hw27.own (by kernel_rfl)
                    have hzhw27 := hw27.same
                    refine VL_end (by kernel_rfl) ?_
                    refine VQ_next ?_
                    refine VC_ret ?_
                    have hzs75 := hS.size
                    have hzl413 := ho1.lt
                    have hzl414 := ho2.lt
                    have hzl415 := ho3.lt
                    have hzl416 := hmk2.lt
                    have hzl417 := ho36.lt
                    have hzr := ho36.lt
                    refine VQ_retMC1 (.bool true) [w19.heap.size] (.inr rfl) rfl rfl ⟨hmk2, (by simp), trivial⟩ (fun w9 hq9 => Loads.own1 (ho36.step hq9 (by simp; try omega)) (by kernel_rfl) rfl) ?_
                    intro w152 hq20
                    replace hq20 : Step (Just w19.heap.size) w151 w152 := Step.mono hq20 (fun i hi => by simpa using hi)
                    replace hS := Step.transNew hS hq20 (fun _ _ _ => by omega)
                    replace ho1 := ho1.step hq20 (show ¬ b1 = w19.heap.size by omega)
                    replace ho2 := ho2.step hq20 (show ¬ b2 = w19.heap.size by omega)
                    replace ho3 := ho3.step hq20 (show ¬ b3 = w19.heap.size by omega)
                    replace ho36 := ho36.step hq20 (show ¬ b5 = w19.heap.size by omega)
                    exact ⟨rfl, hS⟩
                · refine VL_pure 15 [10, 119] [(10, .pointer (some ⟨b5, 0, none⟩)), (119, .bool true)] (by kernel_rfl) rfl ?_
                  refine VL_store (b := b5) (o := 0) (vs := [.bool true]) (by kernel_rfl) (by kernel_rfl) ho5 (Nat.le_of_ble_eq_true (by kernel_rfl)) ?_
                  intro w153 hw28
                  replace hS := Step.transNew hS hw28.step (fun _ _ _ => by omega)
                  replace ho1 := ho1.step hw28.step (show ¬ b1 = b5 by omega)
                  replace ho2 := ho2.step hw28.step (show ¬ b2 = b5 by omega)
                  replace ho3 := ho3.step hw28.step (show ¬ b3 = b5 by omega)
                  replace hmk2 := hmk2.step hw28.step (show ¬ w19.heap.size = b5 by omega)
                  have ho37 : Own w153 b5 #[.bool true] 4 := Own.cast hw28.own (by kernel_rfl)
                  have hzhw28 := hw28.same
                  refine VL_end (by kernel_rfl) ?_
                  refine VQ_next ?_
                  refine VC_ret ?_
                  have hzs76 := hS.size
                  have hzl418 := ho1.lt
                  have hzl419 := ho2.lt
                  have hzl420 := ho3.lt
                  have hzl421 := hmk2.lt
                  have hzl422 := ho37.lt
                  have hzr := ho37.lt
                  refine VQ_retMC1 (.bool true) [w19.heap.size] (.inr rfl) rfl rfl ⟨hmk2, (by simp), trivial⟩ (fun w9 hq9 => Loads.own1 (ho37.step hq9 (by simp; try omega)) (by kernel_rfl) rfl) ?_
                  intro w154 hq21
                  replace hq21 : Step (Just w19.heap.size) w153 w154 := Step.mono hq21 (fun i hi => by simpa using hi)
                  replace hS := Step.transNew hS hq21 (fun _ _ _ => by omega)
                  replace ho1 := ho1.step hq21 (show ¬ b1 = w19.heap.size by omega)
                  replace ho2 := ho2.step hq21 (show ¬ b2 = w19.heap.size by omega)
                  replace ho3 := ho3.step hq21 (show ¬ b3 = w19.heap.size by omega)
                  replace ho37 := ho37.step hq21 (show ¬ b5 = w19.heap.size by omega)
                  exact ⟨rfl, hS⟩
            · refine VT_eq [(15, .bool false), (14, .bool false), (13, .agg #[.int .i64 bp, .int .i64 bv, .int .i64 bc]), (12, .agg #[.int .i64 ap, .int .i64 av, .int .i64 ac]), (11, .bool (eqK ap av ac bp bv bc)), (10, .agg #[.int .i64 bp, .int .i64 bv, .int .i64 bc]), (9, .agg #[.int .i64 ap, .int .i64 av, .int .i64 ac]), (8, .bool false), (7, .bool false), (6, .bool false), (5, .agg #[.int .i64 ap, .int .i64 av, .int .i64 ac]), (4, .agg #[.int .i64 bp, .int .i64 bv, .int .i64 bc]), (3, .bool true), (2, .bool true), (1, .agg #[.int .i64 bp, .int .i64 bv, .int .i64 bc]), (0, .agg #[.int .i64 ap, .int .i64 av, .int .i64 ac])] (by simp only [hg18, Bool.not_true, Bool.not_false]) ?_
              try simp only [bne_iff_ne, beq_iff_eq, decide_eq_true_eq, decide_eq_false_iff_not, bne_eq_false_iff_eq, beq_eq_false_iff_ne, ne_eq] at hg18
              refine VT_load (d := 99) (t := 29) (a := ⟨b2, 0, none⟩) (v := .agg #[.int .i64 bp, .int .i64 bv, .int .i64 bc]) (by kernel_rfl) (by kernel_rfl) ?_ ?_
              · intro w155 hr33
                replace hS := Step.transNew hS hr33 (fun i hi hG => by (try simp only at hG); omega)
                replace ho1 := ho1.step hr33 (by (try simp only); omega)
                replace ho2 := ho2.step hr33 (by (try simp only); omega)
                replace ho3 := ho3.step hr33 (by (try simp only); omega)
                replace ho5 := ho5.step hr33 (by (try simp only); omega)
                replace hmk2 := hmk2.step hr33 (by (try simp only); omega)
                exact (Loads.ownL ho2 (n := 3) (by kernel_rfl) (by kernel_rfl) (by kernel_rfl))
              refine VT_load (d := 100) (t := 29) (a := ⟨b1, 0, none⟩) (v := .agg #[.int .i64 ap, .int .i64 av, .int .i64 ac]) (by kernel_rfl) (by kernel_rfl) ?_ ?_
              · intro w156 hr34
                replace hS := Step.transNew hS hr34 (fun i hi hG => by (try simp only at hG); omega)
                replace ho1 := ho1.step hr34 (by (try simp only); omega)
                replace ho2 := ho2.step hr34 (by (try simp only); omega)
                replace ho3 := ho3.step hr34 (by (try simp only); omega)
                replace ho5 := ho5.step hr34 (by (try simp only); omega)
                replace hmk2 := hmk2.step hr34 (by (try simp only); omega)
                exact (Loads.ownL ho1 (n := 3) (by kernel_rfl) (by kernel_rfl) (by kernel_rfl))
              refine VT_chain (by kernel_rfl) ?_
              intro w157 hs26
              have hzhs26 := hs26.size
              replace hS := Step.trans hS hs26
              replace ho1 := ho1.no hs26
              replace ho2 := ho2.no hs26
              replace ho3 := ho3.no hs26
              replace ho5 := ho5.no hs26
              replace hmk2 := hmk2.no hs26
              have hzs77 := hS.size
              have hzl423 := ho1.lt
              have hzl424 := ho2.lt
              have hzl425 := ho3.lt
              have hzl426 := ho5.lt
              have hzl427 := hmk2.lt
              refine VTc_call (d := 101) (f := 20) (args := #[.agg #[.int .i64 bp, .int .i64 bv, .int .i64 bc], .agg #[.int .i64 ap, .int .i64 av, .int .i64 ac]]) (by kernel_rfl) (by kernel_rfl) (by kernel_rfl) Try.call20 (before_any bp bv bc ap av ac _) ?_ ?_
              · rintro _ w158 ⟨rfl, hc36⟩
                exact Step.mono hc36 (by intro i hi; first | exact hi.elim | ((try simp only at hi ⊢); omega))
              rintro _ w158 ⟨rfl, hc36⟩
              have hzhc36 := (hc36).size
              replace hS := Step.trans hS hc36
              replace ho1 := ho1.no hc36
              replace ho2 := ho2.no hc36
              replace ho3 := ho3.no hc36
              replace ho5 := ho5.no hc36
              replace hmk2 := hmk2.no hc36
              refine VT_pures 1 (kn' := [(19, .bool (befK bp bv bc ap av ac)), (18, .bool (befK bp bv bc ap av ac)), (17, .agg #[.int .i64 ap, .int .i64 av, .int .i64 ac]), (16, .agg #[.int .i64 bp, .int .i64 bv, .int .i64 bc]), (15, .bool false), (14, .bool false), (13, .agg #[.int .i64 bp, .int .i64 bv, .int .i64 bc]), (12, .agg #[.int .i64 ap, .int .i64 av, .int .i64 ac]), (11, .bool (eqK ap av ac bp bv bc)), (10, .agg #[.int .i64 bp, .int .i64 bv, .int .i64 bc]), (9, .agg #[.int .i64 ap, .int .i64 av, .int .i64 ac]), (8, .bool false), (7, .bool false), (6, .bool false), (5, .agg #[.int .i64 ap, .int .i64 av, .int .i64 ac]), (4, .agg #[.int .i64 bp, .int .i64 bv, .int .i64 bc]), (3, .bool true), (2, .bool true), (1, .agg #[.int .i64 bp, .int .i64 bv, .int .i64 bc]), (0, .agg #[.int .i64 ap, .int .i64 av, .int .i64 ac])]) (by kernel_rfl) ?_
              refine VT_end ?_
              intro w159 hs27
              replace hS := Step.trans hS hs27
              replace ho1 := ho1.no hs27
              replace ho2 := ho2.no hs27
              replace ho3 := ho3.no hs27
              replace ho5 := ho5.no hs27
              replace hmk2 := hmk2.no hs27
              refine VL_keep [6, 7, 8, 10, 91, 94, 102] [(6, .pointer (some ⟨b1, 0, none⟩)), (7, .pointer (some ⟨b2, 0, none⟩)), (8, .pointer (some ⟨b3, 0, none⟩)), (10, .pointer (some ⟨b5, 0, none⟩)), (91, .bool false), (94, .bool (eqK ap av ac bp bv bc)), (102, .bool (befK bp bv bc ap av ac))] (by kernel_rfl) ?_
              refine VL_pure 22 [6, 7, 8, 10, 104] [(6, .pointer (some ⟨b1, 0, none⟩)), (7, .pointer (some ⟨b2, 0, none⟩)), (8, .pointer (some ⟨b3, 0, none⟩)), (10, .pointer (some ⟨b5, 0, none⟩)), (104, .bool ((eqK ap av ac bp bv bc) == (befK bp bv bc ap av ac)))] (by kernel_rfl) rfl ?_
              refine VL_end (by kernel_rfl) ?_
              refine VQ_next ?_
              refine VC_is (b := (eqK ap av ac bp bv bc) == (befK bp bv bc ap av ac)) false (by kernel_rfl) (by cases hq1 : eqK ap av ac bp bv bc <;> cases hq2 : befK bp bv bc ap av ac <;> first | rfl | (exfalso; simp only [befK_iff, befK_false, eqK, decide_eq_true_eq, decide_eq_false_iff_not] at *; omega)) ?_
              refine VC_ite_false ?_
              refine VC_skip ?_
              refine VQ_next ?_
              refine VC_seq ?_
              refine VC_region ?_
              refine VL_load (d := 105) (t := 29) (a := ⟨b1, 0, none⟩) (v := .agg #[.int .i64 ap, .int .i64 av, .int .i64 ac]) (by kernel_rfl) (by kernel_rfl) (Loads.ownL ho1 (n := 3) (by kernel_rfl) (by kernel_rfl) (by kernel_rfl)) ?_
              refine VL_load (d := 106) (t := 29) (a := ⟨b2, 0, none⟩) (v := .agg #[.int .i64 bp, .int .i64 bv, .int .i64 bc]) (by kernel_rfl) (by kernel_rfl) (Loads.ownL ho2 (n := 3) (by kernel_rfl) (by kernel_rfl) (by kernel_rfl)) ?_
              have hzs78 := hS.size
              have hzl428 := ho1.lt
              have hzl429 := ho2.lt
              have hzl430 := ho3.lt
              have hzl431 := ho5.lt
              have hzl432 := hmk2.lt
              refine VL_call (d := 107) (f := 20) (args := #[.agg #[.int .i64 ap, .int .i64 av, .int .i64 ac], .agg #[.int .i64 bp, .int .i64 bv, .int .i64 bc]]) (by kernel_rfl) (by kernel_rfl) (by kernel_rfl) Try.call20 (before_any ap av ac bp bv bc _) ?_
              rintro _ w160 ⟨rfl, hc37⟩
              replace hS := Step.trans hS hc37
              replace ho1 := ho1.no hc37
              replace ho2 := ho2.no hc37
              replace ho3 := ho3.no hc37
              replace ho5 := ho5.no hc37
              replace hmk2 := hmk2.no hc37
              refine VL_pure 5 [6, 7, 8, 10, 109] [(6, .pointer (some ⟨b1, 0, none⟩)), (7, .pointer (some ⟨b2, 0, none⟩)), (8, .pointer (some ⟨b3, 0, none⟩)), (10, .pointer (some ⟨b5, 0, none⟩)), (109, .bool (!(befK ap av ac bp bv bc)))] (by kernel_rfl) rfl ?_
              refine VL_bool (befK ap av ac bp bv bc) (fun bV => [(6, .pointer (some ⟨b1, 0, none⟩)), (7, .pointer (some ⟨b2, 0, none⟩)), (8, .pointer (some ⟨b3, 0, none⟩)), (10, .pointer (some ⟨b5, 0, none⟩)), (109, .bool (!bV))]) rfl (fun hg21 => ?_) (fun hg21 => ?_)
              · refine VL_load (d := 110) (t := 29) (a := ⟨b2, 0, none⟩) (v := .agg #[.int .i64 bp, .int .i64 bv, .int .i64 bc]) (by kernel_rfl) (by kernel_rfl) (Loads.ownL ho2 (n := 3) (by kernel_rfl) (by kernel_rfl) (by kernel_rfl)) ?_
                refine VL_load (d := 111) (t := 29) (a := ⟨b3, 0, none⟩) (v := .agg #[.int .i64 dp, .int .i64 dv, .int .i64 dc]) (by kernel_rfl) (by kernel_rfl) (Loads.ownL ho3 (n := 3) (by kernel_rfl) (by kernel_rfl) (by kernel_rfl)) ?_
                have hzs79 := hS.size
                have hzl433 := ho1.lt
                have hzl434 := ho2.lt
                have hzl435 := ho3.lt
                have hzl436 := ho5.lt
                have hzl437 := hmk2.lt
                refine VL_call (d := 112) (f := 20) (args := #[.agg #[.int .i64 bp, .int .i64 bv, .int .i64 bc], .agg #[.int .i64 dp, .int .i64 dv, .int .i64 dc]]) (by kernel_rfl) (by kernel_rfl) (by kernel_rfl) Try.call20 (before_any bp bv bc dp dv dc _) ?_
                rintro _ w161 ⟨rfl, hc38⟩
                replace hS := Step.trans hS hc38
                replace ho1 := ho1.no hc38
                replace ho2 := ho2.no hc38
                replace ho3 := ho3.no hc38
                replace ho5 := ho5.no hc38
                replace hmk2 := hmk2.no hc38
                refine VL_pure 11 [6, 8, 10, 115] [(6, .pointer (some ⟨b1, 0, none⟩)), (8, .pointer (some ⟨b3, 0, none⟩)), (10, .pointer (some ⟨b5, 0, none⟩)), (115, .bool (!(befK bp bv bc dp dv dc)))] (by kernel_rfl) rfl ?_
                refine VL_bool (befK bp bv bc dp dv dc) (fun bV => [(6, .pointer (some ⟨b1, 0, none⟩)), (8, .pointer (some ⟨b3, 0, none⟩)), (10, .pointer (some ⟨b5, 0, none⟩)), (115, .bool (!bV))]) rfl (fun hg22 => ?_) (fun hg22 => ?_)
                · refine VL_load (d := 116) (t := 29) (a := ⟨b1, 0, none⟩) (v := .agg #[.int .i64 ap, .int .i64 av, .int .i64 ac]) (by kernel_rfl) (by kernel_rfl) (Loads.ownL ho1 (n := 3) (by kernel_rfl) (by kernel_rfl) (by kernel_rfl)) ?_
                  refine VL_load (d := 117) (t := 29) (a := ⟨b3, 0, none⟩) (v := .agg #[.int .i64 dp, .int .i64 dv, .int .i64 dc]) (by kernel_rfl) (by kernel_rfl) (Loads.ownL ho3 (n := 3) (by kernel_rfl) (by kernel_rfl) (by kernel_rfl)) ?_
                  have hzs80 := hS.size
                  have hzl438 := ho1.lt
                  have hzl439 := ho2.lt
                  have hzl440 := ho3.lt
                  have hzl441 := ho5.lt
                  have hzl442 := hmk2.lt
                  refine VL_call (d := 118) (f := 20) (args := #[.agg #[.int .i64 ap, .int .i64 av, .int .i64 ac], .agg #[.int .i64 dp, .int .i64 dv, .int .i64 dc]]) (by kernel_rfl) (by kernel_rfl) (by kernel_rfl) Try.call20 (before_any ap av ac dp dv dc _) ?_
                  rintro _ w162 ⟨rfl, hc39⟩
                  replace hS := Step.trans hS hc39
                  replace ho1 := ho1.no hc39
                  replace ho2 := ho2.no hc39
                  replace ho3 := ho3.no hc39
                  replace ho5 := ho5.no hc39
                  replace hmk2 := hmk2.no hc39
                  refine VL_pure 15 [10, 119] [(10, .pointer (some ⟨b5, 0, none⟩)), (119, .bool (befK ap av ac dp dv dc))] (by kernel_rfl) rfl ?_
                  refine VL_store (b := b5) (o := 0) (vs := [.bool (befK ap av ac dp dv dc)]) (by kernel_rfl) (by kernel_rfl) ho5 (Nat.le_of_ble_eq_true (by kernel_rfl)) ?_
                  intro w163 hw29
                  replace hS := Step.transNew hS hw29.step (fun _ _ _ => by omega)
                  replace ho1 := ho1.step hw29.step (show ¬ b1 = b5 by omega)
                  replace ho2 := ho2.step hw29.step (show ¬ b2 = b5 by omega)
                  replace ho3 := ho3.step hw29.step (show ¬ b3 = b5 by omega)
                  replace hmk2 := hmk2.step hw29.step (show ¬ w19.heap.size = b5 by omega)
                  have ho38 : Own w163 b5 #[.bool (befK ap av ac dp dv dc)] 4 := Own.cast hw29.own (by kernel_rfl)
                  have hzhw29 := hw29.same
                  refine VL_end (by kernel_rfl) ?_
                  refine VQ_next ?_
                  refine VC_ret ?_
                  have hzs81 := hS.size
                  have hzl443 := ho1.lt
                  have hzl444 := ho2.lt
                  have hzl445 := ho3.lt
                  have hzl446 := hmk2.lt
                  have hzl447 := ho38.lt
                  have hzr := ho38.lt
                  refine VQ_retMC1 (.bool (befK ap av ac dp dv dc)) [w19.heap.size] (.inr rfl) rfl rfl ⟨hmk2, (by simp), trivial⟩ (fun w9 hq9 => Loads.own1 (ho38.step hq9 (by simp; try omega)) (by kernel_rfl) rfl) ?_
                  intro w164 hq22
                  replace hq22 : Step (Just w19.heap.size) w163 w164 := Step.mono hq22 (fun i hi => by simpa using hi)
                  replace hS := Step.transNew hS hq22 (fun _ _ _ => by omega)
                  replace ho1 := ho1.step hq22 (show ¬ b1 = w19.heap.size by omega)
                  replace ho2 := ho2.step hq22 (show ¬ b2 = w19.heap.size by omega)
                  replace ho3 := ho3.step hq22 (show ¬ b3 = w19.heap.size by omega)
                  replace ho38 := ho38.step hq22 (show ¬ b5 = w19.heap.size by omega)
                  exact ⟨congrArg Value.bool (by (try simp only [befK_iff, befK_false, eqK, decide_eq_true_eq, decide_eq_false_iff_not] at *); first | rfl | omega), hS⟩
                · refine VL_pure 15 [10, 119] [(10, .pointer (some ⟨b5, 0, none⟩)), (119, .bool true)] (by kernel_rfl) rfl ?_
                  refine VL_store (b := b5) (o := 0) (vs := [.bool true]) (by kernel_rfl) (by kernel_rfl) ho5 (Nat.le_of_ble_eq_true (by kernel_rfl)) ?_
                  intro w165 hw30
                  replace hS := Step.transNew hS hw30.step (fun _ _ _ => by omega)
                  replace ho1 := ho1.step hw30.step (show ¬ b1 = b5 by omega)
                  replace ho2 := ho2.step hw30.step (show ¬ b2 = b5 by omega)
                  replace ho3 := ho3.step hw30.step (show ¬ b3 = b5 by omega)
                  replace hmk2 := hmk2.step hw30.step (show ¬ w19.heap.size = b5 by omega)
                  have ho39 : Own w165 b5 #[.bool true] 4 := Own.cast hw30.own (by kernel_rfl)
                  have hzhw30 := hw30.same
                  refine VL_end (by kernel_rfl) ?_
                  refine VQ_next ?_
                  refine VC_ret ?_
                  have hzs82 := hS.size
                  have hzl448 := ho1.lt
                  have hzl449 := ho2.lt
                  have hzl450 := ho3.lt
                  have hzl451 := hmk2.lt
                  have hzl452 := ho39.lt
                  have hzr := ho39.lt
                  refine VQ_retMC1 (.bool true) [w19.heap.size] (.inr rfl) rfl rfl ⟨hmk2, (by simp), trivial⟩ (fun w9 hq9 => Loads.own1 (ho39.step hq9 (by simp; try omega)) (by kernel_rfl) rfl) ?_
                  intro w166 hq23
                  replace hq23 : Step (Just w19.heap.size) w165 w166 := Step.mono hq23 (fun i hi => by simpa using hi)
                  replace hS := Step.transNew hS hq23 (fun _ _ _ => by omega)
                  replace ho1 := ho1.step hq23 (show ¬ b1 = w19.heap.size by omega)
                  replace ho2 := ho2.step hq23 (show ¬ b2 = w19.heap.size by omega)
                  replace ho3 := ho3.step hq23 (show ¬ b3 = w19.heap.size by omega)
                  replace ho39 := ho39.step hq23 (show ¬ b5 = w19.heap.size by omega)
                  exact ⟨rfl, hS⟩
              · refine VL_pure 15 [10, 119] [(10, .pointer (some ⟨b5, 0, none⟩)), (119, .bool true)] (by kernel_rfl) rfl ?_
                refine VL_store (b := b5) (o := 0) (vs := [.bool true]) (by kernel_rfl) (by kernel_rfl) ho5 (Nat.le_of_ble_eq_true (by kernel_rfl)) ?_
                intro w167 hw31
                replace hS := Step.transNew hS hw31.step (fun _ _ _ => by omega)
                replace ho1 := ho1.step hw31.step (show ¬ b1 = b5 by omega)
                replace ho2 := ho2.step hw31.step (show ¬ b2 = b5 by omega)
                replace ho3 := ho3.step hw31.step (show ¬ b3 = b5 by omega)
                replace hmk2 := hmk2.step hw31.step (show ¬ w19.heap.size = b5 by omega)
                have ho40 : Own w167 b5 #[.bool true] 4 := Own.cast hw31.own (by kernel_rfl)
                have hzhw31 := hw31.same
                refine VL_end (by kernel_rfl) ?_
                refine VQ_next ?_
                refine VC_ret ?_
                have hzs83 := hS.size
                have hzl453 := ho1.lt
                have hzl454 := ho2.lt
                have hzl455 := ho3.lt
                have hzl456 := hmk2.lt
                have hzl457 := ho40.lt
                have hzr := ho40.lt
                refine VQ_retMC1 (.bool true) [w19.heap.size] (.inr rfl) rfl rfl ⟨hmk2, (by simp), trivial⟩ (fun w9 hq9 => Loads.own1 (ho40.step hq9 (by simp; try omega)) (by kernel_rfl) rfl) ?_
                intro w168 hq24
                replace hq24 : Step (Just w19.heap.size) w167 w168 := Step.mono hq24 (fun i hi => by simpa using hi)
                replace hS := Step.transNew hS hq24 (fun _ _ _ => by omega)
                replace ho1 := ho1.step hq24 (show ¬ b1 = w19.heap.size by omega)
                replace ho2 := ho2.step hq24 (show ¬ b2 = w19.heap.size by omega)
                replace ho3 := ho3.step hq24 (show ¬ b3 = w19.heap.size by omega)
                replace ho40 := ho40.step hq24 (show ¬ b5 = w19.heap.size by omega)
                exact ⟨rfl, hS⟩
        · refine VT_eq [(3, .bool false), (2, .bool false), (1, .agg #[.int .i64 bp, .int .i64 bv, .int .i64 bc]), (0, .agg #[.int .i64 ap, .int .i64 av, .int .i64 ac])] (by simp only [hg16, Bool.not_true, Bool.not_false]) ?_
          try simp only [bne_iff_ne, beq_iff_eq, decide_eq_true_eq, decide_eq_false_iff_not, bne_eq_false_iff_eq, beq_eq_false_iff_ne, ne_eq] at hg16
          refine VT_pures 5 (kn' := [(8, .bool false), (7, .bool false), (6, undef), (5, undef), (4, undef), (3, .bool false), (2, .bool false), (1, .agg #[.int .i64 bp, .int .i64 bv, .int .i64 bc]), (0, .agg #[.int .i64 ap, .int .i64 av, .int .i64 ac])]) (by kernel_rfl) ?_
          refine VT_load (d := 92) (t := 29) (a := ⟨b1, 0, none⟩) (v := .agg #[.int .i64 ap, .int .i64 av, .int .i64 ac]) (by kernel_rfl) (by kernel_rfl) ?_ ?_
          · intro w169 hr35
            replace hS := Step.transNew hS hr35 (fun i hi hG => by (try simp only at hG); omega)
            replace ho1 := ho1.step hr35 (by (try simp only); omega)
            replace ho2 := ho2.step hr35 (by (try simp only); omega)
            replace ho3 := ho3.step hr35 (by (try simp only); omega)
            replace ho5 := ho5.step hr35 (by (try simp only); omega)
            replace hmk2 := hmk2.step hr35 (by (try simp only); omega)
            exact (Loads.ownL ho1 (n := 3) (by kernel_rfl) (by kernel_rfl) (by kernel_rfl))
          refine VT_load (d := 93) (t := 29) (a := ⟨b2, 0, none⟩) (v := .agg #[.int .i64 bp, .int .i64 bv, .int .i64 bc]) (by kernel_rfl) (by kernel_rfl) ?_ ?_
          · intro w170 hr36
            replace hS := Step.transNew hS hr36 (fun i hi hG => by (try simp only at hG); omega)
            replace ho1 := ho1.step hr36 (by (try simp only); omega)
            replace ho2 := ho2.step hr36 (by (try simp only); omega)
            replace ho3 := ho3.step hr36 (by (try simp only); omega)
            replace ho5 := ho5.step hr36 (by (try simp only); omega)
            replace hmk2 := hmk2.step hr36 (by (try simp only); omega)
            exact (Loads.ownL ho2 (n := 3) (by kernel_rfl) (by kernel_rfl) (by kernel_rfl))
          refine VT_agEq (d := 94) (dd := 9) (ls := ([.int .i64] ++ [.int .i64] ++ [.int .i64] ++ [])) (pos := true) (t := 29) (xs := #[.int .i64 ap, .int .i64 av, .int .i64 ac]) (ys := #[.int .i64 bp, .int .i64 bv, .int .i64 bc]) (by kernel_rfl) (by kernel_rfl) (by kernel_rfl) (by kernel_rfl) (by first | exact ⟨⟨_, rfl⟩, ⟨_, rfl⟩, ⟨_, rfl⟩, trivial⟩ | trivial) (by first | exact ⟨⟨_, rfl⟩, ⟨_, rfl⟩, ⟨_, rfl⟩, trivial⟩ | trivial) (eqK ap av ac bp bv bc) (by rw [Bool.eq_iff_iff]; simp [cellsEq, leafEq, eqK]) ?_
          refine VT_load (d := 95) (t := 29) (a := ⟨b1, 0, none⟩) (v := .agg #[.int .i64 ap, .int .i64 av, .int .i64 ac]) (by kernel_rfl) (by kernel_rfl) ?_ ?_
          · intro w171 hr37
            replace hS := Step.transNew hS hr37 (fun i hi hG => by (try simp only at hG); omega)
            replace ho1 := ho1.step hr37 (by (try simp only); omega)
            replace ho2 := ho2.step hr37 (by (try simp only); omega)
            replace ho3 := ho3.step hr37 (by (try simp only); omega)
            replace ho5 := ho5.step hr37 (by (try simp only); omega)
            replace hmk2 := hmk2.step hr37 (by (try simp only); omega)
            exact (Loads.ownL ho1 (n := 3) (by kernel_rfl) (by kernel_rfl) (by kernel_rfl))
          refine VT_load (d := 96) (t := 29) (a := ⟨b2, 0, none⟩) (v := .agg #[.int .i64 bp, .int .i64 bv, .int .i64 bc]) (by kernel_rfl) (by kernel_rfl) ?_ ?_
          · intro w172 hr38
            replace hS := Step.transNew hS hr38 (fun i hi hG => by (try simp only at hG); omega)
            replace ho1 := ho1.step hr38 (by (try simp only); omega)
            replace ho2 := ho2.step hr38 (by (try simp only); omega)
            replace ho3 := ho3.step hr38 (by (try simp only); omega)
            replace ho5 := ho5.step hr38 (by (try simp only); omega)
            replace hmk2 := hmk2.step hr38 (by (try simp only); omega)
            exact (Loads.ownL ho2 (n := 3) (by kernel_rfl) (by kernel_rfl) (by kernel_rfl))
          refine VT_chain (by kernel_rfl) ?_
          intro w173 hs28
          have hzhs28 := hs28.size
          replace hS := Step.trans hS hs28
          replace ho1 := ho1.no hs28
          replace ho2 := ho2.no hs28
          replace ho3 := ho3.no hs28
          replace ho5 := ho5.no hs28
          replace hmk2 := hmk2.no hs28
          have hzs84 := hS.size
          have hzl458 := ho1.lt
          have hzl459 := ho2.lt
          have hzl460 := ho3.lt
          have hzl461 := ho5.lt
          have hzl462 := hmk2.lt
          refine VTc_call (d := 97) (f := 20) (args := #[.agg #[.int .i64 ap, .int .i64 av, .int .i64 ac], .agg #[.int .i64 bp, .int .i64 bv, .int .i64 bc]]) (by kernel_rfl) (by kernel_rfl) (by kernel_rfl) Try.call20 (before_any ap av ac bp bv bc _) ?_ ?_
          · rintro _ w174 ⟨rfl, hc40⟩
            exact Step.mono hc40 (by intro i hi; first | exact hi.elim | ((try simp only at hi ⊢); omega))
          rintro _ w174 ⟨rfl, hc40⟩
          have hzhc40 := (hc40).size
          replace hS := Step.trans hS hc40
          replace ho1 := ho1.no hc40
          replace ho2 := ho2.no hc40
          replace ho3 := ho3.no hc40
          replace ho5 := ho5.no hc40
          replace hmk2 := hmk2.no hc40
          refine VT_pures 1 (kn' := [(15, .bool (befK ap av ac bp bv bc)), (14, .bool (befK ap av ac bp bv bc)), (13, .agg #[.int .i64 bp, .int .i64 bv, .int .i64 bc]), (12, .agg #[.int .i64 ap, .int .i64 av, .int .i64 ac]), (11, .bool (eqK ap av ac bp bv bc)), (10, .agg #[.int .i64 bp, .int .i64 bv, .int .i64 bc]), (9, .agg #[.int .i64 ap, .int .i64 av, .int .i64 ac]), (8, .bool false), (7, .bool false), (6, undef), (5, undef), (4, undef), (3, .bool false), (2, .bool false), (1, .agg #[.int .i64 bp, .int .i64 bv, .int .i64 bc]), (0, .agg #[.int .i64 ap, .int .i64 av, .int .i64 ac])]) (by kernel_rfl) ?_
          rcases Bool.eq_false_or_eq_true (befK ap av ac bp bv bc) with hg23 | hg23
          · refine VT_eq [(15, .bool true), (14, .bool true), (13, .agg #[.int .i64 bp, .int .i64 bv, .int .i64 bc]), (12, .agg #[.int .i64 ap, .int .i64 av, .int .i64 ac]), (11, .bool (eqK ap av ac bp bv bc)), (10, .agg #[.int .i64 bp, .int .i64 bv, .int .i64 bc]), (9, .agg #[.int .i64 ap, .int .i64 av, .int .i64 ac]), (8, .bool false), (7, .bool false), (6, undef), (5, undef), (4, undef), (3, .bool false), (2, .bool false), (1, .agg #[.int .i64 bp, .int .i64 bv, .int .i64 bc]), (0, .agg #[.int .i64 ap, .int .i64 av, .int .i64 ac])] (by simp only [hg23, Bool.not_true, Bool.not_false]) ?_
            try simp only [bne_iff_ne, beq_iff_eq, decide_eq_true_eq, decide_eq_false_iff_not, bne_eq_false_iff_eq, beq_eq_false_iff_ne, ne_eq] at hg23
            refine VT_pures 4 (kn' := [(19, .bool true), (18, undef), (17, undef), (16, undef), (15, .bool true), (14, .bool true), (13, .agg #[.int .i64 bp, .int .i64 bv, .int .i64 bc]), (12, .agg #[.int .i64 ap, .int .i64 av, .int .i64 ac]), (11, .bool (eqK ap av ac bp bv bc)), (10, .agg #[.int .i64 bp, .int .i64 bv, .int .i64 bc]), (9, .agg #[.int .i64 ap, .int .i64 av, .int .i64 ac]), (8, .bool false), (7, .bool false), (6, undef), (5, undef), (4, undef), (3, .bool false), (2, .bool false), (1, .agg #[.int .i64 bp, .int .i64 bv, .int .i64 bc]), (0, .agg #[.int .i64 ap, .int .i64 av, .int .i64 ac])]) (by kernel_rfl) ?_
            refine VT_end ?_
            intro w175 hs29
            replace hS := Step.trans hS hs29
            replace ho1 := ho1.no hs29
            replace ho2 := ho2.no hs29
            replace ho3 := ho3.no hs29
            replace ho5 := ho5.no hs29
            replace hmk2 := hmk2.no hs29
            refine VL_keep [6, 7, 8, 10, 91, 94, 102] [(6, .pointer (some ⟨b1, 0, none⟩)), (7, .pointer (some ⟨b2, 0, none⟩)), (8, .pointer (some ⟨b3, 0, none⟩)), (10, .pointer (some ⟨b5, 0, none⟩)), (91, .bool false), (94, .bool (eqK ap av ac bp bv bc)), (102, .bool true)] (by kernel_rfl) ?_
            refine VL_pure 22 [6, 7, 8, 10, 104] [(6, .pointer (some ⟨b1, 0, none⟩)), (7, .pointer (some ⟨b2, 0, none⟩)), (8, .pointer (some ⟨b3, 0, none⟩)), (10, .pointer (some ⟨b5, 0, none⟩)), (104, .bool ((eqK ap av ac bp bv bc) == true))] (by kernel_rfl) rfl ?_
            refine VL_end (by kernel_rfl) ?_
            refine VQ_next ?_
            refine VC_cond ((eqK ap av ac bp bv bc) == true) (by kernel_rfl) (fun h8 => ?_) (fun h8 => ?_)
            · try simp only [Bool.and_eq_true, Bool.or_eq_true, decide_eq_true_eq, Bool.not_eq_true', decide_eq_false_iff_not, Bool.and_eq_false_iff, Bool.or_eq_false_iff, beq_iff_eq, bne_iff_ne, beq_eq_false_iff_ne, bne_eq_false_iff_eq, Bool.not_eq_eq_eq_not, Bool.not_true, Bool.not_false] at h8
              refine VC_seq ?_
              refine VC_region ?_
              refine VL_store (b := b5) (o := 0) (vs := [.bool false]) (by kernel_rfl) (by kernel_rfl) ho5 (Nat.le_of_ble_eq_true (by kernel_rfl)) ?_
              intro w176 hw32
              replace hS := Step.transNew hS hw32.step (fun _ _ _ => by omega)
              replace ho1 := ho1.step hw32.step (show ¬ b1 = b5 by omega)
              replace ho2 := ho2.step hw32.step (show ¬ b2 = b5 by omega)
              replace ho3 := ho3.step hw32.step (show ¬ b3 = b5 by omega)
              replace hmk2 := hmk2.step hw32.step (show ¬ w19.heap.size = b5 by omega)
              have ho41 : Own w176 b5 #[.bool false] 4 := Own.cast hw32.own (by kernel_rfl)
              have hzhw32 := hw32.same
              refine VL_end (by kernel_rfl) ?_
              refine VQ_next ?_
              refine VC_ret ?_
              refine VQ_then_ret ?_
              have hzs85 := hS.size
              have hzl463 := ho1.lt
              have hzl464 := ho2.lt
              have hzl465 := ho3.lt
              have hzl466 := hmk2.lt
              have hzl467 := ho41.lt
              have hzr := ho41.lt
              refine VQ_retMC1 (.bool false) [w19.heap.size] (.inr rfl) rfl rfl ⟨hmk2, (by simp), trivial⟩ (fun w9 hq9 => Loads.own1 (ho41.step hq9 (by simp; try omega)) (by kernel_rfl) rfl) ?_
              intro w177 hq25
              replace hq25 : Step (Just w19.heap.size) w176 w177 := Step.mono hq25 (fun i hi => by simpa using hi)
              replace hS := Step.transNew hS hq25 (fun _ _ _ => by omega)
              replace ho1 := ho1.step hq25 (show ¬ b1 = w19.heap.size by omega)
              replace ho2 := ho2.step hq25 (show ¬ b2 = w19.heap.size by omega)
              replace ho3 := ho3.step hq25 (show ¬ b3 = w19.heap.size by omega)
              replace ho41 := ho41.step hq25 (show ¬ b5 = w19.heap.size by omega)
              exact ⟨congrArg Value.bool (by (try simp only [befK_iff, befK_false, eqK, decide_eq_true_eq, decide_eq_false_iff_not] at *); first | rfl | omega), hS⟩
            · try simp only [Bool.and_eq_true, Bool.or_eq_true, decide_eq_true_eq, Bool.not_eq_true', decide_eq_false_iff_not, Bool.and_eq_false_iff, Bool.or_eq_false_iff, beq_iff_eq, bne_iff_ne, beq_eq_false_iff_ne, bne_eq_false_iff_eq, Bool.not_eq_eq_eq_not, Bool.not_true, Bool.not_false] at h8
              refine VC_skip ?_
              refine VQ_next ?_
              refine VC_seq ?_
              refine VC_region ?_
              refine VL_load (d := 105) (t := 29) (a := ⟨b1, 0, none⟩) (v := .agg #[.int .i64 ap, .int .i64 av, .int .i64 ac]) (by kernel_rfl) (by kernel_rfl) (Loads.ownL ho1 (n := 3) (by kernel_rfl) (by kernel_rfl) (by kernel_rfl)) ?_
              refine VL_load (d := 106) (t := 29) (a := ⟨b2, 0, none⟩) (v := .agg #[.int .i64 bp, .int .i64 bv, .int .i64 bc]) (by kernel_rfl) (by kernel_rfl) (Loads.ownL ho2 (n := 3) (by kernel_rfl) (by kernel_rfl) (by kernel_rfl)) ?_
              have hzs86 := hS.size
              have hzl468 := ho1.lt
              have hzl469 := ho2.lt
              have hzl470 := ho3.lt
              have hzl471 := ho5.lt
              have hzl472 := hmk2.lt
              refine VL_call (d := 107) (f := 20) (args := #[.agg #[.int .i64 ap, .int .i64 av, .int .i64 ac], .agg #[.int .i64 bp, .int .i64 bv, .int .i64 bc]]) (by kernel_rfl) (by kernel_rfl) (by kernel_rfl) Try.call20 (before_any ap av ac bp bv bc _) ?_
              rintro _ w178 ⟨rfl, hc41⟩
              replace hS := Step.trans hS hc41
              replace ho1 := ho1.no hc41
              replace ho2 := ho2.no hc41
              replace ho3 := ho3.no hc41
              replace ho5 := ho5.no hc41
              replace hmk2 := hmk2.no hc41
              refine VL_pure 5 [6, 7, 8, 10, 109] [(6, .pointer (some ⟨b1, 0, none⟩)), (7, .pointer (some ⟨b2, 0, none⟩)), (8, .pointer (some ⟨b3, 0, none⟩)), (10, .pointer (some ⟨b5, 0, none⟩)), (109, .bool (!(befK ap av ac bp bv bc)))] (by kernel_rfl) rfl ?_
              refine VL_bool (befK ap av ac bp bv bc) (fun bV => [(6, .pointer (some ⟨b1, 0, none⟩)), (7, .pointer (some ⟨b2, 0, none⟩)), (8, .pointer (some ⟨b3, 0, none⟩)), (10, .pointer (some ⟨b5, 0, none⟩)), (109, .bool (!bV))]) rfl (fun hg24 => ?_) (fun hg24 => ?_)
              · refine VL_load (d := 110) (t := 29) (a := ⟨b2, 0, none⟩) (v := .agg #[.int .i64 bp, .int .i64 bv, .int .i64 bc]) (by kernel_rfl) (by kernel_rfl) (Loads.ownL ho2 (n := 3) (by kernel_rfl) (by kernel_rfl) (by kernel_rfl)) ?_
                refine VL_load (d := 111) (t := 29) (a := ⟨b3, 0, none⟩) (v := .agg #[.int .i64 dp, .int .i64 dv, .int .i64 dc]) (by kernel_rfl) (by kernel_rfl) (Loads.ownL ho3 (n := 3) (by kernel_rfl) (by kernel_rfl) (by kernel_rfl)) ?_
                have hzs87 := hS.size
                have hzl473 := ho1.lt
                have hzl474 := ho2.lt
                have hzl475 := ho3.lt
                have hzl476 := ho5.lt
                have hzl477 := hmk2.lt
                refine VL_call (d := 112) (f := 20) (args := #[.agg #[.int .i64 bp, .int .i64 bv, .int .i64 bc], .agg #[.int .i64 dp, .int .i64 dv, .int .i64 dc]]) (by kernel_rfl) (by kernel_rfl) (by kernel_rfl) Try.call20 (before_any bp bv bc dp dv dc _) ?_
                rintro _ w179 ⟨rfl, hc42⟩
                replace hS := Step.trans hS hc42
                replace ho1 := ho1.no hc42
                replace ho2 := ho2.no hc42
                replace ho3 := ho3.no hc42
                replace ho5 := ho5.no hc42
                replace hmk2 := hmk2.no hc42
                refine VL_pure 11 [6, 8, 10, 115] [(6, .pointer (some ⟨b1, 0, none⟩)), (8, .pointer (some ⟨b3, 0, none⟩)), (10, .pointer (some ⟨b5, 0, none⟩)), (115, .bool (!(befK bp bv bc dp dv dc)))] (by kernel_rfl) rfl ?_
                refine VL_bool (befK bp bv bc dp dv dc) (fun bV => [(6, .pointer (some ⟨b1, 0, none⟩)), (8, .pointer (some ⟨b3, 0, none⟩)), (10, .pointer (some ⟨b5, 0, none⟩)), (115, .bool (!bV))]) rfl (fun hg25 => ?_) (fun hg25 => ?_)
                · refine VL_load (d := 116) (t := 29) (a := ⟨b1, 0, none⟩) (v := .agg #[.int .i64 ap, .int .i64 av, .int .i64 ac]) (by kernel_rfl) (by kernel_rfl) (Loads.ownL ho1 (n := 3) (by kernel_rfl) (by kernel_rfl) (by kernel_rfl)) ?_
                  refine VL_load (d := 117) (t := 29) (a := ⟨b3, 0, none⟩) (v := .agg #[.int .i64 dp, .int .i64 dv, .int .i64 dc]) (by kernel_rfl) (by kernel_rfl) (Loads.ownL ho3 (n := 3) (by kernel_rfl) (by kernel_rfl) (by kernel_rfl)) ?_
                  have hzs88 := hS.size
                  have hzl478 := ho1.lt
                  have hzl479 := ho2.lt
                  have hzl480 := ho3.lt
                  have hzl481 := ho5.lt
                  have hzl482 := hmk2.lt
                  refine VL_call (d := 118) (f := 20) (args := #[.agg #[.int .i64 ap, .int .i64 av, .int .i64 ac], .agg #[.int .i64 dp, .int .i64 dv, .int .i64 dc]]) (by kernel_rfl) (by kernel_rfl) (by kernel_rfl) Try.call20 (before_any ap av ac dp dv dc _) ?_
                  rintro _ w180 ⟨rfl, hc43⟩
                  replace hS := Step.trans hS hc43
                  replace ho1 := ho1.no hc43
                  replace ho2 := ho2.no hc43
                  replace ho3 := ho3.no hc43
                  replace ho5 := ho5.no hc43
                  replace hmk2 := hmk2.no hc43
                  refine VL_pure 15 [10, 119] [(10, .pointer (some ⟨b5, 0, none⟩)), (119, .bool (befK ap av ac dp dv dc))] (by kernel_rfl) rfl ?_
                  refine VL_store (b := b5) (o := 0) (vs := [.bool (befK ap av ac dp dv dc)]) (by kernel_rfl) (by kernel_rfl) ho5 (Nat.le_of_ble_eq_true (by kernel_rfl)) ?_
                  intro w181 hw33
                  replace hS := Step.transNew hS hw33.step (fun _ _ _ => by omega)
                  replace ho1 := ho1.step hw33.step (show ¬ b1 = b5 by omega)
                  replace ho2 := ho2.step hw33.step (show ¬ b2 = b5 by omega)
                  replace ho3 := ho3.step hw33.step (show ¬ b3 = b5 by omega)
                  replace hmk2 := hmk2.step hw33.step (show ¬ w19.heap.size = b5 by omega)
                  have ho42 : Own w181 b5 #[.bool (befK ap av ac dp dv dc)] 4 := Own.cast hw33.own (by kernel_rfl)
                  have hzhw33 := hw33.same
                  refine VL_end (by kernel_rfl) ?_
                  refine VQ_next ?_
                  refine VC_ret ?_
                  have hzs89 := hS.size
                  have hzl483 := ho1.lt
                  have hzl484 := ho2.lt
                  have hzl485 := ho3.lt
                  have hzl486 := hmk2.lt
                  have hzl487 := ho42.lt
                  have hzr := ho42.lt
                  refine VQ_retMC1 (.bool (befK ap av ac dp dv dc)) [w19.heap.size] (.inr rfl) rfl rfl ⟨hmk2, (by simp), trivial⟩ (fun w9 hq9 => Loads.own1 (ho42.step hq9 (by simp; try omega)) (by kernel_rfl) rfl) ?_
                  intro w182 hq26
                  replace hq26 : Step (Just w19.heap.size) w181 w182 := Step.mono hq26 (fun i hi => by simpa using hi)
                  replace hS := Step.transNew hS hq26 (fun _ _ _ => by omega)
                  replace ho1 := ho1.step hq26 (show ¬ b1 = w19.heap.size by omega)
                  replace ho2 := ho2.step hq26 (show ¬ b2 = w19.heap.size by omega)
                  replace ho3 := ho3.step hq26 (show ¬ b3 = w19.heap.size by omega)
                  replace ho42 := ho42.step hq26 (show ¬ b5 = w19.heap.size by omega)
                  exact ⟨congrArg Value.bool (by (try simp only [befK_iff, befK_false, eqK, decide_eq_true_eq, decide_eq_false_iff_not] at *); first | rfl | omega), hS⟩
                · refine VL_pure 15 [10, 119] [(10, .pointer (some ⟨b5, 0, none⟩)), (119, .bool true)] (by kernel_rfl) rfl ?_
                  refine VL_store (b := b5) (o := 0) (vs := [.bool true]) (by kernel_rfl) (by kernel_rfl) ho5 (Nat.le_of_ble_eq_true (by kernel_rfl)) ?_
                  intro w183 hw34
                  replace hS := Step.transNew hS hw34.step (fun _ _ _ => by omega)
                  replace ho1 := ho1.step hw34.step (show ¬ b1 = b5 by omega)
                  replace ho2 := ho2.step hw34.step (show ¬ b2 = b5 by omega)
                  replace ho3 := ho3.step hw34.step (show ¬ b3 = b5 by omega)
                  replace hmk2 := hmk2.step hw34.step (show ¬ w19.heap.size = b5 by omega)
                  have ho43 : Own w183 b5 #[.bool true] 4 := Own.cast hw34.own (by kernel_rfl)
                  have hzhw34 := hw34.same
                  refine VL_end (by kernel_rfl) ?_
                  refine VQ_next ?_
                  refine VC_ret ?_
                  have hzs90 := hS.size
                  have hzl488 := ho1.lt
                  have hzl489 := ho2.lt
                  have hzl490 := ho3.lt
                  have hzl491 := hmk2.lt
                  have hzl492 := ho43.lt
                  have hzr := ho43.lt
                  refine VQ_retMC1 (.bool true) [w19.heap.size] (.inr rfl) rfl rfl ⟨hmk2, (by simp), trivial⟩ (fun w9 hq9 => Loads.own1 (ho43.step hq9 (by simp; try omega)) (by kernel_rfl) rfl) ?_
                  intro w184 hq27
                  replace hq27 : Step (Just w19.heap.size) w183 w184 := Step.mono hq27 (fun i hi => by simpa using hi)
                  replace hS := Step.transNew hS hq27 (fun _ _ _ => by omega)
                  replace ho1 := ho1.step hq27 (show ¬ b1 = w19.heap.size by omega)
                  replace ho2 := ho2.step hq27 (show ¬ b2 = w19.heap.size by omega)
                  replace ho3 := ho3.step hq27 (show ¬ b3 = w19.heap.size by omega)
                  replace ho43 := ho43.step hq27 (show ¬ b5 = w19.heap.size by omega)
                  exact ⟨rfl, hS⟩
              · refine VL_pure 15 [10, 119] [(10, .pointer (some ⟨b5, 0, none⟩)), (119, .bool true)] (by kernel_rfl) rfl ?_
                refine VL_store (b := b5) (o := 0) (vs := [.bool true]) (by kernel_rfl) (by kernel_rfl) ho5 (Nat.le_of_ble_eq_true (by kernel_rfl)) ?_
                intro w185 hw35
                replace hS := Step.transNew hS hw35.step (fun _ _ _ => by omega)
                replace ho1 := ho1.step hw35.step (show ¬ b1 = b5 by omega)
                replace ho2 := ho2.step hw35.step (show ¬ b2 = b5 by omega)
                replace ho3 := ho3.step hw35.step (show ¬ b3 = b5 by omega)
                replace hmk2 := hmk2.step hw35.step (show ¬ w19.heap.size = b5 by omega)
                have ho44 : Own w185 b5 #[.bool true] 4 := Own.cast hw35.own (by kernel_rfl)
                have hzhw35 := hw35.same
                refine VL_end (by kernel_rfl) ?_
                refine VQ_next ?_
                refine VC_ret ?_
                have hzs91 := hS.size
                have hzl493 := ho1.lt
                have hzl494 := ho2.lt
                have hzl495 := ho3.lt
                have hzl496 := hmk2.lt
                have hzl497 := ho44.lt
                have hzr := ho44.lt
                refine VQ_retMC1 (.bool true) [w19.heap.size] (.inr rfl) rfl rfl ⟨hmk2, (by simp), trivial⟩ (fun w9 hq9 => Loads.own1 (ho44.step hq9 (by simp; try omega)) (by kernel_rfl) rfl) ?_
                intro w186 hq28
                replace hq28 : Step (Just w19.heap.size) w185 w186 := Step.mono hq28 (fun i hi => by simpa using hi)
                replace hS := Step.transNew hS hq28 (fun _ _ _ => by omega)
                replace ho1 := ho1.step hq28 (show ¬ b1 = w19.heap.size by omega)
                replace ho2 := ho2.step hq28 (show ¬ b2 = w19.heap.size by omega)
                replace ho3 := ho3.step hq28 (show ¬ b3 = w19.heap.size by omega)
                replace ho44 := ho44.step hq28 (show ¬ b5 = w19.heap.size by omega)
                exact ⟨rfl, hS⟩
          · refine VT_eq [(15, .bool false), (14, .bool false), (13, .agg #[.int .i64 bp, .int .i64 bv, .int .i64 bc]), (12, .agg #[.int .i64 ap, .int .i64 av, .int .i64 ac]), (11, .bool (eqK ap av ac bp bv bc)), (10, .agg #[.int .i64 bp, .int .i64 bv, .int .i64 bc]), (9, .agg #[.int .i64 ap, .int .i64 av, .int .i64 ac]), (8, .bool false), (7, .bool false), (6, undef), (5, undef), (4, undef), (3, .bool false), (2, .bool false), (1, .agg #[.int .i64 bp, .int .i64 bv, .int .i64 bc]), (0, .agg #[.int .i64 ap, .int .i64 av, .int .i64 ac])] (by simp only [hg23, Bool.not_true, Bool.not_false]) ?_
            try simp only [bne_iff_ne, beq_iff_eq, decide_eq_true_eq, decide_eq_false_iff_not, bne_eq_false_iff_eq, beq_eq_false_iff_ne, ne_eq] at hg23
            refine VT_load (d := 99) (t := 29) (a := ⟨b2, 0, none⟩) (v := .agg #[.int .i64 bp, .int .i64 bv, .int .i64 bc]) (by kernel_rfl) (by kernel_rfl) ?_ ?_
            · intro w187 hr39
              replace hS := Step.transNew hS hr39 (fun i hi hG => by (try simp only at hG); omega)
              replace ho1 := ho1.step hr39 (by (try simp only); omega)
              replace ho2 := ho2.step hr39 (by (try simp only); omega)
              replace ho3 := ho3.step hr39 (by (try simp only); omega)
              replace ho5 := ho5.step hr39 (by (try simp only); omega)
              replace hmk2 := hmk2.step hr39 (by (try simp only); omega)
              exact (Loads.ownL ho2 (n := 3) (by kernel_rfl) (by kernel_rfl) (by kernel_rfl))
            refine VT_load (d := 100) (t := 29) (a := ⟨b1, 0, none⟩) (v := .agg #[.int .i64 ap, .int .i64 av, .int .i64 ac]) (by kernel_rfl) (by kernel_rfl) ?_ ?_
            · intro w188 hr40
              replace hS := Step.transNew hS hr40 (fun i hi hG => by (try simp only at hG); omega)
              replace ho1 := ho1.step hr40 (by (try simp only); omega)
              replace ho2 := ho2.step hr40 (by (try simp only); omega)
              replace ho3 := ho3.step hr40 (by (try simp only); omega)
              replace ho5 := ho5.step hr40 (by (try simp only); omega)
              replace hmk2 := hmk2.step hr40 (by (try simp only); omega)
              exact (Loads.ownL ho1 (n := 3) (by kernel_rfl) (by kernel_rfl) (by kernel_rfl))
            refine VT_chain (by kernel_rfl) ?_
            intro w189 hs30
            have hzhs30 := hs30.size
            replace hS := Step.trans hS hs30
            replace ho1 := ho1.no hs30
            replace ho2 := ho2.no hs30
            replace ho3 := ho3.no hs30
            replace ho5 := ho5.no hs30
            replace hmk2 := hmk2.no hs30
            have hzs92 := hS.size
            have hzl498 := ho1.lt
            have hzl499 := ho2.lt
            have hzl500 := ho3.lt
            have hzl501 := ho5.lt
            have hzl502 := hmk2.lt
            refine VTc_call (d := 101) (f := 20) (args := #[.agg #[.int .i64 bp, .int .i64 bv, .int .i64 bc], .agg #[.int .i64 ap, .int .i64 av, .int .i64 ac]]) (by kernel_rfl) (by kernel_rfl) (by kernel_rfl) Try.call20 (before_any bp bv bc ap av ac _) ?_ ?_
            · rintro _ w190 ⟨rfl, hc44⟩
              exact Step.mono hc44 (by intro i hi; first | exact hi.elim | ((try simp only at hi ⊢); omega))
            rintro _ w190 ⟨rfl, hc44⟩
            have hzhc44 := (hc44).size
            replace hS := Step.trans hS hc44
            replace ho1 := ho1.no hc44
            replace ho2 := ho2.no hc44
            replace ho3 := ho3.no hc44
            replace ho5 := ho5.no hc44
            replace hmk2 := hmk2.no hc44
            refine VT_pures 1 (kn' := [(19, .bool (befK bp bv bc ap av ac)), (18, .bool (befK bp bv bc ap av ac)), (17, .agg #[.int .i64 ap, .int .i64 av, .int .i64 ac]), (16, .agg #[.int .i64 bp, .int .i64 bv, .int .i64 bc]), (15, .bool false), (14, .bool false), (13, .agg #[.int .i64 bp, .int .i64 bv, .int .i64 bc]), (12, .agg #[.int .i64 ap, .int .i64 av, .int .i64 ac]), (11, .bool (eqK ap av ac bp bv bc)), (10, .agg #[.int .i64 bp, .int .i64 bv, .int .i64 bc]), (9, .agg #[.int .i64 ap, .int .i64 av, .int .i64 ac]), (8, .bool false), (7, .bool false), (6, undef), (5, undef), (4, undef), (3, .bool false), (2, .bool false), (1, .agg #[.int .i64 bp, .int .i64 bv, .int .i64 bc]), (0, .agg #[.int .i64 ap, .int .i64 av, .int .i64 ac])]) (by kernel_rfl) ?_
            refine VT_end ?_
            intro w191 hs31
            replace hS := Step.trans hS hs31
            replace ho1 := ho1.no hs31
            replace ho2 := ho2.no hs31
            replace ho3 := ho3.no hs31
            replace ho5 := ho5.no hs31
            replace hmk2 := hmk2.no hs31
            refine VL_keep [6, 7, 8, 10, 91, 94, 102] [(6, .pointer (some ⟨b1, 0, none⟩)), (7, .pointer (some ⟨b2, 0, none⟩)), (8, .pointer (some ⟨b3, 0, none⟩)), (10, .pointer (some ⟨b5, 0, none⟩)), (91, .bool false), (94, .bool (eqK ap av ac bp bv bc)), (102, .bool (befK bp bv bc ap av ac))] (by kernel_rfl) ?_
            refine VL_pure 22 [6, 7, 8, 10, 104] [(6, .pointer (some ⟨b1, 0, none⟩)), (7, .pointer (some ⟨b2, 0, none⟩)), (8, .pointer (some ⟨b3, 0, none⟩)), (10, .pointer (some ⟨b5, 0, none⟩)), (104, .bool ((eqK ap av ac bp bv bc) == (befK bp bv bc ap av ac)))] (by kernel_rfl) rfl ?_
            refine VL_end (by kernel_rfl) ?_
            refine VQ_next ?_
            refine VC_is (b := (eqK ap av ac bp bv bc) == (befK bp bv bc ap av ac)) false (by kernel_rfl) (by cases hq1 : eqK ap av ac bp bv bc <;> cases hq2 : befK bp bv bc ap av ac <;> first | rfl | (exfalso; simp only [befK_iff, befK_false, eqK, decide_eq_true_eq, decide_eq_false_iff_not] at *; omega)) ?_
            refine VC_ite_false ?_
            refine VC_skip ?_
            refine VQ_next ?_
            refine VC_seq ?_
            refine VC_region ?_
            refine VL_load (d := 105) (t := 29) (a := ⟨b1, 0, none⟩) (v := .agg #[.int .i64 ap, .int .i64 av, .int .i64 ac]) (by kernel_rfl) (by kernel_rfl) (Loads.ownL ho1 (n := 3) (by kernel_rfl) (by kernel_rfl) (by kernel_rfl)) ?_
            refine VL_load (d := 106) (t := 29) (a := ⟨b2, 0, none⟩) (v := .agg #[.int .i64 bp, .int .i64 bv, .int .i64 bc]) (by kernel_rfl) (by kernel_rfl) (Loads.ownL ho2 (n := 3) (by kernel_rfl) (by kernel_rfl) (by kernel_rfl)) ?_
            have hzs93 := hS.size
            have hzl503 := ho1.lt
            have hzl504 := ho2.lt
            have hzl505 := ho3.lt
            have hzl506 := ho5.lt
            have hzl507 := hmk2.lt
            refine VL_call (d := 107) (f := 20) (args := #[.agg #[.int .i64 ap, .int .i64 av, .int .i64 ac], .agg #[.int .i64 bp, .int .i64 bv, .int .i64 bc]]) (by kernel_rfl) (by kernel_rfl) (by kernel_rfl) Try.call20 (before_any ap av ac bp bv bc _) ?_
            rintro _ w192 ⟨rfl, hc45⟩
            replace hS := Step.trans hS hc45
            replace ho1 := ho1.no hc45
            replace ho2 := ho2.no hc45
            replace ho3 := ho3.no hc45
            replace ho5 := ho5.no hc45
            replace hmk2 := hmk2.no hc45
            refine VL_pure 5 [6, 7, 8, 10, 109] [(6, .pointer (some ⟨b1, 0, none⟩)), (7, .pointer (some ⟨b2, 0, none⟩)), (8, .pointer (some ⟨b3, 0, none⟩)), (10, .pointer (some ⟨b5, 0, none⟩)), (109, .bool (!(befK ap av ac bp bv bc)))] (by kernel_rfl) rfl ?_
            refine VL_bool (befK ap av ac bp bv bc) (fun bV => [(6, .pointer (some ⟨b1, 0, none⟩)), (7, .pointer (some ⟨b2, 0, none⟩)), (8, .pointer (some ⟨b3, 0, none⟩)), (10, .pointer (some ⟨b5, 0, none⟩)), (109, .bool (!bV))]) rfl (fun hg26 => ?_) (fun hg26 => ?_)
            · refine VL_load (d := 110) (t := 29) (a := ⟨b2, 0, none⟩) (v := .agg #[.int .i64 bp, .int .i64 bv, .int .i64 bc]) (by kernel_rfl) (by kernel_rfl) (Loads.ownL ho2 (n := 3) (by kernel_rfl) (by kernel_rfl) (by kernel_rfl)) ?_
              refine VL_load (d := 111) (t := 29) (a := ⟨b3, 0, none⟩) (v := .agg #[.int .i64 dp, .int .i64 dv, .int .i64 dc]) (by kernel_rfl) (by kernel_rfl) (Loads.ownL ho3 (n := 3) (by kernel_rfl) (by kernel_rfl) (by kernel_rfl)) ?_
              have hzs94 := hS.size
              have hzl508 := ho1.lt
              have hzl509 := ho2.lt
              have hzl510 := ho3.lt
              have hzl511 := ho5.lt
              have hzl512 := hmk2.lt
              refine VL_call (d := 112) (f := 20) (args := #[.agg #[.int .i64 bp, .int .i64 bv, .int .i64 bc], .agg #[.int .i64 dp, .int .i64 dv, .int .i64 dc]]) (by kernel_rfl) (by kernel_rfl) (by kernel_rfl) Try.call20 (before_any bp bv bc dp dv dc _) ?_
              rintro _ w193 ⟨rfl, hc46⟩
              replace hS := Step.trans hS hc46
              replace ho1 := ho1.no hc46
              replace ho2 := ho2.no hc46
              replace ho3 := ho3.no hc46
              replace ho5 := ho5.no hc46
              replace hmk2 := hmk2.no hc46
              refine VL_pure 11 [6, 8, 10, 115] [(6, .pointer (some ⟨b1, 0, none⟩)), (8, .pointer (some ⟨b3, 0, none⟩)), (10, .pointer (some ⟨b5, 0, none⟩)), (115, .bool (!(befK bp bv bc dp dv dc)))] (by kernel_rfl) rfl ?_
              refine VL_bool (befK bp bv bc dp dv dc) (fun bV => [(6, .pointer (some ⟨b1, 0, none⟩)), (8, .pointer (some ⟨b3, 0, none⟩)), (10, .pointer (some ⟨b5, 0, none⟩)), (115, .bool (!bV))]) rfl (fun hg27 => ?_) (fun hg27 => ?_)
              · refine VL_load (d := 116) (t := 29) (a := ⟨b1, 0, none⟩) (v := .agg #[.int .i64 ap, .int .i64 av, .int .i64 ac]) (by kernel_rfl) (by kernel_rfl) (Loads.ownL ho1 (n := 3) (by kernel_rfl) (by kernel_rfl) (by kernel_rfl)) ?_
                refine VL_load (d := 117) (t := 29) (a := ⟨b3, 0, none⟩) (v := .agg #[.int .i64 dp, .int .i64 dv, .int .i64 dc]) (by kernel_rfl) (by kernel_rfl) (Loads.ownL ho3 (n := 3) (by kernel_rfl) (by kernel_rfl) (by kernel_rfl)) ?_
                have hzs95 := hS.size
                have hzl513 := ho1.lt
                have hzl514 := ho2.lt
                have hzl515 := ho3.lt
                have hzl516 := ho5.lt
                have hzl517 := hmk2.lt
                refine VL_call (d := 118) (f := 20) (args := #[.agg #[.int .i64 ap, .int .i64 av, .int .i64 ac], .agg #[.int .i64 dp, .int .i64 dv, .int .i64 dc]]) (by kernel_rfl) (by kernel_rfl) (by kernel_rfl) Try.call20 (before_any ap av ac dp dv dc _) ?_
                rintro _ w194 ⟨rfl, hc47⟩
                replace hS := Step.trans hS hc47
                replace ho1 := ho1.no hc47
                replace ho2 := ho2.no hc47
                replace ho3 := ho3.no hc47
                replace ho5 := ho5.no hc47
                replace hmk2 := hmk2.no hc47
                refine VL_pure 15 [10, 119] [(10, .pointer (some ⟨b5, 0, none⟩)), (119, .bool (befK ap av ac dp dv dc))] (by kernel_rfl) rfl ?_
                refine VL_store (b := b5) (o := 0) (vs := [.bool (befK ap av ac dp dv dc)]) (by kernel_rfl) (by kernel_rfl) ho5 (Nat.le_of_ble_eq_true (by kernel_rfl)) ?_
                intro w195 hw36
                replace hS := Step.transNew hS hw36.step (fun _ _ _ => by omega)
                replace ho1 := ho1.step hw36.step (show ¬ b1 = b5 by omega)
                replace ho2 := ho2.step hw36.step (show ¬ b2 = b5 by omega)
                replace ho3 := ho3.step hw36.step (show ¬ b3 = b5 by omega)
                replace hmk2 := hmk2.step hw36.step (show ¬ w19.heap.size = b5 by omega)
                have ho45 : Own w195 b5 #[.bool (befK ap av ac dp dv dc)] 4 := Own.cast hw36.own (by kernel_rfl)
                have hzhw36 := hw36.same
                refine VL_end (by kernel_rfl) ?_
                refine VQ_next ?_
                refine VC_ret ?_
                have hzs96 := hS.size
                have hzl518 := ho1.lt
                have hzl519 := ho2.lt
                have hzl520 := ho3.lt
                have hzl521 := hmk2.lt
                have hzl522 := ho45.lt
                have hzr := ho45.lt
                refine VQ_retMC1 (.bool (befK ap av ac dp dv dc)) [w19.heap.size] (.inr rfl) rfl rfl ⟨hmk2, (by simp), trivial⟩ (fun w9 hq9 => Loads.own1 (ho45.step hq9 (by simp; try omega)) (by kernel_rfl) rfl) ?_
                intro w196 hq29
                replace hq29 : Step (Just w19.heap.size) w195 w196 := Step.mono hq29 (fun i hi => by simpa using hi)
                replace hS := Step.transNew hS hq29 (fun _ _ _ => by omega)
                replace ho1 := ho1.step hq29 (show ¬ b1 = w19.heap.size by omega)
                replace ho2 := ho2.step hq29 (show ¬ b2 = w19.heap.size by omega)
                replace ho3 := ho3.step hq29 (show ¬ b3 = w19.heap.size by omega)
                replace ho45 := ho45.step hq29 (show ¬ b5 = w19.heap.size by omega)
                exact ⟨congrArg Value.bool (by (try simp only [befK_iff, befK_false, eqK, decide_eq_true_eq, decide_eq_false_iff_not] at *); first | rfl | omega), hS⟩
              · refine VL_pure 15 [10, 119] [(10, .pointer (some ⟨b5, 0, none⟩)), (119, .bool true)] (by kernel_rfl) rfl ?_
                refine VL_store (b := b5) (o := 0) (vs := [.bool true]) (by kernel_rfl) (by kernel_rfl) ho5 (Nat.le_of_ble_eq_true (by kernel_rfl)) ?_
                intro w197 hw37
                replace hS := Step.transNew hS hw37.step (fun _ _ _ => by omega)
                replace ho1 := ho1.step hw37.step (show ¬ b1 = b5 by omega)
                replace ho2 := ho2.step hw37.step (show ¬ b2 = b5 by omega)
                replace ho3 := ho3.step hw37.step (show ¬ b3 = b5 by omega)
                replace hmk2 := hmk2.step hw37.step (show ¬ w19.heap.size = b5 by omega)
                have ho46 : Own w197 b5 #[.bool true] 4 := Own.cast hw37.own (by kernel_rfl)
                have hzhw37 := hw37.same
                refine VL_end (by kernel_rfl) ?_
                refine VQ_next ?_
                refine VC_ret ?_
                have hzs97 := hS.size
                have hzl523 := ho1.lt
                have hzl524 := ho2.lt
                have hzl525 := ho3.lt
                have hzl526 := hmk2.lt
                have hzl527 := ho46.lt
                have hzr := ho46.lt
                refine VQ_retMC1 (.bool true) [w19.heap.size] (.inr rfl) rfl rfl ⟨hmk2, (by simp), trivial⟩ (fun w9 hq9 => Loads.own1 (ho46.step hq9 (by simp; try omega)) (by kernel_rfl) rfl) ?_
                intro w198 hq30
                replace hq30 : Step (Just w19.heap.size) w197 w198 := Step.mono hq30 (fun i hi => by simpa using hi)
                replace hS := Step.transNew hS hq30 (fun _ _ _ => by omega)
                replace ho1 := ho1.step hq30 (show ¬ b1 = w19.heap.size by omega)
                replace ho2 := ho2.step hq30 (show ¬ b2 = w19.heap.size by omega)
                replace ho3 := ho3.step hq30 (show ¬ b3 = w19.heap.size by omega)
                replace ho46 := ho46.step hq30 (show ¬ b5 = w19.heap.size by omega)
                exact ⟨rfl, hS⟩
            · refine VL_pure 15 [10, 119] [(10, .pointer (some ⟨b5, 0, none⟩)), (119, .bool true)] (by kernel_rfl) rfl ?_
              refine VL_store (b := b5) (o := 0) (vs := [.bool true]) (by kernel_rfl) (by kernel_rfl) ho5 (Nat.le_of_ble_eq_true (by kernel_rfl)) ?_
              intro w199 hw38
              replace hS := Step.transNew hS hw38.step (fun _ _ _ => by omega)
              replace ho1 := ho1.step hw38.step (show ¬ b1 = b5 by omega)
              replace ho2 := ho2.step hw38.step (show ¬ b2 = b5 by omega)
              replace ho3 := ho3.step hw38.step (show ¬ b3 = b5 by omega)
              replace hmk2 := hmk2.step hw38.step (show ¬ w19.heap.size = b5 by omega)
              have ho47 : Own w199 b5 #[.bool true] 4 := Own.cast hw38.own (by kernel_rfl)
              have hzhw38 := hw38.same
              refine VL_end (by kernel_rfl) ?_
              refine VQ_next ?_
              refine VC_ret ?_
              have hzs98 := hS.size
              have hzl528 := ho1.lt
              have hzl529 := ho2.lt
              have hzl530 := ho3.lt
              have hzl531 := hmk2.lt
              have hzl532 := ho47.lt
              have hzr := ho47.lt
              refine VQ_retMC1 (.bool true) [w19.heap.size] (.inr rfl) rfl rfl ⟨hmk2, (by simp), trivial⟩ (fun w9 hq9 => Loads.own1 (ho47.step hq9 (by simp; try omega)) (by kernel_rfl) rfl) ?_
              intro w200 hq31
              replace hq31 : Step (Just w19.heap.size) w199 w200 := Step.mono hq31 (fun i hi => by simpa using hi)
              replace hS := Step.transNew hS hq31 (fun _ _ _ => by omega)
              replace ho1 := ho1.step hq31 (show ¬ b1 = w19.heap.size by omega)
              replace ho2 := ho2.step hq31 (show ¬ b2 = w19.heap.size by omega)
              replace ho3 := ho3.step hq31 (show ¬ b3 = w19.heap.size by omega)
              replace ho47 := ho47.step hq31 (show ¬ b5 = w19.heap.size by omega)
              exact ⟨rfl, hS⟩

end Go.Proofs.Ytfkahhkojlfmdaa
