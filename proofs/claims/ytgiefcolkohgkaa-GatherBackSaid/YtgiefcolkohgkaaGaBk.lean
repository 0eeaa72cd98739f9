/- Layer 11: GatherBack. -/
import Derived.Test.YtgiefcolkohgkaaProg
import Derived.Test.YtgiefcolkohgkaaGa4
import Derived.Test.YtgiefcolkohgkaaGa8
import Derived.Test.YtgiefcolkohgkaaCe1
set_option linter.unusedVariables false
set_option linter.unusedSimpArgs false
namespace Go.Proofs.Ytgiefcolkohgkaa
open Go.Vc Go.RowKit

set_option maxRecDepth 100000 in
set_option maxHeartbeats 4000000 in
theorem back_law (A : Option Addr) (n cc : Nat) (q : Nat → Tx) (m : Nat) (mk : Int) (w : World) (hT : TxsAt w A n q) (hm : m < 65536) (hmk0 : 0 ≤ mk ∧ mk < 256) :
    CV Try.prog 5 #[.slice A n cc, .int .u16 ((m : Nat) : Int), .int .u8 mk] w (fun x w1 => x = .bool true ∧ Step No w w1) := by
  have hS : Step No w w := Step.refl _ _
  obtain ⟨hq, hT2⟩ := hT
  refine CV_enterM Try.f5 _ 103 [(0, .slice A n cc), (1, .int .u16 ((m : Nat) : Int)), (2, .int .u8 mk)] Try.func5 rfl rfl (by kernel_rfl) rfl ?_
  refine VC_seq ?_
  refine VC_region ?_
  have hzs1 := hS.size
  refine VL_box (d := 3) (t := 46) (c := #[.slice A n cc]) (by kernel_rfl) (by kernel_rfl) ?_
  intro b1 w1 hn1
  replace hS := Step.trans hS (hn1.step No)
  have ho1 := hn1.own
  have hzhn1 := hn1.size
  have hqhn1 := hn1.eqb
  have hzs2 := hS.size
  have hzl1 := ho1.lt
  refine VL_box (d := 5) (t := 5) (c := #[.int .u8 mk]) (by kernel_rfl) (by kernel_rfl) ?_
  intro b2 w2 hn2
  replace hS := Step.trans hS (hn2.step No)
  replace ho1 := ho1.no (hn2.step No)
  have ho2 := hn2.own
  have hzhn2 := hn2.size
  have hqhn2 := hn2.eqb
  have hzs3 := hS.size
  have hzl2 := ho1.lt
  have hzl3 := ho2.lt
  refine VL_box (d := 6) (t := 4) (c := #[.bool false]) (by kernel_rfl) (by kernel_rfl) ?_
  intro b3 w3 hn3
  replace hS := Step.trans hS (hn3.step No)
  replace ho1 := ho1.no (hn3.step No)
  replace ho2 := ho2.no (hn3.step No)
  have ho3 := hn3.own
  have hzhn3 := hn3.size
  have hqhn3 := hn3.eqb
  refine VL_end (by kernel_rfl) ?_
  refine VQ_next ?_
  refine VC_seq ?_
  refine VC_seq ?_
  refine VC_region ?_
  have hzs4 := hS.size
  have hzl4 := ho1.lt
  have hzl5 := ho2.lt
  have hzl6 := ho3.lt
  refine VL_call (d := 17) (f := 9) (args := #[]) (by kernel_rfl) (by kernel_rfl) (by kernel_rfl) Try.call9 (awake_any _) ?_
  rintro _ w4 ⟨rfl, hc1⟩
  replace hS := Step.trans hS hc1
  replace ho1 := ho1.no hc1
  replace ho2 := ho2.no hc1
  replace ho3 := ho3.no hc1
  refine VL_pure 3 [1, 3, 5, 6, 19] [(1, .int .u16 ((m : Nat) : Int)), (3, .pointer (some ⟨b1, 0, none⟩)), (5, .pointer (some ⟨b2, 0, none⟩)), (6, .pointer (some ⟨b3, 0, none⟩)), (19, .bool false)] (by kernel_rfl) rfl ?_
  refine VL_load (d := 20) (t := 46) (a := ⟨b1, 0, none⟩) (v := .slice A n cc) (by kernel_rfl) (by kernel_rfl) (Loads.own1 ho1 (by kernel_rfl) (by rfl)) ?_
  refine VL_pure 7 [1, 3, 5, 6, 23] [(1, .int .u16 ((m : Nat) : Int)), (3, .pointer (some ⟨b1, 0, none⟩)), (5, .pointer (some ⟨b2, 0, none⟩)), (6, .pointer (some ⟨b3, 0, none⟩)), (23, .bool (decide (((n : Nat) : Int) > 12)))] (by kernel_rfl) rfl ?_
  refine VL_end (by kernel_rfl) ?_
  refine VQ_next ?_
  refine VC_dec (((n : Nat) : Int) > 12) (by kernel_rfl) (fun h1 => ?_) (fun h1 => ?_)
  · refine VC_seq ?_
    refine VC_region ?_
    have hzs5 := hS.size
    have hzl7 := ho1.lt
    have hzl8 := ho2.lt
    have hzl9 := ho3.lt
    refine VL_call (d := 24) (f := 9) (args := #[]) (by kernel_rfl) (by kernel_rfl) (by kernel_rfl) Try.call9 (awake_any _) ?_
    rintro _ w5 ⟨rfl, hc2⟩
    replace hS := Step.trans hS hc2
    replace ho1 := ho1.no hc2
    replace ho2 := ho2.no hc2
    replace ho3 := ho3.no hc2
    refine VL_store (b := b3) (o := 0) (vs := [.bool true]) (by kernel_rfl) (by kernel_rfl) ho3 (Nat.le_of_ble_eq_true (by kernel_rfl)) ?_
    intro w6 hw1
    replace hS := Step.transNew hS hw1.step (fun _ _ _ => by omega)
    replace ho1 := ho1.step hw1.step (show ¬ b1 = b3 by omega)
    replace ho2 := ho2.step hw1.step (show ¬ b2 = b3 by omega)
    have ho4 : Own w6 b3 #[.bool true] 4 := Own.cast hw1.own (by kernel_rfl)
    have hzhw1 := hw1.same
    refine VL_end (by kernel_rfl) ?_
    refine VQ_next ?_
    refine VC_ret ?_
    refine VQ_then_ret ?_
    have hzs6 := hS.size
    have hzl10 := ho1.lt
    have hzl11 := ho2.lt
    have hzl12 := ho4.lt
    have hzr := ho4.lt
    refine VQ_retMC1 (.bool true) [] (.inr rfl) rfl rfl trivial (fun w9 hq9 => Loads.own1 (ho4.step hq9 (by simp; try omega)) (by kernel_rfl) rfl) ?_
    intro w7 hq1
    replace hq1 : Step No w6 w7 := Step.mono hq1 (fun i hi => by simp at hi)
    replace hS := Step.trans hS hq1
    replace ho1 := ho1.no hq1
    replace ho2 := ho2.no hq1
    replace ho4 := ho4.no hq1
    exact ⟨by first | rfl | (rw [hid.bs]; rfl) | simp [*], hS⟩
  · refine VC_skip ?_
    refine VQ_next ?_
    refine VC_seq ?_
    refine VC_region ?_
    refine VL_pure 2 [1, 3, 5, 6, 26] [(1, .int .u16 ((m : Nat) : Int)), (3, .pointer (some ⟨b1, 0, none⟩)), (5, .pointer (some ⟨b2, 0, none⟩)), (6, .pointer (some ⟨b3, 0, none⟩)), (26, .int .i64 (IntKind.wrap .i64 ((m : Nat) : Int)))] (by kernel_rfl) rfl ?_
    have he1 : IntKind.wrap .i64 ((m : Nat) : Int) = ((m : Nat) : Int) := (by rw [wrap_i64 _ (by omega) (by omega)])
    refine VL_eq [(1, .int .u16 ((m : Nat) : Int)), (3, .pointer (some ⟨b1, 0, none⟩)), (5, .pointer (some ⟨b2, 0, none⟩)), (6, .pointer (some ⟨b3, 0, none⟩)), (26, .int .i64 ((m : Nat) : Int))] (by rw [he1]) ?_
    refine VL_pure 3 [1, 3, 5, 6, 27] [(1, .int .u16 ((m : Nat) : Int)), (3, .pointer (some ⟨b1, 0, none⟩)), (5, .pointer (some ⟨b2, 0, none⟩)), (6, .pointer (some ⟨b3, 0, none⟩)), (27, .int .i64 (IntKind.wrap .i64 (1 + ((m : Nat) : Int))))] (by kernel_rfl) rfl ?_
    have he2 : IntKind.wrap .i64 (1 + ((m : Nat) : Int)) = ((m + 1 : Nat) : Int) := (by rw [wrap_i64 _ (by omega) (by omega)]; omega)
    refine VL_eq [(1, .int .u16 ((m : Nat) : Int)), (3, .pointer (some ⟨b1, 0, none⟩)), (5, .pointer (some ⟨b2, 0, none⟩)), (6, .pointer (some ⟨b3, 0, none⟩)), (27, .int .i64 ((m + 1 : Nat) : Int))] (by rw [he2]) ?_
    have hzs7 := hS.size
    have hzl13 := ho1.lt
    have hzl14 := ho2.lt
    have hzl15 := ho3.lt
    refine VL_call (d := 28) (f := 10) (by kernel_rfl) (by kernel_rfl) (by kernel_rfl) Try.call10 (gnew_any ((m + 1 : Nat) : Int) _) ?_
    rintro _ w8 ⟨gp1, rfl, hfgp1, hg1, hc3⟩
    replace hS := Step.trans hS hc3
    replace ho1 := ho1.no hc3
    replace ho2 := ho2.no hc3
    replace ho3 := ho3.no hc3
    have hltgp1 := GaOf.lt hg1
    have hgigp1 : GaI (newG ((m + 1 : Nat) : Int)) 0 := GaI.new _
    have hzzgp1 := hc3.size
    have hzs8 := hS.size
    have hzl16 := ho1.lt
    have hzl17 := ho2.lt
    have hzl18 := ho3.lt
    have hzl19 := GaOf.lt hg1
    refine VL_box (d := 7) (t := 24) (c := #[.pointer none]) (by kernel_rfl) (by kernel_rfl) ?_
    intro b4 w9 hn4
    replace hS := Step.trans hS (hn4.step No)
    replace ho1 := ho1.no (hn4.step No)
    replace ho2 := ho2.no (hn4.step No)
    replace ho3 := ho3.no (hn4.step No)
    replace hg1 := GaOf.no hg1 (hn4.step No)
    have ho5 := hn4.own
    have hzhn4 := hn4.size
    have hqhn4 := hn4.eqb
    refine VL_store (b := b4) (o := 0) (vs := [.pointer (some ⟨gp1, 0, none⟩)]) (by kernel_rfl) (by kernel_rfl) ho5 (Nat.le_of_ble_eq_true (by kernel_rfl)) ?_
    intro w10 hw2
    replace hS := Step.transNew hS hw2.step (fun _ _ _ => by omega)
    replace ho1 := ho1.step hw2.step (show ¬ b1 = b4 by omega)
    replace ho2 := ho2.step hw2.step (show ¬ b2 = b4 by omega)
    replace ho3 := ho3.step hw2.step (show ¬ b3 = b4 by omega)
    replace hg1 := GaOf.keep hg1 ho5 (by decide) (by omega) hw2.step
    have ho6 : Own w10 b4 #[.pointer (some ⟨gp1, 0, none⟩)] 24 := Own.cast hw2.own (by kernel_rfl)
    have hzhw2 := hw2.same
    refine VL_end (by kernel_rfl) ?_
    refine VQ_next ?_
    refine VC_seq ?_
    refine VC_region ?_
    have hzs9 := hS.size
    have hzl20 := ho1.lt
    have hzl21 := ho2.lt
    have hzl22 := ho3.lt
    have hzl23 := GaOf.lt hg1
    have hzl24 := ho6.lt
    refine VL_box (d := 8) (t := 3) (c := #[.int .i64 0]) (by kernel_rfl) (by kernel_rfl) ?_
    intro b5 w11 hn5
    replace hS := Step.trans hS (hn5.step No)
    replace ho1 := ho1.no (hn5.step No)
    replace ho2 := ho2.no (hn5.step No)
    replace ho3 := ho3.no (hn5.step No)
    replace hg1 := GaOf.no hg1 (hn5.step No)
    replace ho6 := ho6.no (hn5.step No)
    have ho7 := hn5.own
    have hzhn5 := hn5.size
    have hqhn5 := hn5.eqb
    refine VL_store (b := b5) (o := 0) (vs := [.int .i64 0]) (by kernel_rfl) (by kernel_rfl) ho7 (Nat.le_of_ble_eq_true (by kernel_rfl)) ?_
    intro w12 hw3
    replace hS := Step.transNew hS hw3.step (fun _ _ _ => by omega)
    replace ho1 := ho1.step hw3.step (show ¬ b1 = b5 by omega)
    replace ho2 := ho2.step hw3.step (show ¬ b2 = b5 by omega)
    replace ho3 := ho3.step hw3.step (show ¬ b3 = b5 by omega)
    replace hg1 := GaOf.keep hg1 ho7 (by decide) (by omega) hw3.step
    replace ho6 := ho6.step hw3.step (show ¬ b4 = b5 by omega)
    have ho8 : Own w12 b5 #[.int .i64 0] 3 := Own.cast hw3.own (by kernel_rfl)
    have hzhw3 := hw3.same
    refine VL_end (by kernel_rfl) ?_
    refine VQ_next ?_
    refine VC_seq ?_
    refine VC_seq ?_
    refine VC_region ?_
    refine VL_load (d := 29) (t := 46) (a := ⟨b1, 0, none⟩) (v := .slice A n cc) (by kernel_rfl) (by kernel_rfl) (Loads.own1 ho1 (by kernel_rfl) (by rfl)) ?_
    refine VL_pure 3 [1, 3, 5, 6, 7, 8, 30, 31] [(1, .int .u16 ((m : Nat) : Int)), (3, .pointer (some ⟨b1, 0, none⟩)), (5, .pointer (some ⟨b2, 0, none⟩)), (6, .pointer (some ⟨b3, 0, none⟩)), (7, .pointer (some ⟨b4, 0, none⟩)), (8, .pointer (some ⟨b5, 0, none⟩)), (30, .int .i64 ((n : Nat) : Int)), (31, .int .i64 0)] (by kernel_rfl) rfl ?_
    refine VL_end (by kernel_rfl) ?_
    refine VQ_next ?_
    refine VC_block ?_
    have hMk0 := MarksI.nil w12 w.heap.size w12.heap.size
    refine VC_loopD (σ := Nat × Ga × (List Nat)) (fun σs => σs.2.2) (fun σs => [(1, .int .u16 ((m : Nat) : Int)), (3, .pointer (some ⟨b1, 0, none⟩)), (5, .pointer (some ⟨b2, 0, none⟩)), (6, .pointer (some ⟨b3, 0, none⟩)), (7, .pointer (some ⟨b4, 0, none⟩)), (8, .pointer (some ⟨b5, 0, none⟩)), (30, .int .i64 ((n : Nat) : Int)), (31, .int .i64 ((σs.1 : Nat) : Int))]) (fun σs w13 => (σs.1 ≤ n) ∧ (IdleG ((m + 1 : Nat) : Int) σs.2.1) ∧ (Step No w w13) ∧ (Own w13 b1 #[.slice A n cc] 46) ∧ (Own w13 b2 #[.int .u8 mk] 5) ∧ (Own w13 b3 #[.bool false] 4) ∧ (Own w13 b4 #[.pointer (some ⟨gp1, 0, none⟩)] 24) ∧ (Own w13 b5 #[.int .i64 ((σs.1 * m : Nat) : Int)] 3) ∧ (GaOf w13 58 gp1 (fun _ => True) σs.2.1) ∧ (MarksI w13 w.heap.size w13.heap.size σs.2.2)) (fun σs w13 => n - σs.1) ⟨0, (newG ((m + 1 : Nat) : Int)), []⟩ (by rfl) ⟨rfl, rfl, rfl, rfl, rfl, rfl, rfl, rfl, trivial⟩ ?_ ?_
    · exact ⟨Nat.zero_le _, (idle_new (by omega) (by omega)), hS, ho1, ho2, ho3, ho6, (Own.cast ho8 (by simp)), hg1, hMk0⟩
    rintro ⟨i0, g, Ds⟩ w13 ⟨hkn, hid, hS, ho1, ho2, ho3, ho6, ho9, hga, hMk⟩
    try dsimp only at hkn hid hS ho1 ho2 ho3 ho6 ho9 hga hMk ⊢
    refine VC_seq ?_
    refine VC_region ?_
    refine VL_pure 1 [1, 3, 5, 6, 7, 8, 30, 31, 32] [(1, .int .u16 ((m : Nat) : Int)), (3, .pointer (some ⟨b1, 0, none⟩)), (5, .pointer (some ⟨b2, 0, none⟩)), (6, .pointer (some ⟨b3, 0, none⟩)), (7, .pointer (some ⟨b4, 0, none⟩)), (8, .pointer (some ⟨b5, 0, none⟩)), (30, .int .i64 ((n : Nat) : Int)), (31, .int .i64 ((i0 : Nat) : Int)), (32, .bool (decide (((i0 : Nat) : Int) < ((n : Nat) : Int))))] (by kernel_rfl) rfl ?_
    refine VL_end (by kernel_rfl) ?_
    refine VQ_next ?_
    refine VC_seq ?_
    refine VC_dec (((i0 : Nat) : Int) < ((n : Nat) : Int)) (by kernel_rfl) (fun h2 => ?_) (fun h2 => ?_)
    · refine VC_skip ?_
      refine VQ_next ?_
      refine VC_seq ?_
      refine VC_block ?_
      refine VC_seq ?_
      refine VC_region ?_
      refine VL_pure 1 [1, 3, 5, 6, 7, 8, 30, 31, 33] [(1, .int .u16 ((m : Nat) : Int)), (3, .pointer (some ⟨b1, 0, none⟩)), (5, .pointer (some ⟨b2, 0, none⟩)), (6, .pointer (some ⟨b3, 0, none⟩)), (7, .pointer (some ⟨b4, 0, none⟩)), (8, .pointer (some ⟨b5, 0, none⟩)), (30, .int .i64 ((n : Nat) : Int)), (31, .int .i64 ((i0 : Nat) : Int)), (33, .int .i64 ((i0 : Nat) : Int))] (by kernel_rfl) rfl ?_
      have hzs10 := hS.size
      have hzl25 := ho1.lt
      have hzl26 := ho2.lt
      have hzl27 := ho3.lt
      have hzl28 := ho6.lt
      have hzl29 := ho9.lt
      have hzl30 := GaOf.lt hga
      refine VL_box (d := 9) (t := 3) (c := #[.int .i64 0]) (by kernel_rfl) (by kernel_rfl) ?_
      intro b6 w14 hn6
      replace hS := Step.trans hS (hn6.step No)
      replace ho1 := ho1.no (hn6.step No)
      replace ho2 := ho2.no (hn6.step No)
      replace ho3 := ho3.no (hn6.step No)
      replace ho6 := ho6.no (hn6.step No)
      replace ho9 := ho9.no (hn6.step No)
      replace hga := GaOf.no hga (hn6.step No)
      replace hMk := MarksI.no hMk (hn6.step No)
      have ho10 := hn6.own
      have hzhn6 := hn6.size
      have hqhn6 := hn6.eqb
      refine VL_store (b := b6) (o := 0) (vs := [.int .i64 ((i0 : Nat) : Int)]) (by kernel_rfl) (by kernel_rfl) ho10 (Nat.le_of_ble_eq_true (by kernel_rfl)) ?_
      intro w15 hw4
      replace hS := Step.transNew hS hw4.step (fun _ _ _ => by omega)
      replace ho1 := ho1.step hw4.step (show ¬ b1 = b6 by omega)
      replace ho2 := ho2.step hw4.step (show ¬ b2 = b6 by omega)
      replace ho3 := ho3.step hw4.step (show ¬ b3 = b6 by omega)
      replace ho6 := ho6.step hw4.step (show ¬ b4 = b6 by omega)
      replace ho9 := ho9.step hw4.step (show ¬ b5 = b6 by omega)
      replace hga := GaOf.keep hga ho10 (by decide) (by omega) hw4.step
      replace hMk := MarksI.own hMk ho10 hw4.step
      have ho11 : Own w15 b6 #[.int .i64 ((i0 : Nat) : Int)] 3 := Own.cast hw4.own (by kernel_rfl)
      have hzhw4 := hw4.same
      refine VL_end (by kernel_rfl) ?_
      refine VQ_next ?_
      refine VC_seq ?_
      have hk : i0 < n := by omega
      obtain ⟨lb, lo, rfl, hlb, hL⟩ := hT2 (by omega)
      have hTx := ((hq i0).sl).no hS
      have hs1 := drew_step w15
      have hs1z : w15.heap.size = w15.drew.heap.size := rfl
      refine VC_text [[], [], [0, 1], [0, 1, 2], [], [0, 1, 2, 3, 4], [0, 1, 2, 3, 4, 5], [0, 1, 2, 3, 4, 5, 6], [0, 1, 2, 3, 4, 5, 6], [0, 1, 2, 3, 4, 5, 6, 7], [0, 1, 2, 3, 4, 5, 6, 7, 8, 9]] 10 (fun x y => Step (fun k => w15.heap.size ≤ k) x y) [5] [0, 1, 2, 3, 4, 5, 6, 7, 8, 9] (by kernel_rfl) (by kernel_rfl) (by kernel_rfl) (by kernel_rfl) (fun x => Step.refl _ x) (fun h k => Step.trans h k) Step.weak ?_
      have hzs11 := hS.size
      have hzl31 := ho1.lt
      have hzl32 := ho2.lt
      have hzl33 := ho3.lt
      have hzl34 := ho6.lt
      have hzl35 := ho9.lt
      have hzl36 := GaOf.lt hga
      have hzl37 := ho11.lt
      generalize w15.drew = w16 at hs1 hs1z ⊢
      replace hS := Step.trans hS hs1
      replace ho1 := ho1.no hs1
      replace ho2 := ho2.no hs1
      replace ho3 := ho3.no hs1
      replace ho6 := ho6.no hs1
      replace ho9 := ho9.no hs1
      replace hga := GaOf.no hga hs1
      replace hMk := MarksI.no hMk hs1
      replace ho11 := ho11.no hs1
      replace hTx := hTx.no hs1
      refine VT_load (d := 35) (t := 46) (a := ⟨b1, 0, none⟩) (v := .slice (some ⟨lb, lo, none⟩) n cc) (by kernel_rfl) (by kernel_rfl) ?_ ?_
      · intro w17 hr1
        replace hS := Step.transNew hS hr1 (fun i hi hG => by (try simp only at hG); omega)
        replace ho1 := ho1.step hr1 (by (try simp only); omega)
        replace ho2 := ho2.step hr1 (by (try simp only); omega)
        replace ho3 := ho3.step hr1 (by (try simp only); omega)
        replace ho6 := ho6.step hr1 (by (try simp only); omega)
        replace ho9 := ho9.step hr1 (by (try simp only); omega)
        replace ho11 := ho11.step hr1 (by (try simp only); omega)
        replace hTx := hTx.step hr1 (fun k hk hG => by (try simp only at hG); omega)
        exact (Loads.own1 ho1 (by kernel_rfl) (by rfl))
      refine VT_load (d := 36) (t := 3) (a := ⟨b6, 0, none⟩) (v := .int .i64 ((i0 : Nat) : Int)) (by kernel_rfl) (by kernel_rfl) ?_ ?_
      · intro w18 hr2
        replace hS := Step.transNew hS hr2 (fun i hi hG => by (try simp only at hG); omega)
        replace ho1 := ho1.step hr2 (by (try simp only); omega)
        replace ho2 := ho2.step hr2 (by (try simp only); omega)
        replace ho3 := ho3.step hr2 (by (try simp only); omega)
        replace ho6 := ho6.step hr2 (by (try simp only); omega)
        replace ho9 := ho9.step hr2 (by (try simp only); omega)
        replace ho11 := ho11.step hr2 (by (try simp only); omega)
        replace hTx := hTx.step hr2 (fun k hk hG => by (try simp only at hG); omega)
        exact (Loads.own1 ho11 (by kernel_rfl) (by rfl))
      refine VT_index (d := 37) (b := lb) (o := lo) (len := n) (sz := 1) (mm := ((i0 : Nat) : Int)) (by kernel_rfl) (by kernel_rfl) i0 (by rfl) (by omega) (lo + i0) (by omega) ?_
      refine VT_load (d := 38) (t := 32) (a := ⟨lb, lo + i0, none⟩) (v := .slice ((q i0).A) ((q i0).n) ((q i0).c)) (by kernel_rfl) (by kernel_rfl) ?_ ?_
      · intro w19 hr3
        replace hS := Step.transNew hS hr3 (fun i hi hG => by (try simp only at hG); omega)
        replace ho1 := ho1.step hr3 (by (try simp only); omega)
        replace ho2 := ho2.step hr3 (by (try simp only); omega)
        replace ho3 := ho3.step hr3 (by (try simp only); omega)
        replace ho6 := ho6.step hr3 (by (try simp only); omega)
        replace ho9 := ho9.step hr3 (by (try simp only); omega)
        replace ho11 := ho11.step hr3 (by (try simp only); omega)
        replace hTx := hTx.step hr3 (fun k hk hG => by (try simp only at hG); omega)
        exact (Loads.one (by kernel_rfl) (hS.cell id (hL i0 hk)))
      refine VT_load (d := 39) (t := 5) (a := ⟨b2, 0, none⟩) (v := .int .u8 mk) (by kernel_rfl) (by kernel_rfl) ?_ ?_
      · intro w20 hr4
        replace hS := Step.transNew hS hr4 (fun i hi hG => by (try simp only at hG); omega)
        replace ho1 := ho1.step hr4 (by (try simp only); omega)
        replace ho2 := ho2.step hr4 (by (try simp only); omega)
        replace ho3 := ho3.step hr4 (by (try simp only); omega)
        replace ho6 := ho6.step hr4 (by (try simp only); omega)
        replace ho9 := ho9.step hr4 (by (try simp only); omega)
        replace ho11 := ho11.step hr4 (by (try simp only); omega)
        replace hTx := hTx.step hr4 (fun k hk hG => by (try simp only at hG); omega)
        exact (Loads.own1 ho2 (by kernel_rfl) (by rfl))
      refine VT_chain (by kernel_rfl) ?_
      intro w21 hs2
      have hzhs2 := hs2.size
      replace hS := Step.trans hS hs2
      replace ho1 := ho1.no hs2
      replace ho2 := ho2.no hs2
      replace ho3 := ho3.no hs2
      replace ho6 := ho6.no hs2
      replace ho9 := ho9.no hs2
      replace hga := GaOf.no hga hs2
      replace hMk := MarksI.no hMk hs2
      replace ho11 := ho11.no hs2
      replace hTx := hTx.no hs2
      have hzs12 := hS.size
      have hzl38 := ho1.lt
      have hzl39 := ho2.lt
      have hzl40 := ho3.lt
      have hzl41 := ho6.lt
      have hzl42 := ho9.lt
      have hzl43 := GaOf.lt hga
      have hzl44 := ho11.lt
      refine VTc_call (d := 40) (f := 20) (by kernel_rfl) (by kernel_rfl) (by kernel_rfl) Try.call20 (pack_all (q i0).A ((q i0).n) ((q i0).c) _ ((q i0).bs) _ (hq i0).len hTx mk (by first | exact Nat.le_refl _ | omega)) ?_ ?_
      · rintro _ w22 ⟨pA, pN, pc, pe, rfl, hpk, hc4⟩
        exact Step.mono hc4 (by intro i hi; first | exact hi.elim | ((try simp only at hi ⊢); omega))
      rintro _ w22 ⟨pA, pN, pc, pe, rfl, hpk, hc4⟩
      have hzhc4 := (hc4).size
      replace hS := Step.trans hS hc4
      replace ho1 := ho1.no hc4
      replace ho2 := ho2.no hc4
      replace ho3 := ho3.no hc4
      replace ho6 := ho6.no hc4
      replace ho9 := ho9.no hc4
      replace hga := GaOf.no hga hc4
      replace hMk := MarksI.no hMk hc4
      replace ho11 := ho11.no hc4
      replace hTx := hTx.no hc4
      refine VT_pures 4 (kn' := [(9, .slice pA pN pc), (8, .int .i64 pe), (7, .slice pA pN pc), (6, .tuple #[.slice pA pN pc, .int .i64 pe]), (5, .tuple #[.slice pA pN pc, .int .i64 pe]), (4, .int .u8 mk), (3, .slice ((q i0).A) ((q i0).n) ((q i0).c)), (2, .pointer (some ⟨lb, lo + i0, none⟩)), (1, .int .i64 ((i0 : Nat) : Int)), (0, .slice (some ⟨lb, lo, none⟩) n cc)]) (by kernel_rfl) ?_
      refine VT_end ?_
      intro w23 hs3
      replace hS := Step.trans hS hs3
      replace ho1 := ho1.no hs3
      replace ho2 := ho2.no hs3
      replace ho3 := ho3.no hs3
      replace ho6 := ho6.no hs3
      replace ho9 := ho9.no hs3
      replace hga := GaOf.no hga hs3
      replace hMk := MarksI.no hMk hs3
      replace ho11 := ho11.no hs3
      replace hTx := hTx.no hs3
      replace hpk := PkI.no hpk hs3
      refine VL_keep [1, 3, 5, 6, 7, 8, 30, 31, 9, 42, 10] [(1, .int .u16 ((m : Nat) : Int)), (3, .pointer (some ⟨b1, 0, none⟩)), (5, .pointer (some ⟨b2, 0, none⟩)), (6, .pointer (some ⟨b3, 0, none⟩)), (7, .pointer (some ⟨b4, 0, none⟩)), (8, .pointer (some ⟨b5, 0, none⟩)), (30, .int .i64 ((n : Nat) : Int)), (31, .int .i64 ((i0 : Nat) : Int)), (9, .pointer (some ⟨b6, 0, none⟩)), (42, .int .i64 pe), (10, .slice pA pN pc)] (by kernel_rfl) ?_
      refine VL_pure 11 [1, 3, 5, 6, 7, 8, 30, 31, 9, 10, 11] [(1, .int .u16 ((m : Nat) : Int)), (3, .pointer (some ⟨b1, 0, none⟩)), (5, .pointer (some ⟨b2, 0, none⟩)), (6, .pointer (some ⟨b3, 0, none⟩)), (7, .pointer (some ⟨b4, 0, none⟩)), (8, .pointer (some ⟨b5, 0, none⟩)), (30, .int .i64 ((n : Nat) : Int)), (31, .int .i64 ((i0 : Nat) : Int)), (9, .pointer (some ⟨b6, 0, none⟩)), (10, .slice pA pN pc), (11, .int .i64 pe)] (by kernel_rfl) rfl ?_
      refine VL_end (by kernel_rfl) ?_
      refine VQ_next ?_
      refine VC_seq ?_
      refine VC_seq ?_
      refine VC_region ?_
      refine VL_pure 2 [1, 3, 5, 6, 7, 8, 30, 31, 9, 10, 44] [(1, .int .u16 ((m : Nat) : Int)), (3, .pointer (some ⟨b1, 0, none⟩)), (5, .pointer (some ⟨b2, 0, none⟩)), (6, .pointer (some ⟨b3, 0, none⟩)), (7, .pointer (some ⟨b4, 0, none⟩)), (8, .pointer (some ⟨b5, 0, none⟩)), (30, .int .i64 ((n : Nat) : Int)), (31, .int .i64 ((i0 : Nat) : Int)), (9, .pointer (some ⟨b6, 0, none⟩)), (10, .slice pA pN pc), (44, .bool (pe != 0))] (by kernel_rfl) rfl ?_
      refine VL_end (by kernel_rfl) ?_
      refine VQ_next ?_
      refine VC_ne pe 0 (by kernel_rfl) (fun h3 => ?_) (fun h3 => ?_)
      · refine VC_seq ?_
        refine VC_region ?_
        refine VL_store (b := b3) (o := 0) (vs := [.bool true]) (by kernel_rfl) (by kernel_rfl) ho3 (Nat.le_of_ble_eq_true (by kernel_rfl)) ?_
        intro w24 hw5
        replace hS := Step.transNew hS hw5.step (fun _ _ _ => by omega)
        replace ho1 := ho1.step hw5.step (show ¬ b1 = b3 by omega)
        replace ho2 := ho2.step hw5.step (show ¬ b2 = b3 by omega)
        replace ho6 := ho6.step hw5.step (show ¬ b4 = b3 by omega)
        replace ho9 := ho9.step hw5.step (show ¬ b5 = b3 by omega)
        replace hga := GaOf.keep hga ho3 (by decide) (by omega) hw5.step
        replace hMk := MarksI.own hMk ho3 hw5.step
        replace ho11 := ho11.step hw5.step (show ¬ b6 = b3 by omega)
        replace hTx := hTx.step hw5.step (fun k hk (hF : k = b3) => by omega)
        have ho12 : Own w24 b3 #[.bool true] 4 := Own.cast hw5.own (by kernel_rfl)
        have hzhw5 := hw5.same
        refine VL_end (by kernel_rfl) ?_
        refine VQ_next ?_
        refine VC_ret ?_
        refine VQ_then_ret ?_
        refine VQ_block_ret ?_
        refine VQ_then_ret ?_
        refine VQ_then_ret ?_
        refine VQ_block_ret ?_
        refine VQ_then_ret ?_
        refine VQ_retMC1 (.bool true) Ds (.inr rfl) rfl rfl hMk.1 (fun w9 hq9 => Loads.own1 (ho12.step hq9 (fun hm9 => MarksI.ne (hMk.1.dfr _ hm9) ho12 rfl)) (by kernel_rfl) rfl) ?_
        intro w25 hq2
        replace hS := Step.transNew hS hq2 (fun i hi hG => by have h9 := (hMk.2 i hG).1; omega)
        exact ⟨by first | rfl | (rw [hid.bs]; rfl) | simp [*], hS⟩
      · rcases hpk with hpk | ⟨-, hp1, hp2, rfl, hp3, hp4, hpx⟩
        · exact absurd hpk (by first | exact h3 | (intro h9; exact h9 h3))
        have hmn := (many_le (q i0).n).2 (by omega)
        have hU2 := frame_un (m := mk) (by rw [(hq i0).len]; exact hp1) (by rw [(hq i0).len]; exact hp2) (hq i0).byt hmk0
        have hkm : i0 * m ≤ 12 * 65536 := Nat.mul_le_mul (by omega) (by omega)
        have r1 := hid.rdy (by omega) ((i0 * m : Nat) : Int)
        
        refine VC_skip ?_
        refine VQ_next ?_
        refine VC_seq ?_
        refine VC_seq ?_
        refine VC_region ?_
        refine VL_pure 1 [1, 3, 5, 6, 7, 8, 30, 31, 9, 45] [(1, .int .u16 ((m : Nat) : Int)), (3, .pointer (some ⟨b1, 0, none⟩)), (5, .pointer (some ⟨b2, 0, none⟩)), (6, .pointer (some ⟨b3, 0, none⟩)), (7, .pointer (some ⟨b4, 0, none⟩)), (8, .pointer (some ⟨b5, 0, none⟩)), (30, .int .i64 ((n : Nat) : Int)), (31, .int .i64 ((i0 : Nat) : Int)), (9, .pointer (some ⟨b6, 0, none⟩)), (45, .slice pA (48 * manyN (q i0).n) pc)] (by kernel_rfl) rfl ?_
        have hzs13 := hS.size
        have hzl45 := ho1.lt
        have hzl46 := ho2.lt
        have hzl47 := ho3.lt
        have hzl48 := ho6.lt
        have hzl49 := ho9.lt
        have hzl50 := GaOf.lt hga
        have hzl51 := ho11.lt
        refine VL_call (d := 46) (f := 21) (args := #[.slice pA (48 * manyN (q i0).n) pc]) (by kernel_rfl) (by kernel_rfl) (by kernel_rfl) Try.call21 (cells_any pA (48 * manyN (q i0).n) pc _) ?_
        rintro _ w26 ⟨bb1, rfl, hfbb1, hbb1, hc5⟩
        replace hS := Step.trans hS hc5
        replace ho1 := ho1.no hc5
        replace ho2 := ho2.no hc5
        replace ho3 := ho3.no hc5
        replace ho6 := ho6.no hc5
        replace ho9 := ho9.no hc5
        replace hga := GaOf.no hga hc5
        replace hMk := MarksI.no hMk hc5
        replace ho11 := ho11.no hc5
        replace hTx := hTx.no hc5
        replace hpx := hpx.no hc5
        have hzbb1 := hbb1.lt
        refine VL_end (by kernel_rfl) ?_
        refine VQ_next ?_
        refine VC_block ?_
        have hzs14 := hS.size
        have hzl52 := ho1.lt
        have hzl53 := ho2.lt
        have hzl54 := ho3.lt
        have hzl55 := ho6.lt
        have hzl56 := ho9.lt
        have hzl57 := GaOf.lt hga
        have hzl58 := ho11.lt
        have hzl59 := hbb1.lt
        have hvx1 := SlX.mono (Y := (fun k9 => k9 < w26.heap.size)) hpx (fun b _ hb => hb)
        have hgx1 := GaOf.mono (Y := (fun k9 => k9 ≠ (w26.heap.size + 1))) hga (fun b _ hb => by (try simp only); omega)
        have hzs15 := hS.size
        have hzl60 := ho1.lt
        have hzl61 := ho2.lt
        have hzl62 := ho3.lt
        have hzl63 := ho6.lt
        have hzl64 := ho9.lt
        have hzl65 := GaOf.lt hga
        have hzl66 := ho11.lt
        have hzl67 := hbb1.lt
        refine VC_range (gf := 28) (lb := #[.pointer (some ⟨bb1, 0, none⟩)]) (xs := (cellsV (frameF (q i0).bs mk))) (by kernel_rfl) Try.call28 (cells_iter bb1 (48 * manyN (q i0).n) pc (w26.heap.size) pA (frameF (q i0).bs mk) hp4 (by omega) hp3) (fun a ha => by obtain ⟨x, _, rfl⟩ := List.mem_map.1 ha; rfl) (by kernel_rfl) (fun M i => i = gp1 ∨ M ≤ i) (fun M i hi => by (try simp only at hi); omega) (fun M k W => w26.heap.size + 2 ≤ M ∧ Step No w W ∧ Own W b1 #[.slice (some ⟨lb, lo, none⟩) n cc] 46 ∧ Own W b2 #[.int .u8 mk] 5 ∧ Own W b3 #[.bool false] 4 ∧ Own W b4 #[.pointer (some ⟨gp1, 0, none⟩)] 24 ∧ Own W b5 #[.int .i64 ((i0 * m : Nat) : Int)] 3 ∧ GaOf W 58 gp1 (fun k9 => k9 ≠ (w26.heap.size + 1)) (feedG g ((i0 * m : Nat) : Int) (frameF (q i0).bs mk) (flF (48 * manyN (q i0).n)) k) ∧ MarksI W w.heap.size w13.heap.size Ds ∧ Own W b6 #[.int .i64 ((i0 : Nat) : Int)] 3 ∧ Sl W (w.heap.size) (q i0).A (iL .u8 ((q i0).bs)) ∧ SlX W 5 (fun k9 => k9 < w26.heap.size) pA (iL .u8 (frameF (q i0).bs mk)) ∧ Own W bb1 #[.slice pA (48 * manyN (q i0).n) pc] 32) (fun e W => False) (by rintro M k W W' ⟨hMm, hS, ho1, ho2, ho3, ho6, ho9, hgx1, hMk, ho11, hTx, hvx1, hbb1⟩ hs; exact ⟨hMm, Step.transNew hS hs (fun i hi hG => by have : i = (w26.heap.size + 1) := hG; omega), ho1.step hs (show ¬ b1 = (w26.heap.size + 1) by omega), ho2.step hs (show ¬ b2 = (w26.heap.size + 1) by omega), ho3.step hs (show ¬ b3 = (w26.heap.size + 1) by omega), ho6.step hs (show ¬ b4 = (w26.heap.size + 1) by omega), ho9.step hs (show ¬ b5 = (w26.heap.size + 1) by omega), GaOf.mark hgx1 (fun b hb => hb) (by omega) hs, MarksI.mark hMk (by omega) hs, ho11.step hs (show ¬ b6 = (w26.heap.size + 1) by omega), hTx.step hs (fun k hk (hF : k = (w26.heap.size + 1)) => by omega), SlX.mark hvx1 (fun b hb => by (try simp only at hb); omega) hs, hbb1.step hs (show ¬ bb1 = (w26.heap.size + 1) by omega)⟩) (by rintro e W W' h; exact h.elim) (by rintro M k W W' ⟨hMm, hS, ho1, ho2, ho3, ho6, ho9, hgx1, hMk, ho11, hTx, hvx1, hbb1⟩ hs; exact ⟨hMm, Step.trans hS hs, ho1.no hs, ho2.no hs, ho3.no hs, ho6.no hs, ho9.no hs, GaOf.no hgx1 hs, MarksI.no hMk hs, ho11.no hs, hTx.no hs, hvx1.no hs, hbb1.no hs⟩) (by rintro e W W' h; exact h.elim) (by rintro M k W ⟨hMm, hS, ho1, ho2, ho3, ho6, ho9, hgx1, hMk, ho11, hTx, hvx1, hbb1⟩; exact ⟨hbb1, SlX.below hvx1⟩) (fun W hs => ⟨hbb1.no hs, SlX.below (hvx1.no hs)⟩) (fun M W hMm hM2 hs _ => ⟨hMm, Step.trans hS hs, ho1.no hs, ho2.no hs, ho3.no hs, ho6.no hs, ho9.no hs, GaOf.no hgx1 hs, MarksI.no hMk hs, ho11.no hs, hTx.no hs, hvx1.no hs, hbb1.no hs⟩) ?_ ?_ ?_
        · intro M k w27 args hM hM2 hx hJ0 hsz
          obtain ⟨hMm, hS, ho1, ho2, ho3, ho6, ho9, hgx1, hMk, ho11, hTx, hvx1, hbb1⟩ := hJ0
          obtain ⟨hk9, rfl⟩ := cellsV_inv hp4 hx
          have hML : M ≤ w27.heap.size := hM2
          have hAs : Step No w27 w27 := Step.refl _ _
          have hgiK := feed_I (F := (frameF (q i0).bs mk)) (n := (48 * manyN (q i0).n)) (t := ((i0 * m : Nat) : Int)) hid.gi hp4 (frame_bytes (hq i0).byt hmk0) (by omega) (by omega) (flF (48 * manyN (q i0).n)) k (by omega)
          refine VC_keep [3, 5, 6, 7, 8, 9, 47, 48] [(3, .pointer (some ⟨b1, 0, none⟩)), (5, .pointer (some ⟨b2, 0, none⟩)), (6, .pointer (some ⟨b3, 0, none⟩)), (7, .pointer (some ⟨b4, 0, none⟩)), (8, .pointer (some ⟨b5, 0, none⟩)), (9, .pointer (some ⟨b6, 0, none⟩)), (47, .agg (iA .u8 (((frameF (q i0).bs mk).drop (48 * k)).take 48))), (48, .bool (((48 * manyN (q i0).n - 48 * k : Nat) : Int) == 48))] (by kernel_rfl) ?_
          refine VC_seq ?_
          refine VC_region ?_
          have hzs16 := hS.size
          have hzl68 := ho1.lt
          have hzl69 := ho2.lt
          have hzl70 := ho3.lt
          have hzl71 := ho6.lt
          have hzl72 := ho9.lt
          have hzl73 := GaOf.lt hgx1
          have hzl74 := ho11.lt
          have hzl75 := hbb1.lt
          have hzk1 := hML
          have hzs17 := hAs.size
          have hzs18 := hS.size
          have hzl76 := ho1.lt
          have hzl77 := ho2.lt
          have hzl78 := ho3.lt
          have hzl79 := ho6.lt
          have hzl80 := ho9.lt
          have hzl81 := GaOf.lt hgx1
          have hzl82 := ho11.lt
          have hzl83 := hbb1.lt
          have hzk2 := hML
          have hzs19 := hAs.size
          refine VL_box (d := 12) (t := 28) (c := iA .u8 (List.replicate 48 0)) (by kernel_rfl) (by kernel_rfl) ?_
          intro b7 w28 hn7
          replace hS := Step.trans hS (hn7.step No)
          replace ho1 := ho1.no (hn7.step No)
          replace ho2 := ho2.no (hn7.step No)
          replace ho3 := ho3.no (hn7.step No)
          replace ho6 := ho6.no (hn7.step No)
          replace ho9 := ho9.no (hn7.step No)
          replace hgx1 := GaOf.no hgx1 (hn7.step No)
          replace hMk := MarksI.no hMk (hn7.step No)
          replace ho11 := ho11.no (hn7.step No)
          replace hTx := hTx.no (hn7.step No)
          replace hvx1 := hvx1.no (hn7.step No)
          replace hbb1 := hbb1.no (hn7.step No)
          replace hML := Nat.le_trans hML (hn7.step No).size
          replace hAs := Step.trans hAs (hn7.step No)
          have ho13 := hn7.own
          have hzhn7 := hn7.size
          have hqhn7 := hn7.eqb
          refine VL_storeA (b := b7) (sz := 48) (k := .u8) (bs := ((frameF (q i0).bs mk).drop (48 * k)).take 48) (by kernel_rfl) (by kernel_rfl) (by (try simp only [List.length_set, List.length_append, List.length_map, List.length_replicate, List.length_cons, List.length_nil, List.length_take, List.length_drop, List.length_range]) <;> omega) ho13 (iA_size.trans (by (try simp only [List.length_set, List.length_append, List.length_map, List.length_replicate, List.length_cons, List.length_nil, List.length_take, List.length_drop, List.length_range]) <;> omega)) ?_
          intro w29 hw6
          replace hS := Step.transNew hS hw6.step (fun _ _ _ => by omega)
          replace ho1 := ho1.step hw6.step (show ¬ b1 = b7 by omega)
          replace ho2 := ho2.step hw6.step (show ¬ b2 = b7 by omega)
          replace ho3 := ho3.step hw6.step (show ¬ b3 = b7 by omega)
          replace ho6 := ho6.step hw6.step (show ¬ b4 = b7 by omega)
          replace ho9 := ho9.step hw6.step (show ¬ b5 = b7 by omega)
          replace hgx1 := GaOf.keep hgx1 ho13 (by decide) (by omega) hw6.step
          replace hMk := MarksI.own hMk ho13 hw6.step
          replace ho11 := ho11.step hw6.step (show ¬ b6 = b7 by omega)
          replace hTx := hTx.step hw6.step (fun k hk (hF : k = b7) => by omega)
          replace hvx1 := hvx1.own ho13 (by decide) hw6.step
          replace hbb1 := hbb1.step hw6.step (show ¬ bb1 = b7 by omega)
          replace hML := Nat.le_trans hML (hw6.step).size
          replace hAs := Step.transNew hAs hw6.step (fun _ _ _ => by omega)
          have ho14 := hw6.own
          have hzhw6 := hw6.same
          refine VL_end (by kernel_rfl) ?_
          refine VQ_next ?_
          refine VC_region ?_
          refine VL_pure 1 [3, 5, 6, 7, 8, 9, 47, 48, 12, 13] [(3, .pointer (some ⟨b1, 0, none⟩)), (5, .pointer (some ⟨b2, 0, none⟩)), (6, .pointer (some ⟨b3, 0, none⟩)), (7, .pointer (some ⟨b4, 0, none⟩)), (8, .pointer (some ⟨b5, 0, none⟩)), (9, .pointer (some ⟨b6, 0, none⟩)), (47, .agg (iA .u8 (((frameF (q i0).bs mk).drop (48 * k)).take 48))), (48, .bool (((48 * manyN (q i0).n - 48 * k : Nat) : Int) == 48)), (12, .pointer (some ⟨b7, 0, none⟩)), (13, .bool (((48 * manyN (q i0).n - 48 * k : Nat) : Int) == 48))] (by kernel_rfl) rfl ?_
          refine VL_end (by kernel_rfl) ?_
          refine VQ_begin hAs ?_
          intro w30 hb1 hzhb1
          have hzs20 := hS.size
          have hzl84 := ho1.lt
          have hzl85 := ho2.lt
          have hzl86 := ho3.lt
          have hzl87 := ho6.lt
          have hzl88 := ho9.lt
          have hzl89 := GaOf.lt hgx1
          have hzl90 := ho11.lt
          have hzl91 := hbb1.lt
          have hzk3 := hML
          have hzl92 := ho14.lt
          replace hS := Step.transNew hS hb1 (fun _ _ _ => by omega)
          replace ho1 := ho1.step hb1 (show ¬ b1 = (w26.heap.size + 1) by omega)
          replace ho2 := ho2.step hb1 (show ¬ b2 = (w26.heap.size + 1) by omega)
          replace ho3 := ho3.step hb1 (show ¬ b3 = (w26.heap.size + 1) by omega)
          replace ho6 := ho6.step hb1 (show ¬ b4 = (w26.heap.size + 1) by omega)
          replace ho9 := ho9.step hb1 (show ¬ b5 = (w26.heap.size + 1) by omega)
          replace hgx1 := GaOf.mark hgx1 (fun b hb => hb) (by omega) hb1
          replace hMk := MarksI.mark hMk (by omega) hb1
          replace ho11 := ho11.step hb1 (show ¬ b6 = (w26.heap.size + 1) by omega)
          replace hTx := hTx.step hb1 (fun k hk (hF : k = (w26.heap.size + 1)) => by omega)
          replace hvx1 := SlX.mark hvx1 (fun b hb => by (try simp only at hb); omega) hb1
          replace hbb1 := hbb1.step hb1 (show ¬ bb1 = (w26.heap.size + 1) by omega)
          replace hML := Nat.le_trans hML (hb1).size
          replace ho14 := ho14.step hb1 (show ¬ b7 = (w26.heap.size + 1) by omega)
          have hR1 : Step ((fun M i => i = gp1 ∨ M ≤ i) M) w30 w30 := Step.refl _ _
          refine VC_block ?_
          refine VC_seq ?_
          refine VC_region ?_
          refine VL_load (d := 50) (t := 24) (a := ⟨b4, 0, none⟩) (v := .pointer (some ⟨gp1, 0, none⟩)) (by kernel_rfl) (by kernel_rfl) (Loads.own1 ho6 (by kernel_rfl) (by rfl)) ?_
          refine VL_load (d := 51) (t := 3) (a := ⟨b5, 0, none⟩) (v := .int .i64 ((i0 * m : Nat) : Int)) (by kernel_rfl) (by kernel_rfl) (Loads.own1 ho9 (by kernel_rfl) (by rfl)) ?_
          refine VL_load (d := 52) (t := 28) (a := ⟨b7, 0, none⟩) (v := .agg (iA .u8 (((frameF (q i0).bs mk).drop (48 * k)).take 48))) (by kernel_rfl) (by kernel_rfl) (Loads.arr (N := 48) ho14 (by kernel_rfl) (by (try simp only [List.length_set, List.length_append, List.length_map, List.length_replicate, List.length_cons, List.length_nil, List.length_take, List.length_drop, List.length_range]) <;> omega)) ?_
          refine VL_pure 4 [3, 5, 6, 9, 13, 50, 51, 52, 53] [(3, .pointer (some ⟨b1, 0, none⟩)), (5, .pointer (some ⟨b2, 0, none⟩)), (6, .pointer (some ⟨b3, 0, none⟩)), (9, .pointer (some ⟨b6, 0, none⟩)), (13, .bool (((48 * manyN (q i0).n - 48 * k : Nat) : Int) == 48)), (50, .pointer (some ⟨gp1, 0, none⟩)), (51, .int .i64 ((i0 * m : Nat) : Int)), (52, .agg (iA .u8 (((frameF (q i0).bs mk).drop (48 * k)).take 48))), (53, .bool (((48 * manyN (q i0).n - 48 * k : Nat) : Int) == 48))] (by kernel_rfl) rfl ?_
          have hzs21 := hS.size
          have hzl93 := ho1.lt
          have hzl94 := ho2.lt
          have hzl95 := ho3.lt
          have hzl96 := ho6.lt
          have hzl97 := ho9.lt
          have hzl98 := GaOf.lt hgx1
          have hzl99 := ho11.lt
          have hzl100 := hbb1.lt
          have hzl101 := ho14.lt
          have hzs22 := hR1.size
          refine VL_call (d := 54) (f := 15) (by kernel_rfl) (by kernel_rfl) (by kernel_rfl) Try.call15 (take_any gp1 (feedG g ((i0 * m : Nat) : Int) (frameF (q i0).bs mk) (flF (48 * manyN (q i0).n)) k) (fun k9 => k9 ≠ (w26.heap.size + 1)) _ (fun k9 h9 => by (try simp only); omega) hgx1 _ hgiK (by omega) ((i0 * m : Nat) : Int) (by omega) (by omega) (((frameF (q i0).bs mk).drop (48 * k)).take 48) (part_I (F := (frameF (q i0).bs mk)) (n := (48 * manyN (q i0).n)) (k := k) hp4 (frame_bytes (hq i0).byt hmk0) hk9).1 (part_I (F := (frameF (q i0).bs mk)) (n := (48 * manyN (q i0).n)) (k := k) hp4 (frame_bytes (hq i0).byt hmk0) hk9).2 (((48 * manyN (q i0).n - 48 * k : Nat) : Int) == 48)) ?_
          rintro _ w31 ⟨A1, c1, rfl, hr5, hg2, hc6⟩
          replace hS := Step.transNew hS hc6 (fun _ _ _ => by omega)
          replace ho1 := ho1.step hc6 (show ¬ b1 = gp1 by omega)
          replace ho2 := ho2.step hc6 (show ¬ b2 = gp1 by omega)
          replace ho3 := ho3.step hc6 (show ¬ b3 = gp1 by omega)
          replace ho6 := ho6.step hc6 (show ¬ b4 = gp1 by omega)
          replace ho9 := ho9.step hc6 (show ¬ b5 = gp1 by omega)
          replace hMk := MarksI_ga hMk hgx1 hc6
          replace ho11 := ho11.step hc6 (show ¬ b6 = gp1 by omega)
          replace hTx := hTx.step hc6 (fun k hk (hF : k = gp1) => by omega)
          replace hvx1 := SlX_ga hvx1 hgx1 (by decide) hc6
          replace hbb1 := hbb1.step hc6 (show ¬ bb1 = gp1 by omega)
          replace hML := Nat.le_trans hML (hc6).size
          replace ho14 := ho14.step hc6 (show ¬ b7 = gp1 by omega)
          replace hR1 := Step.trans hR1 (Step.mono hc6 (by intro i hi; first | exact hi | (have hi9 : i = gp1 := hi; (first | show _ ∨ _ | show _ = _); omega)))
          have hxhr5 := SlX.of_rw (X := fun _ => True) hr5 (fun _ _ => trivial)
          have hlthg2 := GaOf.lt hg2
          have hgihg2 := GaI.take (t := ((i0 * m : Nat) : Int)) (p := (((frameF (q i0).bs mk).drop (48 * k)).take 48)) hgiK (((48 * manyN (q i0).n - 48 * k : Nat) : Int) == 48) (by omega) (by omega) (part_I (F := (frameF (q i0).bs mk)) (n := (48 * manyN (q i0).n)) (k := k) hp4 (frame_bytes (hq i0).byt hmk0) hk9).1 (part_I (F := (frameF (q i0).bs mk)) (n := (48 * manyN (q i0).n)) (k := k) hp4 (frame_bytes (hq i0).byt hmk0) hk9).2
          have htlhg2 := takeT_le hgiK ((i0 * m : Nat) : Int) (((frameF (q i0).bs mk).drop (48 * k)).take 48) (((48 * manyN (q i0).n - 48 * k : Nat) : Int) == 48) (part_I (F := (frameF (q i0).bs mk)) (n := (48 * manyN (q i0).n)) (k := k) hp4 (frame_bytes (hq i0).byt hmk0) hk9).1
          refine VL_pure 12 [3, 5, 6, 9, 13, 14, 15, 16] [(3, .pointer (some ⟨b1, 0, none⟩)), (5, .pointer (some ⟨b2, 0, none⟩)), (6, .pointer (some ⟨b3, 0, none⟩)), (9, .pointer (some ⟨b6, 0, none⟩)), (13, .bool (((48 * manyN (q i0).n - 48 * k : Nat) : Int) == 48)), (14, .slice A1 ((takeT (feedG g ((i0 * m : Nat) : Int) (frameF (q i0).bs mk) (flF (48 * manyN (q i0).n)) k) ((i0 * m : Nat) : Int) (((frameF (q i0).bs mk).drop (48 * k)).take 48) (((48 * manyN (q i0).n - 48 * k : Nat) : Int) == 48)).length) c1), (15, .int .u8 (takeM (feedG g ((i0 * m : Nat) : Int) (frameF (q i0).bs mk) (flF (48 * manyN (q i0).n)) k) ((i0 * m : Nat) : Int) (((frameF (q i0).bs mk).drop (48 * k)).take 48) (((48 * manyN (q i0).n - 48 * k : Nat) : Int) == 48))), (16, .int .i64 (takeE (feedG g ((i0 * m : Nat) : Int) (frameF (q i0).bs mk) (flF (48 * manyN (q i0).n)) k) ((i0 * m : Nat) : Int) (((frameF (q i0).bs mk).drop (48 * k)).take 48) (((48 * manyN (q i0).n - 48 * k : Nat) : Int) == 48)))] (by kernel_rfl) rfl ?_
          refine VL_end (by kernel_rfl) ?_
          refine VQ_next ?_
          refine VC_seq ?_
          refine VC_region ?_
          refine VL_pure 2 [3, 5, 6, 9, 13, 14, 15, 16, 59] [(3, .pointer (some ⟨b1, 0, none⟩)), (5, .pointer (some ⟨b2, 0, none⟩)), (6, .pointer (some ⟨b3, 0, none⟩)), (9, .pointer (some ⟨b6, 0, none⟩)), (13, .bool (((48 * manyN (q i0).n - 48 * k : Nat) : Int) == 48)), (14, .slice A1 ((takeT (feedG g ((i0 * m : Nat) : Int) (frameF (q i0).bs mk) (flF (48 * manyN (q i0).n)) k) ((i0 * m : Nat) : Int) (((frameF (q i0).bs mk).drop (48 * k)).take 48) (((48 * manyN (q i0).n - 48 * k : Nat) : Int) == 48)).length) c1), (15, .int .u8 (takeM (feedG g ((i0 * m : Nat) : Int) (frameF (q i0).bs mk) (flF (48 * manyN (q i0).n)) k) ((i0 * m : Nat) : Int) (((frameF (q i0).bs mk).drop (48 * k)).take 48) (((48 * manyN (q i0).n - 48 * k : Nat) : Int) == 48))), (16, .int .i64 (takeE (feedG g ((i0 * m : Nat) : Int) (frameF (q i0).bs mk) (flF (48 * manyN (q i0).n)) k) ((i0 * m : Nat) : Int) (((frameF (q i0).bs mk).drop (48 * k)).take 48) (((48 * manyN (q i0).n - 48 * k : Nat) : Int) == 48))), (59, .bool (((48 * manyN (q i0).n - 48 * k : Nat) : Int) == 48))] (by kernel_rfl) rfl ?_
          refine VL_bool (((48 * manyN (q i0).n - 48 * k : Nat) : Int) == 48) (fun bV => [(3, .pointer (some ⟨b1, 0, none⟩)), (5, .pointer (some ⟨b2, 0, none⟩)), (6, .pointer (some ⟨b3, 0, none⟩)), (9, .pointer (some ⟨b6, 0, none⟩)), (13, .bool bV), (14, .slice A1 ((takeT (feedG g ((i0 * m : Nat) : Int) (frameF (q i0).bs mk) (flF (48 * manyN (q i0).n)) k) ((i0 * m : Nat) : Int) (((frameF (q i0).bs mk).drop (48 * k)).take 48) (((48 * manyN (q i0).n - 48 * k : Nat) : Int) == 48)).length) c1), (15, .int .u8 (takeM (feedG g ((i0 * m : Nat) : Int) (frameF (q i0).bs mk) (flF (48 * manyN (q i0).n)) k) ((i0 * m : Nat) : Int) (((frameF (q i0).bs mk).drop (48 * k)).take 48) (((48 * manyN (q i0).n - 48 * k : Nat) : Int) == 48))), (16, .int .i64 (takeE (feedG g ((i0 * m : Nat) : Int) (frameF (q i0).bs mk) (flF (48 * manyN (q i0).n)) k) ((i0 * m : Nat) : Int) (((frameF (q i0).bs mk).drop (48 * k)).take 48) (((48 * manyN (q i0).n - 48 * k : Nat) : Int) == 48))), (59, .bool bV)]) rfl (fun hg3 => ?_) (fun hg3 => ?_)
          · refine VL_pure 5 [3, 5, 6, 9, 13, 14, 15, 16, 59, 62] [(3, .pointer (some ⟨b1, 0, none⟩)), (5, .pointer (some ⟨b2, 0, none⟩)), (6, .pointer (some ⟨b3, 0, none⟩)), (9, .pointer (some ⟨b6, 0, none⟩)), (13, .bool true), (14, .slice A1 ((takeT (feedG g ((i0 * m : Nat) : Int) (frameF (q i0).bs mk) (flF (48 * manyN (q i0).n)) k) ((i0 * m : Nat) : Int) (((frameF (q i0).bs mk).drop (48 * k)).take 48) (((48 * manyN (q i0).n - 48 * k : Nat) : Int) == 48)).length) c1), (15, .int .u8 (takeM (feedG g ((i0 * m : Nat) : Int) (frameF (q i0).bs mk) (flF (48 * manyN (q i0).n)) k) ((i0 * m : Nat) : Int) (((frameF (q i0).bs mk).drop (48 * k)).take 48) (((48 * manyN (q i0).n - 48 * k : Nat) : Int) == 48))), (16, .int .i64 (takeE (feedG g ((i0 * m : Nat) : Int) (frameF (q i0).bs mk) (flF (48 * manyN (q i0).n)) k) ((i0 * m : Nat) : Int) (((frameF (q i0).bs mk).drop (48 * k)).take 48) (((48 * manyN (q i0).n - 48 * k : Nat) : Int) == 48))), (59, .bool true), (62, .bool ((takeE (feedG g ((i0 * m : Nat) : Int) (frameF (q i0).bs mk) (flF (48 * manyN (q i0).n)) k) ((i0 * m : Nat) : Int) (((frameF (q i0).bs mk).drop (48 * k)).take 48) (((48 * manyN (q i0).n - 48 * k : Nat) : Int) == 48)) != 0))] (by kernel_rfl) rfl ?_
            refine VL_known ((takeE (feedG g ((i0 * m : Nat) : Int) (frameF (q i0).bs mk) (flF (48 * manyN (q i0).n)) k) ((i0 * m : Nat) : Int) (((frameF (q i0).bs mk).drop (48 * k)).take 48) (((48 * manyN (q i0).n - 48 * k : Nat) : Int) == 48)) != 0) (fun bV => [(3, .pointer (some ⟨b1, 0, none⟩)), (5, .pointer (some ⟨b2, 0, none⟩)), (6, .pointer (some ⟨b3, 0, none⟩)), (9, .pointer (some ⟨b6, 0, none⟩)), (13, .bool true), (14, .slice A1 ((takeT (feedG g ((i0 * m : Nat) : Int) (frameF (q i0).bs mk) (flF (48 * manyN (q i0).n)) k) ((i0 * m : Nat) : Int) (((frameF (q i0).bs mk).drop (48 * k)).take 48) (((48 * manyN (q i0).n - 48 * k : Nat) : Int) == 48)).length) c1), (15, .int .u8 (takeM (feedG g ((i0 * m : Nat) : Int) (frameF (q i0).bs mk) (flF (48 * manyN (q i0).n)) k) ((i0 * m : Nat) : Int) (((frameF (q i0).bs mk).drop (48 * k)).take 48) (((48 * manyN (q i0).n - 48 * k : Nat) : Int) == 48))), (16, .int .i64 (takeE (feedG g ((i0 * m : Nat) : Int) (frameF (q i0).bs mk) (flF (48 * manyN (q i0).n)) k) ((i0 * m : Nat) : Int) (((frameF (q i0).bs mk).drop (48 * k)).take 48) (((48 * manyN (q i0).n - 48 * k : Nat) : Int) == 48))), (59, .bool true), (62, .bool bV)]) false rfl (by rw [(feed_end r1 hp4 (by omega) hk9 (by (try simp only [Bool.not_eq_true] at *); assumption)).2.2.2, hU2.1]; rfl) ?_
            refine VL_pure 6 [3, 5, 6, 9, 13, 14, 16, 59, 62, 63] [(3, .pointer (some ⟨b1, 0, none⟩)), (5, .pointer (some ⟨b2, 0, none⟩)), (6, .pointer (some ⟨b3, 0, none⟩)), (9, .pointer (some ⟨b6, 0, none⟩)), (13, .bool true), (14, .slice A1 ((takeT (feedG g ((i0 * m : Nat) : Int) (frameF (q i0).bs mk) (flF (48 * manyN (q i0).n)) k) ((i0 * m : Nat) : Int) (((frameF (q i0).bs mk).drop (48 * k)).take 48) (((48 * manyN (q i0).n - 48 * k : Nat) : Int) == 48)).length) c1), (16, .int .i64 (takeE (feedG g ((i0 * m : Nat) : Int) (frameF (q i0).bs mk) (flF (48 * manyN (q i0).n)) k) ((i0 * m : Nat) : Int) (((frameF (q i0).bs mk).drop (48 * k)).take 48) (((48 * manyN (q i0).n - 48 * k : Nat) : Int) == 48))), (59, .bool true), (62, .bool false), (63, .int .u8 (takeM (feedG g ((i0 * m : Nat) : Int) (frameF (q i0).bs mk) (flF (48 * manyN (q i0).n)) k) ((i0 * m : Nat) : Int) (((frameF (q i0).bs mk).drop (48 * k)).take 48) (((48 * manyN (q i0).n - 48 * k : Nat) : Int) == 48)))] (by kernel_rfl) rfl ?_
            refine VL_load (d := 64) (t := 5) (a := ⟨b2, 0, none⟩) (v := .int .u8 mk) (by kernel_rfl) (by kernel_rfl) (Loads.own1 ho2 (by kernel_rfl) (by rfl)) ?_
            refine VL_pure 10 [3, 6, 9, 13, 14, 16, 59, 67] [(3, .pointer (some ⟨b1, 0, none⟩)), (6, .pointer (some ⟨b3, 0, none⟩)), (9, .pointer (some ⟨b6, 0, none⟩)), (13, .bool true), (14, .slice A1 ((takeT (feedG g ((i0 * m : Nat) : Int) (frameF (q i0).bs mk) (flF (48 * manyN (q i0).n)) k) ((i0 * m : Nat) : Int) (((frameF (q i0).bs mk).drop (48 * k)).take 48) (((48 * manyN (q i0).n - 48 * k : Nat) : Int) == 48)).length) c1), (16, .int .i64 (takeE (feedG g ((i0 * m : Nat) : Int) (frameF (q i0).bs mk) (flF (48 * manyN (q i0).n)) k) ((i0 * m : Nat) : Int) (((frameF (q i0).bs mk).drop (48 * k)).take 48) (((48 * manyN (q i0).n - 48 * k : Nat) : Int) == 48))), (59, .bool true), (67, .bool ((takeM (feedG g ((i0 * m : Nat) : Int) (frameF (q i0).bs mk) (flF (48 * manyN (q i0).n)) k) ((i0 * m : Nat) : Int) (((frameF (q i0).bs mk).drop (48 * k)).take 48) (((48 * manyN (q i0).n - 48 * k : Nat) : Int) == 48)) != mk))] (by kernel_rfl) rfl ?_
            refine VL_known ((takeM (feedG g ((i0 * m : Nat) : Int) (frameF (q i0).bs mk) (flF (48 * manyN (q i0).n)) k) ((i0 * m : Nat) : Int) (((frameF (q i0).bs mk).drop (48 * k)).take 48) (((48 * manyN (q i0).n - 48 * k : Nat) : Int) == 48)) != mk) (fun bV => [(3, .pointer (some ⟨b1, 0, none⟩)), (6, .pointer (some ⟨b3, 0, none⟩)), (9, .pointer (some ⟨b6, 0, none⟩)), (13, .bool true), (14, .slice A1 ((takeT (feedG g ((i0 * m : Nat) : Int) (frameF (q i0).bs mk) (flF (48 * manyN (q i0).n)) k) ((i0 * m : Nat) : Int) (((frameF (q i0).bs mk).drop (48 * k)).take 48) (((48 * manyN (q i0).n - 48 * k : Nat) : Int) == 48)).length) c1), (16, .int .i64 (takeE (feedG g ((i0 * m : Nat) : Int) (frameF (q i0).bs mk) (flF (48 * manyN (q i0).n)) k) ((i0 * m : Nat) : Int) (((frameF (q i0).bs mk).drop (48 * k)).take 48) (((48 * manyN (q i0).n - 48 * k : Nat) : Int) == 48))), (59, .bool true), (67, .bool bV)]) false rfl (by rw [(feed_end r1 hp4 (by omega) hk9 (by (try simp only [Bool.not_eq_true] at *); assumption)).2.2.1, hU2.2.2]; simp) ?_
            refine VL_pure 11 [3, 6, 9, 13, 14, 16, 59, 67, 68] [(3, .pointer (some ⟨b1, 0, none⟩)), (6, .pointer (some ⟨b3, 0, none⟩)), (9, .pointer (some ⟨b6, 0, none⟩)), (13, .bool true), (14, .slice A1 ((takeT (feedG g ((i0 * m : Nat) : Int) (frameF (q i0).bs mk) (flF (48 * manyN (q i0).n)) k) ((i0 * m : Nat) : Int) (((frameF (q i0).bs mk).drop (48 * k)).take 48) (((48 * manyN (q i0).n - 48 * k : Nat) : Int) == 48)).length) c1), (16, .int .i64 (takeE (feedG g ((i0 * m : Nat) : Int) (frameF (q i0).bs mk) (flF (48 * manyN (q i0).n)) k) ((i0 * m : Nat) : Int) (((frameF (q i0).bs mk).drop (48 * k)).take 48) (((48 * manyN (q i0).n - 48 * k : Nat) : Int) == 48))), (59, .bool true), (67, .bool false), (68, .slice A1 ((takeT (feedG g ((i0 * m : Nat) : Int) (frameF (q i0).bs mk) (flF (48 * manyN (q i0).n)) k) ((i0 * m : Nat) : Int) (((frameF (q i0).bs mk).drop (48 * k)).take 48) (((48 * manyN (q i0).n - 48 * k : Nat) : Int) == 48)).length) c1)] (by kernel_rfl) rfl ?_
            refine VL_load (d := 69) (t := 46) (a := ⟨b1, 0, none⟩) (v := .slice (some ⟨lb, lo, none⟩) n cc) (by kernel_rfl) (by kernel_rfl) (Loads.own1 ho1 (by kernel_rfl) (by rfl)) ?_
            refine VL_load (d := 70) (t := 3) (a := ⟨b6, 0, none⟩) (v := .int .i64 ((i0 : Nat) : Int)) (by kernel_rfl) (by kernel_rfl) (Loads.own1 ho11 (by kernel_rfl) (by rfl)) ?_
            refine VL_index (d := 71) (b := lb) (o := lo) (len := n) (sz := 1) (m := ((i0 : Nat) : Int)) (by kernel_rfl) (by kernel_rfl) i0 (by rfl) (by omega) (lo + i0) (by omega) ?_
            refine VL_load (d := 72) (t := 32) (a := ⟨lb, lo + i0, none⟩) (v := .slice ((q i0).A) ((q i0).n) ((q i0).c)) (by kernel_rfl) (by kernel_rfl) (Loads.one (by kernel_rfl) (hS.cell id (hL i0 hk))) ?_
            have hzs23 := hS.size
            have hzl102 := ho1.lt
            have hzl103 := ho2.lt
            have hzl104 := ho3.lt
            have hzl105 := ho6.lt
            have hzl106 := ho9.lt
            have hzl107 := ho11.lt
            have hzl108 := hbb1.lt
            have hzl109 := ho14.lt
            have hzs24 := hR1.size
            have hzl110 := GaOf.lt hg2
            refine VL_call (d := 73) (f := 17) (args := #[.slice A1 ((takeT (feedG g ((i0 * m : Nat) : Int) (frameF (q i0).bs mk) (flF (48 * manyN (q i0).n)) k) ((i0 * m : Nat) : Int) (((frameF (q i0).bs mk).drop (48 * k)).take 48) (((48 * manyN (q i0).n - 48 * k : Nat) : Int) == 48)).length) c1, .slice ((q i0).A) ((q i0).n) ((q i0).c)]) (by kernel_rfl) (by kernel_rfl) (by kernel_rfl) Try.call17 (same_any A1 ((takeT (feedG g ((i0 * m : Nat) : Int) (frameF (q i0).bs mk) (flF (48 * manyN (q i0).n)) k) ((i0 * m : Nat) : Int) (((frameF (q i0).bs mk).drop (48 * k)).take 48) (((48 * manyN (q i0).n - 48 * k : Nat) : Int) == 48)).length) c1 _ (takeT (feedG g ((i0 * m : Nat) : Int) (frameF (q i0).bs mk) (flF (48 * manyN (q i0).n)) k) ((i0 * m : Nat) : Int) (((frameF (q i0).bs mk).drop (48 * k)).take 48) (((48 * manyN (q i0).n - 48 * k : Nat) : Int) == 48)) (q i0).A ((q i0).n) ((q i0).c) _ ((q i0).bs) _ rfl (SlX.sl hxhr5) (hq i0).len hTx (by omega) (by omega) (by first | exact Nat.le_refl _ | omega) (by first | exact Nat.le_refl _ | omega)) ?_
            rintro _ w32 ⟨rfl, hc7⟩
            replace hS := Step.trans hS hc7
            replace ho1 := ho1.no hc7
            replace ho2 := ho2.no hc7
            replace ho3 := ho3.no hc7
            replace ho6 := ho6.no hc7
            replace ho9 := ho9.no hc7
            replace hMk := MarksI.no hMk hc7
            replace ho11 := ho11.no hc7
            replace hTx := hTx.no hc7
            replace hvx1 := hvx1.no hc7
            replace hbb1 := hbb1.no hc7
            replace hML := Nat.le_trans hML (hc7).size
            replace ho14 := ho14.no hc7
            replace hR1 := Step.trans hR1 (Step.weak hc7)
            replace hg2 := GaOf.no hg2 hc7
            replace hxhr5 := hxhr5.no hc7
            refine VL_pure 20 [6, 13, 14, 16, 77] [(6, .pointer (some ⟨b3, 0, none⟩)), (13, .bool true), (14, .slice A1 ((takeT (feedG g ((i0 * m : Nat) : Int) (frameF (q i0).bs mk) (flF (48 * manyN (q i0).n)) k) ((i0 * m : Nat) : Int) (((frameF (q i0).bs mk).drop (48 * k)).take 48) (((48 * manyN (q i0).n - 48 * k : Nat) : Int) == 48)).length) c1), (16, .int .i64 (takeE (feedG g ((i0 * m : Nat) : Int) (frameF (q i0).bs mk) (flF (48 * manyN (q i0).n)) k) ((i0 * m : Nat) : Int) (((frameF (q i0).bs mk).drop (48 * k)).take 48) (((48 * manyN (q i0).n - 48 * k : Nat) : Int) == 48))), (77, .bool (!((takeT (feedG g ((i0 * m : Nat) : Int) (frameF (q i0).bs mk) (flF (48 * manyN (q i0).n)) k) ((i0 * m : Nat) : Int) (((frameF (q i0).bs mk).drop (48 * k)).take 48) (((48 * manyN (q i0).n - 48 * k : Nat) : Int) == 48)) == ((q i0).bs))))] (by kernel_rfl) rfl ?_
            refine VL_known ((takeT (feedG g ((i0 * m : Nat) : Int) (frameF (q i0).bs mk) (flF (48 * manyN (q i0).n)) k) ((i0 * m : Nat) : Int) (((frameF (q i0).bs mk).drop (48 * k)).take 48) (((48 * manyN (q i0).n - 48 * k : Nat) : Int) == 48)) == ((q i0).bs)) (fun bV => [(6, .pointer (some ⟨b3, 0, none⟩)), (13, .bool true), (14, .slice A1 ((takeT (feedG g ((i0 * m : Nat) : Int) (frameF (q i0).bs mk) (flF (48 * manyN (q i0).n)) k) ((i0 * m : Nat) : Int) (((frameF (q i0).bs mk).drop (48 * k)).take 48) (((48 * manyN (q i0).n - 48 * k : Nat) : Int) == 48)).length) c1), (16, .int .i64 (takeE (feedG g ((i0 * m : Nat) : Int) (frameF (q i0).bs mk) (flF (48 * manyN (q i0).n)) k) ((i0 * m : Nat) : Int) (((frameF (q i0).bs mk).drop (48 * k)).take 48) (((48 * manyN (q i0).n - 48 * k : Nat) : Int) == 48))), (77, .bool (!bV))]) true rfl (by rw [(feed_end r1 hp4 (by omega) hk9 (by (try simp only [Bool.not_eq_true] at *); assumption)).2.1, hU2.2.1]; simp) ?_
            refine VL_pure 32 [6, 89] [(6, .pointer (some ⟨b3, 0, none⟩)), (89, .bool false)] (by kernel_rfl) rfl ?_
            refine VL_end (by kernel_rfl) ?_
            refine VQ_next ?_
            refine VC_false (by kernel_rfl) ?_
            refine VC_skip ?_
            refine VQ_block_normal ?_
            exact VQ_round_end hR1 ⟨hMm, hS, ho1, ho2, ho3, ho6, ho9, hg2, hMk, ho11, hTx, hvx1, hbb1⟩
          · refine VL_pure 26 [6, 14, 77, 80, 83] [(6, .pointer (some ⟨b3, 0, none⟩)), (14, .slice A1 ((takeT (feedG g ((i0 * m : Nat) : Int) (frameF (q i0).bs mk) (flF (48 * manyN (q i0).n)) k) ((i0 * m : Nat) : Int) (((frameF (q i0).bs mk).drop (48 * k)).take 48) (((48 * manyN (q i0).n - 48 * k : Nat) : Int) == 48)).length) c1), (77, .bool false), (80, .bool true), (83, .bool ((takeE (feedG g ((i0 * m : Nat) : Int) (frameF (q i0).bs mk) (flF (48 * manyN (q i0).n)) k) ((i0 * m : Nat) : Int) (((frameF (q i0).bs mk).drop (48 * k)).take 48) (((48 * manyN (q i0).n - 48 * k : Nat) : Int) == 48)) != 2))] (by kernel_rfl) rfl ?_
            refine VL_known ((takeE (feedG g ((i0 * m : Nat) : Int) (frameF (q i0).bs mk) (flF (48 * manyN (q i0).n)) k) ((i0 * m : Nat) : Int) (((frameF (q i0).bs mk).drop (48 * k)).take 48) (((48 * manyN (q i0).n - 48 * k : Nat) : Int) == 48)) != 2) (fun bV => [(6, .pointer (some ⟨b3, 0, none⟩)), (14, .slice A1 ((takeT (feedG g ((i0 * m : Nat) : Int) (frameF (q i0).bs mk) (flF (48 * manyN (q i0).n)) k) ((i0 * m : Nat) : Int) (((frameF (q i0).bs mk).drop (48 * k)).take 48) (((48 * manyN (q i0).n - 48 * k : Nat) : Int) == 48)).length) c1), (77, .bool false), (80, .bool true), (83, .bool bV)]) false rfl (by rw [(feed_mid r1 hp4 (by omega) hk9 (by (try simp only [Bool.not_eq_true] at *); assumption)).2]; rfl) ?_
            refine VL_pure 32 [6, 89] [(6, .pointer (some ⟨b3, 0, none⟩)), (89, .bool (decide ((((takeT (feedG g ((i0 * m : Nat) : Int) (frameF (q i0).bs mk) (flF (48 * manyN (q i0).n)) k) ((i0 * m : Nat) : Int) (((frameF (q i0).bs mk).drop (48 * k)).take 48) (((48 * manyN (q i0).n - 48 * k : Nat) : Int) == 48)).length : Nat) : Int) > 0)))] (by kernel_rfl) rfl ?_
            refine VL_end (by kernel_rfl) ?_
            refine VQ_next ?_
            refine VC_is (b := decide ((((takeT (feedG g ((i0 * m : Nat) : Int) (frameF (q i0).bs mk) (flF (48 * manyN (q i0).n)) k) ((i0 * m : Nat) : Int) (((frameF (q i0).bs mk).drop (48 * k)).take 48) (((48 * manyN (q i0).n - 48 * k : Nat) : Int) == 48)).length : Nat) : Int) > 0)) false (by kernel_rfl) (by rw [(feed_mid r1 hp4 (by omega) hk9 (by (try simp only [Bool.not_eq_true] at *); assumption)).1]; rfl) ?_
            refine VC_ite_false ?_
            refine VC_skip ?_
            refine VQ_block_normal ?_
            exact VQ_round_end hR1 ⟨hMm, hS, ho1, ho2, ho3, ho6, ho9, hg2, hMk, ho11, hTx, hvx1, hbb1⟩
        · intro M w33 hM hzM hJ0 hD
          rw [cellsV_len, hp4] at hJ0
          obtain ⟨K1, hK1⟩ : ∃ K, K = (48 * manyN (q i0).n) / 48 := ⟨_, rfl⟩
          rw [← hK1] at hJ0
          obtain ⟨-, hS, ho1, ho2, ho3, ho6, ho9, hgx1, hMk, ho11, hTx, hvx1, hbb1⟩ := hJ0
          have hgiK1 := feed_I (F := (frameF (q i0).bs mk)) (n := (48 * manyN (q i0).n)) (t := ((i0 * m : Nat) : Int)) hid.gi hp4 (frame_bytes (hq i0).byt hmk0) (by omega) (by omega) (flF (48 * manyN (q i0).n)) K1 (by omega)
          replace hgx1 := GaOf.mono (Y := (fun _ => True)) hgx1 (fun b _ hb => trivial)
          have hid2 := idle_feed (K := K1) (t := ((i0 * m : Nat) : Int)) hid (by omega) (by omega) (by omega) (by rw [(hq i0).len]; exact hp1) (by rw [(hq i0).len]; exact hp2) (hq i0).byt hmk0 hp4 (by omega) (by omega) (by omega)
          have hmk1 := hD
          refine VQ_block_normal ?_
          refine VQ_next ?_
          refine VC_region ?_
          refine VL_load (d := 90) (t := 3) (a := ⟨b5, 0, none⟩) (v := .int .i64 ((i0 * m : Nat) : Int)) (by kernel_rfl) (by kernel_rfl) (Loads.own1 ho9 (by kernel_rfl) (by rfl)) ?_
          refine VL_pure 3 [1, 3, 5, 6, 7, 8, 30, 31, 90, 92] [(1, .int .u16 ((m : Nat) : Int)), (3, .pointer (some ⟨b1, 0, none⟩)), (5, .pointer (some ⟨b2, 0, none⟩)), (6, .pointer (some ⟨b3, 0, none⟩)), (7, .pointer (some ⟨b4, 0, none⟩)), (8, .pointer (some ⟨b5, 0, none⟩)), (30, .int .i64 ((n : Nat) : Int)), (31, .int .i64 ((i0 : Nat) : Int)), (90, .int .i64 ((i0 * m : Nat) : Int)), (92, .int .i64 (IntKind.wrap .i64 ((m : Nat) : Int)))] (by kernel_rfl) rfl ?_
          have he3 : IntKind.wrap .i64 ((m : Nat) : Int) = ((m : Nat) : Int) := (by rw [wrap_i64 _ (by omega) (by omega)])
          refine VL_eq [(1, .int .u16 ((m : Nat) : Int)), (3, .pointer (some ⟨b1, 0, none⟩)), (5, .pointer (some ⟨b2, 0, none⟩)), (6, .pointer (some ⟨b3, 0, none⟩)), (7, .pointer (some ⟨b4, 0, none⟩)), (8, .pointer (some ⟨b5, 0, none⟩)), (30, .int .i64 ((n : Nat) : Int)), (31, .int .i64 ((i0 : Nat) : Int)), (90, .int .i64 ((i0 * m : Nat) : Int)), (92, .int .i64 ((m : Nat) : Int))] (by rw [he3]) ?_
          refine VL_pure 4 [1, 3, 5, 6, 7, 8, 30, 31, 93] [(1, .int .u16 ((m : Nat) : Int)), (3, .pointer (some ⟨b1, 0, none⟩)), (5, .pointer (some ⟨b2, 0, none⟩)), (6, .pointer (some ⟨b3, 0, none⟩)), (7, .pointer (some ⟨b4, 0, none⟩)), (8, .pointer (some ⟨b5, 0, none⟩)), (30, .int .i64 ((n : Nat) : Int)), (31, .int .i64 ((i0 : Nat) : Int)), (93, .int .i64 (IntKind.wrap .i64 (((i0 * m : Nat) : Int) + ((m : Nat) : Int))))] (by kernel_rfl) rfl ?_
          have he4 : IntKind.wrap .i64 (((i0 * m : Nat) : Int) + ((m : Nat) : Int)) = (((i0 * m) + m : Nat) : Int) := (by rw [wrap_i64 _ (by omega) (by omega)]; omega)
          refine VL_eq [(1, .int .u16 ((m : Nat) : Int)), (3, .pointer (some ⟨b1, 0, none⟩)), (5, .pointer (some ⟨b2, 0, none⟩)), (6, .pointer (some ⟨b3, 0, none⟩)), (7, .pointer (some ⟨b4, 0, none⟩)), (8, .pointer (some ⟨b5, 0, none⟩)), (30, .int .i64 ((n : Nat) : Int)), (31, .int .i64 ((i0 : Nat) : Int)), (93, .int .i64 (((i0 * m) + m : Nat) : Int))] (by rw [he4]) ?_
          refine VL_store (b := b5) (o := 0) (vs := [.int .i64 (((i0 * m) + m : Nat) : Int)]) (by kernel_rfl) (by kernel_rfl) ho9 (Nat.le_of_ble_eq_true (by kernel_rfl)) ?_
          intro w34 hw7
          replace hS := Step.transNew hS hw7.step (fun _ _ _ => by omega)
          replace ho1 := ho1.step hw7.step (show ¬ b1 = b5 by omega)
          replace ho2 := ho2.step hw7.step (show ¬ b2 = b5 by omega)
          replace ho3 := ho3.step hw7.step (show ¬ b3 = b5 by omega)
          replace ho6 := ho6.step hw7.step (show ¬ b4 = b5 by omega)
          replace hgx1 := GaOf.keep hgx1 ho9 (by decide) (by omega) hw7.step
          replace hMk := MarksI.own hMk ho9 hw7.step
          replace ho11 := ho11.step hw7.step (show ¬ b6 = b5 by omega)
          replace hTx := hTx.step hw7.step (fun k hk (hF : k = b5) => by omega)
          replace hvx1 := hvx1.own ho9 (by decide) hw7.step
          replace hbb1 := hbb1.step hw7.step (show ¬ bb1 = b5 by omega)
          replace hmk1 := hmk1.step hw7.step (show ¬ w26.heap.size = b5 by omega)
          have ho15 : Own w34 b5 #[.int .i64 (((i0 * m) + m : Nat) : Int)] 3 := Own.cast hw7.own (by kernel_rfl)
          have hzhw7 := hw7.same
          refine VL_end (by kernel_rfl) ?_
          refine VQ_block_normal ?_
          refine VQ_next ?_
          refine VC_region ?_
          refine VL_pure 1 [1, 3, 5, 6, 7, 8, 30, 94] [(1, .int .u16 ((m : Nat) : Int)), (3, .pointer (some ⟨b1, 0, none⟩)), (5, .pointer (some ⟨b2, 0, none⟩)), (6, .pointer (some ⟨b3, 0, none⟩)), (7, .pointer (some ⟨b4, 0, none⟩)), (8, .pointer (some ⟨b5, 0, none⟩)), (30, .int .i64 ((n : Nat) : Int)), (94, .int .i64 (IntKind.wrap .i64 (((i0 : Nat) : Int) + 1)))] (by kernel_rfl) rfl ?_
          have he5 : IntKind.wrap .i64 (((i0 : Nat) : Int) + 1) = ((i0 + 1 : Nat) : Int) := (by rw [wrap_i64 _ (by omega) (by omega)]; omega)
          refine VL_eq [(1, .int .u16 ((m : Nat) : Int)), (3, .pointer (some ⟨b1, 0, none⟩)), (5, .pointer (some ⟨b2, 0, none⟩)), (6, .pointer (some ⟨b3, 0, none⟩)), (7, .pointer (some ⟨b4, 0, none⟩)), (8, .pointer (some ⟨b5, 0, none⟩)), (30, .int .i64 ((n : Nat) : Int)), (94, .int .i64 ((i0 + 1 : Nat) : Int))] (by rw [he5]) ?_
          refine VL_pure 2 [1, 3, 5, 6, 7, 8, 30, 31] [(1, .int .u16 ((m : Nat) : Int)), (3, .pointer (some ⟨b1, 0, none⟩)), (5, .pointer (some ⟨b2, 0, none⟩)), (6, .pointer (some ⟨b3, 0, none⟩)), (7, .pointer (some ⟨b4, 0, none⟩)), (8, .pointer (some ⟨b5, 0, none⟩)), (30, .int .i64 ((n : Nat) : Int)), (31, .int .i64 ((i0 + 1 : Nat) : Int))] (by kernel_rfl) rfl ?_
          refine VL_end (by kernel_rfl) ?_
          have hzs25 := hS.size
          have hzl111 := ho1.lt
          have hzl112 := ho2.lt
          have hzl113 := ho3.lt
          have hzl114 := ho6.lt
          have hzl115 := GaOf.lt hgx1
          have hzl116 := ho11.lt
          have hzl117 := hbb1.lt
          have hzl118 := hmk1.lt
          have hzl119 := ho15.lt
          refine VQ_againD ⟨i0 + 1, (feedG g ((i0 * m : Nat) : Int) (frameF (q i0).bs mk) (flF (48 * manyN (q i0).n)) K1), (w26.heap.size :: Ds)⟩ (by rfl) ⟨rfl, rfl, rfl, rfl, rfl, rfl, rfl, rfl, trivial⟩ ?_ ?_
          · exact ⟨(by omega), hid2, hS, ho1, ho2, ho3, ho6, (Own.cast ho15 (by rw [Nat.add_mul, Nat.one_mul])), hgx1, (MarksI.mono (MarksI.cons hMk hmk1 (by omega) (by omega)) (by omega))⟩
          · (try dsimp only); omega
        · intro e W _ hF _; exact hF.elim
    · refine VC_exit ?_
      refine VQ_then_exit ?_
      refine VQ_then_exit ?_
      refine VQ_block_hit ?_
      refine VQ_next ?_
      refine VC_seq ?_
      refine VC_region ?_
      refine VL_load (d := 95) (t := 24) (a := ⟨b4, 0, none⟩) (v := .pointer (some ⟨gp1, 0, none⟩)) (by kernel_rfl) (by kernel_rfl) (Loads.own1 ho6 (by kernel_rfl) (by rfl)) ?_
      have hzs26 := hS.size
      have hzl120 := ho1.lt
      have hzl121 := ho2.lt
      have hzl122 := ho3.lt
      have hzl123 := ho6.lt
      have hzl124 := ho9.lt
      have hzl125 := GaOf.lt hga
      refine VL_call (d := 96) (f := 19) (by kernel_rfl) (by kernel_rfl) (by kernel_rfl) Try.call19 (lost_any gp1 g (fun _ => True) _ hga) ?_
      rintro _ w35 ⟨rfl, hc8⟩
      replace hS := Step.trans hS hc8
      replace ho1 := ho1.no hc8
      replace ho2 := ho2.no hc8
      replace ho3 := ho3.no hc8
      replace ho6 := ho6.no hc8
      replace ho9 := ho9.no hc8
      replace hga := GaOf.no hga hc8
      replace hMk := MarksI.no hMk hc8
      refine VL_pure 4 [6, 7, 98] [(6, .pointer (some ⟨b3, 0, none⟩)), (7, .pointer (some ⟨b4, 0, none⟩)), (98, .bool (((g).lost) == 0))] (by kernel_rfl) rfl ?_
      refine VL_known (((g).lost) == 0) (fun bV => [(6, .pointer (some ⟨b3, 0, none⟩)), (7, .pointer (some ⟨b4, 0, none⟩)), (98, .bool bV)]) true rfl (by rw [hid.lost]; rfl) ?_
      refine VL_load (d := 99) (t := 24) (a := ⟨b4, 0, none⟩) (v := .pointer (some ⟨gp1, 0, none⟩)) (by kernel_rfl) (by kernel_rfl) (Loads.own1 ho6 (by kernel_rfl) (by rfl)) ?_
      have hzs27 := hS.size
      have hzl126 := ho1.lt
      have hzl127 := ho2.lt
      have hzl128 := ho3.lt
      have hzl129 := ho6.lt
      have hzl130 := ho9.lt
      have hzl131 := GaOf.lt hga
      refine VL_call (d := 100) (f := 18) (by kernel_rfl) (by kernel_rfl) (by kernel_rfl) Try.call18 (parts_any gp1 g (fun _ => True) _ hga (by have h9 := (hid.gi).len_le; omega)) ?_
      rintro _ w36 ⟨rfl, hc9⟩
      replace hS := Step.trans hS hc9
      replace ho1 := ho1.no hc9
      replace ho2 := ho2.no hc9
      replace ho3 := ho3.no hc9
      replace ho6 := ho6.no hc9
      replace ho9 := ho9.no hc9
      replace hga := GaOf.no hga hc9
      replace hMk := MarksI.no hMk hc9
      refine VL_pure 8 [6, 102] [(6, .pointer (some ⟨b3, 0, none⟩)), (102, .bool ((((g).bs.length / 48 : Nat) : Int) == 0))] (by kernel_rfl) rfl ?_
      refine VL_store (b := b3) (o := 0) (vs := [.bool ((((g).bs.length / 48 : Nat) : Int) == 0)]) (by kernel_rfl) (by kernel_rfl) ho3 (Nat.le_of_ble_eq_true (by kernel_rfl)) ?_
      intro w37 hw8
      replace hS := Step.transNew hS hw8.step (fun _ _ _ => by omega)
      replace ho1 := ho1.step hw8.step (show ¬ b1 = b3 by omega)
      replace ho2 := ho2.step hw8.step (show ¬ b2 = b3 by omega)
      replace ho6 := ho6.step hw8.step (show ¬ b4 = b3 by omega)
      replace ho9 := ho9.step hw8.step (show ¬ b5 = b3 by omega)
      replace hga := GaOf.keep hga ho3 (by decide) (by omega) hw8.step
      replace hMk := MarksI.own hMk ho3 hw8.step
      have ho16 : Own w37 b3 #[.bool ((((g).bs.length / 48 : Nat) : Int) == 0)] 4 := Own.cast hw8.own (by kernel_rfl)
      have hzhw8 := hw8.same
      refine VL_end (by kernel_rfl) ?_
      refine VQ_next ?_
      refine VC_ret ?_
      refine VQ_retMC1 (.bool ((((g).bs.length / 48 : Nat) : Int) == 0)) Ds (.inr rfl) rfl rfl hMk.1 (fun w9 hq9 => Loads.own1 (ho16.step hq9 (fun hm9 => MarksI.ne (hMk.1.dfr _ hm9) ho16 rfl)) (by kernel_rfl) rfl) ?_
      intro w38 hq3
      replace hS := Step.transNew hS hq3 (fun i hi hG => by have h9 := (hMk.2 i hG).1; omega)
      exact ⟨by first | rfl | (rw [hid.bs]; rfl) | simp [*], hS⟩

end Go.Proofs.Ytgiefcolkohgkaa
