/- Layer 9: ConnsPlay. -/
import Derived.Test.YtfkahhkojlfmdaaProg
import Derived.Test.YtfkahhkojlfmdaaCnSm
import Derived.Test.YtfkahhkojlfmdaaCnRq
import Derived.Test.YtfkahhkojlfmdaaCn4
set_option linter.unusedVariables false
set_option linter.unusedSimpArgs false
namespace Go.Proofs.Ytfkahhkojlfmdaa
open Go.Vc Go.RowKit

set_option maxRecDepth 100000 in
set_option maxHeartbeats 4000000 in
theorem connsPlay_any (room : Int) (A : Option Addr) (n cc : Nat) (q : Nat → Op4) (kp kv kc : Int) (w : World) (hA : OpsAt w A n q) :
    CV Try.prog 7 #[.int .i64 room, .slice A n cc, .agg #[.int .i64 kp, .int .i64 kv, .int .i64 kc]] w (fun x w1 => x = .bool true ∧ Step No w w1) := by
  have hS : Step No w w := Step.refl _ _
  refine CV_enter Try.f7 _ 176 [(0, .int .i64 room), (1, .slice A n cc), (2, .agg #[.int .i64 kp, .int .i64 kv, .int .i64 kc])] Try.func7 rfl rfl (by kernel_rfl) rfl ?_
  refine VC_seq ?_
  refine VC_region ?_
  have hzs1 := hS.size
  refine VL_box (d := 5) (t := 29) (c := #[.int .i64 kp, .int .i64 kv, .int .i64 kc]) (by kernel_rfl) (by kernel_rfl) ?_
  intro b1 w1 hn1
  replace hS := Step.trans hS (hn1.step No)
  have ho1 := hn1.own
  have hzhn1 := hn1.size
  have hqhn1 := hn1.eqb
  refine VL_pure 2 [0, 1, 5] [(0, .int .i64 room), (1, .slice A n cc), (5, .pointer (some ⟨b1, 0, none⟩))] (by kernel_rfl) rfl ?_
  refine VL_end (by kernel_rfl) ?_
  refine VQ_next ?_
  refine VC_seq ?_
  refine VC_seq ?_
  refine VC_region ?_
  have hzs2 := hS.size
  have hzl1 := ho1.lt
  refine VL_call (d := 21) (f := 9) (args := #[]) (by kernel_rfl) (by kernel_rfl) (by kernel_rfl) Try.call9 (awake_any _) ?_
  rintro _ w2 ⟨rfl, hc1⟩
  replace hS := Step.trans hS hc1
  replace ho1 := ho1.no hc1
  refine VL_pure 7 [0, 1, 5, 27] [(0, .int .i64 room), (1, .slice A n cc), (5, .pointer (some ⟨b1, 0, none⟩)), (27, .bool (decide (((n : Nat) : Int) > 200)))] (by kernel_rfl) rfl ?_
  refine VL_end (by kernel_rfl) ?_
  refine VQ_next ?_
  refine VC_dec (((n : Nat) : Int) > 200) (by kernel_rfl) (fun h1 => ?_) (fun h1 => ?_)
  · refine VC_seq ?_
    refine VC_region ?_
    have hzs3 := hS.size
    have hzl2 := ho1.lt
    refine VL_call (d := 28) (f := 9) (args := #[]) (by kernel_rfl) (by kernel_rfl) (by kernel_rfl) Try.call9 (awake_any _) ?_
    rintro _ w3 ⟨rfl, hc2⟩
    replace hS := Step.trans hS hc2
    replace ho1 := ho1.no hc2
    refine VL_pure 2 [6] [(6, .bool true)] (by kernel_rfl) rfl ?_
    refine VL_end (by kernel_rfl) ?_
    refine VQ_next ?_
    refine VC_ret ?_
    refine VQ_then_ret ?_
    refine VQ_ret1 (.bool true) (.inr rfl) rfl rfl ?_
    exact ⟨rfl, hS⟩
  · refine VC_skip ?_
    refine VQ_next ?_
    refine VC_seq ?_
    refine VC_region ?_
    refine VL_pure 1 [0, 1, 5, 29] [(0, .int .i64 room), (1, .slice A n cc), (5, .pointer (some ⟨b1, 0, none⟩)), (29, .int .i64 room)] (by kernel_rfl) rfl ?_
    have hzs4 := hS.size
    have hzl3 := ho1.lt
    refine VL_call (d := 30) (f := 10) (args := #[.int .i64 room]) (by kernel_rfl) (by kernel_rfl) (by kernel_rfl) Try.call10 (tnew room _) ?_
    rintro _ w4 ⟨tb1, rfl, hftb1, hT1, hc3⟩
    replace hS := Step.trans hS hc3
    replace ho1 := ho1.no hc3
    have hztb1 := hT1.lt
    refine VL_pure 3 [1, 5, 30, 31] [(1, .slice A n cc), (5, .pointer (some ⟨b1, 0, none⟩)), (30, .pointer (some ⟨tb1, 0, none⟩)), (31, .int .i64 room)] (by kernel_rfl) rfl ?_
    have hzs5 := hS.size
    have hzl4 := ho1.lt
    have hzl5 := Tb.lt hT1
    refine VL_call (d := 32) (f := 21) (args := #[.int .i64 room]) (by kernel_rfl) (by kernel_rfl) (by kernel_rfl) Try.call21 (rnew_any room _) ?_
    rintro _ w5 ⟨rp, rfl, hfrp, hlrp, hop, hc4⟩
    replace hS := Step.trans hS hc4
    replace ho1 := ho1.no hc4
    replace hT1 := Tb.no hT1 hc4
    refine VL_pure 6 [1, 5, 7, 8] [(1, .slice A n cc), (5, .pointer (some ⟨b1, 0, none⟩)), (7, .pointer (some ⟨tb1, 0, none⟩)), (8, .pointer (some ⟨rp, 0, none⟩))] (by kernel_rfl) rfl ?_
    refine VL_end (by kernel_rfl) ?_
    refine VQ_next ?_
    refine VC_seq ?_
    refine VC_seq ?_
    obtain ⟨lo9, hloE⟩ : ∃ x, x = w5.heap.size := ⟨_, rfl⟩
    have hle9 : lo9 ≤ w5.heap.size := Nat.le_of_eq hloE
    have hp9 : rp < lo9 := by rw [hloE]; exact hop.lt
    have ht9 : tb1 < lo9 := by rw [hloE]; exact hT1.lt
    have hb59 : b1 < lo9 := by rw [hloE]; exact ho1.lt
    have hR : Rt w5 rp lo9 (imax 0 (imin room 64)) [] := ⟨none, 0, 0, w5.heap.size, hop, rfl, Nat.le_refl _, Nat.le_refl _, RwS.sl2 (RwS.nil w5 4 lo9 69)⟩
    refine VC_region ?_
    refine VL_pure 2 [1, 5, 7, 8, 34] [(1, .slice A n cc), (5, .pointer (some ⟨b1, 0, none⟩)), (7, .pointer (some ⟨tb1, 0, none⟩)), (8, .pointer (some ⟨rp, 0, none⟩)), (34, .bool false)] (by kernel_rfl) rfl ?_
    refine VL_end (by kernel_rfl) ?_
    refine VQ_next ?_
    refine VC_false (by kernel_rfl) ?_
    refine VC_skip ?_
    refine VQ_next ?_
    refine VC_seq ?_
    refine VC_seq ?_
    refine VC_region ?_
    refine VL_pure 3 [1, 5, 7, 8, 36, 37] [(1, .slice A n cc), (5, .pointer (some ⟨b1, 0, none⟩)), (7, .pointer (some ⟨tb1, 0, none⟩)), (8, .pointer (some ⟨rp, 0, none⟩)), (36, .int .i64 ((n : Nat) : Int)), (37, .int .i64 0)] (by kernel_rfl) rfl ?_
    refine VL_end (by kernel_rfl) ?_
    refine VQ_next ?_
    refine VC_block ?_
    refine VC_loop (σ := Nat × (List Ent)) (fun σs => [(1, .slice A n cc), (5, .pointer (some ⟨b1, 0, none⟩)), (7, .pointer (some ⟨tb1, 0, none⟩)), (8, .pointer (some ⟨rp, 0, none⟩)), (36, .int .i64 ((n : Nat) : Int)), (37, .int .i64 ((σs.1 : Nat) : Int))]) (fun σs wr => σs.1 ≤ n ∧ Tb wr tb1 (imax 0 (imin room 64)) σs.2 ∧ Rt wr rp lo9 (imax 0 (imin room 64)) σs.2 ∧ (Step No w wr) ∧ (Own wr b1 #[.int .i64 kp, .int .i64 kv, .int .i64 kc] 29) ∧ (lo9 ≤ wr.heap.size)) (fun σs wr => n - σs.1) ⟨0, []⟩ ⟨rfl, rfl, rfl, rfl, rfl, rfl, trivial⟩ ?_ ?_
    · exact ⟨Nat.zero_le _, hT1, hR, hS, ho1, hle9⟩
    rintro ⟨k, L⟩ wr ⟨hk0, hT, hR, hS, ho1, hle9⟩
    try dsimp only at hk0 hT hR hS ho1 hle9 ⊢
    have hsm := hT.small
    have hsr := hT.srt
    refine VC_seq ?_
    refine VC_region ?_
    refine VL_pure 1 [1, 5, 7, 8, 36, 37, 38] [(1, .slice A n cc), (5, .pointer (some ⟨b1, 0, none⟩)), (7, .pointer (some ⟨tb1, 0, none⟩)), (8, .pointer (some ⟨rp, 0, none⟩)), (36, .int .i64 ((n : Nat) : Int)), (37, .int .i64 ((k : Nat) : Int)), (38, .bool (decide (((k : Nat) : Int) < ((n : Nat) : Int))))] (by kernel_rfl) rfl ?_
    refine VL_end (by kernel_rfl) ?_
    refine VQ_next ?_
    refine VC_seq ?_
    refine VC_dec (((k : Nat) : Int) < ((n : Nat) : Int)) (by kernel_rfl) (fun h2 => ?_) (fun h2 => ?_)
    · refine VC_skip ?_
      refine VQ_next ?_
      refine VC_seq ?_
      refine VC_block ?_
      refine VC_seq ?_
      refine VC_region ?_
      refine VL_pure 2 [1, 5, 7, 8, 36, 37, 9] [(1, .slice A n cc), (5, .pointer (some ⟨b1, 0, none⟩)), (7, .pointer (some ⟨tb1, 0, none⟩)), (8, .pointer (some ⟨rp, 0, none⟩)), (36, .int .i64 ((n : Nat) : Int)), (37, .int .i64 ((k : Nat) : Int)), (9, .int .i64 ((k : Nat) : Int))] (by kernel_rfl) rfl ?_
      refine VL_end (by kernel_rfl) ?_
      refine VQ_next ?_
      refine VC_seq ?_
      refine VC_seq ?_
      have hk : k < n := by omega
      obtain ⟨lb, lo, rfl, hL⟩ := hA (by omega)
      replace hL : OpsB w lb lo n q := hL
      refine VC_region ?_
      refine VL_pure 2 [1, 5, 7, 8, 36, 37, 9, 40, 41] [(1, .slice (some ⟨lb, lo, none⟩) n cc), (5, .pointer (some ⟨b1, 0, none⟩)), (7, .pointer (some ⟨tb1, 0, none⟩)), (8, .pointer (some ⟨rp, 0, none⟩)), (36, .int .i64 ((n : Nat) : Int)), (37, .int .i64 ((k : Nat) : Int)), (9, .int .i64 ((k : Nat) : Int)), (40, .slice (some ⟨lb, lo, none⟩) n cc), (41, .int .i64 ((k : Nat) : Int))] (by kernel_rfl) rfl ?_
      refine VL_index (d := 42) (b := lb) (o := lo) (len := n) (sz := 4) (m := ((k : Nat) : Int)) (by kernel_rfl) (by kernel_rfl) k (by rfl) (by omega) (lo + k * 4) (by omega) ?_
      refine VL_pure 4 [1, 5, 7, 8, 36, 37, 9, 43] [(1, .slice (some ⟨lb, lo, none⟩) n cc), (5, .pointer (some ⟨b1, 0, none⟩)), (7, .pointer (some ⟨tb1, 0, none⟩)), (8, .pointer (some ⟨rp, 0, none⟩)), (36, .int .i64 ((n : Nat) : Int)), (37, .int .i64 ((k : Nat) : Int)), (9, .int .i64 ((k : Nat) : Int)), (43, .pointer (some ⟨lb, lo + k * 4 + 3, none⟩))] (by kernel_rfl) rfl ?_
      refine VL_load (d := 44) (t := 3) (a := ⟨lb, lo + k * 4 + 3, none⟩) (v := .int .i64 ((q k).n)) (by kernel_rfl) (by kernel_rfl) (hL.num hS (by kernel_rfl) k hk) ?_
      refine VL_pure 6 [1, 5, 7, 8, 36, 37, 9, 45] [(1, .slice (some ⟨lb, lo, none⟩) n cc), (5, .pointer (some ⟨b1, 0, none⟩)), (7, .pointer (some ⟨tb1, 0, none⟩)), (8, .pointer (some ⟨rp, 0, none⟩)), (36, .int .i64 ((n : Nat) : Int)), (37, .int .i64 ((k : Nat) : Int)), (9, .int .i64 ((k : Nat) : Int)), (45, .bool (decide (((q k).n) ≥ 0)))] (by kernel_rfl) rfl ?_
      refine VL_end (by kernel_rfl) ?_
      refine VQ_next ?_
      refine VC_dec (((q k).n) ≥ 0) (by kernel_rfl) (fun h3 => ?_) (fun h3 => ?_)
      · refine VC_seq ?_
        have hs1 := drew_step wr
        have hs1z : wr.heap.size = wr.drew.heap.size := rfl
        refine VC_text [[], [], [], [1, 2], [1, 2, 3], [1, 2, 3, 4], [], [], [6, 7], [6, 7, 8], [6, 7, 8, 9], [0, 1, 2, 3, 4, 5, 6, 7, 8, 9, 10], [], [], [], [13, 14], [13, 14, 15], [13, 14, 15, 16], [], [], [18, 19], [18, 19, 20], [18, 19, 20, 21], [0, 1, 2, 3, 4, 5, 6, 7, 8, 9, 10, 11, 12, 13, 14, 15, 16, 17, 18, 19, 20, 21, 22], [0, 1, 2, 3, 4, 5, 6, 7, 8, 9, 10, 11, 12, 13, 14, 15, 16, 17, 18, 19, 20, 21, 22, 23]] 23 (fun x y => Step (fun k => k = tb1 ∨ wr.heap.size ≤ k) x y) [11] [0, 1, 2, 3, 4, 5, 6, 7, 8, 9, 10, 12, 13, 14, 15, 16, 17, 18, 19, 20, 21, 22, 11] (by kernel_rfl) (by kernel_rfl) (by kernel_rfl) (by kernel_rfl) (fun x => Step.refl _ x) (fun h k => Step.trans h k) Step.weak ?_
        have hzl6 := Tb.lt hT
        have hzl7 := Rt.lt hR
        have hzs6 := hS.size
        have hzl8 := ho1.lt
        have hzo1 := hle9
        generalize wr.drew = w6 at hs1 hs1z ⊢
        replace hT := Tb.no hT hs1
        replace hR := Rt.no hR hs1
        replace hS := Step.trans hS hs1
        replace ho1 := ho1.no hs1
        replace hle9 := Nat.le_trans hle9 (hs1).size
        refine VT_pures 3 (kn' := [(2, .int .i64 ((k : Nat) : Int)), (1, .slice (some ⟨lb, lo, none⟩) n cc), (0, .pointer (some ⟨tb1, 0, none⟩))]) (by kernel_rfl) ?_
        refine VT_index (d := 49) (b := lb) (o := lo) (len := n) (sz := 4) (mm := ((k : Nat) : Int)) (by kernel_rfl) (by kernel_rfl) k (by rfl) (by omega) (lo + k * 4) (by omega) ?_
        refine VT_pures 1 (kn' := [(4, .pointer (some ⟨lb, lo + k * 4, none⟩)), (3, .pointer (some ⟨lb, lo + k * 4, none⟩)), (2, .int .i64 ((k : Nat) : Int)), (1, .slice (some ⟨lb, lo, none⟩) n cc), (0, .pointer (some ⟨tb1, 0, none⟩))]) (by kernel_rfl) ?_
        refine VT_load (d := 51) (t := 29) (a := ⟨lb, lo + k * 4, none⟩) (v := .agg #[.int .i64 ((q k).p), .int .i64 ((q k).v), .int .i64 ((q k).c)]) (by kernel_rfl) (by kernel_rfl) ?_ ?_
        · intro w7 hr1
          replace hR := Rt.step hR hr1 (by (try simp only); omega) (fun k9 h91 h92 h93 => by (try simp only at h93); omega)
          replace hS := Step.transNew hS hr1 (fun i hi hG => by (try simp only at hG); omega)
          replace ho1 := ho1.step hr1 (by (try simp only); omega)
          replace hle9 := Nat.le_trans hle9 (hr1).size
          exact (hL.key hS (by kernel_rfl) k hk)
        refine VT_pures 2 (kn' := [(7, .int .i64 ((k : Nat) : Int)), (6, .slice (some ⟨lb, lo, none⟩) n cc), (5, .agg #[.int .i64 ((q k).p), .int .i64 ((q k).v), .int .i64 ((q k).c)]), (4, .pointer (some ⟨lb, lo + k * 4, none⟩)), (3, .pointer (some ⟨lb, lo + k * 4, none⟩)), (2, .int .i64 ((k : Nat) : Int)), (1, .slice (some ⟨lb, lo, none⟩) n cc), (0, .pointer (some ⟨tb1, 0, none⟩))]) (by kernel_rfl) ?_
        refine VT_index (d := 54) (b := lb) (o := lo) (len := n) (sz := 4) (mm := ((k : Nat) : Int)) (by kernel_rfl) (by kernel_rfl) k (by rfl) (by omega) (lo + k * 4) (by omega) ?_
        refine VT_pures 1 (kn' := [(9, .pointer (some ⟨lb, lo + k * 4 + 3, none⟩)), (8, .pointer (some ⟨lb, lo + k * 4, none⟩)), (7, .int .i64 ((k : Nat) : Int)), (6, .slice (some ⟨lb, lo, none⟩) n cc), (5, .agg #[.int .i64 ((q k).p), .int .i64 ((q k).v), .int .i64 ((q k).c)]), (4, .pointer (some ⟨lb, lo + k * 4, none⟩)), (3, .pointer (some ⟨lb, lo + k * 4, none⟩)), (2, .int .i64 ((k : Nat) : Int)), (1, .slice (some ⟨lb, lo, none⟩) n cc), (0, .pointer (some ⟨tb1, 0, none⟩))]) (by kernel_rfl) ?_
        refine VT_load (d := 56) (t := 3) (a := ⟨lb, lo + k * 4 + 3, none⟩) (v := .int .i64 ((q k).n)) (by kernel_rfl) (by kernel_rfl) ?_ ?_
        · intro w8 hr2
          replace hR := Rt.step hR hr2 (by (try simp only); omega) (fun k9 h91 h92 h93 => by (try simp only at h93); omega)
          replace hS := Step.transNew hS hr2 (fun i hi hG => by (try simp only at hG); omega)
          replace ho1 := ho1.step hr2 (by (try simp only); omega)
          replace hle9 := Nat.le_trans hle9 (hr2).size
          exact (hL.num hS (by kernel_rfl) k hk)
        refine VT_pures 3 (kn' := [(14, .int .i64 ((k : Nat) : Int)), (13, .slice (some ⟨lb, lo, none⟩) n cc), (12, .pointer (some ⟨rp, 0, none⟩)), (10, .int .i64 ((q k).n)), (9, .pointer (some ⟨lb, lo + k * 4 + 3, none⟩)), (8, .pointer (some ⟨lb, lo + k * 4, none⟩)), (7, .int .i64 ((k : Nat) : Int)), (6, .slice (some ⟨lb, lo, none⟩) n cc), (5, .agg #[.int .i64 ((q k).p), .int .i64 ((q k).v), .int .i64 ((q k).c)]), (4, .pointer (some ⟨lb, lo + k * 4, none⟩)), (3, .pointer (some ⟨lb, lo + k * 4, none⟩)), (2, .int .i64 ((k : Nat) : Int)), (1, .slice (some ⟨lb, lo, none⟩) n cc), (0, .pointer (some ⟨tb1, 0, none⟩))]) (by kernel_rfl) ?_
        refine VT_index (d := 61) (b := lb) (o := lo) (len := n) (sz := 4) (mm := ((k : Nat) : Int)) (by kernel_rfl) (by kernel_rfl) k (by rfl) (by omega) (lo + k * 4) (by omega) ?_
        refine VT_pures 1 (kn' := [(16, .pointer (some ⟨lb, lo + k * 4, none⟩)), (15, .pointer (some ⟨lb, lo + k * 4, none⟩)), (14, .int .i64 ((k : Nat) : Int)), (13, .slice (some ⟨lb, lo, none⟩) n cc), (12, .pointer (some ⟨rp, 0, none⟩)), (10, .int .i64 ((q k).n)), (9, .pointer (some ⟨lb, lo + k * 4 + 3, none⟩)), (8, .pointer (some ⟨lb, lo + k * 4, none⟩)), (7, .int .i64 ((k : Nat) : Int)), (6, .slice (some ⟨lb, lo, none⟩) n cc), (5, .agg #[.int .i64 ((q k).p), .int .i64 ((q k).v), .int .i64 ((q k).c)]), (4, .pointer (some ⟨lb, lo + k * 4, none⟩)), (3, .pointer (some ⟨lb, lo + k * 4, none⟩)), (2, .int .i64 ((k : Nat) : Int)), (1, .slice (some ⟨lb, lo, none⟩) n cc), (0, .pointer (some ⟨tb1, 0, none⟩))]) (by kernel_rfl) ?_
        refine VT_load (d := 63) (t := 29) (a := ⟨lb, lo + k * 4, none⟩) (v := .agg #[.int .i64 ((q k).p), .int .i64 ((q k).v), .int .i64 ((q k).c)]) (by kernel_rfl) (by kernel_rfl) ?_ ?_
        · intro w9 hr3
          replace hR := Rt.step hR hr3 (by (try simp only); omega) (fun k9 h91 h92 h93 => by (try simp only at h93); omega)
          replace hS := Step.transNew hS hr3 (fun i hi hG => by (try simp only at hG); omega)
          replace ho1 := ho1.step hr3 (by (try simp only); omega)
          replace hle9 := Nat.le_trans hle9 (hr3).size
          exact (hL.key hS (by kernel_rfl) k hk)
        refine VT_pures 2 (kn' := [(19, .int .i64 ((k : Nat) : Int)), (18, .slice (some ⟨lb, lo, none⟩) n cc), (17, .agg #[.int .i64 ((q k).p), .int .i64 ((q k).v), .int .i64 ((q k).c)]), (16, .pointer (some ⟨lb, lo + k * 4, none⟩)), (15, .pointer (some ⟨lb, lo + k * 4, none⟩)), (14, .int .i64 ((k : Nat) : Int)), (13, .slice (some ⟨lb, lo, none⟩) n cc), (12, .pointer (some ⟨rp, 0, none⟩)), (10, .int .i64 ((q k).n)), (9, .pointer (some ⟨lb, lo + k * 4 + 3, none⟩)), (8, .pointer (some ⟨lb, lo + k * 4, none⟩)), (7, .int .i64 ((k : Nat) : Int)), (6, .slice (some ⟨lb, lo, none⟩) n cc), (5, .agg #[.int .i64 ((q k).p), .int .i64 ((q k).v), .int .i64 ((q k).c)]), (4, .pointer (some ⟨lb, lo + k * 4, none⟩)), (3, .pointer (some ⟨lb, lo + k * 4, none⟩)), (2, .int .i64 ((k : Nat) : Int)), (1, .slice (some ⟨lb, lo, none⟩) n cc), (0, .pointer (some ⟨tb1, 0, none⟩))]) (by kernel_rfl) ?_
        refine VT_index (d := 66) (b := lb) (o := lo) (len := n) (sz := 4) (mm := ((k : Nat) : Int)) (by kernel_rfl) (by kernel_rfl) k (by rfl) (by omega) (lo + k * 4) (by omega) ?_
        refine VT_pures 1 (kn' := [(21, .pointer (some ⟨lb, lo + k * 4 + 3, none⟩)), (20, .pointer (some ⟨lb, lo + k * 4, none⟩)), (19, .int .i64 ((k : Nat) : Int)), (18, .slice (some ⟨lb, lo, none⟩) n cc), (17, .agg #[.int .i64 ((q k).p), .int .i64 ((q k).v), .int .i64 ((q k).c)]), (16, .pointer (some ⟨lb, lo + k * 4, none⟩)), (15, .pointer (some ⟨lb, lo + k * 4, none⟩)), (14, .int .i64 ((k : Nat) : Int)), (13, .slice (some ⟨lb, lo, none⟩) n cc), (12, .pointer (some ⟨rp, 0, none⟩)), (10, .int .i64 ((q k).n)), (9, .pointer (some ⟨lb, lo + k * 4 + 3, none⟩)), (8, .pointer (some ⟨lb, lo + k * 4, none⟩)), (7, .int .i64 ((k : Nat) : Int)), (6, .slice (some ⟨lb, lo, none⟩) n cc), (5, .agg #[.int .i64 ((q k).p), .int .i64 ((q k).v), .int .i64 ((q k).c)]), (4, .pointer (some ⟨lb, lo + k * 4, none⟩)), (3, .pointer (some ⟨lb, lo + k * 4, none⟩)), (2, .int .i64 ((k : Nat) : Int)), (1, .slice (some ⟨lb, lo, none⟩) n cc), (0, .pointer (some ⟨tb1, 0, none⟩))]) (by kernel_rfl) ?_
        refine VT_load (d := 68) (t := 3) (a := ⟨lb, lo + k * 4 + 3, none⟩) (v := .int .i64 ((q k).n)) (by kernel_rfl) (by kernel_rfl) ?_ ?_
        · intro w10 hr4
          replace hR := Rt.step hR hr4 (by (try simp only); omega) (fun k9 h91 h92 h93 => by (try simp only at h93); omega)
          replace hS := Step.transNew hS hr4 (fun i hi hG => by (try simp only at hG); omega)
          replace ho1 := ho1.step hr4 (by (try simp only); omega)
          replace hle9 := Nat.le_trans hle9 (hr4).size
          exact (hL.num hS (by kernel_rfl) k hk)
        refine VT_chain (by kernel_rfl) ?_
        intro w11 hs2
        have hzhs2 := hs2.size
        replace hT := Tb.no hT hs2
        replace hR := Rt.no hR hs2
        replace hS := Step.trans hS hs2
        replace ho1 := ho1.no hs2
        replace hle9 := Nat.le_trans hle9 (hs2).size
        have hzl9 := Tb.lt hT
        have hzl10 := Rt.lt hR
        have hzs7 := hS.size
        have hzl11 := ho1.lt
        refine VTc_call (d := 57) (f := 11) (args := #[.pointer (some ⟨tb1, 0, none⟩), .agg #[.int .i64 ((q k).p), .int .i64 ((q k).v), .int .i64 ((q k).c)], .int .i64 ((q k).n)]) (by kernel_rfl) (by kernel_rfl) (by kernel_rfl) Try.call11 (tput ((q k).p) ((q k).v) ((q k).c) ((q k).n) hT) ?_ ?_
        · rintro _ w12 ⟨rfl, hT2, hc5⟩
          exact Step.mono hc5 (by intro i hi; first | exact hi.elim | ((try simp only at hi ⊢); omega))
        rintro _ w12 ⟨rfl, hT2, hc5⟩
        have hzhc5 := (hc5).size
        replace hR := Rt.step hR hc5 (show ¬ rp = tb1 by omega) (fun k9 h91 h92 (h93 : k9 = tb1) => by omega)
        replace hS := Step.transNew hS hc5 (fun _ _ _ => by omega)
        replace ho1 := ho1.step hc5 (show ¬ b1 = tb1 by omega)
        replace hle9 := Nat.le_trans hle9 (hc5).size
        refine VT_end ?_
        intro w13 hs3
        replace hR := Rt.no hR hs3
        replace hS := Step.trans hS hs3
        replace ho1 := ho1.no hs3
        replace hle9 := Nat.le_trans hle9 (hs3).size
        replace hT2 := Tb.no hT2 hs3
        refine VL_keep [1, 5, 7, 8, 36, 37, 58, 63, 68, 57] [(1, .slice (some ⟨lb, lo, none⟩) n cc), (5, .pointer (some ⟨b1, 0, none⟩)), (7, .pointer (some ⟨tb1, 0, none⟩)), (8, .pointer (some ⟨rp, 0, none⟩)), (36, .int .i64 ((n : Nat) : Int)), (37, .int .i64 ((k : Nat) : Int)), (58, .pointer (some ⟨rp, 0, none⟩)), (63, .agg #[.int .i64 ((q k).p), .int .i64 ((q k).v), .int .i64 ((q k).c)]), (68, .int .i64 ((q k).n)), (57, .int .i64 (putK L (imax 0 (imin room 64)) ((q k).p) ((q k).v) ((q k).c)))] (by kernel_rfl) ?_
        have hzl12 := Rt.lt hR
        have hzs8 := hS.size
        have hzl13 := ho1.lt
        have hzl14 := Tb.lt hT2
        refine VL_call (d := 69) (f := 22) (args := #[.pointer (some ⟨rp, 0, none⟩), .agg #[.int .i64 ((q k).p), .int .i64 ((q k).v), .int .i64 ((q k).c)], .int .i64 ((q k).n)]) (by kernel_rfl) (by kernel_rfl) (by kernel_rfl) Try.call22 (rput_any ((q k).p) ((q k).v) ((q k).c) ((q k).n) hR (by omega) hp9 hle9) ?_
        rintro _ w14 ⟨rfl, hR1, hc6⟩
        replace hS := Step.transNew hS hc6 (fun _ _ _ => by omega)
        replace ho1 := ho1.step hc6 (show ¬ b1 = rp by omega)
        replace hle9 := Nat.le_trans hle9 (hc6).size
        replace hT2 := Tb.step hT2 hc6 (show ¬ tb1 = rp by omega)
        refine VL_pure 25 [1, 5, 7, 8, 36, 37, 70] [(1, .slice (some ⟨lb, lo, none⟩) n cc), (5, .pointer (some ⟨b1, 0, none⟩)), (7, .pointer (some ⟨tb1, 0, none⟩)), (8, .pointer (some ⟨rp, 0, none⟩)), (36, .int .i64 ((n : Nat) : Int)), (37, .int .i64 ((k : Nat) : Int)), (70, .bool ((putK L (imax 0 (imin room 64)) ((q k).p) ((q k).v) ((q k).c)) != (putK L (imax 0 (imin room 64)) ((q k).p) ((q k).v) ((q k).c))))] (by kernel_rfl) rfl ?_
        refine VL_end (by kernel_rfl) ?_
        refine VQ_next ?_
        refine VC_is (b := (putK L (imax 0 (imin room 64)) ((q k).p) ((q k).v) ((q k).c)) != (putK L (imax 0 (imin room 64)) ((q k).p) ((q k).v) ((q k).c))) false (by kernel_rfl) (by simp) ?_
        refine VC_ite_false ?_
        refine VC_skip ?_
        refine VQ_next ?_
        refine VC_seq ?_
        refine VC_region ?_
        refine VL_pure 1 [1, 5, 7, 8, 36, 37, 100] [(1, .slice (some ⟨lb, lo, none⟩) n cc), (5, .pointer (some ⟨b1, 0, none⟩)), (7, .pointer (some ⟨tb1, 0, none⟩)), (8, .pointer (some ⟨rp, 0, none⟩)), (36, .int .i64 ((n : Nat) : Int)), (37, .int .i64 ((k : Nat) : Int)), (100, .pointer (some ⟨tb1, 0, none⟩))] (by kernel_rfl) rfl ?_
        refine VL_load (d := 101) (t := 29) (a := ⟨b1, 0, none⟩) (v := .agg #[.int .i64 kp, .int .i64 kv, .int .i64 kc]) (by kernel_rfl) (by kernel_rfl) (Loads.ownL ho1 (n := 3) (by kernel_rfl) (by kernel_rfl) (by kernel_rfl)) ?_
        have hzs9 := hS.size
        have hzl15 := ho1.lt
        have hzl16 := Tb.lt hT2
        have hzl17 := Rt.lt hR1
        refine VL_call (d := 102) (f := 14) (args := #[.pointer (some ⟨tb1, 0, none⟩), .agg #[.int .i64 kp, .int .i64 kv, .int .i64 kc]]) (by kernel_rfl) (by kernel_rfl) (by kernel_rfl) Try.call14 (tget kp kv kc hT2) ?_
        rintro _ w15 ⟨rfl, hc7⟩
        replace hS := Step.trans hS hc7
        replace ho1 := ho1.no hc7
        replace hle9 := Nat.le_trans hle9 (hc7).size
        replace hT2 := Tb.no hT2 hc7
        replace hR1 := Rt.no hR1 hc7
        refine VL_pure 8 [1, 5, 7, 8, 36, 37, 14, 15] [(1, .slice (some ⟨lb, lo, none⟩) n cc), (5, .pointer (some ⟨b1, 0, none⟩)), (7, .pointer (some ⟨tb1, 0, none⟩)), (8, .pointer (some ⟨rp, 0, none⟩)), (36, .int .i64 ((n : Nat) : Int)), (37, .int .i64 ((k : Nat) : Int)), (14, .int .i64 ((lookE (putE L (imax 0 (imin room 64)) ((q k).p) ((q k).v) ((q k).c) ((q k).n)) kp kv kc).getD 0)), (15, .bool ((lookE (putE L (imax 0 (imin room 64)) ((q k).p) ((q k).v) ((q k).c) ((q k).n)) kp kv kc).isSome))] (by kernel_rfl) rfl ?_
        refine VL_end (by kernel_rfl) ?_
        refine VQ_next ?_
        refine VC_seq ?_
        refine VC_region ?_
        refine VL_pure 1 [1, 5, 7, 8, 36, 37, 14, 15, 106] [(1, .slice (some ⟨lb, lo, none⟩) n cc), (5, .pointer (some ⟨b1, 0, none⟩)), (7, .pointer (some ⟨tb1, 0, none⟩)), (8, .pointer (some ⟨rp, 0, none⟩)), (36, .int .i64 ((n : Nat) : Int)), (37, .int .i64 ((k : Nat) : Int)), (14, .int .i64 ((lookE (putE L (imax 0 (imin room 64)) ((q k).p) ((q k).v) ((q k).c) ((q k).n)) kp kv kc).getD 0)), (15, .bool ((lookE (putE L (imax 0 (imin room 64)) ((q k).p) ((q k).v) ((q k).c) ((q k).n)) kp kv kc).isSome)), (106, .pointer (some ⟨rp, 0, none⟩))] (by kernel_rfl) rfl ?_
        refine VL_load (d := 107) (t := 29) (a := ⟨b1, 0, none⟩) (v := .agg #[.int .i64 kp, .int .i64 kv, .int .i64 kc]) (by kernel_rfl) (by kernel_rfl) (Loads.ownL ho1 (n := 3) (by kernel_rfl) (by kernel_rfl) (by kernel_rfl)) ?_
        have hzs10 := hS.size
        have hzl18 := ho1.lt
        have hzl19 := Tb.lt hT2
        have hzl20 := Rt.lt hR1
        refine VL_call (d := 108) (f := 24) (args := #[.pointer (some ⟨rp, 0, none⟩), .agg #[.int .i64 kp, .int .i64 kv, .int .i64 kc]]) (by kernel_rfl) (by kernel_rfl) (by kernel_rfl) Try.call24 (rget_any kp kv kc hR1 (by have h9 := Tb.small hT2; omega)) ?_
        rintro _ w16 ⟨rfl, hc8⟩
        replace hS := Step.trans hS hc8
        replace ho1 := ho1.no hc8
        replace hle9 := Nat.le_trans hle9 (hc8).size
        replace hT2 := Tb.no hT2 hc8
        replace hR1 := Rt.no hR1 hc8
        refine VL_pure 8 [1, 5, 7, 8, 36, 37, 14, 15, 16, 17] [(1, .slice (some ⟨lb, lo, none⟩) n cc), (5, .pointer (some ⟨b1, 0, none⟩)), (7, .pointer (some ⟨tb1, 0, none⟩)), (8, .pointer (some ⟨rp, 0, none⟩)), (36, .int .i64 ((n : Nat) : Int)), (37, .int .i64 ((k : Nat) : Int)), (14, .int .i64 ((lookE (putE L (imax 0 (imin room 64)) ((q k).p) ((q k).v) ((q k).c) ((q k).n)) kp kv kc).getD 0)), (15, .bool ((lookE (putE L (imax 0 (imin room 64)) ((q k).p) ((q k).v) ((q k).c) ((q k).n)) kp kv kc).isSome)), (16, .int .i64 ((lookE (putE L (imax 0 (imin room 64)) ((q k).p) ((q k).v) ((q k).c) ((q k).n)) kp kv kc).getD 0)), (17, .bool ((lookE (putE L (imax 0 (imin room 64)) ((q k).p) ((q k).v) ((q k).c) ((q k).n)) kp kv kc).isSome))] (by kernel_rfl) rfl ?_
        refine VL_end (by kernel_rfl) ?_
        refine VQ_next ?_
        refine VC_seq ?_
        obtain ⟨AP, nP, cP, hiP, hoP, hnP, hcP, hhP, hvP⟩ := hR1
        have hsm2 := Tb.small hT2
        have hs4 := drew_step w16
        have hs4z : w16.heap.size = w16.drew.heap.size := rfl
        refine VC_text [[], [], [0, 1], [0, 1, 2], [0, 1, 2, 3], [0, 1, 2, 3], [0, 1, 2, 3, 4, 5], [0, 1, 2, 3, 4, 5, 6], [0, 1, 2, 3, 4, 5, 6, 7], [0, 1, 2, 3, 4, 5, 6, 7, 8], [0, 1, 2, 3, 4, 5, 6, 7, 8, 9], [0, 1, 2, 3, 4, 5, 6, 7, 8], [0, 1, 2, 3, 4, 5, 6, 7, 8, 11], [0, 1, 2, 3, 4, 5, 6, 7, 8, 11, 12], [0, 1, 2, 3, 4, 5, 6, 7, 8, 11, 12, 13], [0, 1, 2, 3, 4, 5, 6, 7, 8, 11, 12, 13, 14], [0, 1, 2, 3, 4, 5, 6, 7, 8, 9, 10, 11, 12, 13, 14, 15], [0, 1, 2, 3, 4, 5, 6, 7, 8, 9, 10, 11, 12, 13, 14, 15, 16], [0, 1, 2, 3, 4, 5, 6, 7, 8, 9, 10, 11, 12, 13, 14, 15, 16, 17], [0, 1, 2, 3, 4, 5, 6, 7, 8, 9, 10, 11, 12, 13, 14, 15, 16, 17, 18], [0, 1, 2, 3, 4, 5, 6, 7, 8, 9, 10, 11, 12, 13, 14, 15, 16, 17, 18, 19], [0, 1, 2, 3, 4, 5, 6, 7, 8, 9, 10, 11, 12, 13, 14, 15, 16, 17, 18], [0, 1, 2, 3, 4, 5, 6, 7, 8, 9, 10, 11, 12, 13, 14, 15, 16, 17, 18, 21], [0, 1, 2, 3, 4, 5, 6, 7, 8, 9, 10, 11, 12, 13, 14, 15, 16, 17, 18, 21, 22], [0, 1, 2, 3, 4, 5, 6, 7, 8, 9, 10, 11, 12, 13, 14, 15, 16, 17, 18, 21, 22, 23], [0, 1, 2, 3, 4, 5, 6, 7, 8, 9, 10, 11, 12, 13, 14, 15, 16, 17, 18, 19, 20, 21, 22, 23, 24], [0, 1, 2, 3, 4, 5, 6, 7, 8, 9, 10, 11, 12, 13, 14, 15, 16, 17, 18, 19, 20, 21, 22, 23, 24, 25], [0, 1, 2, 3, 4, 5, 6, 7, 8, 9, 10, 11, 12, 13, 14, 15, 16, 17, 18, 19, 20, 21, 22, 23, 24, 25, 26]] 25 (fun x y => Step (fun k => w16.heap.size ≤ k) x y) [10, 20] [0, 1, 2, 3, 4, 5, 6, 7, 8, 9, 11, 12, 13, 14, 15, 10, 16, 17, 18, 19, 21, 22, 23, 24, 20] (by kernel_rfl) (by kernel_rfl) (by kernel_rfl) (by kernel_rfl) (fun x => Step.refl _ x) (fun h k => Step.trans h k) Step.weak ?_
        have hzs11 := hS.size
        have hzl21 := ho1.lt
        have hzl22 := Tb.lt hT2
        have hzl23 := hoP.lt
        have hzo2 := hle9
        have hzo3 := hhP
        generalize w16.drew = w17 at hs4 hs4z ⊢
        replace hS := Step.trans hS hs4
        replace ho1 := ho1.no hs4
        replace hle9 := Nat.le_trans hle9 (hs4).size
        replace hT2 := Tb.no hT2 hs4
        replace hoP := hoP.no hs4
        replace hhP := Nat.le_trans hhP (hs4).size
        replace hvP := hvP.step hs4 (fun k hk1 hk2 hF => hF)
        refine VT_pures 4 (kn' := [(3, .bool (((lookE (putE L (imax 0 (imin room 64)) ((q k).p) ((q k).v) ((q k).c) ((q k).n)) kp kv kc).getD 0) != ((lookE (putE L (imax 0 (imin room 64)) ((q k).p) ((q k).v) ((q k).c) ((q k).n)) kp kv kc).getD 0))), (2, .bool (((lookE (putE L (imax 0 (imin room 64)) ((q k).p) ((q k).v) ((q k).c) ((q k).n)) kp kv kc).getD 0) != ((lookE (putE L (imax 0 (imin room 64)) ((q k).p) ((q k).v) ((q k).c) ((q k).n)) kp kv kc).getD 0))), (1, .int .i64 ((lookE (putE L (imax 0 (imin room 64)) ((q k).p) ((q k).v) ((q k).c) ((q k).n)) kp kv kc).getD 0)), (0, .int .i64 ((lookE (putE L (imax 0 (imin room 64)) ((q k).p) ((q k).v) ((q k).c) ((q k).n)) kp kv kc).getD 0))]) (by kernel_rfl) ?_
        have hg1 : (((lookE (putE L (imax 0 (imin room 64)) ((q k).p) ((q k).v) ((q k).c) ((q k).n)) kp kv kc).getD 0) != ((lookE (putE L (imax 0 (imin room 64)) ((q k).p) ((q k).v) ((q k).c) ((q k).n)) kp kv kc).getD 0)) = false := (by simp)
        refine VT_eq [(3, .bool false), (2, .bool false), (1, .int .i64 ((lookE (putE L (imax 0 (imin room 64)) ((q k).p) ((q k).v) ((q k).c) ((q k).n)) kp kv kc).getD 0)), (0, .int .i64 ((lookE (putE L (imax 0 (imin room 64)) ((q k).p) ((q k).v) ((q k).c) ((q k).n)) kp kv kc).getD 0))] (by simp only [hg1, Bool.not_true, Bool.not_false]) ?_
        refine VT_pures 5 (kn' := [(8, .bool (!(((lookE (putE L (imax 0 (imin room 64)) ((q k).p) ((q k).v) ((q k).c) ((q k).n)) kp kv kc).isSome) == ((lookE (putE L (imax 0 (imin room 64)) ((q k).p) ((q k).v) ((q k).c) ((q k).n)) kp kv kc).isSome)))), (7, .bool (!(((lookE (putE L (imax 0 (imin room 64)) ((q k).p) ((q k).v) ((q k).c) ((q k).n)) kp kv kc).isSome) == ((lookE (putE L (imax 0 (imin room 64)) ((q k).p) ((q k).v) ((q k).c) ((q k).n)) kp kv kc).isSome)))), (6, .bool (!(((lookE (putE L (imax 0 (imin room 64)) ((q k).p) ((q k).v) ((q k).c) ((q k).n)) kp kv kc).isSome) == ((lookE (putE L (imax 0 (imin room 64)) ((q k).p) ((q k).v) ((q k).c) ((q k).n)) kp kv kc).isSome)))), (5, .bool ((lookE (putE L (imax 0 (imin room 64)) ((q k).p) ((q k).v) ((q k).c) ((q k).n)) kp kv kc).isSome)), (4, .bool ((lookE (putE L (imax 0 (imin room 64)) ((q k).p) ((q k).v) ((q k).c) ((q k).n)) kp kv kc).isSome)), (3, .bool false), (2, .bool false), (1, .int .i64 ((lookE (putE L (imax 0 (imin room 64)) ((q k).p) ((q k).v) ((q k).c) ((q k).n)) kp kv kc).getD 0)), (0, .int .i64 ((lookE (putE L (imax 0 (imin room 64)) ((q k).p) ((q k).v) ((q k).c) ((q k).n)) kp kv kc).getD 0))]) (by kernel_rfl) ?_
        have hg2 : (!(((lookE (putE L (imax 0 (imin room 64)) ((q k).p) ((q k).v) ((q k).c) ((q k).n)) kp kv kc).isSome) == ((lookE (putE L (imax 0 (imin room 64)) ((q k).p) ((q k).v) ((q k).c) ((q k).n)) kp kv kc).isSome))) = false := (by simp)
        refine VT_eq [(8, .bool false), (7, .bool false), (6, .bool false), (5, .bool ((lookE (putE L (imax 0 (imin room 64)) ((q k).p) ((q k).v) ((q k).c) ((q k).n)) kp kv kc).isSome)), (4, .bool ((lookE (putE L (imax 0 (imin room 64)) ((q k).p) ((q k).v) ((q k).c) ((q k).n)) kp kv kc).isSome)), (3, .bool false), (2, .bool false), (1, .int .i64 ((lookE (putE L (imax 0 (imin room 64)) ((q k).p) ((q k).v) ((q k).c) ((q k).n)) kp kv kc).getD 0)), (0, .int .i64 ((lookE (putE L (imax 0 (imin room 64)) ((q k).p) ((q k).v) ((q k).c) ((q k).n)) kp kv kc).getD 0))] (by simp only [hg2, Bool.not_true, Bool.not_false]) ?_
        refine VT_pures 4 (kn' := [(13, .pointer (some ⟨rp, 0, none⟩)), (12, .pointer (some ⟨rp, 0, none⟩)), (11, .pointer (some ⟨rp, 0, none⟩)), (9, .pointer (some ⟨tb1, 0, none⟩)), (8, .bool false), (7, .bool false), (6, .bool false), (5, .bool ((lookE (putE L (imax 0 (imin room 64)) ((q k).p) ((q k).v) ((q k).c) ((q k).n)) kp kv kc).isSome)), (4, .bool ((lookE (putE L (imax 0 (imin room 64)) ((q k).p) ((q k).v) ((q k).c) ((q k).n)) kp kv kc).isSome)), (3, .bool false), (2, .bool false), (1, .int .i64 ((lookE (putE L (imax 0 (imin room 64)) ((q k).p) ((q k).v) ((q k).c) ((q k).n)) kp kv kc).getD 0)), (0, .int .i64 ((lookE (putE L (imax 0 (imin room 64)) ((q k).p) ((q k).v) ((q k).c) ((q k).n)) kp kv kc).getD 0))]) (by kernel_rfl) ?_
        refine VT_load (d := 125) (t := 43) (a := ⟨rp, 0, none⟩) (v := .slice AP nP cP) (by kernel_rfl) (by kernel_rfl) ?_ ?_
        · intro w18 hr5
          replace hS := Step.transNew hS hr5 (fun i hi hG => by (try simp only at hG); omega)
          replace ho1 := ho1.step hr5 (by (try simp only); omega)
          replace hle9 := Nat.le_trans hle9 (hr5).size
          replace hT2 := Tb.step hT2 hr5 (by (try simp only); omega)
          replace hoP := hoP.step hr5 (by (try simp only); omega)
          replace hhP := Nat.le_trans hhP (hr5).size
          replace hvP := hvP.step hr5 (fun k hk1 hk2 hG => by (try simp only at hG); omega)
          exact (Loads.own1 hoP (by kernel_rfl) (by rfl))
        refine VT_pures 1 (kn' := [(15, .int .i64 ((nP : Nat) : Int)), (14, .slice AP nP cP), (13, .pointer (some ⟨rp, 0, none⟩)), (12, .pointer (some ⟨rp, 0, none⟩)), (11, .pointer (some ⟨rp, 0, none⟩)), (9, .pointer (some ⟨tb1, 0, none⟩)), (8, .bool false), (7, .bool false), (6, .bool false), (5, .bool ((lookE (putE L (imax 0 (imin room 64)) ((q k).p) ((q k).v) ((q k).c) ((q k).n)) kp kv kc).isSome)), (4, .bool ((lookE (putE L (imax 0 (imin room 64)) ((q k).p) ((q k).v) ((q k).c) ((q k).n)) kp kv kc).isSome)), (3, .bool false), (2, .bool false), (1, .int .i64 ((lookE (putE L (imax 0 (imin room 64)) ((q k).p) ((q k).v) ((q k).c) ((q k).n)) kp kv kc).getD 0)), (0, .int .i64 ((lookE (putE L (imax 0 (imin room 64)) ((q k).p) ((q k).v) ((q k).c) ((q k).n)) kp kv kc).getD 0))]) (by kernel_rfl) ?_
        refine VT_chain (by kernel_rfl) ?_
        intro w19 hs5
        have hzhs5 := hs5.size
        replace hS := Step.trans hS hs5
        replace ho1 := ho1.no hs5
        replace hle9 := Nat.le_trans hle9 (hs5).size
        replace hT2 := Tb.no hT2 hs5
        replace hoP := hoP.no hs5
        replace hhP := Nat.le_trans hhP (hs5).size
        replace hvP := hvP.step hs5 (fun k hk1 hk2 hF => hF)
        have hzs12 := hS.size
        have hzl24 := ho1.lt
        have hzl25 := Tb.lt hT2
        have hzl26 := hoP.lt
        refine VTc_call (d := 121) (f := 15) (args := #[.pointer (some ⟨tb1, 0, none⟩)]) (by kernel_rfl) (by kernel_rfl) (by kernel_rfl) Try.call15 (tlen hT2) ?_ ?_
        · rintro _ w20 ⟨rfl, hc9⟩
          exact Step.mono hc9 (by intro i hi; first | exact hi.elim | ((try simp only at hi ⊢); omega))
        rintro _ w20 ⟨rfl, hc9⟩
        have hzhc9 := (hc9).size
        replace hS := Step.trans hS hc9
        replace ho1 := ho1.no hc9
        replace hle9 := Nat.le_trans hle9 (hc9).size
        replace hT2 := Tb.no hT2 hc9
        replace hoP := hoP.no hc9
        replace hhP := Nat.le_trans hhP (hc9).size
        replace hvP := hvP.step hc9 (fun k hk1 hk2 hF => hF)
        refine VT_pures 3 (kn' := [(18, .bool ((((putE L (imax 0 (imin room 64)) ((q k).p) ((q k).v) ((q k).c) ((q k).n)).length : Nat) : Int) != ((nP : Nat) : Int))), (17, .bool ((((putE L (imax 0 (imin room 64)) ((q k).p) ((q k).v) ((q k).c) ((q k).n)).length : Nat) : Int) != ((nP : Nat) : Int))), (16, .bool ((((putE L (imax 0 (imin room 64)) ((q k).p) ((q k).v) ((q k).c) ((q k).n)).length : Nat) : Int) != ((nP : Nat) : Int))), (10, .int .i64 (((putE L (imax 0 (imin room 64)) ((q k).p) ((q k).v) ((q k).c) ((q k).n)).length : Nat) : Int)), (15, .int .i64 ((nP : Nat) : Int)), (14, .slice AP nP cP), (13, .pointer (some ⟨rp, 0, none⟩)), (12, .pointer (some ⟨rp, 0, none⟩)), (11, .pointer (some ⟨rp, 0, none⟩)), (9, .pointer (some ⟨tb1, 0, none⟩)), (8, .bool false), (7, .bool false), (6, .bool false), (5, .bool ((lookE (putE L (imax 0 (imin room 64)) ((q k).p) ((q k).v) ((q k).c) ((q k).n)) kp kv kc).isSome)), (4, .bool ((lookE (putE L (imax 0 (imin room 64)) ((q k).p) ((q k).v) ((q k).c) ((q k).n)) kp kv kc).isSome)), (3, .bool false), (2, .bool false), (1, .int .i64 ((lookE (putE L (imax 0 (imin room 64)) ((q k).p) ((q k).v) ((q k).c) ((q k).n)) kp kv kc).getD 0)), (0, .int .i64 ((lookE (putE L (imax 0 (imin room 64)) ((q k).p) ((q k).v) ((q k).c) ((q k).n)) kp kv kc).getD 0))]) (by kernel_rfl) ?_
        have hg3 : ((((putE L (imax 0 (imin room 64)) ((q k).p) ((q k).v) ((q k).c) ((q k).n)).length : Nat) : Int) != ((nP : Nat) : Int)) = false := (by rw [hnP]; simp)
        refine VT_eq [(18, .bool false), (17, .bool false), (16, .bool false), (10, .int .i64 (((putE L (imax 0 (imin room 64)) ((q k).p) ((q k).v) ((q k).c) ((q k).n)).length : Nat) : Int)), (15, .int .i64 ((nP : Nat) : Int)), (14, .slice AP nP cP), (13, .pointer (some ⟨rp, 0, none⟩)), (12, .pointer (some ⟨rp, 0, none⟩)), (11, .pointer (some ⟨rp, 0, none⟩)), (9, .pointer (some ⟨tb1, 0, none⟩)), (8, .bool false), (7, .bool false), (6, .bool false), (5, .bool ((lookE (putE L (imax 0 (imin room 64)) ((q k).p) ((q k).v) ((q k).c) ((q k).n)) kp kv kc).isSome)), (4, .bool ((lookE (putE L (imax 0 (imin room 64)) ((q k).p) ((q k).v) ((q k).c) ((q k).n)) kp kv kc).isSome)), (3, .bool false), (2, .bool false), (1, .int .i64 ((lookE (putE L (imax 0 (imin room 64)) ((q k).p) ((q k).v) ((q k).c) ((q k).n)) kp kv kc).getD 0)), (0, .int .i64 ((lookE (putE L (imax 0 (imin room 64)) ((q k).p) ((q k).v) ((q k).c) ((q k).n)) kp kv kc).getD 0))] (by simp only [hg3, Bool.not_true, Bool.not_false]) ?_
        refine VT_pures 4 (kn' := [(23, .pointer (some ⟨rp, 0, none⟩)), (22, .pointer (some ⟨rp, 0, none⟩)), (21, .pointer (some ⟨rp, 0, none⟩)), (19, .pointer (some ⟨tb1, 0, none⟩)), (18, .bool false), (17, .bool false), (16, .bool false), (10, .int .i64 (((putE L (imax 0 (imin room 64)) ((q k).p) ((q k).v) ((q k).c) ((q k).n)).length : Nat) : Int)), (15, .int .i64 ((nP : Nat) : Int)), (14, .slice AP nP cP), (13, .pointer (some ⟨rp, 0, none⟩)), (12, .pointer (some ⟨rp, 0, none⟩)), (11, .pointer (some ⟨rp, 0, none⟩)), (9, .pointer (some ⟨tb1, 0, none⟩)), (8, .bool false), (7, .bool false), (6, .bool false), (5, .bool ((lookE (putE L (imax 0 (imin room 64)) ((q k).p) ((q k).v) ((q k).c) ((q k).n)) kp kv kc).isSome)), (4, .bool ((lookE (putE L (imax 0 (imin room 64)) ((q k).p) ((q k).v) ((q k).c) ((q k).n)) kp kv kc).isSome)), (3, .bool false), (2, .bool false), (1, .int .i64 ((lookE (putE L (imax 0 (imin room 64)) ((q k).p) ((q k).v) ((q k).c) ((q k).n)) kp kv kc).getD 0)), (0, .int .i64 ((lookE (putE L (imax 0 (imin room 64)) ((q k).p) ((q k).v) ((q k).c) ((q k).n)) kp kv kc).getD 0))]) (by kernel_rfl) ?_
        refine VT_load (d := 135) (t := 43) (a := ⟨rp, 0, none⟩) (v := .slice AP nP cP) (by kernel_rfl) (by kernel_rfl) ?_ ?_
        · intro w21 hr6
          replace hS := Step.transNew hS hr6 (fun i hi hG => by (try simp only at hG); omega)
          replace ho1 := ho1.step hr6 (by (try simp only); omega)
          replace hle9 := Nat.le_trans hle9 (hr6).size
          replace hT2 := Tb.step hT2 hr6 (by (try simp only); omega)
          replace hoP := hoP.step hr6 (by (try simp only); omega)
          replace hhP := Nat.le_trans hhP (hr6).size
          replace hvP := hvP.step hr6 (fun k hk1 hk2 hG => by (try simp only at hG); omega)
          exact (Loads.own1 hoP (by kernel_rfl) (by rfl))
        refine VT_chain (by kernel_rfl) ?_
        intro w22 hs6
        have hzhs6 := hs6.size
        replace hS := Step.trans hS hs6
        replace ho1 := ho1.no hs6
        replace hle9 := Nat.le_trans hle9 (hs6).size
        replace hT2 := Tb.no hT2 hs6
        replace hoP := hoP.no hs6
        replace hhP := Nat.le_trans hhP (hs6).size
        replace hvP := hvP.step hs6 (fun k hk1 hk2 hF => hF)
        have hzs13 := hS.size
        have hzl27 := ho1.lt
        have hzl28 := Tb.lt hT2
        have hzl29 := hoP.lt
        refine VTc_call (d := 131) (f := 18) (args := #[.pointer (some ⟨tb1, 0, none⟩)]) (by kernel_rfl) (by kernel_rfl) (by kernel_rfl) Try.call18 (tall hT2) ?_ ?_
        · rintro _ w23 ⟨A1, n1, c1, rfl, hn2, hr7, hc10⟩
          exact Step.mono hc10 (by intro i hi; first | exact hi.elim | ((try simp only at hi ⊢); omega))
        rintro _ w23 ⟨A1, n1, c1, rfl, hn2, hr7, hc10⟩
        have hzhc10 := (hc10).size
        replace hS := Step.trans hS hc10
        replace ho1 := ho1.no hc10
        replace hle9 := Nat.le_trans hle9 (hc10).size
        replace hT2 := Tb.no hT2 hc10
        replace hoP := hoP.no hc10
        replace hhP := Nat.le_trans hhP (hc10).size
        replace hvP := hvP.step hc10 (fun k hk1 hk2 hF => hF)
        have hshn2 := Tb.small hT2
        obtain ⟨hi1, hiE1⟩ : ∃ x, x = w23.heap.size := ⟨_, rfl⟩
        obtain ⟨lo1, lo1E⟩ : ∃ x, x = w22.heap.size := ⟨_, rfl⟩
        have hv1 : Sl2 w23 lo1 hi1 A1 (flat Ent.cells (putE L (imax 0 (imin room 64)) ((q k).p) ((q k).v) ((q k).c) ((q k).n))) := by rw [hiE1, lo1E]; exact RwS.sl2 hr7
        have hle1 : hi1 ≤ w23.heap.size := Nat.le_of_eq hiE1
        have hzlo1tb1 : tb1 < lo1 := by rw [lo1E]; omega
        refine VT_end ?_
        intro w24 hs7
        replace hS := Step.trans hS hs7
        replace ho1 := ho1.no hs7
        replace hle9 := Nat.le_trans hle9 (hs7).size
        replace hT2 := Tb.no hT2 hs7
        replace hoP := hoP.no hs7
        replace hhP := Nat.le_trans hhP (hs7).size
        replace hvP := hvP.step hs7 (fun k hk1 hk2 hF => hF)
        replace hv1 := hv1.step hs7 (fun k hk1 hk2 hF => hF)
        replace hle1 := Nat.le_trans hle1 (hs7).size
        refine VL_keep [1, 5, 7, 8, 36, 37, 129, 135, 131] [(1, .slice (some ⟨lb, lo, none⟩) n cc), (5, .pointer (some ⟨b1, 0, none⟩)), (7, .pointer (some ⟨tb1, 0, none⟩)), (8, .pointer (some ⟨rp, 0, none⟩)), (36, .int .i64 ((n : Nat) : Int)), (37, .int .i64 ((k : Nat) : Int)), (129, .bool false), (135, .slice AP nP cP), (131, .slice A1 n1 c1)] (by kernel_rfl) ?_
        have hzs14 := hS.size
        have hzl30 := ho1.lt
        have hzl31 := Tb.lt hT2
        have hzl32 := hoP.lt
        refine VL_call (d := 136) (f := 19) (args := #[.slice A1 n1 c1, .slice AP nP cP]) (by kernel_rfl) (by kernel_rfl) (by kernel_rfl) Try.call19 (lsame_refl hn2 hnP (Sl2.sl hv1) (Sl2.sl hvP) (by omega) (by omega)) ?_
        rintro _ w25 ⟨rfl, hc11⟩
        replace hS := Step.trans hS hc11
        replace ho1 := ho1.no hc11
        replace hle9 := Nat.le_trans hle9 (hc11).size
        replace hT2 := Tb.no hT2 hc11
        replace hoP := hoP.no hc11
        replace hhP := Nat.le_trans hhP (hc11).size
        replace hvP := hvP.step hc11 (fun k hk1 hk2 hF => hF)
        replace hv1 := hv1.step hc11 (fun k hk1 hk2 hF => hF)
        replace hle1 := Nat.le_trans hle1 (hc11).size
        refine VL_pure 28 [1, 5, 7, 8, 36, 37, 138] [(1, .slice (some ⟨lb, lo, none⟩) n cc), (5, .pointer (some ⟨b1, 0, none⟩)), (7, .pointer (some ⟨tb1, 0, none⟩)), (8, .pointer (some ⟨rp, 0, none⟩)), (36, .int .i64 ((n : Nat) : Int)), (37, .int .i64 ((k : Nat) : Int)), (138, .bool false)] (by kernel_rfl) rfl ?_
        refine VL_end (by kernel_rfl) ?_
        refine VQ_next ?_
        refine VC_false (by kernel_rfl) ?_
        refine VC_skip ?_
        refine VQ_block_normal ?_
        refine VQ_next ?_
        refine VC_region ?_
        refine VL_pure 1 [1, 5, 7, 8, 36, 139] [(1, .slice (some ⟨lb, lo, none⟩) n cc), (5, .pointer (some ⟨b1, 0, none⟩)), (7, .pointer (some ⟨tb1, 0, none⟩)), (8, .pointer (some ⟨rp, 0, none⟩)), (36, .int .i64 ((n : Nat) : Int)), (139, .int .i64 (IntKind.wrap .i64 (((k : Nat) : Int) + 1)))] (by kernel_rfl) rfl ?_
        have he1 : IntKind.wrap .i64 (((k : Nat) : Int) + 1) = ((k + 1 : Nat) : Int) := (by rw [wrap_i64 _ (by omega) (by omega)]; omega)
        refine VL_eq [(1, .slice (some ⟨lb, lo, none⟩) n cc), (5, .pointer (some ⟨b1, 0, none⟩)), (7, .pointer (some ⟨tb1, 0, none⟩)), (8, .pointer (some ⟨rp, 0, none⟩)), (36, .int .i64 ((n : Nat) : Int)), (139, .int .i64 ((k + 1 : Nat) : Int))] (by rw [he1]) ?_
        refine VL_pure 2 [1, 5, 7, 8, 36, 37] [(1, .slice (some ⟨lb, lo, none⟩) n cc), (5, .pointer (some ⟨b1, 0, none⟩)), (7, .pointer (some ⟨tb1, 0, none⟩)), (8, .pointer (some ⟨rp, 0, none⟩)), (36, .int .i64 ((n : Nat) : Int)), (37, .int .i64 ((k + 1 : Nat) : Int))] (by kernel_rfl) rfl ?_
        refine VL_end (by kernel_rfl) ?_
        refine VQ_again ⟨k + 1, (putE L (imax 0 (imin room 64)) ((q k).p) ((q k).v) ((q k).c) ((q k).n))⟩ ⟨rfl, rfl, rfl, rfl, rfl, rfl, trivial⟩ ?_ ?_
        · exact ⟨(by (try dsimp only); omega), hT2, ⟨_, _, _, _, hoP, hnP, hcP, hhP, hvP⟩, hS, ho1, hle9⟩
        · (try dsimp only); omega
      · refine VC_seq ?_
        refine VC_region ?_
        refine VL_pure 3 [1, 5, 7, 8, 36, 37, 9, 72, 73, 74] [(1, .slice (some ⟨lb, lo, none⟩) n cc), (5, .pointer (some ⟨b1, 0, none⟩)), (7, .pointer (some ⟨tb1, 0, none⟩)), (8, .pointer (some ⟨rp, 0, none⟩)), (36, .int .i64 ((n : Nat) : Int)), (37, .int .i64 ((k : Nat) : Int)), (9, .int .i64 ((k : Nat) : Int)), (72, .pointer (some ⟨tb1, 0, none⟩)), (73, .slice (some ⟨lb, lo, none⟩) n cc), (74, .int .i64 ((k : Nat) : Int))] (by kernel_rfl) rfl ?_
        refine VL_index (d := 75) (b := lb) (o := lo) (len := n) (sz := 4) (m := ((k : Nat) : Int)) (by kernel_rfl) (by kernel_rfl) k (by rfl) (by omega) (lo + k * 4) (by omega) ?_
        refine VL_pure 5 [1, 5, 7, 8, 36, 37, 9, 72, 76] [(1, .slice (some ⟨lb, lo, none⟩) n cc), (5, .pointer (some ⟨b1, 0, none⟩)), (7, .pointer (some ⟨tb1, 0, none⟩)), (8, .pointer (some ⟨rp, 0, none⟩)), (36, .int .i64 ((n : Nat) : Int)), (37, .int .i64 ((k : Nat) : Int)), (9, .int .i64 ((k : Nat) : Int)), (72, .pointer (some ⟨tb1, 0, none⟩)), (76, .pointer (some ⟨lb, lo + k * 4, none⟩))] (by kernel_rfl) rfl ?_
        refine VL_load (d := 77) (t := 29) (a := ⟨lb, lo + k * 4, none⟩) (v := .agg #[.int .i64 ((q k).p), .int .i64 ((q k).v), .int .i64 ((q k).c)]) (by kernel_rfl) (by kernel_rfl) (hL.key hS (by kernel_rfl) k hk) ?_
        have hzl33 := Tb.lt hT
        have hzl34 := Rt.lt hR
        have hzs15 := hS.size
        have hzl35 := ho1.lt
        refine VL_call (d := 78) (f := 16) (args := #[.pointer (some ⟨tb1, 0, none⟩), .agg #[.int .i64 ((q k).p), .int .i64 ((q k).v), .int .i64 ((q k).c)]]) (by kernel_rfl) (by kernel_rfl) (by kernel_rfl) Try.call16 (tdrop ((q k).p) ((q k).v) ((q k).c) hT) ?_
        rintro _ w26 ⟨rfl, hT3, hc12⟩
        replace hR := Rt.step hR hc12 (show ¬ rp = tb1 by omega) (fun k9 h91 h92 (h93 : k9 = tb1) => by omega)
        replace hS := Step.transNew hS hc12 (fun _ _ _ => by omega)
        replace ho1 := ho1.step hc12 (show ¬ b1 = tb1 by omega)
        replace hle9 := Nat.le_trans hle9 (hc12).size
        refine VL_pure 12 [1, 5, 7, 8, 36, 37, 9, 10, 11] [(1, .slice (some ⟨lb, lo, none⟩) n cc), (5, .pointer (some ⟨b1, 0, none⟩)), (7, .pointer (some ⟨tb1, 0, none⟩)), (8, .pointer (some ⟨rp, 0, none⟩)), (36, .int .i64 ((n : Nat) : Int)), (37, .int .i64 ((k : Nat) : Int)), (9, .int .i64 ((k : Nat) : Int)), (10, .int .i64 ((lookE L ((q k).p) ((q k).v) ((q k).c)).getD 0)), (11, .bool ((lookE L ((q k).p) ((q k).v) ((q k).c)).isSome))] (by kernel_rfl) rfl ?_
        refine VL_end (by kernel_rfl) ?_
        refine VQ_next ?_
        refine VC_seq ?_
        refine VC_region ?_
        refine VL_pure 3 [1, 5, 7, 8, 36, 37, 10, 11, 82, 83, 84] [(1, .slice (some ⟨lb, lo, none⟩) n cc), (5, .pointer (some ⟨b1, 0, none⟩)), (7, .pointer (some ⟨tb1, 0, none⟩)), (8, .pointer (some ⟨rp, 0, none⟩)), (36, .int .i64 ((n : Nat) : Int)), (37, .int .i64 ((k : Nat) : Int)), (10, .int .i64 ((lookE L ((q k).p) ((q k).v) ((q k).c)).getD 0)), (11, .bool ((lookE L ((q k).p) ((q k).v) ((q k).c)).isSome)), (82, .pointer (some ⟨rp, 0, none⟩)), (83, .slice (some ⟨lb, lo, none⟩) n cc), (84, .int .i64 ((k : Nat) : Int))] (by kernel_rfl) rfl ?_
        refine VL_index (d := 85) (b := lb) (o := lo) (len := n) (sz := 4) (m := ((k : Nat) : Int)) (by kernel_rfl) (by kernel_rfl) k (by rfl) (by omega) (lo + k * 4) (by omega) ?_
        refine VL_pure 5 [1, 5, 7, 8, 36, 37, 10, 11, 82, 86] [(1, .slice (some ⟨lb, lo, none⟩) n cc), (5, .pointer (some ⟨b1, 0, none⟩)), (7, .pointer (some ⟨tb1, 0, none⟩)), (8, .pointer (some ⟨rp, 0, none⟩)), (36, .int .i64 ((n : Nat) : Int)), (37, .int .i64 ((k : Nat) : Int)), (10, .int .i64 ((lookE L ((q k).p) ((q k).v) ((q k).c)).getD 0)), (11, .bool ((lookE L ((q k).p) ((q k).v) ((q k).c)).isSome)), (82, .pointer (some ⟨rp, 0, none⟩)), (86, .pointer (some ⟨lb, lo + k * 4, none⟩))] (by kernel_rfl) rfl ?_
        refine VL_load (d := 87) (t := 29) (a := ⟨lb, lo + k * 4, none⟩) (v := .agg #[.int .i64 ((q k).p), .int .i64 ((q k).v), .int .i64 ((q k).c)]) (by kernel_rfl) (by kernel_rfl) (hL.key hS (by kernel_rfl) k hk) ?_
        have hzl36 := Rt.lt hR
        have hzs16 := hS.size
        have hzl37 := ho1.lt
        have hzl38 := Tb.lt hT3
        refine VL_call (d := 88) (f := 23) (args := #[.pointer (some ⟨rp, 0, none⟩), .agg #[.int .i64 ((q k).p), .int .i64 ((q k).v), .int .i64 ((q k).c)]]) (by kernel_rfl) (by kernel_rfl) (by kernel_rfl) Try.call23 (rdrop_any ((q k).p) ((q k).v) ((q k).c) hR hsr (by omega) hp9 hle9) ?_
        rintro _ w27 ⟨rfl, hR2, hc13⟩
        replace hS := Step.transNew hS hc13 (fun _ _ _ => by omega)
        replace ho1 := ho1.step hc13 (show ¬ b1 = rp by omega)
        replace hle9 := Nat.le_trans hle9 (hc13).size
        replace hT3 := Tb.step hT3 hc13 (show ¬ tb1 = rp by omega)
        refine VL_pure 12 [1, 5, 7, 8, 36, 37, 10, 11, 12, 13] [(1, .slice (some ⟨lb, lo, none⟩) n cc), (5, .pointer (some ⟨b1, 0, none⟩)), (7, .pointer (some ⟨tb1, 0, none⟩)), (8, .pointer (some ⟨rp, 0, none⟩)), (36, .int .i64 ((n : Nat) : Int)), (37, .int .i64 ((k : Nat) : Int)), (10, .int .i64 ((lookE L ((q k).p) ((q k).v) ((q k).c)).getD 0)), (11, .bool ((lookE L ((q k).p) ((q k).v) ((q k).c)).isSome)), (12, .int .i64 ((lookE L ((q k).p) ((q k).v) ((q k).c)).getD 0)), (13, .bool ((lookE L ((q k).p) ((q k).v) ((q k).c)).isSome))] (by kernel_rfl) rfl ?_
        refine VL_end (by kernel_rfl) ?_
        refine VQ_next ?_
        refine VC_seq ?_
        refine VC_region ?_
        refine VL_pure 4 [1, 5, 7, 8, 36, 37, 11, 13, 94] [(1, .slice (some ⟨lb, lo, none⟩) n cc), (5, .pointer (some ⟨b1, 0, none⟩)), (7, .pointer (some ⟨tb1, 0, none⟩)), (8, .pointer (some ⟨rp, 0, none⟩)), (36, .int .i64 ((n : Nat) : Int)), (37, .int .i64 ((k : Nat) : Int)), (11, .bool ((lookE L ((q k).p) ((q k).v) ((q k).c)).isSome)), (13, .bool ((lookE L ((q k).p) ((q k).v) ((q k).c)).isSome)), (94, .bool (((lookE L ((q k).p) ((q k).v) ((q k).c)).getD 0) != ((lookE L ((q k).p) ((q k).v) ((q k).c)).getD 0)))] (by kernel_rfl) rfl ?_
        refine VL_known (((lookE L ((q k).p) ((q k).v) ((q k).c)).getD 0) != ((lookE L ((q k).p) ((q k).v) ((q k).c)).getD 0)) (fun bV => [(1, .slice (some ⟨lb, lo, none⟩) n cc), (5, .pointer (some ⟨b1, 0, none⟩)), (7, .pointer (some ⟨tb1, 0, none⟩)), (8, .pointer (some ⟨rp, 0, none⟩)), (36, .int .i64 ((n : Nat) : Int)), (37, .int .i64 ((k : Nat) : Int)), (11, .bool ((lookE L ((q k).p) ((q k).v) ((q k).c)).isSome)), (13, .bool ((lookE L ((q k).p) ((q k).v) ((q k).c)).isSome)), (94, .bool bV)]) false rfl (by simp) ?_
        refine VL_pure 8 [1, 5, 7, 8, 36, 37, 98] [(1, .slice (some ⟨lb, lo, none⟩) n cc), (5, .pointer (some ⟨b1, 0, none⟩)), (7, .pointer (some ⟨tb1, 0, none⟩)), (8, .pointer (some ⟨rp, 0, none⟩)), (36, .int .i64 ((n : Nat) : Int)), (37, .int .i64 ((k : Nat) : Int)), (98, .bool (!(((lookE L ((q k).p) ((q k).v) ((q k).c)).isSome) == ((lookE L ((q k).p) ((q k).v) ((q k).c)).isSome))))] (by kernel_rfl) rfl ?_
        refine VL_end (by kernel_rfl) ?_
        refine VQ_next ?_
        refine VC_is (b := !(((lookE L ((q k).p) ((q k).v) ((q k).c)).isSome) == ((lookE L ((q k).p) ((q k).v) ((q k).c)).isSome))) false (by kernel_rfl) (by simp) ?_
        refine VC_ite_false ?_
        refine VC_skip ?_
        refine VQ_next ?_
        refine VC_seq ?_
        refine VC_region ?_
        refine VL_pure 1 [1, 5, 7, 8, 36, 37, 100] [(1, .slice (some ⟨lb, lo, none⟩) n cc), (5, .pointer (some ⟨b1, 0, none⟩)), (7, .pointer (some ⟨tb1, 0, none⟩)), (8, .pointer (some ⟨rp, 0, none⟩)), (36, .int .i64 ((n : Nat) : Int)), (37, .int .i64 ((k : Nat) : Int)), (100, .pointer (some ⟨tb1, 0, none⟩))] (by kernel_rfl) rfl ?_
        refine VL_load (d := 101) (t := 29) (a := ⟨b1, 0, none⟩) (v := .agg #[.int .i64 kp, .int .i64 kv, .int .i64 kc]) (by kernel_rfl) (by kernel_rfl) (Loads.ownL ho1 (n := 3) (by kernel_rfl) (by kernel_rfl) (by kernel_rfl)) ?_
        have hzs17 := hS.size
        have hzl39 := ho1.lt
        have hzl40 := Tb.lt hT3
        have hzl41 := Rt.lt hR2
        refine VL_call (d := 102) (f := 14) (args := #[.pointer (some ⟨tb1, 0, none⟩), .agg #[.int .i64 kp, .int .i64 kv, .int .i64 kc]]) (by kernel_rfl) (by kernel_rfl) (by kernel_rfl) Try.call14 (tget kp kv kc hT3) ?_
        rintro _ w28 ⟨rfl, hc14⟩
        replace hS := Step.trans hS hc14
        replace ho1 := ho1.no hc14
        replace hle9 := Nat.le_trans hle9 (hc14).size
        replace hT3 := Tb.no hT3 hc14
        replace hR2 := Rt.no hR2 hc14
        refine VL_pure 8 [1, 5, 7, 8, 36, 37, 14, 15] [(1, .slice (some ⟨lb, lo, none⟩) n cc), (5, .pointer (some ⟨b1, 0, none⟩)), (7, .pointer (some ⟨tb1, 0, none⟩)), (8, .pointer (some ⟨rp, 0, none⟩)), (36, .int .i64 ((n : Nat) : Int)), (37, .int .i64 ((k : Nat) : Int)), (14, .int .i64 ((lookE (delE L ((q k).p) ((q k).v) ((q k).c)) kp kv kc).getD 0)), (15, .bool ((lookE (delE L ((q k).p) ((q k).v) ((q k).c)) kp kv kc).isSome))] (by kernel_rfl) rfl ?_
        refine VL_end (by kernel_rfl) ?_
        refine VQ_next ?_
        refine VC_seq ?_
        refine VC_region ?_
        refine VL_pure 1 [1, 5, 7, 8, 36, 37, 14, 15, 106] [(1, .slice (some ⟨lb, lo, none⟩) n cc), (5, .pointer (some ⟨b1, 0, none⟩)), (7, .pointer (some ⟨tb1, 0, none⟩)), (8, .pointer (some ⟨rp, 0, none⟩)), (36, .int .i64 ((n : Nat) : Int)), (37, .int .i64 ((k : Nat) : Int)), (14, .int .i64 ((lookE (delE L ((q k).p) ((q k).v) ((q k).c)) kp kv kc).getD 0)), (15, .bool ((lookE (delE L ((q k).p) ((q k).v) ((q k).c)) kp kv kc).isSome)), (106, .pointer (some ⟨rp, 0, none⟩))] (by kernel_rfl) rfl ?_
        refine VL_load (d := 107) (t := 29) (a := ⟨b1, 0, none⟩) (v := .agg #[.int .i64 kp, .int .i64 kv, .int .i64 kc]) (by kernel_rfl) (by kernel_rfl) (Loads.ownL ho1 (n := 3) (by kernel_rfl) (by kernel_rfl) (by kernel_rfl)) ?_
        have hzs18 := hS.size
        have hzl42 := ho1.lt
        have hzl43 := Tb.lt hT3
        have hzl44 := Rt.lt hR2
        refine VL_call (d := 108) (f := 24) (args := #[.pointer (some ⟨rp, 0, none⟩), .agg #[.int .i64 kp, .int .i64 kv, .int .i64 kc]]) (by kernel_rfl) (by kernel_rfl) (by kernel_rfl) Try.call24 (rget_any kp kv kc hR2 (by have h9 := Tb.small hT3; omega)) ?_
        rintro _ w29 ⟨rfl, hc15⟩
        replace hS := Step.trans hS hc15
        replace ho1 := ho1.no hc15
        replace hle9 := Nat.le_trans hle9 (hc15).size
        replace hT3 := Tb.no hT3 hc15
        replace hR2 := Rt.no hR2 hc15
        refine VL_pure 8 [1, 5, 7, 8, 36, 37, 14, 15, 16, 17] [(1, .slice (some ⟨lb, lo, none⟩) n cc), (5, .pointer (some ⟨b1, 0, none⟩)), (7, .pointer (some ⟨tb1, 0, none⟩)), (8, .pointer (some ⟨rp, 0, none⟩)), (36, .int .i64 ((n : Nat) : Int)), (37, .int .i64 ((k : Nat) : Int)), (14, .int .i64 ((lookE (delE L ((q k).p) ((q k).v) ((q k).c)) kp kv kc).getD 0)), (15, .bool ((lookE (delE L ((q k).p) ((q k).v) ((q k).c)) kp kv kc).isSome)), (16, .int .i64 ((lookE (delE L ((q k).p) ((q k).v) ((q k).c)) kp kv kc).getD 0)), (17, .bool ((lookE (delE L ((q k).p) ((q k).v) ((q k).c)) kp kv kc).isSome))] (by kernel_rfl) rfl ?_
        refine VL_end (by kernel_rfl) ?_
        refine VQ_next ?_
        refine VC_seq ?_
        obtain ⟨AP, nP, cP, hiP, hoP, hnP, hcP, hhP, hvP⟩ := hR2
        have hsm2 := Tb.small hT3
        have hs8 := drew_step w29
        have hs8z : w29.heap.size = w29.drew.heap.size := rfl
        refine VC_text [[], [], [0, 1], [0, 1, 2], [0, 1, 2, 3], [0, 1, 2, 3], [0, 1, 2, 3, 4, 5], [0, 1, 2, 3, 4, 5, 6], [0, 1, 2, 3, 4, 5, 6, 7], [0, 1, 2, 3, 4, 5, 6, 7, 8], [0, 1, 2, 3, 4, 5, 6, 7, 8, 9], [0, 1, 2, 3, 4, 5, 6, 7, 8], [0, 1, 2, 3, 4, 5, 6, 7, 8, 11], [0, 1, 2, 3, 4, 5, 6, 7, 8, 11, 12], [0, 1, 2, 3, 4, 5, 6, 7, 8, 11, 12, 13], [0, 1, 2, 3, 4, 5, 6, 7, 8, 11, 12, 13, 14], [0, 1, 2, 3, 4, 5, 6, 7, 8, 9, 10, 11, 12, 13, 14, 15], [0, 1, 2, 3, 4, 5, 6, 7, 8, 9, 10, 11, 12, 13, 14, 15, 16], [0, 1, 2, 3, 4, 5, 6, 7, 8, 9, 10, 11, 12, 13, 14, 15, 16, 17], [0, 1, 2, 3, 4, 5, 6, 7, 8, 9, 10, 11, 12, 13, 14, 15, 16, 17, 18], [0, 1, 2, 3, 4, 5, 6, 7, 8, 9, 10, 11, 12, 13, 14, 15, 16, 17, 18, 19], [0, 1, 2, 3, 4, 5, 6, 7, 8, 9, 10, 11, 12, 13, 14, 15, 16, 17, 18], [0, 1, 2, 3, 4, 5, 6, 7, 8, 9, 10, 11, 12, 13, 14, 15, 16, 17, 18, 21], [0, 1, 2, 3, 4, 5, 6, 7, 8, 9, 10, 11, 12, 13, 14, 15, 16, 17, 18, 21, 22], [0, 1, 2, 3, 4, 5, 6, 7, 8, 9, 10, 11, 12, 13, 14, 15, 16, 17, 18, 21, 22, 23], [0, 1, 2, 3, 4, 5, 6, 7, 8, 9, 10, 11, 12, 13, 14, 15, 16, 17, 18, 19, 20, 21, 22, 23, 24], [0, 1, 2, 3, 4, 5, 6, 7, 8, 9, 10, 11, 12, 13, 14, 15, 16, 17, 18, 19, 20, 21, 22, 23, 24, 25], [0, 1, 2, 3, 4, 5, 6, 7, 8, 9, 10, 11, 12, 13, 14, 15, 16, 17, 18, 19, 20, 21, 22, 23, 24, 25, 26]] 25 (fun x y => Step (fun k => w29.heap.size ≤ k) x y) [10, 20] [0, 1, 2, 3, 4, 5, 6, 7, 8, 9, 11, 12, 13, 14, 15, 10, 16, 17, 18, 19, 21, 22, 23, 24, 20] (by kernel_rfl) (by kernel_rfl) (by kernel_rfl) (by kernel_rfl) (fun x => Step.refl _ x) (fun h k => Step.trans h k) Step.weak ?_
        have hzs19 := hS.size
        have hzl45 := ho1.lt
        have hzl46 := Tb.lt hT3
        have hzl47 := hoP.lt
        have hzo4 := hle9
        have hzo5 := hhP
        generalize w29.drew = w30 at hs8 hs8z ⊢
        replace hS := Step.trans hS hs8
        replace ho1 := ho1.no hs8
        replace hle9 := Nat.le_trans hle9 (hs8).size
        replace hT3 := Tb.no hT3 hs8
        replace hoP := hoP.no hs8
        replace hhP := Nat.le_trans hhP (hs8).size
        replace hvP := hvP.step hs8 (fun k hk1 hk2 hF => hF)
        refine VT_pures 4 (kn' := [(3, .bool (((lookE (delE L ((q k).p) ((q k).v) ((q k).c)) kp kv kc).getD 0) != ((lookE (delE L ((q k).p) ((q k).v) ((q k).c)) kp kv kc).getD 0))), (2, .bool (((lookE (delE L ((q k).p) ((q k).v) ((q k).c)) kp kv kc).getD 0) != ((lookE (delE L ((q k).p) ((q k).v) ((q k).c)) kp kv kc).getD 0))), (1, .int .i64 ((lookE (delE L ((q k).p) ((q k).v) ((q k).c)) kp kv kc).getD 0)), (0, .int .i64 ((lookE (delE L ((q k).p) ((q k).v) ((q k).c)) kp kv kc).getD 0))]) (by kernel_rfl) ?_
        have hg4 : (((lookE (delE L ((q k).p) ((q k).v) ((q k).c)) kp kv kc).getD 0) != ((lookE (delE L ((q k).p) ((q k).v) ((q k).c)) kp kv kc).getD 0)) = false := (by simp)
        refine VT_eq [(3, .bool false), (2, .bool false), (1, .int .i64 ((lookE (delE L ((q k).p) ((q k).v) ((q k).c)) kp kv kc).getD 0)), (0, .int .i64 ((lookE (delE L ((q k).p) ((q k).v) ((q k).c)) kp kv kc).getD 0))] (by simp only [hg4, Bool.not_true, Bool.not_false]) ?_
        refine VT_pures 5 (kn' := [(8, .bool (!(((lookE (delE L ((q k).p) ((q k).v) ((q k).c)) kp kv kc).isSome) == ((lookE (delE L ((q k).p) ((q k).v) ((q k).c)) kp kv kc).isSome)))), (7, .bool (!(((lookE (delE L ((q k).p) ((q k).v) ((q k).c)) kp kv kc).isSome) == ((lookE (delE L ((q k).p) ((q k).v) ((q k).c)) kp kv kc).isSome)))), (6, .bool (!(((lookE (delE L ((q k).p) ((q k).v) ((q k).c)) kp kv kc).isSome) == ((lookE (delE L ((q k).p) ((q k).v) ((q k).c)) kp kv kc).isSome)))), (5, .bool ((lookE (delE L ((q k).p) ((q k).v) ((q k).c)) kp kv kc).isSome)), (4, .bool ((lookE (delE L ((q k).p) ((q k).v) ((q k).c)) kp kv kc).isSome)), (3, .bool false), (2, .bool false), (1, .int .i64 ((lookE (delE L ((q k).p) ((q k).v) ((q k).c)) kp kv kc).getD 0)), (0, .int .i64 ((lookE (delE L ((q k).p) ((q k).v) ((q k).c)) kp kv kc).getD 0))]) (by kernel_rfl) ?_
        have hg5 : (!(((lookE (delE L ((q k).p) ((q k).v) ((q k).c)) kp kv kc).isSome) == ((lookE (delE L ((q k).p) ((q k).v) ((q k).c)) kp kv kc).isSome))) = false := (by simp)
        refine VT_eq [(8, .bool false), (7, .bool false), (6, .bool false), (5, .bool ((lookE (delE L ((q k).p) ((q k).v) ((q k).c)) kp kv kc).isSome)), (4, .bool ((lookE (delE L ((q k).p) ((q k).v) ((q k).c)) kp kv kc).isSome)), (3, .bool false), (2, .bool false), (1, .int .i64 ((lookE (delE L ((q k).p) ((q k).v) ((q k).c)) kp kv kc).getD 0)), (0, .int .i64 ((lookE (delE L ((q k).p) ((q k).v) ((q k).c)) kp kv kc).getD 0))] (by simp only [hg5, Bool.not_true, Bool.not_false]) ?_
        refine VT_pures 4 (kn' := [(13, .pointer (some ⟨rp, 0, none⟩)), (12, .pointer (some ⟨rp, 0, none⟩)), (11, .pointer (some ⟨rp, 0, none⟩)), (9, .pointer (some ⟨tb1, 0, none⟩)), (8, .bool false), (7, .bool false), (6, .bool false), (5, .bool ((lookE (delE L ((q k).p) ((q k).v) ((q k).c)) kp kv kc).isSome)), (4, .bool ((lookE (delE L ((q k).p) ((q k).v) ((q k).c)) kp kv kc).isSome)), (3, .bool false), (2, .bool false), (1, .int .i64 ((lookE (delE L ((q k).p) ((q k).v) ((q k).c)) kp kv kc).getD 0)), (0, .int .i64 ((lookE (delE L ((q k).p) ((q k).v) ((q k).c)) kp kv kc).getD 0))]) (by kernel_rfl) ?_
        refine VT_load (d := 125) (t := 43) (a := ⟨rp, 0, none⟩) (v := .slice AP nP cP) (by kernel_rfl) (by kernel_rfl) ?_ ?_
        · intro w31 hr8
          replace hS := Step.transNew hS hr8 (fun i hi hG => by (try simp only at hG); omega)
          replace ho1 := ho1.step hr8 (by (try simp only); omega)
          replace hle9 := Nat.le_trans hle9 (hr8).size
          replace hT3 := Tb.step hT3 hr8 (by (try simp only); omega)
          replace hoP := hoP.step hr8 (by (try simp only); omega)
          replace hhP := Nat.le_trans hhP (hr8).size
          replace hvP := hvP.step hr8 (fun k hk1 hk2 hG => by (try simp only at hG); omega)
          exact (Loads.own1 hoP (by kernel_rfl) (by rfl))
        refine VT_pures 1 (kn' := [(15, .int .i64 ((nP : Nat) : Int)), (14, .slice AP nP cP), (13, .pointer (some ⟨rp, 0, none⟩)), (12, .pointer (some ⟨rp, 0, none⟩)), (11, .pointer (some ⟨rp, 0, none⟩)), (9, .pointer (some ⟨tb1, 0, none⟩)), (8, .bool false), (7, .bool false), (6, .bool false), (5, .bool ((lookE (delE L ((q k).p) ((q k).v) ((q k).c)) kp kv kc).isSome)), (4, .bool ((lookE (delE L ((q k).p) ((q k).v) ((q k).c)) kp kv kc).isSome)), (3, .bool false), (2, .bool false), (1, .int .i64 ((lookE (delE L ((q k).p) ((q k).v) ((q k).c)) kp kv kc).getD 0)), (0, .int .i64 ((lookE (delE L ((q k).p) ((q k).v) ((q k).c)) kp kv kc).getD 0))]) (by kernel_rfl) ?_
        refine VT_chain (by kernel_rfl) ?_
        intro w32 hs9
        have hzhs9 := hs9.size
        replace hS := Step.trans hS hs9
        replace ho1 := ho1.no hs9
        replace hle9 := Nat.le_trans hle9 (hs9).size
        replace hT3 := Tb.no hT3 hs9
        replace hoP := hoP.no hs9
        replace hhP := Nat.le_trans hhP (hs9).size
        replace hvP := hvP.step hs9 (fun k hk1 hk2 hF => hF)
        have hzs20 := hS.size
        have hzl48 := ho1.lt
        have hzl49 := Tb.lt hT3
        have hzl50 := hoP.lt
        refine VTc_call (d := 121) (f := 15) (args := #[.pointer (some ⟨tb1, 0, none⟩)]) (by kernel_rfl) (by kernel_rfl) (by kernel_rfl) Try.call15 (tlen hT3) ?_ ?_
        · rintro _ w33 ⟨rfl, hc16⟩
          exact Step.mono hc16 (by intro i hi; first | exact hi.elim | ((try simp only at hi ⊢); omega))
        rintro _ w33 ⟨rfl, hc16⟩
        have hzhc16 := (hc16).size
        replace hS := Step.trans hS hc16
        replace ho1 := ho1.no hc16
        replace hle9 := Nat.le_trans hle9 (hc16).size
        replace hT3 := Tb.no hT3 hc16
        replace hoP := hoP.no hc16
        replace hhP := Nat.le_trans hhP (hc16).size
        replace hvP := hvP.step hc16 (fun k hk1 hk2 hF => hF)
        refine VT_pures 3 (kn' := [(18, .bool ((((delE L ((q k).p) ((q k).v) ((q k).c)).length : Nat) : Int) != ((nP : Nat) : Int))), (17, .bool ((((delE L ((q k).p) ((q k).v) ((q k).c)).length : Nat) : Int) != ((nP : Nat) : Int))), (16, .bool ((((delE L ((q k).p) ((q k).v) ((q k).c)).length : Nat) : Int) != ((nP : Nat) : Int))), (10, .int .i64 (((delE L ((q k).p) ((q k).v) ((q k).c)).length : Nat) : Int)), (15, .int .i64 ((nP : Nat) : Int)), (14, .slice AP nP cP), (13, .pointer (some ⟨rp, 0, none⟩)), (12, .pointer (some ⟨rp, 0, none⟩)), (11, .pointer (some ⟨rp, 0, none⟩)), (9, .pointer (some ⟨tb1, 0, none⟩)), (8, .bool false), (7, .bool false), (6, .bool false), (5, .bool ((lookE (delE L ((q k).p) ((q k).v) ((q k).c)) kp kv kc).isSome)), (4, .bool ((lookE (delE L ((q k).p) ((q k).v) ((q k).c)) kp kv kc).isSome)), (3, .bool false), (2, .bool false), (1, .int .i64 ((lookE (delE L ((q k).p) ((q k).v) ((q k).c)) kp kv kc).getD 0)), (0, .int .i64 ((lookE (delE L ((q k).p) ((q k).v) ((q k).c)) kp kv kc).getD 0))]) (by kernel_rfl) ?_
        have hg6 : ((((delE L ((q k).p) ((q k).v) ((q k).c)).length : Nat) : Int) != ((nP : Nat) : Int)) = false := (by rw [hnP]; simp)
        refine VT_eq [(18, .bool false), (17, .bool false), (16, .bool false), (10, .int .i64 (((delE L ((q k).p) ((q k).v) ((q k).c)).length : Nat) : Int)), (15, .int .i64 ((nP : Nat) : Int)), (14, .slice AP nP cP), (13, .pointer (some ⟨rp, 0, none⟩)), (12, .pointer (some ⟨rp, 0, none⟩)), (11, .pointer (some ⟨rp, 0, none⟩)), (9, .pointer (some ⟨tb1, 0, none⟩)), (8, .bool false), (7, .bool false), (6, .bool false), (5, .bool ((lookE (delE L ((q k).p) ((q k).v) ((q k).c)) kp kv kc).isSome)), (4, .bool ((lookE (delE L ((q k).p) ((q k).v) ((q k).c)) kp kv kc).isSome)), (3, .bool false), (2, .bool false), (1, .int .i64 ((lookE (delE L ((q k).p) ((q k).v) ((q k).c)) kp kv kc).getD 0)), (0, .int .i64 ((lookE (delE L ((q k).p) ((q k).v) ((q k).c)) kp kv kc).getD 0))] (by simp only [hg6, Bool.not_true, Bool.not_false]) ?_
        refine VT_pures 4 (kn' := [(23, .pointer (some ⟨rp, 0, none⟩)), (22, .pointer (some ⟨rp, 0, none⟩)), (21, .pointer (some ⟨rp, 0, none⟩)), (19, .pointer (some ⟨tb1, 0, none⟩)), (18, .bool false), (17, .bool false), (16, .bool false), (10, .int .i64 (((delE L ((q k).p) ((q k).v) ((q k).c)).length : Nat) : Int)), (15, .int .i64 ((nP : Nat) : Int)), (14, .slice AP nP cP), (13, .pointer (some ⟨rp, 0, none⟩)), (12, .pointer (some ⟨rp, 0, none⟩)), (11, .pointer (some ⟨rp, 0, none⟩)), (9, .pointer (some ⟨tb1, 0, none⟩)), (8, .bool false), (7, .bool false), (6, .bool false), (5, .bool ((lookE (delE L ((q k).p) ((q k).v) ((q k).c)) kp kv kc).isSome)), (4, .bool ((lookE (delE L ((q k).p) ((q k).v) ((q k).c)) kp kv kc).isSome)), (3, .bool false), (2, .bool false), (1, .int .i64 ((lookE (delE L ((q k).p) ((q k).v) ((q k).c)) kp kv kc).getD 0)), (0, .int .i64 ((lookE (delE L ((q k).p) ((q k).v) ((q k).c)) kp kv kc).getD 0))]) (by kernel_rfl) ?_
        refine VT_load (d := 135) (t := 43) (a := ⟨rp, 0, none⟩) (v := .slice AP nP cP) (by kernel_rfl) (by kernel_rfl) ?_ ?_
        · intro w34 hr9
          replace hS := Step.transNew hS hr9 (fun i hi hG => by (try simp only at hG); omega)
          replace ho1 := ho1.step hr9 (by (try simp only); omega)
          replace hle9 := Nat.le_trans hle9 (hr9).size
          replace hT3 := Tb.step hT3 hr9 (by (try simp only); omega)
          replace hoP := hoP.step hr9 (by (try simp only); omega)
          replace hhP := Nat.le_trans hhP (hr9).size
          replace hvP := hvP.step hr9 (fun k hk1 hk2 hG => by (try simp only at hG); omega)
          exact (Loads.own1 hoP (by kernel_rfl) (by rfl))
        refine VT_chain (by kernel_rfl) ?_
        intro w35 hs10
        have hzhs10 := hs10.size
        replace hS := Step.trans hS hs10
        replace ho1 := ho1.no hs10
        replace hle9 := Nat.le_trans hle9 (hs10).size
        replace hT3 := Tb.no hT3 hs10
        replace hoP := hoP.no hs10
        replace hhP := Nat.le_trans hhP (hs10).size
        replace hvP := hvP.step hs10 (fun k hk1 hk2 hF => hF)
        have hzs21 := hS.size
        have hzl51 := ho1.lt
        have hzl52 := Tb.lt hT3
        have hzl53 := hoP.lt
        refine VTc_call (d := 131) (f := 18) (args := #[.pointer (some ⟨tb1, 0, none⟩)]) (by kernel_rfl) (by kernel_rfl) (by kernel_rfl) Try.call18 (tall hT3) ?_ ?_
        · rintro _ w36 ⟨A2, n2, c2, rfl, hn3, hr10, hc17⟩
          exact Step.mono hc17 (by intro i hi; first | exact hi.elim | ((try simp only at hi ⊢); omega))
        rintro _ w36 ⟨A2, n2, c2, rfl, hn3, hr10, hc17⟩
        have hzhc17 := (hc17).size
        replace hS := Step.trans hS hc17
        replace ho1 := ho1.no hc17
        replace hle9 := Nat.le_trans hle9 (hc17).size
        replace hT3 := Tb.no hT3 hc17
        replace hoP := hoP.no hc17
        replace hhP := Nat.le_trans hhP (hc17).size
        replace hvP := hvP.step hc17 (fun k hk1 hk2 hF => hF)
        have hshn3 := Tb.small hT3
        obtain ⟨hi2, hiE2⟩ : ∃ x, x = w36.heap.size := ⟨_, rfl⟩
        obtain ⟨lo2, lo2E⟩ : ∃ x, x = w35.heap.size := ⟨_, rfl⟩
        have hv2 : Sl2 w36 lo2 hi2 A2 (flat Ent.cells (delE L ((q k).p) ((q k).v) ((q k).c))) := by rw [hiE2, lo2E]; exact RwS.sl2 hr10
        have hle2 : hi2 ≤ w36.heap.size := Nat.le_of_eq hiE2
        have hzlo2tb1 : tb1 < lo2 := by rw [lo2E]; omega
        refine VT_end ?_
        intro w37 hs11
        replace hS := Step.trans hS hs11
        replace ho1 := ho1.no hs11
        replace hle9 := Nat.le_trans hle9 (hs11).size
        replace hT3 := Tb.no hT3 hs11
        replace hoP := hoP.no hs11
        replace hhP := Nat.le_trans hhP (hs11).size
        replace hvP := hvP.step hs11 (fun k hk1 hk2 hF => hF)
        replace hv2 := hv2.step hs11 (fun k hk1 hk2 hF => hF)
        replace hle2 := Nat.le_trans hle2 (hs11).size
        refine VL_keep [1, 5, 7, 8, 36, 37, 129, 135, 131] [(1, .slice (some ⟨lb, lo, none⟩) n cc), (5, .pointer (some ⟨b1, 0, none⟩)), (7, .pointer (some ⟨tb1, 0, none⟩)), (8, .pointer (some ⟨rp, 0, none⟩)), (36, .int .i64 ((n : Nat) : Int)), (37, .int .i64 ((k : Nat) : Int)), (129, .bool false), (135, .slice AP nP cP), (131, .slice A2 n2 c2)] (by kernel_rfl) ?_
        have hzs22 := hS.size
        have hzl54 := ho1.lt
        have hzl55 := Tb.lt hT3
        have hzl56 := hoP.lt
        refine VL_call (d := 136) (f := 19) (args := #[.slice A2 n2 c2, .slice AP nP cP]) (by kernel_rfl) (by kernel_rfl) (by kernel_rfl) Try.call19 (lsame_refl hn3 hnP (Sl2.sl hv2) (Sl2.sl hvP) (by omega) (by omega)) ?_
        rintro _ w38 ⟨rfl, hc18⟩
        replace hS := Step.trans hS hc18
        replace ho1 := ho1.no hc18
        replace hle9 := Nat.le_trans hle9 (hc18).size
        replace hT3 := Tb.no hT3 hc18
        replace hoP := hoP.no hc18
        replace hhP := Nat.le_trans hhP (hc18).size
        replace hvP := hvP.step hc18 (fun k hk1 hk2 hF => hF)
        replace hv2 := hv2.step hc18 (fun k hk1 hk2 hF => hF)
        replace hle2 := Nat.le_trans hle2 (hc18).size
        refine VL_pure 28 [1, 5, 7, 8, 36, 37, 138] [(1, .slice (some ⟨lb, lo, none⟩) n cc), (5, .pointer (some ⟨b1, 0, none⟩)), (7, .pointer (some ⟨tb1, 0, none⟩)), (8, .pointer (some ⟨rp, 0, none⟩)), (36, .int .i64 ((n : Nat) : Int)), (37, .int .i64 ((k : Nat) : Int)), (138, .bool false)] (by kernel_rfl) rfl ?_
        refine VL_end (by kernel_rfl) ?_
        refine VQ_next ?_
        refine VC_false (by kernel_rfl) ?_
        refine VC_skip ?_
        refine VQ_block_normal ?_
        refine VQ_next ?_
        refine VC_region ?_
        refine VL_pure 1 [1, 5, 7, 8, 36, 139] [(1, .slice (some ⟨lb, lo, none⟩) n cc), (5, .pointer (some ⟨b1, 0, none⟩)), (7, .pointer (some ⟨tb1, 0, none⟩)), (8, .pointer (some ⟨rp, 0, none⟩)), (36, .int .i64 ((n : Nat) : Int)), (139, .int .i64 (IntKind.wrap .i64 (((k : Nat) : Int) + 1)))] (by kernel_rfl) rfl ?_
        have he2 : IntKind.wrap .i64 (((k : Nat) : Int) + 1) = ((k + 1 : Nat) : Int) := (by rw [wrap_i64 _ (by omega) (by omega)]; omega)
        refine VL_eq [(1, .slice (some ⟨lb, lo, none⟩) n cc), (5, .pointer (some ⟨b1, 0, none⟩)), (7, .pointer (some ⟨tb1, 0, none⟩)), (8, .pointer (some ⟨rp, 0, none⟩)), (36, .int .i64 ((n : Nat) : Int)), (139, .int .i64 ((k + 1 : Nat) : Int))] (by rw [he2]) ?_
        refine VL_pure 2 [1, 5, 7, 8, 36, 37] [(1, .slice (some ⟨lb, lo, none⟩) n cc), (5, .pointer (some ⟨b1, 0, none⟩)), (7, .pointer (some ⟨tb1, 0, none⟩)), (8, .pointer (some ⟨rp, 0, none⟩)), (36, .int .i64 ((n : Nat) : Int)), (37, .int .i64 ((k + 1 : Nat) : Int))] (by kernel_rfl) rfl ?_
        refine VL_end (by kernel_rfl) ?_
        refine VQ_again ⟨k + 1, (delE L ((q k).p) ((q k).v) ((q k).c))⟩ ⟨rfl, rfl, rfl, rfl, rfl, rfl, trivial⟩ ?_ ?_
        · exact ⟨(by (try dsimp only); omega), hT3, ⟨_, _, _, _, hoP, hnP, hcP, hhP, hvP⟩, hS, ho1, hle9⟩
        · (try dsimp only); omega
    · refine VC_exit ?_
      refine VQ_then_exit ?_
      refine VQ_then_exit ?_
      refine VQ_block_hit ?_
      refine VQ_next ?_
      refine VC_seq ?_
      have hsm := Tb.small hT
      refine VC_region ?_
      refine VL_pure 2 [5, 8, 141, 142] [(5, .pointer (some ⟨b1, 0, none⟩)), (8, .pointer (some ⟨rp, 0, none⟩)), (141, .pointer (some ⟨tb1, 0, none⟩)), (142, .pointer (some ⟨b1, 0, none⟩))] (by kernel_rfl) rfl ?_
      refine VL_load (d := 143) (t := 3) (a := ⟨b1, 0, none⟩) (v := .int .i64 kp) (by kernel_rfl) (by kernel_rfl) (Loads.own1 ho1 (by kernel_rfl) (by rfl)) ?_
      refine VL_pure 4 [5, 8, 141, 143, 144] [(5, .pointer (some ⟨b1, 0, none⟩)), (8, .pointer (some ⟨rp, 0, none⟩)), (141, .pointer (some ⟨tb1, 0, none⟩)), (143, .int .i64 kp), (144, .pointer (some ⟨b1, 1, none⟩))] (by kernel_rfl) rfl ?_
      refine VL_load (d := 145) (t := 3) (a := ⟨b1, 1, none⟩) (v := .int .i64 kv) (by kernel_rfl) (by kernel_rfl) (Loads.own1 ho1 (by kernel_rfl) (by rfl)) ?_
      refine VL_pure 6 [5, 8, 141, 143, 145, 146] [(5, .pointer (some ⟨b1, 0, none⟩)), (8, .pointer (some ⟨rp, 0, none⟩)), (141, .pointer (some ⟨tb1, 0, none⟩)), (143, .int .i64 kp), (145, .int .i64 kv), (146, .pointer (some ⟨b1, 2, none⟩))] (by kernel_rfl) rfl ?_
      refine VL_load (d := 147) (t := 3) (a := ⟨b1, 2, none⟩) (v := .int .i64 kc) (by kernel_rfl) (by kernel_rfl) (Loads.own1 ho1 (by kernel_rfl) (by rfl)) ?_
      have hzl57 := Tb.lt hT
      have hzl58 := Rt.lt hR
      have hzs23 := hS.size
      have hzl59 := ho1.lt
      refine VL_call (d := 148) (f := 12) (args := #[.pointer (some ⟨tb1, 0, none⟩), .int .i64 kp, .int .i64 kv, .int .i64 kc]) (by kernel_rfl) (by kernel_rfl) (by kernel_rfl) Try.call12 (tfree kp kv kc hT) ?_
      rintro _ w39 ⟨fr1, ok1, rfl, hfree1, hc19⟩
      replace hT := Tb.no hT hc19
      replace hR := Rt.no hR hc19
      replace hS := Step.trans hS hc19
      replace ho1 := ho1.no hc19
      replace hle9 := Nat.le_trans hle9 (hc19).size
      refine VL_pure 13 [5, 8, 18, 19] [(5, .pointer (some ⟨b1, 0, none⟩)), (8, .pointer (some ⟨rp, 0, none⟩)), (18, .int .i64 fr1), (19, .bool ok1)] (by kernel_rfl) rfl ?_
      refine VL_end (by kernel_rfl) ?_
      refine VQ_next ?_
      refine VC_seq ?_
      refine VC_region ?_
      refine VL_pure 2 [5, 18, 19, 151, 152] [(5, .pointer (some ⟨b1, 0, none⟩)), (18, .int .i64 fr1), (19, .bool ok1), (151, .pointer (some ⟨rp, 0, none⟩)), (152, .pointer (some ⟨b1, 0, none⟩))] (by kernel_rfl) rfl ?_
      refine VL_load (d := 153) (t := 3) (a := ⟨b1, 0, none⟩) (v := .int .i64 kp) (by kernel_rfl) (by kernel_rfl) (Loads.own1 ho1 (by kernel_rfl) (by rfl)) ?_
      refine VL_pure 4 [5, 18, 19, 151, 153, 154] [(5, .pointer (some ⟨b1, 0, none⟩)), (18, .int .i64 fr1), (19, .bool ok1), (151, .pointer (some ⟨rp, 0, none⟩)), (153, .int .i64 kp), (154, .pointer (some ⟨b1, 1, none⟩))] (by kernel_rfl) rfl ?_
      refine VL_load (d := 155) (t := 3) (a := ⟨b1, 1, none⟩) (v := .int .i64 kv) (by kernel_rfl) (by kernel_rfl) (Loads.own1 ho1 (by kernel_rfl) (by rfl)) ?_
      refine VL_pure 6 [5, 18, 19, 151, 153, 155, 156] [(5, .pointer (some ⟨b1, 0, none⟩)), (18, .int .i64 fr1), (19, .bool ok1), (151, .pointer (some ⟨rp, 0, none⟩)), (153, .int .i64 kp), (155, .int .i64 kv), (156, .pointer (some ⟨b1, 2, none⟩))] (by kernel_rfl) rfl ?_
      refine VL_load (d := 157) (t := 3) (a := ⟨b1, 2, none⟩) (v := .int .i64 kc) (by kernel_rfl) (by kernel_rfl) (Loads.own1 ho1 (by kernel_rfl) (by rfl)) ?_
      have hzl60 := Tb.lt hT
      have hzl61 := Rt.lt hR
      have hzs24 := hS.size
      have hzl62 := ho1.lt
      refine VL_call (d := 158) (f := 25) (args := #[.pointer (some ⟨rp, 0, none⟩), .int .i64 kp, .int .i64 kv, .int .i64 kc]) (by kernel_rfl) (by kernel_rfl) (by kernel_rfl) Try.call25 (rfree_any rp lo9 (imax 0 (imin room 64)) L kp kv kc _ hR (by omega)) ?_
      rintro _ w40 ⟨fr2, rfl, hfr2, hc20⟩
      replace hT := Tb.no hT hc20
      replace hR := Rt.no hR hc20
      replace hS := Step.trans hS hc20
      replace ho1 := ho1.no hc20
      replace hle9 := Nat.le_trans hle9 (hc20).size
      refine VL_pure 9 [5, 18, 19, 20] [(5, .pointer (some ⟨b1, 0, none⟩)), (18, .int .i64 fr1), (19, .bool ok1), (20, .int .i64 fr2)] (by kernel_rfl) rfl ?_
      refine VL_end (by kernel_rfl) ?_
      refine VQ_next ?_
      refine VC_seq ?_
      obtain ⟨e91, e92⟩ := free_same hfree1 hfr2 (fun i hi => by obtain ⟨z, hz⟩ := Option.isSome_iff_exists.1 hi; exact Tb.right hT ((lookE_some (Tb.srt hT)).1 hz))
      have hs12 := drew_step w40
      have hs12z : w40.heap.size = w40.drew.heap.size := rfl
      refine VC_text [[], [], [1], [0, 1, 2], [0, 1, 2, 3], [0, 1, 2, 3, 4], [0, 1, 2, 3, 4], [0, 1, 2, 3, 4, 6], [0, 1, 2, 3, 4, 5, 6, 7], [0, 1, 2, 3, 4, 5, 6, 7, 8], [0, 1, 2, 3, 4, 5, 6, 7, 8, 9], [0, 1, 2, 3, 4, 5, 6, 7, 8, 9, 10], [0, 1, 2, 3, 4, 5, 6, 7, 8, 9, 10, 11], [0, 1, 2, 3, 4, 5, 6, 7, 8, 9, 10], [0, 1, 2, 3, 4, 5, 6, 7, 8, 9, 10, 11, 12, 13], [0, 1, 2, 3, 4, 5, 6, 7, 8, 9, 10, 11, 12, 13, 14], [0, 1, 2, 3, 4, 5, 6, 7, 8, 9, 10, 11, 12, 13, 14, 15], [0, 1, 2, 3, 4, 5, 6, 7, 8, 9, 10, 11, 12, 13, 14, 15, 16]] 14 (fun x y => Step (fun k => w40.heap.size ≤ k) x y) [12] [0, 1, 2, 3, 4, 5, 6, 7, 8, 9, 10, 11, 13, 12] (by kernel_rfl) (by kernel_rfl) (by kernel_rfl) (by kernel_rfl) (fun x => Step.refl _ x) (fun h k => Step.trans h k) Step.weak ?_
      have hzl63 := Tb.lt hT
      have hzl64 := Rt.lt hR
      have hzs25 := hS.size
      have hzl65 := ho1.lt
      have hzo6 := hle9
      generalize w40.drew = w41 at hs12 hs12z ⊢
      replace hT := Tb.no hT hs12
      replace hR := Rt.no hR hs12
      replace hS := Step.trans hS hs12
      replace ho1 := ho1.no hs12
      replace hle9 := Nat.le_trans hle9 (hs12).size
      refine VT_pures 5 (kn' := [(4, .bool (fr1 == (imax fr2 0))), (3, .bool (fr1 == (imax fr2 0))), (2, .int .i64 (imax fr2 0)), (1, .int .i64 fr2), (0, .int .i64 fr1)]) (by kernel_rfl) ?_
      have hg7 : (fr1 == (imax fr2 0)) = true := (by rw [beq_iff_eq]; exact e91)
      refine VT_eq [(4, .bool true), (3, .bool true), (2, .int .i64 (imax fr2 0)), (1, .int .i64 fr2), (0, .int .i64 fr1)] (by simp only [hg7, Bool.not_true, Bool.not_false]) ?_
      refine VT_pures 6 (kn' := [(10, .bool (ok1 == (decide (fr2 ≥ 0)))), (9, .bool (ok1 == (decide (fr2 ≥ 0)))), (8, .bool (ok1 == (decide (fr2 ≥ 0)))), (7, .bool (decide (fr2 ≥ 0))), (6, .int .i64 fr2), (5, .bool ok1), (4, .bool true), (3, .bool true), (2, .int .i64 (imax fr2 0)), (1, .int .i64 fr2), (0, .int .i64 fr1)]) (by kernel_rfl) ?_
      have hg8 : (ok1 == (decide (fr2 ≥ 0))) = true := (by rw [e92]; simp)
      refine VT_eq [(10, .bool true), (9, .bool true), (8, .bool true), (7, .bool (decide (fr2 ≥ 0))), (6, .int .i64 fr2), (5, .bool ok1), (4, .bool true), (3, .bool true), (2, .int .i64 (imax fr2 0)), (1, .int .i64 fr2), (0, .int .i64 fr1)] (by simp only [hg8, Bool.not_true, Bool.not_false]) ?_
      refine VT_load (d := 170) (t := 29) (a := ⟨b1, 0, none⟩) (v := .agg #[.int .i64 kp, .int .i64 kv, .int .i64 kc]) (by kernel_rfl) (by kernel_rfl) ?_ ?_
      · intro w42 hr11
        replace hT := Tb.step hT hr11 (by (try simp only); omega)
        replace hR := Rt.step hR hr11 (by (try simp only); omega) (fun k9 h91 h92 h93 => by (try simp only at h93); omega)
        replace hS := Step.transNew hS hr11 (fun i hi hG => by (try simp only at hG); omega)
        replace ho1 := ho1.step hr11 (by (try simp only); omega)
        replace hle9 := Nat.le_trans hle9 (hr11).size
        exact (Loads.ownL ho1 (n := 3) (by kernel_rfl) (by kernel_rfl) (by kernel_rfl))
      refine VT_load (d := 172) (t := 29) (a := ⟨b1, 0, none⟩) (v := .agg #[.int .i64 kp, .int .i64 kv, .int .i64 kc]) (by kernel_rfl) (by kernel_rfl) ?_ ?_
      · intro w43 hr12
        replace hT := Tb.step hT hr12 (by (try simp only); omega)
        replace hR := Rt.step hR hr12 (by (try simp only); omega) (fun k9 h91 h92 h93 => by (try simp only at h93); omega)
        replace hS := Step.transNew hS hr12 (fun i hi hG => by (try simp only at hG); omega)
        replace ho1 := ho1.step hr12 (by (try simp only); omega)
        replace hle9 := Nat.le_trans hle9 (hr12).size
        exact (Loads.ownL ho1 (n := 3) (by kernel_rfl) (by kernel_rfl) (by kernel_rfl))
      refine VT_chain (by kernel_rfl) ?_
      intro w44 hs13
      have hzhs13 := hs13.size
      replace hT := Tb.no hT hs13
      replace hR := Rt.no hR hs13
      replace hS := Step.trans hS hs13
      replace ho1 := ho1.no hs13
      replace hle9 := Nat.le_trans hle9 (hs13).size
      have hzl66 := Tb.lt hT
      have hzl67 := Rt.lt hR
      have hzs26 := hS.size
      have hzl68 := ho1.lt
      refine VTc_call (d := 171) (f := 13) (args := #[.agg #[.int .i64 kp, .int .i64 kv, .int .i64 kc]]) (by kernel_rfl) (by kernel_rfl) (by kernel_rfl) Try.call13 (right_any _ _ _ _) ?_ ?_
      · rintro _ w45 ⟨rfl, hc21⟩
        exact Step.mono hc21 (by intro i hi; first | exact hi.elim | ((try simp only at hi ⊢); omega))
      rintro _ w45 ⟨rfl, hc21⟩
      have hzhc21 := (hc21).size
      replace hT := Tb.no hT hc21
      replace hR := Rt.no hR hc21
      replace hS := Step.trans hS hc21
      replace ho1 := ho1.no hc21
      replace hle9 := Nat.le_trans hle9 (hc21).size
      refine VT_end ?_
      intro w46 hs14
      replace hT := Tb.no hT hs14
      replace hR := Rt.no hR hs14
      replace hS := Step.trans hS hs14
      replace ho1 := ho1.no hs14
      replace hle9 := Nat.le_trans hle9 (hs14).size
      refine VL_keep [169, 172, 171] [(169, .bool true), (172, .agg #[.int .i64 kp, .int .i64 kv, .int .i64 kc]), (171, .bool (rightB kp kv kc))] (by kernel_rfl) ?_
      have hzl69 := Tb.lt hT
      have hzl70 := Rt.lt hR
      have hzs27 := hS.size
      have hzl71 := ho1.lt
      refine VL_call (d := 173) (f := 26) (args := #[.agg #[.int .i64 kp, .int .i64 kv, .int .i64 kc]]) (by kernel_rfl) (by kernel_rfl) (by kernel_rfl) Try.call26 (rright_any kp kv kc _) ?_
      rintro _ w47 ⟨rfl, hc22⟩
      replace hT := Tb.no hT hc22
      replace hR := Rt.no hR hc22
      replace hS := Step.trans hS hc22
      replace ho1 := ho1.no hc22
      replace hle9 := Nat.le_trans hle9 (hc22).size
      refine VL_pure 18 [6] [(6, .bool ((rightB kp kv kc) == (rightB kp kv kc)))] (by kernel_rfl) rfl ?_
      refine VL_end (by kernel_rfl) ?_
      refine VQ_next ?_
      refine VC_ret ?_
      refine VQ_ret1 (.bool ((rightB kp kv kc) == (rightB kp kv kc))) (.inr rfl) rfl rfl ?_
      exact ⟨congrArg Value.bool (by first | rfl | simp_all), hS⟩

end Go.Proofs.Ytfkahhkojlfmdaa
