/- Layer 11: GatherTakes. -/
import Derived.Test.YtgiefcolkohgkaaProg
import Derived.Test.YtgiefcolkohgkaaGa4
set_option linter.unusedVariables false
set_option linter.unusedSimpArgs false
namespace Go.Proofs.Ytgiefcolkohgkaa
open Go.Vc Go.RowKit

set_option maxRecDepth 100000 in
set_option maxHeartbeats 4000000 in
theorem takes_law (wait : Int) (A : Option Addr) (n cc : Nat) (q : Nat → Pa) (w : World) (hA : PasAt w A n q) :
    CV Try.prog 3 #[.int .i64 wait, .slice A n cc] w (fun x w1 => x = .bool true ∧ Step No w w1) := by
  have hS : Step No w w := Step.refl _ _
  obtain ⟨hq, hA2⟩ := hA
  refine CV_enter Try.f3 _ 110 [(0, .int .i64 wait), (1, .slice A n cc)] Try.func3 rfl rfl (by kernel_rfl) rfl ?_
  refine VC_seq ?_
  refine VC_region ?_
  refine VL_pure 1 [0, 1] [(0, .int .i64 wait), (1, .slice A n cc)] (by kernel_rfl) rfl ?_
  refine VL_end (by kernel_rfl) ?_
  refine VQ_next ?_
  refine VC_seq ?_
  refine VC_seq ?_
  refine VC_region ?_
  have hzs1 := hS.size
  refine VL_call (d := 15) (f := 9) (args := #[]) (by kernel_rfl) (by kernel_rfl) (by kernel_rfl) Try.call9 (awake_any _) ?_
  rintro _ w1 ⟨rfl, hc1⟩
  replace hS := Step.trans hS hc1
  refine VL_pure 7 [0, 1, 21] [(0, .int .i64 wait), (1, .slice A n cc), (21, .bool (decide (((n : Nat) : Int) > 80)))] (by kernel_rfl) rfl ?_
  refine VL_end (by kernel_rfl) ?_
  refine VQ_next ?_
  refine VC_dec (((n : Nat) : Int) > 80) (by kernel_rfl) (fun h1 => ?_) (fun h1 => ?_)
  · refine VC_seq ?_
    refine VC_region ?_
    have hzs2 := hS.size
    refine VL_call (d := 22) (f := 9) (args := #[]) (by kernel_rfl) (by kernel_rfl) (by kernel_rfl) Try.call9 (awake_any _) ?_
    rintro _ w2 ⟨rfl, hc2⟩
    replace hS := Step.trans hS hc2
    refine VL_pure 2 [4] [(4, .bool true)] (by kernel_rfl) rfl ?_
    refine VL_end (by kernel_rfl) ?_
    refine VQ_next ?_
    refine VC_ret ?_
    refine VQ_then_ret ?_
    refine VQ_ret1 (.bool true) (.inr rfl) rfl rfl ?_
    exact ⟨by first | rfl | simp [*], hS⟩
  · refine VC_skip ?_
    refine VQ_next ?_
    refine VC_seq ?_
    refine VC_region ?_
    refine VL_pure 1 [0, 1, 23] [(0, .int .i64 wait), (1, .slice A n cc), (23, .int .i64 wait)] (by kernel_rfl) rfl ?_
    have hzs3 := hS.size
    refine VL_call (d := 24) (f := 10) (by kernel_rfl) (by kernel_rfl) (by kernel_rfl) Try.call10 (gnew_any wait _) ?_
    rintro _ w3 ⟨gp1, rfl, hfgp1, hg1, hc3⟩
    replace hS := Step.trans hS hc3
    have hltgp1 := GaOf.lt hg1
    have hgigp1 : GaI (newG wait) 0 := GaI.new _
    have hzzgp1 := hc3.size
    refine VL_pure 3 [1, 24, 25] [(1, .slice A n cc), (24, .pointer (some ⟨gp1, 0, none⟩)), (25, .int .i64 wait)] (by kernel_rfl) rfl ?_
    have hzs4 := hS.size
    have hzl1 := GaOf.lt hg1
    refine VL_call (d := 26) (f := 11) (by kernel_rfl) (by kernel_rfl) (by kernel_rfl) Try.call11 (rgnew_any wait _) ?_
    rintro _ w4 ⟨gp2, rfl, hfgp2, hg2, hc4⟩
    replace hS := Step.trans hS hc4
    replace hg1 := GaOf.no hg1 hc4
    have hltgp2 := GaOf.lt hg2
    have hgigp2 : GaI (newG wait) 0 := GaI.new _
    have hzzgp2 := hc4.size
    refine VL_pure 6 [1, 5, 6] [(1, .slice A n cc), (5, .pointer (some ⟨gp1, 0, none⟩)), (6, .pointer (some ⟨gp2, 0, none⟩))] (by kernel_rfl) rfl ?_
    refine VL_end (by kernel_rfl) ?_
    refine VQ_next ?_
    refine VC_seq ?_
    refine VC_seq ?_
    refine VC_region ?_
    refine VL_pure 2 [1, 5, 6, 28] [(1, .slice A n cc), (5, .pointer (some ⟨gp1, 0, none⟩)), (6, .pointer (some ⟨gp2, 0, none⟩)), (28, .bool false)] (by kernel_rfl) rfl ?_
    refine VL_end (by kernel_rfl) ?_
    refine VQ_next ?_
    refine VC_false (by kernel_rfl) ?_
    refine VC_skip ?_
    refine VQ_next ?_
    refine VC_seq ?_
    refine VC_seq ?_
    refine VC_region ?_
    refine VL_pure 3 [1, 5, 6, 30, 31] [(1, .slice A n cc), (5, .pointer (some ⟨gp1, 0, none⟩)), (6, .pointer (some ⟨gp2, 0, none⟩)), (30, .int .i64 ((n : Nat) : Int)), (31, .int .i64 0)] (by kernel_rfl) rfl ?_
    refine VL_end (by kernel_rfl) ?_
    refine VQ_next ?_
    refine VC_block ?_
    refine VC_loop (σ := Nat) (fun σs => [(1, .slice A n cc), (5, .pointer (some ⟨gp1, 0, none⟩)), (6, .pointer (some ⟨gp2, 0, none⟩)), (30, .int .i64 ((n : Nat) : Int)), (31, .int .i64 ((σs : Nat) : Int))]) (fun σs w5 => (σs ≤ n) ∧ (GaI (gwalk (newG wait) q σs) (3 * σs)) ∧ (Step No w w5) ∧ (GaOf w5 58 gp1 (fun _ => True) (gwalk (newG wait) q σs)) ∧ (GaOf w5 41 gp2 (fun _ => True) (gwalk (newG wait) q σs))) (fun σs w5 => n - σs) 0 ⟨rfl, rfl, rfl, rfl, rfl, trivial⟩ ?_ ?_
    · exact ⟨Nat.zero_le _, GaI.new _, hS, hg1, hg2⟩
    rintro k w5 ⟨hkn, hI, hS, hga, hgr⟩
    try dsimp only at hkn hI hS hga hgr ⊢
    refine VC_seq ?_
    refine VC_region ?_
    refine VL_pure 1 [1, 5, 6, 30, 31, 32] [(1, .slice A n cc), (5, .pointer (some ⟨gp1, 0, none⟩)), (6, .pointer (some ⟨gp2, 0, none⟩)), (30, .int .i64 ((n : Nat) : Int)), (31, .int .i64 ((k : Nat) : Int)), (32, .bool (decide (((k : Nat) : Int) < ((n : Nat) : Int))))] (by kernel_rfl) rfl ?_
    refine VL_end (by kernel_rfl) ?_
    refine VQ_next ?_
    refine VC_seq ?_
    refine VC_dec (((k : Nat) : Int) < ((n : Nat) : Int)) (by kernel_rfl) (fun h2 => ?_) (fun h2 => ?_)
    · refine VC_skip ?_
      refine VQ_next ?_
      refine VC_seq ?_
      refine VC_block ?_
      refine VC_seq ?_
      refine VC_region ?_
      refine VL_pure 2 [1, 5, 6, 30, 31, 7] [(1, .slice A n cc), (5, .pointer (some ⟨gp1, 0, none⟩)), (6, .pointer (some ⟨gp2, 0, none⟩)), (30, .int .i64 ((n : Nat) : Int)), (31, .int .i64 ((k : Nat) : Int)), (7, .int .i64 ((k : Nat) : Int))] (by kernel_rfl) rfl ?_
      refine VL_end (by kernel_rfl) ?_
      refine VQ_next ?_
      refine VC_seq ?_
      have hk : k < n := by omega
      obtain ⟨lb, lo, rfl, hlb, hL⟩ := hA2 (by omega)
      refine VC_region ?_
      refine VL_pure 2 [1, 5, 6, 30, 31, 34, 35] [(1, .slice (some ⟨lb, lo, none⟩) n cc), (5, .pointer (some ⟨gp1, 0, none⟩)), (6, .pointer (some ⟨gp2, 0, none⟩)), (30, .int .i64 ((n : Nat) : Int)), (31, .int .i64 ((k : Nat) : Int)), (34, .slice (some ⟨lb, lo, none⟩) n cc), (35, .int .i64 ((k : Nat) : Int))] (by kernel_rfl) rfl ?_
      refine VL_index (d := 36) (b := lb) (o := lo) (len := n) (sz := 51) (m := ((k : Nat) : Int)) (by kernel_rfl) (by kernel_rfl) k (by rfl) (by omega) (lo + k * 51) (by omega) ?_
      refine VL_load (d := 37) (t := 30) (a := ⟨lb, lo + k * 51, none⟩) (v := .agg (paC (q k))) (by kernel_rfl) (by kernel_rfl) (hL.ld hq hS (by kernel_rfl) k hk) ?_
      have hzs5 := hS.size
      have hzl2 := GaOf.lt hga
      have hzl3 := GaOf.lt hgr
      refine VL_box (d := 8) (t := 30) (c := (paC pa0)) (by kernel_rfl) (by kernel_rfl) ?_
      intro b1 w6 hn1
      replace hS := Step.trans hS (hn1.step No)
      replace hga := GaOf.no hga (hn1.step No)
      replace hgr := GaOf.no hgr (hn1.step No)
      have ho1 := hn1.own
      have hzhn1 := hn1.size
      have hqhn1 := hn1.eqb
      refine VL_storeW (b := b1) (sz := 51) (cs := paC (q k)) (by kernel_rfl) (by kernel_rfl) pa_one (paC_size (hq k)) ho1 (paC_size pa0_I) ?_
      intro w7 hw1
      replace hS := Step.transNew hS hw1.step (fun _ _ _ => by omega)
      replace hga := GaOf.keep hga ho1 (by decide) (by omega) hw1.step
      replace hgr := GaOf.keep hgr ho1 (by decide) (by omega) hw1.step
      have ho2 : Own w7 b1 (paC (q k)) 30 := hw1.own
      have hzhw1 := hw1.same
      refine VL_end (by kernel_rfl) ?_
      refine VQ_next ?_
      refine VC_seq ?_
      refine VC_seq ?_
      refine VC_region ?_
      refine VL_pure 1 [1, 5, 6, 30, 31, 8, 38] [(1, .slice (some ⟨lb, lo, none⟩) n cc), (5, .pointer (some ⟨gp1, 0, none⟩)), (6, .pointer (some ⟨gp2, 0, none⟩)), (30, .int .i64 ((n : Nat) : Int)), (31, .int .i64 ((k : Nat) : Int)), (8, .pointer (some ⟨b1, 0, none⟩)), (38, .pointer (some ⟨b1, 0, none⟩))] (by kernel_rfl) rfl ?_
      refine VL_load (d := 39) (t := 3) (a := ⟨b1, 0, none⟩) (v := .int .i64 ((q k).t)) (by kernel_rfl) (by kernel_rfl) (pa_t ho2 (by kernel_rfl)) ?_
      have hzs6 := hS.size
      have hzl4 := GaOf.lt hga
      have hzl5 := GaOf.lt hgr
      have hzl6 := ho2.lt
      refine VL_call (d := 40) (f := 12) (args := #[.int .i64 ((q k).t)]) (by kernel_rfl) (by kernel_rfl) (by kernel_rfl) Try.call12 (time_any ((q k).t) _) ?_
      rintro _ w8 ⟨rfl, hc5⟩
      replace hS := Step.trans hS hc5
      replace hga := GaOf.no hga hc5
      replace hgr := GaOf.no hgr hc5
      replace ho2 := ho2.no hc5
      refine VL_pure 4 [1, 5, 6, 30, 31, 8, 41] [(1, .slice (some ⟨lb, lo, none⟩) n cc), (5, .pointer (some ⟨gp1, 0, none⟩)), (6, .pointer (some ⟨gp2, 0, none⟩)), (30, .int .i64 ((n : Nat) : Int)), (31, .int .i64 ((k : Nat) : Int)), (8, .pointer (some ⟨b1, 0, none⟩)), (41, .bool (!(timeB ((q k).t))))] (by kernel_rfl) rfl ?_
      refine VL_end (by kernel_rfl) ?_
      refine VQ_next ?_
      refine VC_cond (!(timeB ((q k).t))) (by kernel_rfl) (fun h3 => ?_) (fun h3 => ?_)
      · try simp only [Bool.and_eq_true, Bool.or_eq_true, decide_eq_true_eq, Bool.not_eq_true', decide_eq_false_iff_not, Bool.and_eq_false_iff, Bool.or_eq_false_iff, beq_iff_eq, bne_iff_ne, beq_eq_false_iff_ne, bne_eq_false_iff_eq, Bool.not_eq_eq_eq_not, Bool.not_true, Bool.not_false] at h3
        refine VC_seq ?_
        refine VC_region ?_
        refine VL_pure 1 [4] [(4, .bool true)] (by kernel_rfl) rfl ?_
        refine VL_end (by kernel_rfl) ?_
        refine VQ_next ?_
        refine VC_ret ?_
        refine VQ_then_ret ?_
        refine VQ_block_ret ?_
        refine VQ_then_ret ?_
        refine VQ_then_ret ?_
        refine VQ_block_ret ?_
        refine VQ_then_ret ?_
        refine VQ_ret1 (.bool true) (.inr rfl) rfl rfl ?_
        exact ⟨by first | rfl | simp [*], hS⟩
      · try simp only [Bool.and_eq_true, Bool.or_eq_true, decide_eq_true_eq, Bool.not_eq_true', decide_eq_false_iff_not, Bool.and_eq_false_iff, Bool.or_eq_false_iff, beq_iff_eq, bne_iff_ne, beq_eq_false_iff_ne, bne_eq_false_iff_eq, Bool.not_eq_eq_eq_not, Bool.not_true, Bool.not_false] at h3
        have hT := time_is h3
        refine VC_skip ?_
        refine VQ_next ?_
        refine VC_seq ?_
        refine VC_seq ?_
        refine VC_region ?_
        refine VL_pure 1 [1, 5, 6, 30, 31, 8, 42] [(1, .slice (some ⟨lb, lo, none⟩) n cc), (5, .pointer (some ⟨gp1, 0, none⟩)), (6, .pointer (some ⟨gp2, 0, none⟩)), (30, .int .i64 ((n : Nat) : Int)), (31, .int .i64 ((k : Nat) : Int)), (8, .pointer (some ⟨b1, 0, none⟩)), (42, .pointer (some ⟨b1, 50, none⟩))] (by kernel_rfl) rfl ?_
        refine VL_load (d := 43) (t := 4) (a := ⟨b1, 50, none⟩) (v := .bool ((q k).tick)) (by kernel_rfl) (by kernel_rfl) (pa_tick ho2 (hq k) (by kernel_rfl)) ?_
        refine VL_end (by kernel_rfl) ?_
        refine VQ_next ?_
        refine VC_cond ((q k).tick) (by kernel_rfl) (fun h4 => ?_) (fun h4 => ?_)
        · try simp only [Bool.and_eq_true, Bool.or_eq_true, decide_eq_true_eq, Bool.not_eq_true', decide_eq_false_iff_not, Bool.and_eq_false_iff, Bool.or_eq_false_iff, beq_iff_eq, bne_iff_ne, beq_eq_false_iff_ne, bne_eq_false_iff_eq, Bool.not_eq_eq_eq_not, Bool.not_true, Bool.not_false] at h4
          refine VC_seq ?_
          have hs1 := drew_step w8
          have hs1z : w8.heap.size = w8.drew.heap.size := rfl
          refine VC_text [[], [], [1], [0, 1, 2], [], [], [5], [0, 1, 2, 3, 4, 5, 6], [0, 1, 2, 3, 4, 5, 6, 7]] 7 (fun x y => Step (fun k => k = gp1 ∨ w8.heap.size ≤ k) x y) [3] [0, 1, 2, 4, 5, 6, 3] (by kernel_rfl) (by kernel_rfl) (by kernel_rfl) (by kernel_rfl) (fun x => Step.refl _ x) (fun h k => Step.trans h k) Step.weak ?_
          have hzs7 := hS.size
          have hzl7 := GaOf.lt hga
          have hzl8 := GaOf.lt hgr
          have hzl9 := ho2.lt
          generalize w8.drew = w9 at hs1 hs1z ⊢
          replace hS := Step.trans hS hs1
          replace hga := GaOf.no hga hs1
          replace hgr := GaOf.no hgr hs1
          replace ho2 := ho2.no hs1
          refine VT_pures 2 (kn' := [(1, .pointer (some ⟨b1, 0, none⟩)), (0, .pointer (some ⟨gp1, 0, none⟩))]) (by kernel_rfl) ?_
          refine VT_load (d := 46) (t := 3) (a := ⟨b1, 0, none⟩) (v := .int .i64 ((q k).t)) (by kernel_rfl) (by kernel_rfl) ?_ ?_
          · intro w10 hr1
            replace hS := Step.transNew hS hr1 (fun i hi hG => by (try simp only at hG); omega)
            replace ho2 := ho2.step hr1 (by (try simp only); omega)
            exact (pa_t ho2 (by kernel_rfl))
          refine VT_pures 2 (kn' := [(5, .pointer (some ⟨b1, 0, none⟩)), (4, .pointer (some ⟨gp2, 0, none⟩)), (2, .int .i64 ((q k).t)), (1, .pointer (some ⟨b1, 0, none⟩)), (0, .pointer (some ⟨gp1, 0, none⟩))]) (by kernel_rfl) ?_
          refine VT_load (d := 50) (t := 3) (a := ⟨b1, 0, none⟩) (v := .int .i64 ((q k).t)) (by kernel_rfl) (by kernel_rfl) ?_ ?_
          · intro w11 hr2
            replace hS := Step.transNew hS hr2 (fun i hi hG => by (try simp only at hG); omega)
            replace ho2 := ho2.step hr2 (by (try simp only); omega)
            exact (pa_t ho2 (by kernel_rfl))
          refine VT_chain (by kernel_rfl) ?_
          intro w12 hs2
          have hzhs2 := hs2.size
          replace hS := Step.trans hS hs2
          replace hga := GaOf.no hga hs2
          replace hgr := GaOf.no hgr hs2
          replace ho2 := ho2.no hs2
          have hzs8 := hS.size
          have hzl10 := GaOf.lt hga
          have hzl11 := GaOf.lt hgr
          have hzl12 := ho2.lt
          refine VTc_call (d := 47) (f := 13) (by kernel_rfl) (by kernel_rfl) (by kernel_rfl) Try.call13 (tick_any gp1 (gwalk (newG wait) q k) (fun _ => True) _ (fun _ _ => trivial) hga _ hI (by omega) ((q k).t) hT.1 hT.2) ?_ ?_
          · rintro _ w13 ⟨rfl, hg3, hc6⟩
            exact Step.mono hc6 (by intro i hi; first | exact hi.elim | ((try simp only at hi ⊢); omega))
          rintro _ w13 ⟨rfl, hg3, hc6⟩
          have hzhc6 := (hc6).size
          replace hS := Step.transNew hS hc6 (fun _ _ _ => by omega)
          replace hgr := GaOf.other hgr hga (by decide) (by omega) hc6
          replace ho2 := ho2.step hc6 (show ¬ b1 = gp1 by omega)
          have hlthg3 := GaOf.lt hg3
          have hgihg3 := (hI).tick ((q k).t)
          refine VT_end ?_
          intro w14 hs3
          replace hS := Step.trans hS hs3
          replace hgr := GaOf.no hgr hs3
          replace ho2 := ho2.no hs3
          replace hg3 := GaOf.no hg3 hs3
          refine VL_keep [1, 5, 6, 30, 31, 48, 50, 47] [(1, .slice (some ⟨lb, lo, none⟩) n cc), (5, .pointer (some ⟨gp1, 0, none⟩)), (6, .pointer (some ⟨gp2, 0, none⟩)), (30, .int .i64 ((n : Nat) : Int)), (31, .int .i64 ((k : Nat) : Int)), (48, .pointer (some ⟨gp2, 0, none⟩)), (50, .int .i64 ((q k).t)), (47, .bool (tickB (gwalk (newG wait) q k) ((q k).t)))] (by kernel_rfl) ?_
          have hzs9 := hS.size
          have hzl13 := GaOf.lt hgr
          have hzl14 := ho2.lt
          have hzl15 := GaOf.lt hg3
          refine VL_call (d := 51) (f := 14) (by kernel_rfl) (by kernel_rfl) (by kernel_rfl) Try.call14 (rtick_any gp2 (gwalk (newG wait) q k) (fun _ => True) _ (fun _ _ => trivial) hgr _ hI (by omega) ((q k).t) hT.1 hT.2) ?_
          rintro _ w15 ⟨rfl, hg4, hc7⟩
          replace hS := Step.transNew hS hc7 (fun _ _ _ => by omega)
          replace ho2 := ho2.step hc7 (show ¬ b1 = gp2 by omega)
          replace hg3 := GaOf.other hg3 hgr (by decide) (by omega) hc7
          have hlthg4 := GaOf.lt hg4
          have hgihg4 := (hI).tick ((q k).t)
          refine VL_pure 9 [1, 5, 6, 30, 31, 52] [(1, .slice (some ⟨lb, lo, none⟩) n cc), (5, .pointer (some ⟨gp1, 0, none⟩)), (6, .pointer (some ⟨gp2, 0, none⟩)), (30, .int .i64 ((n : Nat) : Int)), (31, .int .i64 ((k : Nat) : Int)), (52, .bool (!((tickB (gwalk (newG wait) q k) ((q k).t)) == (tickB (gwalk (newG wait) q k) ((q k).t)))))] (by kernel_rfl) rfl ?_
          refine VL_end (by kernel_rfl) ?_
          refine VQ_next ?_
          refine VC_is (b := !((tickB (gwalk (newG wait) q k) ((q k).t)) == (tickB (gwalk (newG wait) q k) ((q k).t)))) false (by kernel_rfl) (by simp) ?_
          refine VC_ite_false ?_
          refine VC_skip ?_
          refine VQ_next ?_
          refine VC_seq ?_
          obtain ⟨A1, c1, ho3, hv1, hc8⟩ := hg4
          have hs4 := drew_step w15
          have hs4z : w15.heap.size = w15.drew.heap.size := rfl
          refine VC_text [[], [0], [], [2], [2, 3], [2, 3, 4], [2, 3, 4, 5], [2, 3, 4, 5, 6], [0, 1, 2, 3, 4, 5, 6, 7], [0, 1, 2, 3, 4, 5, 6, 7, 8], [0, 1, 2, 3, 4, 5, 6, 7, 8, 9], [0, 1, 2, 3, 4, 5, 6, 7, 8, 9, 10], [0, 1, 2, 3, 4, 5, 6, 7, 8, 9], [0, 1, 2, 3, 4, 5, 6, 7, 8, 9, 12], [0, 1, 2, 3, 4, 5, 6, 7, 8, 9, 12, 13], [0, 1, 2, 3, 4, 5, 6, 7, 8, 9, 12, 13, 14], [0, 1, 2, 3, 4, 5, 6, 7, 8, 9, 10, 11, 12, 13, 14, 15], [0, 1, 2, 3, 4, 5, 6, 7, 8, 9, 10, 11, 12, 13, 14, 15, 16]] 16 (fun x y => Step (fun k => w15.heap.size ≤ k) x y) [1, 11] [0, 2, 3, 4, 5, 6, 7, 1, 8, 9, 10, 12, 13, 14, 15, 11] (by kernel_rfl) (by kernel_rfl) (by kernel_rfl) (by kernel_rfl) (fun x => Step.refl _ x) (fun h k => Step.trans h k) Step.weak ?_
          have hzs10 := hS.size
          have hzl16 := ho2.lt
          have hzl17 := GaOf.lt hg3
          have hzl18 := ho3.lt
          generalize w15.drew = w16 at hs4 hs4z ⊢
          replace hS := Step.trans hS hs4
          replace ho2 := ho2.no hs4
          replace hg3 := GaOf.no hg3 hs4
          replace ho3 := ho3.no hs4
          replace hv1 := hv1.no hs4
          refine VT_pures 4 (kn' := [(4, .pointer (some ⟨gp2, 3, none⟩)), (3, .pointer (some ⟨gp2, 0, none⟩)), (2, .pointer (some ⟨gp2, 0, none⟩)), (0, .pointer (some ⟨gp1, 0, none⟩))]) (by kernel_rfl) ?_
          refine VT_load (d := 96) (t := 32) (a := ⟨gp2, 3, none⟩) (v := .slice A1 ((tickF (gwalk (newG wait) q k) ((q k).t)).bs.length) c1) (by kernel_rfl) (by kernel_rfl) ?_ ?_
          · intro w17 hr3
            replace hS := Step.transNew hS hr3 (fun i hi hG => by (try simp only at hG); omega)
            replace ho2 := ho2.step hr3 (by (try simp only); omega)
            replace ho3 := ho3.step hr3 (by (try simp only); omega)
            exact (Loads.own1 ho3 (by kernel_rfl) (by rfl))
          refine VT_pures 2 (kn' := [(7, .int .i64 (IntKind.wrap .i64 ((((tickF (gwalk (newG wait) q k) ((q k).t)).bs.length : Nat) : Int).tdiv 48))), (6, .int .i64 (((tickF (gwalk (newG wait) q k) ((q k).t)).bs.length : Nat) : Int)), (5, .slice A1 ((tickF (gwalk (newG wait) q k) ((q k).t)).bs.length) c1), (4, .pointer (some ⟨gp2, 3, none⟩)), (3, .pointer (some ⟨gp2, 0, none⟩)), (2, .pointer (some ⟨gp2, 0, none⟩)), (0, .pointer (some ⟨gp1, 0, none⟩))]) (by kernel_rfl) ?_
          refine VT_chain (by kernel_rfl) ?_
          intro w18 hs5
          have hzhs5 := hs5.size
          replace hS := Step.trans hS hs5
          replace ho2 := ho2.no hs5
          replace hg3 := GaOf.no hg3 hs5
          replace ho3 := ho3.no hs5
          replace hv1 := hv1.no hs5
          have hzs11 := hS.size
          have hzl19 := ho2.lt
          have hzl20 := GaOf.lt hg3
          have hzl21 := ho3.lt
          refine VTc_call (d := 92) (f := 18) (by kernel_rfl) (by kernel_rfl) (by kernel_rfl) Try.call18 (parts_any gp1 (tickF (gwalk (newG wait) q k) ((q k).t)) (fun _ => True) _ hg3 (by have h9 := (hgihg3).len_le; omega)) ?_ ?_
          · rintro _ w19 ⟨rfl, hc9⟩
            exact Step.mono hc9 (by intro i hi; first | exact hi.elim | ((try simp only at hi ⊢); omega))
          rintro _ w19 ⟨rfl, hc9⟩
          have hzhc9 := (hc9).size
          replace hS := Step.trans hS hc9
          replace ho2 := ho2.no hc9
          replace hg3 := GaOf.no hg3 hc9
          replace ho3 := ho3.no hc9
          replace hv1 := hv1.no hc9
          refine VT_pures 2 (kn' := [(9, .bool (((((tickF (gwalk (newG wait) q k) ((q k).t))).bs.length / 48 : Nat) : Int) != (IntKind.wrap .i64 ((((tickF (gwalk (newG wait) q k) ((q k).t)).bs.length : Nat) : Int).tdiv 48)))), (8, .bool (((((tickF (gwalk (newG wait) q k) ((q k).t))).bs.length / 48 : Nat) : Int) != (IntKind.wrap .i64 ((((tickF (gwalk (newG wait) q k) ((q k).t)).bs.length : Nat) : Int).tdiv 48)))), (1, .int .i64 ((((tickF (gwalk (newG wait) q k) ((q k).t))).bs.length / 48 : Nat) : Int)), (7, .int .i64 (IntKind.wrap .i64 ((((tickF (gwalk (newG wait) q k) ((q k).t)).bs.length : Nat) : Int).tdiv 48))), (6, .int .i64 (((tickF (gwalk (newG wait) q k) ((q k).t)).bs.length : Nat) : Int)), (5, .slice A1 ((tickF (gwalk (newG wait) q k) ((q k).t)).bs.length) c1), (4, .pointer (some ⟨gp2, 3, none⟩)), (3, .pointer (some ⟨gp2, 0, none⟩)), (2, .pointer (some ⟨gp2, 0, none⟩)), (0, .pointer (some ⟨gp1, 0, none⟩))]) (by kernel_rfl) ?_
          have hg5 : (((((tickF (gwalk (newG wait) q k) ((q k).t))).bs.length / 48 : Nat) : Int) != (IntKind.wrap .i64 ((((tickF (gwalk (newG wait) q k) ((q k).t)).bs.length : Nat) : Int).tdiv 48))) = false := (parts_ne hgihg3)
          refine VT_eq [(9, .bool false), (8, .bool false), (1, .int .i64 ((((tickF (gwalk (newG wait) q k) ((q k).t))).bs.length / 48 : Nat) : Int)), (7, .int .i64 (IntKind.wrap .i64 ((((tickF (gwalk (newG wait) q k) ((q k).t)).bs.length : Nat) : Int).tdiv 48))), (6, .int .i64 (((tickF (gwalk (newG wait) q k) ((q k).t)).bs.length : Nat) : Int)), (5, .slice A1 ((tickF (gwalk (newG wait) q k) ((q k).t)).bs.length) c1), (4, .pointer (some ⟨gp2, 3, none⟩)), (3, .pointer (some ⟨gp2, 0, none⟩)), (2, .pointer (some ⟨gp2, 0, none⟩)), (0, .pointer (some ⟨gp1, 0, none⟩))] (by simp only [hg5, Bool.not_true, Bool.not_false]) ?_
          refine VT_pures 4 (kn' := [(14, .pointer (some ⟨gp2, 2, none⟩)), (13, .pointer (some ⟨gp2, 0, none⟩)), (12, .pointer (some ⟨gp2, 0, none⟩)), (10, .pointer (some ⟨gp1, 0, none⟩)), (9, .bool false), (8, .bool false), (1, .int .i64 ((((tickF (gwalk (newG wait) q k) ((q k).t))).bs.length / 48 : Nat) : Int)), (7, .int .i64 (IntKind.wrap .i64 ((((tickF (gwalk (newG wait) q k) ((q k).t)).bs.length : Nat) : Int).tdiv 48))), (6, .int .i64 (((tickF (gwalk (newG wait) q k) ((q k).t)).bs.length : Nat) : Int)), (5, .slice A1 ((tickF (gwalk (newG wait) q k) ((q k).t)).bs.length) c1), (4, .pointer (some ⟨gp2, 3, none⟩)), (3, .pointer (some ⟨gp2, 0, none⟩)), (2, .pointer (some ⟨gp2, 0, none⟩)), (0, .pointer (some ⟨gp1, 0, none⟩))]) (by kernel_rfl) ?_
          refine VT_load (d := 106) (t := 3) (a := ⟨gp2, 2, none⟩) (v := .int .i64 ((tickF (gwalk (newG wait) q k) ((q k).t)).lost)) (by kernel_rfl) (by kernel_rfl) ?_ ?_
          · intro w20 hr4
            replace hS := Step.transNew hS hr4 (fun i hi hG => by (try simp only at hG); omega)
            replace ho2 := ho2.step hr4 (by (try simp only); omega)
            replace ho3 := ho3.step hr4 (by (try simp only); omega)
            exact (Loads.own1 ho3 (by kernel_rfl) (by rfl))
          refine VT_chain (by kernel_rfl) ?_
          intro w21 hs6
          have hzhs6 := hs6.size
          replace hS := Step.trans hS hs6
          replace ho2 := ho2.no hs6
          replace hg3 := GaOf.no hg3 hs6
          replace ho3 := ho3.no hs6
          replace hv1 := hv1.no hs6
          have hzs12 := hS.size
          have hzl22 := ho2.lt
          have hzl23 := GaOf.lt hg3
          have hzl24 := ho3.lt
          refine VTc_call (d := 102) (f := 19) (by kernel_rfl) (by kernel_rfl) (by kernel_rfl) Try.call19 (lost_any gp1 (tickF (gwalk (newG wait) q k) ((q k).t)) (fun _ => True) _ hg3) ?_ ?_
          · rintro _ w22 ⟨rfl, hc10⟩
            exact Step.mono hc10 (by intro i hi; first | exact hi.elim | ((try simp only at hi ⊢); omega))
          rintro _ w22 ⟨rfl, hc10⟩
          have hzhc10 := (hc10).size
          replace hS := Step.trans hS hc10
          replace ho2 := ho2.no hc10
          replace hg3 := GaOf.no hg3 hc10
          replace ho3 := ho3.no hc10
          replace hv1 := hv1.no hc10
          refine VT_end ?_
          intro w23 hs7
          replace hS := Step.trans hS hs7
          replace ho2 := ho2.no hs7
          replace hg3 := GaOf.no hg3 hs7
          replace ho3 := ho3.no hs7
          replace hv1 := hv1.no hs7
          refine VL_keep [1, 5, 6, 30, 31, 100, 106, 102] [(1, .slice (some ⟨lb, lo, none⟩) n cc), (5, .pointer (some ⟨gp1, 0, none⟩)), (6, .pointer (some ⟨gp2, 0, none⟩)), (30, .int .i64 ((n : Nat) : Int)), (31, .int .i64 ((k : Nat) : Int)), (100, .bool false), (106, .int .i64 ((tickF (gwalk (newG wait) q k) ((q k).t)).lost)), (102, .int .i64 (((tickF (gwalk (newG wait) q k) ((q k).t))).lost))] (by kernel_rfl) ?_
          refine VL_pure 18 [1, 5, 6, 30, 31, 108] [(1, .slice (some ⟨lb, lo, none⟩) n cc), (5, .pointer (some ⟨gp1, 0, none⟩)), (6, .pointer (some ⟨gp2, 0, none⟩)), (30, .int .i64 ((n : Nat) : Int)), (31, .int .i64 ((k : Nat) : Int)), (108, .bool ((((tickF (gwalk (newG wait) q k) ((q k).t))).lost) != ((tickF (gwalk (newG wait) q k) ((q k).t)).lost)))] (by kernel_rfl) rfl ?_
          refine VL_end (by kernel_rfl) ?_
          refine VQ_next ?_
          refine VC_is (b := (((tickF (gwalk (newG wait) q k) ((q k).t))).lost) != ((tickF (gwalk (newG wait) q k) ((q k).t)).lost)) false (by kernel_rfl) (by simp) ?_
          refine VC_ite_false ?_
          refine VC_skip ?_
          refine VQ_block_normal ?_
          refine VQ_next ?_
          refine VC_region ?_
          refine VL_pure 1 [1, 5, 6, 30, 109] [(1, .slice (some ⟨lb, lo, none⟩) n cc), (5, .pointer (some ⟨gp1, 0, none⟩)), (6, .pointer (some ⟨gp2, 0, none⟩)), (30, .int .i64 ((n : Nat) : Int)), (109, .int .i64 (IntKind.wrap .i64 (((k : Nat) : Int) + 1)))] (by kernel_rfl) rfl ?_
          have he1 : IntKind.wrap .i64 (((k : Nat) : Int) + 1) = ((k + 1 : Nat) : Int) := (by rw [wrap_i64 _ (by omega) (by omega)]; omega)
          refine VL_eq [(1, .slice (some ⟨lb, lo, none⟩) n cc), (5, .pointer (some ⟨gp1, 0, none⟩)), (6, .pointer (some ⟨gp2, 0, none⟩)), (30, .int .i64 ((n : Nat) : Int)), (109, .int .i64 ((k + 1 : Nat) : Int))] (by rw [he1]) ?_
          refine VL_pure 2 [1, 5, 6, 30, 31] [(1, .slice (some ⟨lb, lo, none⟩) n cc), (5, .pointer (some ⟨gp1, 0, none⟩)), (6, .pointer (some ⟨gp2, 0, none⟩)), (30, .int .i64 ((n : Nat) : Int)), (31, .int .i64 ((k + 1 : Nat) : Int))] (by kernel_rfl) rfl ?_
          refine VL_end (by kernel_rfl) ?_
          refine VQ_again (k + 1) ⟨rfl, rfl, rfl, rfl, rfl, trivial⟩ ?_ ?_
          · exact ⟨(by omega), (GaI.mono (hI.step (hq k) hT.1 hT.2) (by omega)), hS, (GaOf.cast hg3 (by first | exact stepG_tick (by assumption) | exact stepG_take (by assumption))), (GaOf.cast ⟨_, _, ho3, hv1, ‹_›⟩ (by first | exact stepG_tick (by assumption) | exact stepG_take (by assumption)))⟩
          · (try dsimp only); omega
        · try simp only [Bool.and_eq_true, Bool.or_eq_true, decide_eq_true_eq, Bool.not_eq_true', decide_eq_false_iff_not, Bool.and_eq_false_iff, Bool.or_eq_false_iff, beq_iff_eq, bne_iff_ne, beq_eq_false_iff_ne, bne_eq_false_iff_eq, Bool.not_eq_eq_eq_not, Bool.not_true, Bool.not_false] at h4
          refine VC_seq ?_
          refine VC_region ?_
          refine VL_pure 2 [1, 5, 6, 30, 31, 8, 54, 55] [(1, .slice (some ⟨lb, lo, none⟩) n cc), (5, .pointer (some ⟨gp1, 0, none⟩)), (6, .pointer (some ⟨gp2, 0, none⟩)), (30, .int .i64 ((n : Nat) : Int)), (31, .int .i64 ((k : Nat) : Int)), (8, .pointer (some ⟨b1, 0, none⟩)), (54, .pointer (some ⟨gp1, 0, none⟩)), (55, .pointer (some ⟨b1, 0, none⟩))] (by kernel_rfl) rfl ?_
          refine VL_load (d := 56) (t := 3) (a := ⟨b1, 0, none⟩) (v := .int .i64 ((q k).t)) (by kernel_rfl) (by kernel_rfl) (pa_t ho2 (by kernel_rfl)) ?_
          refine VL_pure 4 [1, 5, 6, 30, 31, 8, 54, 56, 57] [(1, .slice (some ⟨lb, lo, none⟩) n cc), (5, .pointer (some ⟨gp1, 0, none⟩)), (6, .pointer (some ⟨gp2, 0, none⟩)), (30, .int .i64 ((n : Nat) : Int)), (31, .int .i64 ((k : Nat) : Int)), (8, .pointer (some ⟨b1, 0, none⟩)), (54, .pointer (some ⟨gp1, 0, none⟩)), (56, .int .i64 ((q k).t)), (57, .pointer (some ⟨b1, 1, none⟩))] (by kernel_rfl) rfl ?_
          refine VL_load (d := 58) (t := 28) (a := ⟨b1, 1, none⟩) (v := .agg (iA .u8 ((q k).ps))) (by kernel_rfl) (by kernel_rfl) (pa_ps ho2 (hq k) (by kernel_rfl)) ?_
          refine VL_pure 6 [1, 5, 6, 30, 31, 8, 54, 56, 58, 59] [(1, .slice (some ⟨lb, lo, none⟩) n cc), (5, .pointer (some ⟨gp1, 0, none⟩)), (6, .pointer (some ⟨gp2, 0, none⟩)), (30, .int .i64 ((n : Nat) : Int)), (31, .int .i64 ((k : Nat) : Int)), (8, .pointer (some ⟨b1, 0, none⟩)), (54, .pointer (some ⟨gp1, 0, none⟩)), (56, .int .i64 ((q k).t)), (58, .agg (iA .u8 ((q k).ps))), (59, .pointer (some ⟨b1, 49, none⟩))] (by kernel_rfl) rfl ?_
          refine VL_load (d := 60) (t := 4) (a := ⟨b1, 49, none⟩) (v := .bool ((q k).last)) (by kernel_rfl) (by kernel_rfl) (pa_last ho2 (hq k) (by kernel_rfl)) ?_
          have hzs13 := hS.size
          have hzl25 := GaOf.lt hga
          have hzl26 := GaOf.lt hgr
          have hzl27 := ho2.lt
          refine VL_call (d := 61) (f := 15) (by kernel_rfl) (by kernel_rfl) (by kernel_rfl) Try.call15 (take_any gp1 (gwalk (newG wait) q k) (fun _ => True) _ (fun _ _ => trivial) hga _ hI (by omega) ((q k).t) hT.1 hT.2 ((q k).ps) (hq k).1 (hq k).2 ((q k).last)) ?_
          rintro _ w24 ⟨A2, c2, rfl, hr5, hg6, hc11⟩
          replace hS := Step.transNew hS hc11 (fun _ _ _ => by omega)
          replace hgr := GaOf.other hgr hga (by decide) (by omega) hc11
          replace ho2 := ho2.step hc11 (show ¬ b1 = gp1 by omega)
          have hxhr5 := SlX.of_rw (X := fun _ => True) hr5 (fun _ _ => trivial)
          have hlthg6 := GaOf.lt hg6
          have hgihg6 := GaI.take (t := ((q k).t)) (p := ((q k).ps)) hI ((q k).last) hT.1 hT.2 (hq k).1 (hq k).2
          have htlhg6 := takeT_le hI ((q k).t) ((q k).ps) ((q k).last) (hq k).1
          refine VL_pure 15 [1, 5, 6, 30, 31, 8, 9, 10, 11] [(1, .slice (some ⟨lb, lo, none⟩) n cc), (5, .pointer (some ⟨gp1, 0, none⟩)), (6, .pointer (some ⟨gp2, 0, none⟩)), (30, .int .i64 ((n : Nat) : Int)), (31, .int .i64 ((k : Nat) : Int)), (8, .pointer (some ⟨b1, 0, none⟩)), (9, .slice A2 ((takeT (gwalk (newG wait) q k) ((q k).t) ((q k).ps) ((q k).last)).length) c2), (10, .int .u8 (takeM (gwalk (newG wait) q k) ((q k).t) ((q k).ps) ((q k).last))), (11, .int .i64 (takeE (gwalk (newG wait) q k) ((q k).t) ((q k).ps) ((q k).last)))] (by kernel_rfl) rfl ?_
          refine VL_end (by kernel_rfl) ?_
          refine VQ_next ?_
          refine VC_seq ?_
          have hs8 := drew_step w24
          have hs8z : w24.heap.size = w24.drew.heap.size := rfl
          refine VC_text [[], [], [1], [], [3], [], [5], [0, 1, 2, 3, 4, 5, 6], [0, 1, 2, 3, 4, 5, 6, 7], [0, 1, 2, 3, 4, 5, 6, 7, 8], [0, 1, 2, 3, 4, 5, 6, 7, 8], [0, 1, 2, 3, 4, 5, 6, 7, 8], [0, 1, 2, 3, 4, 5, 6, 7, 8, 9], [0, 1, 2, 3, 4, 5, 6, 7, 8, 9, 10, 12], [0, 1, 2, 3, 4, 5, 6, 7, 8, 9, 10, 11, 12, 13]] 14 (fun x y => Step (fun k => k = gp2 ∨ w24.heap.size ≤ k) x y) [7] [0, 1, 2, 3, 4, 5, 6, 7, 8, 9, 10, 11, 12, 13] (by kernel_rfl) (by kernel_rfl) (by kernel_rfl) (by kernel_rfl) (fun x => Step.refl _ x) (fun h k => Step.trans h k) Step.weak ?_
          have hzs14 := hS.size
          have hzl28 := GaOf.lt hgr
          have hzl29 := ho2.lt
          have hzl30 := GaOf.lt hg6
          generalize w24.drew = w25 at hs8 hs8z ⊢
          replace hS := Step.trans hS hs8
          replace hgr := GaOf.no hgr hs8
          replace ho2 := ho2.no hs8
          replace hg6 := GaOf.no hg6 hs8
          replace hxhr5 := hxhr5.no hs8
          refine VT_pures 2 (kn' := [(1, .pointer (some ⟨b1, 0, none⟩)), (0, .pointer (some ⟨gp2, 0, none⟩))]) (by kernel_rfl) ?_
          refine VT_load (d := 68) (t := 3) (a := ⟨b1, 0, none⟩) (v := .int .i64 ((q k).t)) (by kernel_rfl) (by kernel_rfl) ?_ ?_
          · intro w26 hr6
            replace hS := Step.transNew hS hr6 (fun i hi hG => by (try simp only at hG); omega)
            replace ho2 := ho2.step hr6 (by (try simp only); omega)
            exact (pa_t ho2 (by kernel_rfl))
          refine VT_pures 3 (kn' := [(5, .pointer (some ⟨b1, 49, none⟩)), (4, .slice (some ⟨b1, 1, none⟩) 48 48), (3, .pointer (some ⟨b1, 1, none⟩)), (2, .int .i64 ((q k).t)), (1, .pointer (some ⟨b1, 0, none⟩)), (0, .pointer (some ⟨gp2, 0, none⟩))]) (by kernel_rfl) ?_
          refine VT_load (d := 72) (t := 4) (a := ⟨b1, 49, none⟩) (v := .bool ((q k).last)) (by kernel_rfl) (by kernel_rfl) ?_ ?_
          · intro w27 hr7
            replace hS := Step.transNew hS hr7 (fun i hi hG => by (try simp only at hG); omega)
            replace ho2 := ho2.step hr7 (by (try simp only); omega)
            exact (pa_last ho2 (hq k) (by kernel_rfl))
          refine VT_chain (by kernel_rfl) ?_
          intro w28 hs9
          have hzhs9 := hs9.size
          replace hS := Step.trans hS hs9
          replace hgr := GaOf.no hgr hs9
          replace ho2 := ho2.no hs9
          replace hg6 := GaOf.no hg6 hs9
          replace hxhr5 := hxhr5.no hs9
          have hzs15 := hS.size
          have hzl31 := GaOf.lt hgr
          have hzl32 := ho2.lt
          have hzl33 := GaOf.lt hg6
          refine VTc_call (d := 73) (f := 16) (by kernel_rfl) (by kernel_rfl) (by kernel_rfl) Try.call16 (rtake_any gp2 (gwalk (newG wait) q k) (fun _ => True) _ (fun _ _ => trivial) hgr _ hI (by omega) ((q k).t) hT.1 hT.2 (q k).ps (hq k).1 (hq k).2 ((q k).last) (some ⟨b1, 1, none⟩) 48 30 (pa_slx ho2 (hq k)) (by decide)) ?_ ?_
          · rintro _ w29 ⟨A3, c3, rfl, hr8, hg7, hc12⟩
            exact Step.mono hc12 (by intro i hi; first | exact hi.elim | ((try simp only at hi ⊢); omega))
          rintro _ w29 ⟨A3, c3, rfl, hr8, hg7, hc12⟩
          have hzhc12 := (hc12).size
          replace hS := Step.transNew hS hc12 (fun _ _ _ => by omega)
          replace ho2 := ho2.step hc12 (show ¬ b1 = gp2 by omega)
          replace hg6 := GaOf.other hg6 hgr (by decide) (by omega) hc12
          replace hxhr5 := SlX_ga hxhr5 hgr (by decide) hc12
          have hxhr8 := SlX.of_rw (X := fun _ => True) hr8 (fun _ _ => trivial)
          have hlthg7 := GaOf.lt hg7
          have hgihg7 := GaI.take (t := ((q k).t)) (p := (q k).ps) hI ((q k).last) hT.1 hT.2 (hq k).1 (hq k).2
          have htlhg7 := takeT_le hI ((q k).t) (q k).ps ((q k).last) (hq k).1
          refine VT_pures 6 (kn' := [(13, .int .u8 (takeM (gwalk (newG wait) q k) ((q k).t) (q k).ps ((q k).last))), (12, .slice A3 ((takeT (gwalk (newG wait) q k) ((q k).t) (q k).ps ((q k).last)).length) c3), (11, .int .i64 (takeE (gwalk (newG wait) q k) ((q k).t) (q k).ps ((q k).last))), (10, .int .u8 (takeM (gwalk (newG wait) q k) ((q k).t) (q k).ps ((q k).last))), (9, .slice A3 ((takeT (gwalk (newG wait) q k) ((q k).t) (q k).ps ((q k).last)).length) c3), (8, .tuple #[.slice A3 ((takeT (gwalk (newG wait) q k) ((q k).t) (q k).ps ((q k).last)).length) c3, .int .u8 (takeM (gwalk (newG wait) q k) ((q k).t) (q k).ps ((q k).last)), .int .i64 (takeE (gwalk (newG wait) q k) ((q k).t) (q k).ps ((q k).last))]), (7, .tuple #[.slice A3 ((takeT (gwalk (newG wait) q k) ((q k).t) (q k).ps ((q k).last)).length) c3, .int .u8 (takeM (gwalk (newG wait) q k) ((q k).t) (q k).ps ((q k).last)), .int .i64 (takeE (gwalk (newG wait) q k) ((q k).t) (q k).ps ((q k).last))]), (6, .bool ((q k).last)), (5, .pointer (some ⟨b1, 49, none⟩)), (4, .slice (some ⟨b1, 1, none⟩) 48 48), (3, .pointer (some ⟨b1, 1, none⟩)), (2, .int .i64 ((q k).t)), (1, .pointer (some ⟨b1, 0, none⟩)), (0, .pointer (some ⟨gp2, 0, none⟩))]) (by kernel_rfl) ?_
          refine VT_end ?_
          intro w30 hs10
          replace hS := Step.trans hS hs10
          replace ho2 := ho2.no hs10
          replace hg6 := GaOf.no hg6 hs10
          replace hxhr5 := hxhr5.no hs10
          replace hg7 := GaOf.no hg7 hs10
          replace hxhr8 := hxhr8.no hs10
          refine VL_keep [1, 5, 6, 30, 31, 9, 10, 11, 76, 12, 13] [(1, .slice (some ⟨lb, lo, none⟩) n cc), (5, .pointer (some ⟨gp1, 0, none⟩)), (6, .pointer (some ⟨gp2, 0, none⟩)), (30, .int .i64 ((n : Nat) : Int)), (31, .int .i64 ((k : Nat) : Int)), (9, .slice A2 ((takeT (gwalk (newG wait) q k) ((q k).t) ((q k).ps) ((q k).last)).length) c2), (10, .int .u8 (takeM (gwalk (newG wait) q k) ((q k).t) ((q k).ps) ((q k).last))), (11, .int .i64 (takeE (gwalk (newG wait) q k) ((q k).t) ((q k).ps) ((q k).last))), (76, .int .i64 (takeE (gwalk (newG wait) q k) ((q k).t) (q k).ps ((q k).last))), (12, .slice A3 ((takeT (gwalk (newG wait) q k) ((q k).t) (q k).ps ((q k).last)).length) c3), (13, .int .u8 (takeM (gwalk (newG wait) q k) ((q k).t) (q k).ps ((q k).last)))] (by kernel_rfl) ?_
          refine VL_pure 15 [1, 5, 6, 30, 31, 9, 10, 11, 12, 13, 14] [(1, .slice (some ⟨lb, lo, none⟩) n cc), (5, .pointer (some ⟨gp1, 0, none⟩)), (6, .pointer (some ⟨gp2, 0, none⟩)), (30, .int .i64 ((n : Nat) : Int)), (31, .int .i64 ((k : Nat) : Int)), (9, .slice A2 ((takeT (gwalk (newG wait) q k) ((q k).t) ((q k).ps) ((q k).last)).length) c2), (10, .int .u8 (takeM (gwalk (newG wait) q k) ((q k).t) ((q k).ps) ((q k).last))), (11, .int .i64 (takeE (gwalk (newG wait) q k) ((q k).t) ((q k).ps) ((q k).last))), (12, .slice A3 ((takeT (gwalk (newG wait) q k) ((q k).t) (q k).ps ((q k).last)).length) c3), (13, .int .u8 (takeM (gwalk (newG wait) q k) ((q k).t) (q k).ps ((q k).last))), (14, .int .i64 (takeE (gwalk (newG wait) q k) ((q k).t) (q k).ps ((q k).last)))] (by kernel_rfl) rfl ?_
          refine VL_end (by kernel_rfl) ?_
          refine VQ_next ?_
          refine VC_seq ?_
          refine VC_region ?_
          refine VL_pure 2 [1, 5, 6, 30, 31, 10, 11, 13, 14, 77, 78] [(1, .slice (some ⟨lb, lo, none⟩) n cc), (5, .pointer (some ⟨gp1, 0, none⟩)), (6, .pointer (some ⟨gp2, 0, none⟩)), (30, .int .i64 ((n : Nat) : Int)), (31, .int .i64 ((k : Nat) : Int)), (10, .int .u8 (takeM (gwalk (newG wait) q k) ((q k).t) ((q k).ps) ((q k).last))), (11, .int .i64 (takeE (gwalk (newG wait) q k) ((q k).t) ((q k).ps) ((q k).last))), (13, .int .u8 (takeM (gwalk (newG wait) q k) ((q k).t) (q k).ps ((q k).last))), (14, .int .i64 (takeE (gwalk (newG wait) q k) ((q k).t) (q k).ps ((q k).last))), (77, .slice A2 ((takeT (gwalk (newG wait) q k) ((q k).t) ((q k).ps) ((q k).last)).length) c2), (78, .slice A3 ((takeT (gwalk (newG wait) q k) ((q k).t) (q k).ps ((q k).last)).length) c3)] (by kernel_rfl) rfl ?_
          have hzs16 := hS.size
          have hzl34 := ho2.lt
          have hzl35 := GaOf.lt hg6
          have hzl36 := GaOf.lt hg7
          refine VL_call (d := 79) (f := 17) (args := #[.slice A2 ((takeT (gwalk (newG wait) q k) ((q k).t) ((q k).ps) ((q k).last)).length) c2, .slice A3 ((takeT (gwalk (newG wait) q k) ((q k).t) (q k).ps ((q k).last)).length) c3]) (by kernel_rfl) (by kernel_rfl) (by kernel_rfl) Try.call17 (same_any A2 ((takeT (gwalk (newG wait) q k) ((q k).t) ((q k).ps) ((q k).last)).length) c2 _ (takeT (gwalk (newG wait) q k) ((q k).t) ((q k).ps) ((q k).last)) A3 ((takeT (gwalk (newG wait) q k) ((q k).t) (q k).ps ((q k).last)).length) c3 _ (takeT (gwalk (newG wait) q k) ((q k).t) (q k).ps ((q k).last)) _ rfl (SlX.sl hxhr5) rfl (SlX.sl hxhr8) (by omega) (by omega) (by first | exact Nat.le_refl _ | omega) (by first | exact Nat.le_refl _ | omega)) ?_
          rintro _ w31 ⟨rfl, hc13⟩
          replace hS := Step.trans hS hc13
          replace ho2 := ho2.no hc13
          replace hg6 := GaOf.no hg6 hc13
          replace hxhr5 := hxhr5.no hc13
          replace hg7 := GaOf.no hg7 hc13
          replace hxhr8 := hxhr8.no hc13
          refine VL_pure 5 [1, 5, 6, 30, 31, 10, 11, 13, 14, 81] [(1, .slice (some ⟨lb, lo, none⟩) n cc), (5, .pointer (some ⟨gp1, 0, none⟩)), (6, .pointer (some ⟨gp2, 0, none⟩)), (30, .int .i64 ((n : Nat) : Int)), (31, .int .i64 ((k : Nat) : Int)), (10, .int .u8 (takeM (gwalk (newG wait) q k) ((q k).t) ((q k).ps) ((q k).last))), (11, .int .i64 (takeE (gwalk (newG wait) q k) ((q k).t) ((q k).ps) ((q k).last))), (13, .int .u8 (takeM (gwalk (newG wait) q k) ((q k).t) (q k).ps ((q k).last))), (14, .int .i64 (takeE (gwalk (newG wait) q k) ((q k).t) (q k).ps ((q k).last))), (81, .bool (!((takeT (gwalk (newG wait) q k) ((q k).t) ((q k).ps) ((q k).last)) == (takeT (gwalk (newG wait) q k) ((q k).t) (q k).ps ((q k).last)))))] (by kernel_rfl) rfl ?_
          refine VL_known ((takeT (gwalk (newG wait) q k) ((q k).t) ((q k).ps) ((q k).last)) == (takeT (gwalk (newG wait) q k) ((q k).t) (q k).ps ((q k).last))) (fun bV => [(1, .slice (some ⟨lb, lo, none⟩) n cc), (5, .pointer (some ⟨gp1, 0, none⟩)), (6, .pointer (some ⟨gp2, 0, none⟩)), (30, .int .i64 ((n : Nat) : Int)), (31, .int .i64 ((k : Nat) : Int)), (10, .int .u8 (takeM (gwalk (newG wait) q k) ((q k).t) ((q k).ps) ((q k).last))), (11, .int .i64 (takeE (gwalk (newG wait) q k) ((q k).t) ((q k).ps) ((q k).last))), (13, .int .u8 (takeM (gwalk (newG wait) q k) ((q k).t) (q k).ps ((q k).last))), (14, .int .i64 (takeE (gwalk (newG wait) q k) ((q k).t) (q k).ps ((q k).last))), (81, .bool (!bV))]) true rfl (by simp) ?_
          refine VL_pure 10 [1, 5, 6, 30, 31, 11, 14, 86] [(1, .slice (some ⟨lb, lo, none⟩) n cc), (5, .pointer (some ⟨gp1, 0, none⟩)), (6, .pointer (some ⟨gp2, 0, none⟩)), (30, .int .i64 ((n : Nat) : Int)), (31, .int .i64 ((k : Nat) : Int)), (11, .int .i64 (takeE (gwalk (newG wait) q k) ((q k).t) ((q k).ps) ((q k).last))), (14, .int .i64 (takeE (gwalk (newG wait) q k) ((q k).t) (q k).ps ((q k).last))), (86, .bool ((takeM (gwalk (newG wait) q k) ((q k).t) ((q k).ps) ((q k).last)) != (takeM (gwalk (newG wait) q k) ((q k).t) (q k).ps ((q k).last))))] (by kernel_rfl) rfl ?_
          refine VL_known ((takeM (gwalk (newG wait) q k) ((q k).t) ((q k).ps) ((q k).last)) != (takeM (gwalk (newG wait) q k) ((q k).t) (q k).ps ((q k).last))) (fun bV => [(1, .slice (some ⟨lb, lo, none⟩) n cc), (5, .pointer (some ⟨gp1, 0, none⟩)), (6, .pointer (some ⟨gp2, 0, none⟩)), (30, .int .i64 ((n : Nat) : Int)), (31, .int .i64 ((k : Nat) : Int)), (11, .int .i64 (takeE (gwalk (newG wait) q k) ((q k).t) ((q k).ps) ((q k).last))), (14, .int .i64 (takeE (gwalk (newG wait) q k) ((q k).t) (q k).ps ((q k).last))), (86, .bool bV)]) false rfl (by simp) ?_
          refine VL_pure 14 [1, 5, 6, 30, 31, 90] [(1, .slice (some ⟨lb, lo, none⟩) n cc), (5, .pointer (some ⟨gp1, 0, none⟩)), (6, .pointer (some ⟨gp2, 0, none⟩)), (30, .int .i64 ((n : Nat) : Int)), (31, .int .i64 ((k : Nat) : Int)), (90, .bool ((takeE (gwalk (newG wait) q k) ((q k).t) ((q k).ps) ((q k).last)) != (takeE (gwalk (newG wait) q k) ((q k).t) (q k).ps ((q k).last))))] (by kernel_rfl) rfl ?_
          refine VL_end (by kernel_rfl) ?_
          refine VQ_next ?_
          refine VC_is (b := (takeE (gwalk (newG wait) q k) ((q k).t) ((q k).ps) ((q k).last)) != (takeE (gwalk (newG wait) q k) ((q k).t) (q k).ps ((q k).last))) false (by kernel_rfl) (by simp) ?_
          refine VC_ite_false ?_
          refine VC_skip ?_
          refine VQ_next ?_
          refine VC_seq ?_
          obtain ⟨A4, c4, ho4, hv2, hc14⟩ := hg7
          have hs11 := drew_step w31
          have hs11z : w31.heap.size = w31.drew.heap.size := rfl
          refine VC_text [[], [0], [], [2], [2, 3], [2, 3, 4], [2, 3, 4, 5], [2, 3, 4, 5, 6], [0, 1, 2, 3, 4, 5, 6, 7], [0, 1, 2, 3, 4, 5, 6, 7, 8], [0, 1, 2, 3, 4, 5, 6, 7, 8, 9], [0, 1, 2, 3, 4, 5, 6, 7, 8, 9, 10], [0, 1, 2, 3, 4, 5, 6, 7, 8, 9], [0, 1, 2, 3, 4, 5, 6, 7, 8, 9, 12], [0, 1, 2, 3, 4, 5, 6, 7, 8, 9, 12, 13], [0, 1, 2, 3, 4, 5, 6, 7, 8, 9, 12, 13, 14], [0, 1, 2, 3, 4, 5, 6, 7, 8, 9, 10, 11, 12, 13, 14, 15], [0, 1, 2, 3, 4, 5, 6, 7, 8, 9, 10, 11, 12, 13, 14, 15, 16]] 16 (fun x y => Step (fun k => w31.heap.size ≤ k) x y) [1, 11] [0, 2, 3, 4, 5, 6, 7, 1, 8, 9, 10, 12, 13, 14, 15, 11] (by kernel_rfl) (by kernel_rfl) (by kernel_rfl) (by kernel_rfl) (fun x => Step.refl _ x) (fun h k => Step.trans h k) Step.weak ?_
          have hzs17 := hS.size
          have hzl37 := ho2.lt
          have hzl38 := GaOf.lt hg6
          have hzl39 := ho4.lt
          generalize w31.drew = w32 at hs11 hs11z ⊢
          replace hS := Step.trans hS hs11
          replace ho2 := ho2.no hs11
          replace hg6 := GaOf.no hg6 hs11
          replace hxhr5 := hxhr5.no hs11
          replace hxhr8 := hxhr8.no hs11
          replace ho4 := ho4.no hs11
          replace hv2 := hv2.no hs11
          refine VT_pures 4 (kn' := [(4, .pointer (some ⟨gp2, 3, none⟩)), (3, .pointer (some ⟨gp2, 0, none⟩)), (2, .pointer (some ⟨gp2, 0, none⟩)), (0, .pointer (some ⟨gp1, 0, none⟩))]) (by kernel_rfl) ?_
          refine VT_load (d := 96) (t := 32) (a := ⟨gp2, 3, none⟩) (v := .slice A4 ((takeF (gwalk (newG wait) q k) ((q k).t) (q k).ps ((q k).last)).bs.length) c4) (by kernel_rfl) (by kernel_rfl) ?_ ?_
          · intro w33 hr9
            replace hS := Step.transNew hS hr9 (fun i hi hG => by (try simp only at hG); omega)
            replace ho2 := ho2.step hr9 (by (try simp only); omega)
            replace ho4 := ho4.step hr9 (by (try simp only); omega)
            exact (Loads.own1 ho4 (by kernel_rfl) (by rfl))
          refine VT_pures 2 (kn' := [(7, .int .i64 (IntKind.wrap .i64 ((((takeF (gwalk (newG wait) q k) ((q k).t) (q k).ps ((q k).last)).bs.length : Nat) : Int).tdiv 48))), (6, .int .i64 (((takeF (gwalk (newG wait) q k) ((q k).t) (q k).ps ((q k).last)).bs.length : Nat) : Int)), (5, .slice A4 ((takeF (gwalk (newG wait) q k) ((q k).t) (q k).ps ((q k).last)).bs.length) c4), (4, .pointer (some ⟨gp2, 3, none⟩)), (3, .pointer (some ⟨gp2, 0, none⟩)), (2, .pointer (some ⟨gp2, 0, none⟩)), (0, .pointer (some ⟨gp1, 0, none⟩))]) (by kernel_rfl) ?_
          refine VT_chain (by kernel_rfl) ?_
          intro w34 hs12
          have hzhs12 := hs12.size
          replace hS := Step.trans hS hs12
          replace ho2 := ho2.no hs12
          replace hg6 := GaOf.no hg6 hs12
          replace hxhr5 := hxhr5.no hs12
          replace hxhr8 := hxhr8.no hs12
          replace ho4 := ho4.no hs12
          replace hv2 := hv2.no hs12
          have hzs18 := hS.size
          have hzl40 := ho2.lt
          have hzl41 := GaOf.lt hg6
          have hzl42 := ho4.lt
          refine VTc_call (d := 92) (f := 18) (by kernel_rfl) (by kernel_rfl) (by kernel_rfl) Try.call18 (parts_any gp1 (takeF (gwalk (newG wait) q k) ((q k).t) ((q k).ps) ((q k).last)) (fun _ => True) _ hg6 (by have h9 := (hgihg6).len_le; omega)) ?_ ?_
          · rintro _ w35 ⟨rfl, hc15⟩
            exact Step.mono hc15 (by intro i hi; first | exact hi.elim | ((try simp only at hi ⊢); omega))
          rintro _ w35 ⟨rfl, hc15⟩
          have hzhc15 := (hc15).size
          replace hS := Step.trans hS hc15
          replace ho2 := ho2.no hc15
          replace hg6 := GaOf.no hg6 hc15
          replace hxhr5 := hxhr5.no hc15
          replace hxhr8 := hxhr8.no hc15
          replace ho4 := ho4.no hc15
          replace hv2 := hv2.no hc15
          refine VT_pures 2 (kn' := [(9, .bool (((((takeF (gwalk (newG wait) q k) ((q k).t) ((q k).ps) ((q k).last))).bs.length / 48 : Nat) : Int) != (IntKind.wrap .i64 ((((takeF (gwalk (newG wait) q k) ((q k).t) (q k).ps ((q k).last)).bs.length : Nat) : Int).tdiv 48)))), (8, .bool (((((takeF (gwalk (newG wait) q k) ((q k).t) ((q k).ps) ((q k).last))).bs.length / 48 : Nat) : Int) != (IntKind.wrap .i64 ((((takeF (gwalk (newG wait) q k) ((q k).t) (q k).ps ((q k).last)).bs.length : Nat) : Int).tdiv 48)))), (1, .int .i64 ((((takeF (gwalk (newG wait) q k) ((q k).t) ((q k).ps) ((q k).last))).bs.length / 48 : Nat) : Int)), (7, .int .i64 (IntKind.wrap .i64 ((((takeF (gwalk (newG wait) q k) ((q k).t) (q k).ps ((q k).last)).bs.length : Nat) : Int).tdiv 48))), (6, .int .i64 (((takeF (gwalk (newG wait) q k) ((q k).t) (q k).ps ((q k).last)).bs.length : Nat) : Int)), (5, .slice A4 ((takeF (gwalk (newG wait) q k) ((q k).t) (q k).ps ((q k).last)).bs.length) c4), (4, .pointer (some ⟨gp2, 3, none⟩)), (3, .pointer (some ⟨gp2, 0, none⟩)), (2, .pointer (some ⟨gp2, 0, none⟩)), (0, .pointer (some ⟨gp1, 0, none⟩))]) (by kernel_rfl) ?_
          have hg8 : (((((takeF (gwalk (newG wait) q k) ((q k).t) ((q k).ps) ((q k).last))).bs.length / 48 : Nat) : Int) != (IntKind.wrap .i64 ((((takeF (gwalk (newG wait) q k) ((q k).t) (q k).ps ((q k).last)).bs.length : Nat) : Int).tdiv 48))) = false := (parts_ne hgihg6)
          refine VT_eq [(9, .bool false), (8, .bool false), (1, .int .i64 ((((takeF (gwalk (newG wait) q k) ((q k).t) ((q k).ps) ((q k).last))).bs.length / 48 : Nat) : Int)), (7, .int .i64 (IntKind.wrap .i64 ((((takeF (gwalk (newG wait) q k) ((q k).t) (q k).ps ((q k).last)).bs.length : Nat) : Int).tdiv 48))), (6, .int .i64 (((takeF (gwalk (newG wait) q k) ((q k).t) (q k).ps ((q k).last)).bs.length : Nat) : Int)), (5, .slice A4 ((takeF (gwalk (newG wait) q k) ((q k).t) (q k).ps ((q k).last)).bs.length) c4), (4, .pointer (some ⟨gp2, 3, none⟩)), (3, .pointer (some ⟨gp2, 0, none⟩)), (2, .pointer (some ⟨gp2, 0, none⟩)), (0, .pointer (some ⟨gp1, 0, none⟩))] (by simp only [hg8, Bool.not_true, Bool.not_false]) ?_
          refine VT_pures 4 (kn' := [(14, .pointer (some ⟨gp2, 2, none⟩)), (13, .pointer (some ⟨gp2, 0, none⟩)), (12, .pointer (some ⟨gp2, 0, none⟩)), (10, .pointer (some ⟨gp1, 0, none⟩)), (9, .bool false), (8, .bool false), (1, .int .i64 ((((takeF (gwalk (newG wait) q k) ((q k).t) ((q k).ps) ((q k).last))).bs.length / 48 : Nat) : Int)), (7, .int .i64 (IntKind.wrap .i64 ((((takeF (gwalk (newG wait) q k) ((q k).t) (q k).ps ((q k).last)).bs.length : Nat) : Int).tdiv 48))), (6, .int .i64 (((takeF (gwalk (newG wait) q k) ((q k).t) (q k).ps ((q k).last)).bs.length : Nat) : Int)), (5, .slice A4 ((takeF (gwalk (newG wait) q k) ((q k).t) (q k).ps ((q k).last)).bs.length) c4), (4, .pointer (some ⟨gp2, 3, none⟩)), (3, .pointer (some ⟨gp2, 0, none⟩)), (2, .pointer (some ⟨gp2, 0, none⟩)), (0, .pointer (some ⟨gp1, 0, none⟩))]) (by kernel_rfl) ?_
          refine VT_load (d := 106) (t := 3) (a := ⟨gp2, 2, none⟩) (v := .int .i64 ((takeF (gwalk (newG wait) q k) ((q k).t) (q k).ps ((q k).last)).lost)) (by kernel_rfl) (by kernel_rfl) ?_ ?_
          · intro w36 hr10
            replace hS := Step.transNew hS hr10 (fun i hi hG => by (try simp only at hG); omega)
            replace ho2 := ho2.step hr10 (by (try simp only); omega)
            replace ho4 := ho4.step hr10 (by (try simp only); omega)
            exact (Loads.own1 ho4 (by kernel_rfl) (by rfl))
          refine VT_chain (by kernel_rfl) ?_
          intro w37 hs13
          have hzhs13 := hs13.size
          replace hS := Step.trans hS hs13
          replace ho2 := ho2.no hs13
          replace hg6 := GaOf.no hg6 hs13
          replace hxhr5 := hxhr5.no hs13
          replace hxhr8 := hxhr8.no hs13
          replace ho4 := ho4.no hs13
          replace hv2 := hv2.no hs13
          have hzs19 := hS.size
          have hzl43 := ho2.lt
          have hzl44 := GaOf.lt hg6
          have hzl45 := ho4.lt
          refine VTc_call (d := 102) (f := 19) (by kernel_rfl) (by kernel_rfl) (by kernel_rfl) Try.call19 (lost_any gp1 (takeF (gwalk (newG wait) q k) ((q k).t) ((q k).ps) ((q k).last)) (fun _ => True) _ hg6) ?_ ?_
          · rintro _ w38 ⟨rfl, hc16⟩
            exact Step.mono hc16 (by intro i hi; first | exact hi.elim | ((try simp only at hi ⊢); omega))
          rintro _ w38 ⟨rfl, hc16⟩
          have hzhc16 := (hc16).size
          replace hS := Step.trans hS hc16
          replace ho2 := ho2.no hc16
          replace hg6 := GaOf.no hg6 hc16
          replace hxhr5 := hxhr5.no hc16
          replace hxhr8 := hxhr8.no hc16
          replace ho4 := ho4.no hc16
          replace hv2 := hv2.no hc16
          refine VT_end ?_
          intro w39 hs14
          replace hS := Step.trans hS hs14
          replace ho2 := ho2.no hs14
          replace hg6 := GaOf.no hg6 hs14
          replace hxhr5 := hxhr5.no hs14
          replace hxhr8 := hxhr8.no hs14
          replace ho4 := ho4.no hs14
          replace hv2 := hv2.no hs14
          refine VL_keep [1, 5, 6, 30, 31, 100, 106, 102] [(1, .slice (some ⟨lb, lo, none⟩) n cc), (5, .pointer (some ⟨gp1, 0, none⟩)), (6, .pointer (some ⟨gp2, 0, none⟩)), (30, .int .i64 ((n : Nat) : Int)), (31, .int .i64 ((k : Nat) : Int)), (100, .bool false), (106, .int .i64 ((takeF (gwalk (newG wait) q k) ((q k).t) (q k).ps ((q k).last)).lost)), (102, .int .i64 (((takeF (gwalk (newG wait) q k) ((q k).t) ((q k).ps) ((q k).last))).lost))] (by kernel_rfl) ?_
          refine VL_pure 18 [1, 5, 6, 30, 31, 108] [(1, .slice (some ⟨lb, lo, none⟩) n cc), (5, .pointer (some ⟨gp1, 0, none⟩)), (6, .pointer (some ⟨gp2, 0, none⟩)), (30, .int .i64 ((n : Nat) : Int)), (31, .int .i64 ((k : Nat) : Int)), (108, .bool ((((takeF (gwalk (newG wait) q k) ((q k).t) ((q k).ps) ((q k).last))).lost) != ((takeF (gwalk (newG wait) q k) ((q k).t) (q k).ps ((q k).last)).lost)))] (by kernel_rfl) rfl ?_
          refine VL_end (by kernel_rfl) ?_
          refine VQ_next ?_
          refine VC_is (b := (((takeF (gwalk (newG wait) q k) ((q k).t) ((q k).ps) ((q k).last))).lost) != ((takeF (gwalk (newG wait) q k) ((q k).t) (q k).ps ((q k).last)).lost)) false (by kernel_rfl) (by simp) ?_
          refine VC_ite_false ?_
          refine VC_skip ?_
          refine VQ_block_normal ?_
          refine VQ_next ?_
          refine VC_region ?_
          refine VL_pure 1 [1, 5, 6, 30, 109] [(1, .slice (some ⟨lb, lo, none⟩) n cc), (5, .pointer (some ⟨gp1, 0, none⟩)), (6, .pointer (some ⟨gp2, 0, none⟩)), (30, .int .i64 ((n : Nat) : Int)), (109, .int .i64 (IntKind.wrap .i64 (((k : Nat) : Int) + 1)))] (by kernel_rfl) rfl ?_
          have he2 : IntKind.wrap .i64 (((k : Nat) : Int) + 1) = ((k + 1 : Nat) : Int) := (by rw [wrap_i64 _ (by omega) (by omega)]; omega)
          refine VL_eq [(1, .slice (some ⟨lb, lo, none⟩) n cc), (5, .pointer (some ⟨gp1, 0, none⟩)), (6, .pointer (some ⟨gp2, 0, none⟩)), (30, .int .i64 ((n : Nat) : Int)), (109, .int .i64 ((k + 1 : Nat) : Int))] (by rw [he2]) ?_
          refine VL_pure 2 [1, 5, 6, 30, 31] [(1, .slice (some ⟨lb, lo, none⟩) n cc), (5, .pointer (some ⟨gp1, 0, none⟩)), (6, .pointer (some ⟨gp2, 0, none⟩)), (30, .int .i64 ((n : Nat) : Int)), (31, .int .i64 ((k + 1 : Nat) : Int))] (by kernel_rfl) rfl ?_
          refine VL_end (by kernel_rfl) ?_
          refine VQ_again (k + 1) ⟨rfl, rfl, rfl, rfl, rfl, trivial⟩ ?_ ?_
          · exact ⟨(by omega), (GaI.mono (hI.step (hq k) hT.1 hT.2) (by omega)), hS, (GaOf.cast hg6 (by first | exact stepG_tick (by assumption) | exact stepG_take (by assumption))), (GaOf.cast ⟨_, _, ho4, hv2, ‹_›⟩ (by first | exact stepG_tick (by assumption) | exact stepG_take (by assumption)))⟩
          · (try dsimp only); omega
    · refine VC_exit ?_
      refine VQ_then_exit ?_
      refine VQ_then_exit ?_
      refine VQ_block_hit ?_
      refine VQ_next ?_
      refine VC_seq ?_
      refine VC_region ?_
      refine VL_pure 1 [4] [(4, .bool true)] (by kernel_rfl) rfl ?_
      refine VL_end (by kernel_rfl) ?_
      refine VQ_next ?_
      refine VC_ret ?_
      refine VQ_ret1 (.bool true) (.inr rfl) rfl rfl ?_
      exact ⟨by first | rfl | simp [*], hS⟩

end Go.Proofs.Ytgiefcolkohgkaa
