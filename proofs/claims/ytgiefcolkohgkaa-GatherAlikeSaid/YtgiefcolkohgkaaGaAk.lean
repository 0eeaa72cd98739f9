/- Layer 11: GatherAlike. -/
import Derived.Test.YtgiefcolkohgkaaProg
import Derived.Test.YtgiefcolkohgkaaGa4
set_option linter.unusedVariables false
set_option linter.unusedSimpArgs false
namespace Go.Proofs.Ytgiefcolkohgkaa
open Go.Vc Go.RowKit

set_option maxRecDepth 100000 in
set_option maxHeartbeats 4000000 in
theorem alike_law (m d : Nat) (hm : m < 65536) (hd : d < 4294967296) (A : Option Addr) (n cc : Nat) (q : Nat → Pa) (w : World) (hA : PasAt w A n q) :
    CV Try.prog 4 #[.int .u16 ((m : Nat) : Int), .slice A n cc, .int .u32 ((d : Nat) : Int)] w (fun x w1 => x = .bool true ∧ Step No w w1) := by
  have hS : Step No w w := Step.refl _ _
  obtain ⟨hq, hA2⟩ := hA
  refine CV_enter Try.f4 _ 118 [(0, .int .u16 ((m : Nat) : Int)), (1, .slice A n cc), (2, .int .u32 ((d : Nat) : Int))] Try.func4 rfl rfl (by kernel_rfl) rfl ?_
  refine VC_seq ?_
  refine VC_region ?_
  refine VL_pure 1 [0, 1, 2] [(0, .int .u16 ((m : Nat) : Int)), (1, .slice A n cc), (2, .int .u32 ((d : Nat) : Int))] (by kernel_rfl) rfl ?_
  refine VL_end (by kernel_rfl) ?_
  refine VQ_next ?_
  refine VC_seq ?_
  refine VC_seq ?_
  refine VC_region ?_
  have hzs1 := hS.size
  refine VL_call (d := 17) (f := 9) (args := #[]) (by kernel_rfl) (by kernel_rfl) (by kernel_rfl) Try.call9 (awake_any _) ?_
  rintro _ w1 ⟨rfl, hc1⟩
  replace hS := Step.trans hS hc1
  refine VL_pure 7 [0, 1, 2, 23] [(0, .int .u16 ((m : Nat) : Int)), (1, .slice A n cc), (2, .int .u32 ((d : Nat) : Int)), (23, .bool (decide (((n : Nat) : Int) > 80)))] (by kernel_rfl) rfl ?_
  refine VL_end (by kernel_rfl) ?_
  refine VQ_next ?_
  refine VC_dec (((n : Nat) : Int) > 80) (by kernel_rfl) (fun h1 => ?_) (fun h1 => ?_)
  · refine VC_seq ?_
    refine VC_region ?_
    have hzs2 := hS.size
    refine VL_call (d := 24) (f := 9) (args := #[]) (by kernel_rfl) (by kernel_rfl) (by kernel_rfl) Try.call9 (awake_any _) ?_
    rintro _ w2 ⟨rfl, hc2⟩
    replace hS := Step.trans hS hc2
    refine VL_pure 2 [6] [(6, .bool true)] (by kernel_rfl) rfl ?_
    refine VL_end (by kernel_rfl) ?_
    refine VQ_next ?_
    refine VC_ret ?_
    refine VQ_then_ret ?_
    refine VQ_ret1 (.bool true) (.inr rfl) rfl rfl ?_
    exact ⟨by first | rfl | (rw [(ShG.walk ((m + 1 : Nat) : Int) q ((d : Nat) : Int) _).lost]; simp; done) | simp [*], hS⟩
  · refine VC_skip ?_
    refine VQ_next ?_
    refine VC_seq ?_
    refine VC_region ?_
    refine VL_pure 2 [0, 1, 2, 26] [(0, .int .u16 ((m : Nat) : Int)), (1, .slice A n cc), (2, .int .u32 ((d : Nat) : Int)), (26, .int .i64 (IntKind.wrap .i64 ((m : Nat) : Int)))] (by kernel_rfl) rfl ?_
    have he1 : IntKind.wrap .i64 ((m : Nat) : Int) = ((m : Nat) : Int) := (by rw [wrap_i64 _ (by omega) (by omega)])
    refine VL_eq [(0, .int .u16 ((m : Nat) : Int)), (1, .slice A n cc), (2, .int .u32 ((d : Nat) : Int)), (26, .int .i64 ((m : Nat) : Int))] (by rw [he1]) ?_
    refine VL_pure 3 [0, 1, 2, 27] [(0, .int .u16 ((m : Nat) : Int)), (1, .slice A n cc), (2, .int .u32 ((d : Nat) : Int)), (27, .int .i64 (IntKind.wrap .i64 (1 + ((m : Nat) : Int))))] (by kernel_rfl) rfl ?_
    have he2 : IntKind.wrap .i64 (1 + ((m : Nat) : Int)) = ((m + 1 : Nat) : Int) := (by rw [wrap_i64 _ (by omega) (by omega)]; omega)
    refine VL_eq [(0, .int .u16 ((m : Nat) : Int)), (1, .slice A n cc), (2, .int .u32 ((d : Nat) : Int)), (27, .int .i64 ((m + 1 : Nat) : Int))] (by rw [he2]) ?_
    have hzs3 := hS.size
    refine VL_call (d := 28) (f := 10) (by kernel_rfl) (by kernel_rfl) (by kernel_rfl) Try.call10 (gnew_any ((m + 1 : Nat) : Int) _) ?_
    rintro _ w3 ⟨gp1, rfl, hfgp1, hg1, hc3⟩
    replace hS := Step.trans hS hc3
    have hltgp1 := GaOf.lt hg1
    have hgigp1 : GaI (newG ((m + 1 : Nat) : Int)) 0 := GaI.new _
    have hzzgp1 := hc3.size
    refine VL_pure 6 [1, 2, 28, 30] [(1, .slice A n cc), (2, .int .u32 ((d : Nat) : Int)), (28, .pointer (some ⟨gp1, 0, none⟩)), (30, .int .i64 (IntKind.wrap .i64 ((m : Nat) : Int)))] (by kernel_rfl) rfl ?_
    have he3 : IntKind.wrap .i64 ((m : Nat) : Int) = ((m : Nat) : Int) := (by rw [wrap_i64 _ (by omega) (by omega)])
    refine VL_eq [(1, .slice A n cc), (2, .int .u32 ((d : Nat) : Int)), (28, .pointer (some ⟨gp1, 0, none⟩)), (30, .int .i64 ((m : Nat) : Int))] (by rw [he3]) ?_
    refine VL_pure 7 [1, 2, 28, 31] [(1, .slice A n cc), (2, .int .u32 ((d : Nat) : Int)), (28, .pointer (some ⟨gp1, 0, none⟩)), (31, .int .i64 (IntKind.wrap .i64 (1 + ((m : Nat) : Int))))] (by kernel_rfl) rfl ?_
    have he4 : IntKind.wrap .i64 (1 + ((m : Nat) : Int)) = ((m + 1 : Nat) : Int) := (by rw [wrap_i64 _ (by omega) (by omega)]; omega)
    refine VL_eq [(1, .slice A n cc), (2, .int .u32 ((d : Nat) : Int)), (28, .pointer (some ⟨gp1, 0, none⟩)), (31, .int .i64 ((m + 1 : Nat) : Int))] (by rw [he4]) ?_
    have hzs4 := hS.size
    have hzl1 := GaOf.lt hg1
    refine VL_call (d := 32) (f := 10) (by kernel_rfl) (by kernel_rfl) (by kernel_rfl) Try.call10 (gnew_any ((m + 1 : Nat) : Int) _) ?_
    rintro _ w4 ⟨gp2, rfl, hfgp2, hg2, hc4⟩
    replace hS := Step.trans hS hc4
    replace hg1 := GaOf.no hg1 hc4
    have hltgp2 := GaOf.lt hg2
    have hgigp2 : GaI (newG ((m + 1 : Nat) : Int)) 0 := GaI.new _
    have hzzgp2 := hc4.size
    refine VL_pure 10 [1, 2, 7, 8] [(1, .slice A n cc), (2, .int .u32 ((d : Nat) : Int)), (7, .pointer (some ⟨gp1, 0, none⟩)), (8, .pointer (some ⟨gp2, 0, none⟩))] (by kernel_rfl) rfl ?_
    refine VL_end (by kernel_rfl) ?_
    refine VQ_next ?_
    refine VC_seq ?_
    refine VC_seq ?_
    refine VC_region ?_
    refine VL_pure 3 [1, 2, 7, 8, 34, 35] [(1, .slice A n cc), (2, .int .u32 ((d : Nat) : Int)), (7, .pointer (some ⟨gp1, 0, none⟩)), (8, .pointer (some ⟨gp2, 0, none⟩)), (34, .int .i64 ((n : Nat) : Int)), (35, .int .i64 0)] (by kernel_rfl) rfl ?_
    refine VL_end (by kernel_rfl) ?_
    refine VQ_next ?_
    refine VC_block ?_
    refine VC_loop (σ := Nat) (fun σs => [(1, .slice A n cc), (2, .int .u32 ((d : Nat) : Int)), (7, .pointer (some ⟨gp1, 0, none⟩)), (8, .pointer (some ⟨gp2, 0, none⟩)), (34, .int .i64 ((n : Nat) : Int)), (35, .int .i64 ((σs : Nat) : Int))]) (fun σs w5 => (σs ≤ n) ∧ (GaI (gwalk (newG ((m + 1 : Nat) : Int)) q σs) (3 * σs)) ∧ (GaI (gwalk (newG ((m + 1 : Nat) : Int)) (shq q ((d : Nat) : Int)) σs) (3 * σs)) ∧ (Step No w w5) ∧ (GaOf w5 58 gp1 (fun _ => True) (gwalk (newG ((m + 1 : Nat) : Int)) q σs)) ∧ (GaOf w5 58 gp2 (fun _ => True) (gwalk (newG ((m + 1 : Nat) : Int)) (shq q ((d : Nat) : Int)) σs))) (fun σs w5 => n - σs) 0 ⟨rfl, rfl, rfl, rfl, rfl, rfl, trivial⟩ ?_ ?_
    · exact ⟨Nat.zero_le _, hgigp1, hgigp2, hS, hg1, hg2⟩
    rintro k w5 ⟨hkn, hI, hJ, hS, hga, hgb⟩
    try dsimp only at hkn hI hJ hS hga hgb ⊢
    refine VC_seq ?_
    refine VC_region ?_
    refine VL_pure 1 [1, 2, 7, 8, 34, 35, 36] [(1, .slice A n cc), (2, .int .u32 ((d : Nat) : Int)), (7, .pointer (some ⟨gp1, 0, none⟩)), (8, .pointer (some ⟨gp2, 0, none⟩)), (34, .int .i64 ((n : Nat) : Int)), (35, .int .i64 ((k : Nat) : Int)), (36, .bool (decide (((k : Nat) : Int) < ((n : Nat) : Int))))] (by kernel_rfl) rfl ?_
    refine VL_end (by kernel_rfl) ?_
    refine VQ_next ?_
    refine VC_seq ?_
    refine VC_dec (((k : Nat) : Int) < ((n : Nat) : Int)) (by kernel_rfl) (fun h2 => ?_) (fun h2 => ?_)
    · refine VC_skip ?_
      refine VQ_next ?_
      refine VC_seq ?_
      refine VC_block ?_
      refine VC_seq ?_
      refine VC_region ?_
      refine VL_pure 2 [1, 2, 7, 8, 34, 35, 9] [(1, .slice A n cc), (2, .int .u32 ((d : Nat) : Int)), (7, .pointer (some ⟨gp1, 0, none⟩)), (8, .pointer (some ⟨gp2, 0, none⟩)), (34, .int .i64 ((n : Nat) : Int)), (35, .int .i64 ((k : Nat) : Int)), (9, .int .i64 ((k : Nat) : Int))] (by kernel_rfl) rfl ?_
      refine VL_end (by kernel_rfl) ?_
      refine VQ_next ?_
      refine VC_seq ?_
      have hk : k < n := by omega
      obtain ⟨lb, lo, rfl, hlb, hL⟩ := hA2 (by omega)
      refine VC_region ?_
      refine VL_pure 2 [1, 2, 7, 8, 34, 35, 38, 39] [(1, .slice (some ⟨lb, lo, none⟩) n cc), (2, .int .u32 ((d : Nat) : Int)), (7, .pointer (some ⟨gp1, 0, none⟩)), (8, .pointer (some ⟨gp2, 0, none⟩)), (34, .int .i64 ((n : Nat) : Int)), (35, .int .i64 ((k : Nat) : Int)), (38, .slice (some ⟨lb, lo, none⟩) n cc), (39, .int .i64 ((k : Nat) : Int))] (by kernel_rfl) rfl ?_
      refine VL_index (d := 40) (b := lb) (o := lo) (len := n) (sz := 51) (m := ((k : Nat) : Int)) (by kernel_rfl) (by kernel_rfl) k (by rfl) (by omega) (lo + k * 51) (by omega) ?_
      refine VL_load (d := 41) (t := 30) (a := ⟨lb, lo + k * 51, none⟩) (v := .agg (paC (q k))) (by kernel_rfl) (by kernel_rfl) (hL.ld hq hS (by kernel_rfl) k hk) ?_
      have hzs5 := hS.size
      have hzl2 := GaOf.lt hga
      have hzl3 := GaOf.lt hgb
      refine VL_box (d := 10) (t := 30) (c := (paC pa0)) (by kernel_rfl) (by kernel_rfl) ?_
      intro b1 w6 hn1
      replace hS := Step.trans hS (hn1.step No)
      replace hga := GaOf.no hga (hn1.step No)
      replace hgb := GaOf.no hgb (hn1.step No)
      have ho1 := hn1.own
      have hzhn1 := hn1.size
      have hqhn1 := hn1.eqb
      refine VL_storeW (b := b1) (sz := 51) (cs := paC (q k)) (by kernel_rfl) (by kernel_rfl) pa_one (paC_size (hq k)) ho1 (paC_size pa0_I) ?_
      intro w7 hw1
      replace hS := Step.transNew hS hw1.step (fun _ _ _ => by omega)
      replace hga := GaOf.keep hga ho1 (by decide) (by omega) hw1.step
      replace hgb := GaOf.keep hgb ho1 (by decide) (by omega) hw1.step
      have ho2 : Own w7 b1 (paC (q k)) 30 := hw1.own
      have hzhw1 := hw1.same
      refine VL_end (by kernel_rfl) ?_
      refine VQ_next ?_
      refine VC_seq ?_
      refine VC_seq ?_
      refine VC_region ?_
      refine VL_pure 1 [1, 2, 7, 8, 34, 35, 10, 42] [(1, .slice (some ⟨lb, lo, none⟩) n cc), (2, .int .u32 ((d : Nat) : Int)), (7, .pointer (some ⟨gp1, 0, none⟩)), (8, .pointer (some ⟨gp2, 0, none⟩)), (34, .int .i64 ((n : Nat) : Int)), (35, .int .i64 ((k : Nat) : Int)), (10, .pointer (some ⟨b1, 0, none⟩)), (42, .pointer (some ⟨b1, 0, none⟩))] (by kernel_rfl) rfl ?_
      refine VL_load (d := 43) (t := 3) (a := ⟨b1, 0, none⟩) (v := .int .i64 ((q k).t)) (by kernel_rfl) (by kernel_rfl) (pa_t ho2 (by kernel_rfl)) ?_
      refine VL_pure 4 [1, 2, 7, 8, 34, 35, 10, 45] [(1, .slice (some ⟨lb, lo, none⟩) n cc), (2, .int .u32 ((d : Nat) : Int)), (7, .pointer (some ⟨gp1, 0, none⟩)), (8, .pointer (some ⟨gp2, 0, none⟩)), (34, .int .i64 ((n : Nat) : Int)), (35, .int .i64 ((k : Nat) : Int)), (10, .pointer (some ⟨b1, 0, none⟩)), (45, .bool (decide (((q k).t) < 0)))] (by kernel_rfl) rfl ?_
      refine VL_dec (((q k).t) < 0) (fun bV => [(1, .slice (some ⟨lb, lo, none⟩) n cc), (2, .int .u32 ((d : Nat) : Int)), (7, .pointer (some ⟨gp1, 0, none⟩)), (8, .pointer (some ⟨gp2, 0, none⟩)), (34, .int .i64 ((n : Nat) : Int)), (35, .int .i64 ((k : Nat) : Int)), (10, .pointer (some ⟨b1, 0, none⟩)), (45, .bool bV)]) rfl (fun hg3 => ?_) (fun hg3 => ?_)
      · refine VL_pure 8 [1, 2, 7, 8, 34, 35, 10, 49] [(1, .slice (some ⟨lb, lo, none⟩) n cc), (2, .int .u32 ((d : Nat) : Int)), (7, .pointer (some ⟨gp1, 0, none⟩)), (8, .pointer (some ⟨gp2, 0, none⟩)), (34, .int .i64 ((n : Nat) : Int)), (35, .int .i64 ((k : Nat) : Int)), (10, .pointer (some ⟨b1, 0, none⟩)), (49, .bool true)] (by kernel_rfl) rfl ?_
        refine VL_end (by kernel_rfl) ?_
        refine VQ_next ?_
        refine VC_true (by kernel_rfl) ?_
        refine VC_seq ?_
        refine VC_region ?_
        refine VL_pure 1 [6] [(6, .bool true)] (by kernel_rfl) rfl ?_
        refine VL_end (by kernel_rfl) ?_
        refine VQ_next ?_
        refine VC_ret ?_
        refine VQ_then_ret ?_
        refine VQ_block_ret ?_
        refine VQ_then_ret ?_
        refine VQ_then_ret ?_
        refine VQ_block_ret ?_
        refine VQ_then_ret ?_
        refine VQ_ret1 (.bool true) (.inr rfl) rfl rfl ?_
        exact ⟨by first | rfl | (rw [(ShG.walk ((m + 1 : Nat) : Int) q ((d : Nat) : Int) _).lost]; simp; done) | simp [*], hS⟩
      · refine VL_pure 5 [1, 2, 7, 8, 34, 35, 10, 45, 46] [(1, .slice (some ⟨lb, lo, none⟩) n cc), (2, .int .u32 ((d : Nat) : Int)), (7, .pointer (some ⟨gp1, 0, none⟩)), (8, .pointer (some ⟨gp2, 0, none⟩)), (34, .int .i64 ((n : Nat) : Int)), (35, .int .i64 ((k : Nat) : Int)), (10, .pointer (some ⟨b1, 0, none⟩)), (45, .bool false), (46, .pointer (some ⟨b1, 0, none⟩))] (by kernel_rfl) rfl ?_
        refine VL_load (d := 47) (t := 3) (a := ⟨b1, 0, none⟩) (v := .int .i64 ((q k).t)) (by kernel_rfl) (by kernel_rfl) (pa_t ho2 (by kernel_rfl)) ?_
        refine VL_pure 8 [1, 2, 7, 8, 34, 35, 10, 49] [(1, .slice (some ⟨lb, lo, none⟩) n cc), (2, .int .u32 ((d : Nat) : Int)), (7, .pointer (some ⟨gp1, 0, none⟩)), (8, .pointer (some ⟨gp2, 0, none⟩)), (34, .int .i64 ((n : Nat) : Int)), (35, .int .i64 ((k : Nat) : Int)), (10, .pointer (some ⟨b1, 0, none⟩)), (49, .bool (decide (((q k).t) > 1099511627776)))] (by kernel_rfl) rfl ?_
        refine VL_end (by kernel_rfl) ?_
        refine VQ_next ?_
        refine VC_dec (((q k).t) > 1099511627776) (by kernel_rfl) (fun h3 => ?_) (fun h3 => ?_)
        · refine VC_seq ?_
          refine VC_region ?_
          refine VL_pure 1 [6] [(6, .bool true)] (by kernel_rfl) rfl ?_
          refine VL_end (by kernel_rfl) ?_
          refine VQ_next ?_
          refine VC_ret ?_
          refine VQ_then_ret ?_
          refine VQ_block_ret ?_
          refine VQ_then_ret ?_
          refine VQ_then_ret ?_
          refine VQ_block_ret ?_
          refine VQ_then_ret ?_
          refine VQ_ret1 (.bool true) (.inr rfl) rfl rfl ?_
          exact ⟨by first | rfl | (rw [(ShG.walk ((m + 1 : Nat) : Int) q ((d : Nat) : Int) _).lost]; simp; done) | simp [*], hS⟩
        · refine VC_skip ?_
          refine VQ_next ?_
          refine VC_seq ?_
          refine VC_seq ?_
          refine VC_region ?_
          refine VL_pure 1 [1, 2, 7, 8, 34, 35, 10, 50] [(1, .slice (some ⟨lb, lo, none⟩) n cc), (2, .int .u32 ((d : Nat) : Int)), (7, .pointer (some ⟨gp1, 0, none⟩)), (8, .pointer (some ⟨gp2, 0, none⟩)), (34, .int .i64 ((n : Nat) : Int)), (35, .int .i64 ((k : Nat) : Int)), (10, .pointer (some ⟨b1, 0, none⟩)), (50, .pointer (some ⟨b1, 50, none⟩))] (by kernel_rfl) rfl ?_
          refine VL_load (d := 51) (t := 4) (a := ⟨b1, 50, none⟩) (v := .bool ((q k).tick)) (by kernel_rfl) (by kernel_rfl) (pa_tick ho2 (hq k) (by kernel_rfl)) ?_
          refine VL_end (by kernel_rfl) ?_
          refine VQ_next ?_
          refine VC_cond ((q k).tick) (by kernel_rfl) (fun h4 => ?_) (fun h4 => ?_)
          · try simp only [Bool.and_eq_true, Bool.or_eq_true, decide_eq_true_eq, Bool.not_eq_true', decide_eq_false_iff_not, Bool.and_eq_false_iff, Bool.or_eq_false_iff, beq_iff_eq, bne_iff_ne, beq_eq_false_iff_ne, bne_eq_false_iff_eq, Bool.not_eq_eq_eq_not, Bool.not_true, Bool.not_false] at h4
            refine VC_seq ?_
            refine VC_seq ?_
            have hs1 := drew_step w7
            have hs1z : w7.heap.size = w7.drew.heap.size := rfl
            refine VC_text [[], [], [1], [0, 1, 2], [], [], [5], [], [7], [5, 6, 7, 8], [0, 1, 2, 3, 4, 5, 6, 7, 8, 9], [0, 1, 2, 3, 4, 5, 6, 7, 8, 9, 10]] 10 (fun x y => Step (fun k => k = gp1 ∨ w7.heap.size ≤ k) x y) [3] [0, 1, 2, 4, 5, 6, 7, 8, 9, 3] (by kernel_rfl) (by kernel_rfl) (by kernel_rfl) (by kernel_rfl) (fun x => Step.refl _ x) (fun h k => Step.trans h k) Step.weak ?_
            have hzs6 := hS.size
            have hzl4 := GaOf.lt hga
            have hzl5 := GaOf.lt hgb
            have hzl6 := ho2.lt
            generalize w7.drew = w8 at hs1 hs1z ⊢
            replace hS := Step.trans hS hs1
            replace hga := GaOf.no hga hs1
            replace hgb := GaOf.no hgb hs1
            replace ho2 := ho2.no hs1
            refine VT_pures 2 (kn' := [(1, .pointer (some ⟨b1, 0, none⟩)), (0, .pointer (some ⟨gp1, 0, none⟩))]) (by kernel_rfl) ?_
            refine VT_load (d := 54) (t := 3) (a := ⟨b1, 0, none⟩) (v := .int .i64 ((q k).t)) (by kernel_rfl) (by kernel_rfl) ?_ ?_
            · intro w9 hr1
              replace hS := Step.transNew hS hr1 (fun i hi hG => by (try simp only at hG); omega)
              replace ho2 := ho2.step hr1 (by (try simp only); omega)
              exact (pa_t ho2 (by kernel_rfl))
            refine VT_pures 2 (kn' := [(5, .pointer (some ⟨b1, 0, none⟩)), (4, .pointer (some ⟨gp2, 0, none⟩)), (2, .int .i64 ((q k).t)), (1, .pointer (some ⟨b1, 0, none⟩)), (0, .pointer (some ⟨gp1, 0, none⟩))]) (by kernel_rfl) ?_
            refine VT_load (d := 58) (t := 3) (a := ⟨b1, 0, none⟩) (v := .int .i64 ((q k).t)) (by kernel_rfl) (by kernel_rfl) ?_ ?_
            · intro w10 hr2
              replace hS := Step.transNew hS hr2 (fun i hi hG => by (try simp only at hG); omega)
              replace ho2 := ho2.step hr2 (by (try simp only); omega)
              exact (pa_t ho2 (by kernel_rfl))
            refine VT_pures 3 (kn' := [(9, .int .i64 (IntKind.wrap .i64 (((q k).t) + (IntKind.wrap .i64 ((d : Nat) : Int))))), (8, .int .i64 (IntKind.wrap .i64 ((d : Nat) : Int))), (7, .int .u32 ((d : Nat) : Int)), (6, .int .i64 ((q k).t)), (5, .pointer (some ⟨b1, 0, none⟩)), (4, .pointer (some ⟨gp2, 0, none⟩)), (2, .int .i64 ((q k).t)), (1, .pointer (some ⟨b1, 0, none⟩)), (0, .pointer (some ⟨gp1, 0, none⟩))]) (by kernel_rfl) ?_
            refine VT_chain (by kernel_rfl) ?_
            intro w11 hs2
            have hzhs2 := hs2.size
            replace hS := Step.trans hS hs2
            replace hga := GaOf.no hga hs2
            replace hgb := GaOf.no hgb hs2
            replace ho2 := ho2.no hs2
            have hzs7 := hS.size
            have hzl7 := GaOf.lt hga
            have hzl8 := GaOf.lt hgb
            have hzl9 := ho2.lt
            refine VTc_call (d := 55) (f := 13) (by kernel_rfl) (by kernel_rfl) (by kernel_rfl) Try.call13 (tick_any gp1 (gwalk (newG ((m + 1 : Nat) : Int)) q k) (fun _ => True) _ (fun _ _ => trivial) hga _ hI (by omega) ((q k).t) (by omega) (by omega)) ?_ ?_
            · rintro _ w12 ⟨rfl, hg4, hc5⟩
              exact Step.mono hc5 (by intro i hi; first | exact hi.elim | ((try simp only at hi ⊢); omega))
            rintro _ w12 ⟨rfl, hg4, hc5⟩
            have hzhc5 := (hc5).size
            replace hS := Step.transNew hS hc5 (fun _ _ _ => by omega)
            replace hgb := GaOf.other hgb hga (by decide) (by omega) hc5
            replace ho2 := ho2.step hc5 (show ¬ b1 = gp1 by omega)
            have hlthg4 := GaOf.lt hg4
            have hgihg4 := (hI).tick ((q k).t)
            refine VT_end ?_
            intro w13 hs3
            replace hS := Step.trans hS hs3
            replace hgb := GaOf.no hgb hs3
            replace ho2 := ho2.no hs3
            replace hg4 := GaOf.no hg4 hs3
            refine VL_keep [1, 2, 7, 8, 34, 35, 56, 61, 55] [(1, .slice (some ⟨lb, lo, none⟩) n cc), (2, .int .u32 ((d : Nat) : Int)), (7, .pointer (some ⟨gp1, 0, none⟩)), (8, .pointer (some ⟨gp2, 0, none⟩)), (34, .int .i64 ((n : Nat) : Int)), (35, .int .i64 ((k : Nat) : Int)), (56, .pointer (some ⟨gp2, 0, none⟩)), (61, .int .i64 (IntKind.wrap .i64 (((q k).t) + (IntKind.wrap .i64 ((d : Nat) : Int))))), (55, .bool (tickB (gwalk (newG ((m + 1 : Nat) : Int)) q k) ((q k).t)))] (by kernel_rfl) ?_
            refine VL_keep [1, 2, 7, 8, 34, 35, 56, 61, 55] [(1, .slice (some ⟨lb, lo, none⟩) n cc), (2, .int .u32 ((d : Nat) : Int)), (7, .pointer (some ⟨gp1, 0, none⟩)), (8, .pointer (some ⟨gp2, 0, none⟩)), (34, .int .i64 ((n : Nat) : Int)), (35, .int .i64 ((k : Nat) : Int)), (56, .pointer (some ⟨gp2, 0, none⟩)), (61, .int .i64 (IntKind.wrap .i64 (((q k).t) + (IntKind.wrap .i64 ((d : Nat) : Int))))), (55, .bool (tickB (gwalk (newG ((m + 1 : Nat) : Int)) q k) ((q k).t)))] (by kernel_rfl) ?_
            refine VL_eq [(1, .slice (some ⟨lb, lo, none⟩) n cc), (2, .int .u32 ((d : Nat) : Int)), (7, .pointer (some ⟨gp1, 0, none⟩)), (8, .pointer (some ⟨gp2, 0, none⟩)), (34, .int .i64 ((n : Nat) : Int)), (35, .int .i64 ((k : Nat) : Int)), (56, .pointer (some ⟨gp2, 0, none⟩)), (61, .int .i64 ((q k).t + ((d : Nat) : Int))), (55, .bool (tickB (gwalk (newG ((m + 1 : Nat) : Int)) q k) ((q k).t)))] (by rw [wrap_i64 ((d : Nat) : Int) (by omega) (by omega), wrap_i64 _ (by omega) (by omega)]) ?_
            have hzs8 := hS.size
            have hzl10 := GaOf.lt hgb
            have hzl11 := ho2.lt
            have hzl12 := GaOf.lt hg4
            refine VL_call (d := 62) (f := 13) (by kernel_rfl) (by kernel_rfl) (by kernel_rfl) Try.call13 (tick_any gp2 (gwalk (newG ((m + 1 : Nat) : Int)) (shq q ((d : Nat) : Int)) k) (fun _ => True) _ (fun _ _ => trivial) hgb _ hJ (by omega) ((q k).t + ((d : Nat) : Int)) (by omega) (by omega)) ?_
            rintro _ w14 ⟨rfl, hg5, hc6⟩
            replace hS := Step.transNew hS hc6 (fun _ _ _ => by omega)
            replace ho2 := ho2.step hc6 (show ¬ b1 = gp2 by omega)
            replace hg4 := GaOf.other hg4 hgb (by decide) (by omega) hc6
            have hlthg5 := GaOf.lt hg5
            have hgihg5 := (hJ).tick ((q k).t + ((d : Nat) : Int))
            refine VL_pure 12 [1, 2, 7, 8, 34, 35, 63] [(1, .slice (some ⟨lb, lo, none⟩) n cc), (2, .int .u32 ((d : Nat) : Int)), (7, .pointer (some ⟨gp1, 0, none⟩)), (8, .pointer (some ⟨gp2, 0, none⟩)), (34, .int .i64 ((n : Nat) : Int)), (35, .int .i64 ((k : Nat) : Int)), (63, .bool (!((tickB (gwalk (newG ((m + 1 : Nat) : Int)) q k) ((q k).t)) == (tickB (gwalk (newG ((m + 1 : Nat) : Int)) (shq q ((d : Nat) : Int)) k) ((q k).t + ((d : Nat) : Int))))))] (by kernel_rfl) rfl ?_
            refine VL_end (by kernel_rfl) ?_
            refine VQ_next ?_
            refine VC_is (b := !((tickB (gwalk (newG ((m + 1 : Nat) : Int)) q k) ((q k).t)) == (tickB (gwalk (newG ((m + 1 : Nat) : Int)) (shq q ((d : Nat) : Int)) k) ((q k).t + ((d : Nat) : Int))))) false (by kernel_rfl) (by rw [ShG.tickB (ShG.walk ((m + 1 : Nat) : Int) q ((d : Nat) : Int) k)]; simp) ?_
            refine VC_ite_false ?_
            refine VC_skip ?_
            refine VQ_next ?_
            refine VC_exit ?_
            refine VQ_then_exit ?_
            refine VQ_block_hit ?_
            refine VQ_next ?_
            refine VC_region ?_
            refine VL_pure 1 [1, 2, 7, 8, 34, 105] [(1, .slice (some ⟨lb, lo, none⟩) n cc), (2, .int .u32 ((d : Nat) : Int)), (7, .pointer (some ⟨gp1, 0, none⟩)), (8, .pointer (some ⟨gp2, 0, none⟩)), (34, .int .i64 ((n : Nat) : Int)), (105, .int .i64 (IntKind.wrap .i64 (((k : Nat) : Int) + 1)))] (by kernel_rfl) rfl ?_
            have he5 : IntKind.wrap .i64 (((k : Nat) : Int) + 1) = ((k + 1 : Nat) : Int) := (by rw [wrap_i64 _ (by omega) (by omega)]; omega)
            refine VL_eq [(1, .slice (some ⟨lb, lo, none⟩) n cc), (2, .int .u32 ((d : Nat) : Int)), (7, .pointer (some ⟨gp1, 0, none⟩)), (8, .pointer (some ⟨gp2, 0, none⟩)), (34, .int .i64 ((n : Nat) : Int)), (105, .int .i64 ((k + 1 : Nat) : Int))] (by rw [he5]) ?_
            refine VL_pure 2 [1, 2, 7, 8, 34, 35] [(1, .slice (some ⟨lb, lo, none⟩) n cc), (2, .int .u32 ((d : Nat) : Int)), (7, .pointer (some ⟨gp1, 0, none⟩)), (8, .pointer (some ⟨gp2, 0, none⟩)), (34, .int .i64 ((n : Nat) : Int)), (35, .int .i64 ((k + 1 : Nat) : Int))] (by kernel_rfl) rfl ?_
            refine VL_end (by kernel_rfl) ?_
            refine VQ_again (k + 1) ⟨rfl, rfl, rfl, rfl, rfl, rfl, trivial⟩ ?_ ?_
            · exact ⟨(by omega), (GaI.mono (GaI.step (x := (q k)) hI (hq k) (by (try simp only [shq]); omega) (by (try simp only [shq]); omega)) (by omega)), (GaI.mono (GaI.step (x := (shq q ((d : Nat) : Int) k)) hJ (hq k) (by (try simp only [shq]); omega) (by (try simp only [shq]); omega)) (by omega)), hS, (GaOf.cast hg4 (by first | exact stepG_tick (x := (q k)) (show (q k).tick = true by assumption) | exact stepG_take (x := (q k)) (show (q k).tick = false by assumption))), (GaOf.cast hg5 (by first | exact stepG_tick (x := (shq q ((d : Nat) : Int) k)) (show (q k).tick = true by assumption) | exact stepG_take (x := (shq q ((d : Nat) : Int) k)) (show (q k).tick = false by assumption)))⟩
            · (try dsimp only); omega
          · try simp only [Bool.and_eq_true, Bool.or_eq_true, decide_eq_true_eq, Bool.not_eq_true', decide_eq_false_iff_not, Bool.and_eq_false_iff, Bool.or_eq_false_iff, beq_iff_eq, bne_iff_ne, beq_eq_false_iff_ne, bne_eq_false_iff_eq, Bool.not_eq_eq_eq_not, Bool.not_true, Bool.not_false] at h4
            refine VC_skip ?_
            refine VQ_next ?_
            refine VC_seq ?_
            refine VC_region ?_
            refine VL_pure 2 [1, 2, 7, 8, 34, 35, 10, 65, 66] [(1, .slice (some ⟨lb, lo, none⟩) n cc), (2, .int .u32 ((d : Nat) : Int)), (7, .pointer (some ⟨gp1, 0, none⟩)), (8, .pointer (some ⟨gp2, 0, none⟩)), (34, .int .i64 ((n : Nat) : Int)), (35, .int .i64 ((k : Nat) : Int)), (10, .pointer (some ⟨b1, 0, none⟩)), (65, .pointer (some ⟨gp1, 0, none⟩)), (66, .pointer (some ⟨b1, 0, none⟩))] (by kernel_rfl) rfl ?_
            refine VL_load (d := 67) (t := 3) (a := ⟨b1, 0, none⟩) (v := .int .i64 ((q k).t)) (by kernel_rfl) (by kernel_rfl) (pa_t ho2 (by kernel_rfl)) ?_
            refine VL_pure 4 [1, 2, 7, 8, 34, 35, 10, 65, 67, 68] [(1, .slice (some ⟨lb, lo, none⟩) n cc), (2, .int .u32 ((d : Nat) : Int)), (7, .pointer (some ⟨gp1, 0, none⟩)), (8, .pointer (some ⟨gp2, 0, none⟩)), (34, .int .i64 ((n : Nat) : Int)), (35, .int .i64 ((k : Nat) : Int)), (10, .pointer (some ⟨b1, 0, none⟩)), (65, .pointer (some ⟨gp1, 0, none⟩)), (67, .int .i64 ((q k).t)), (68, .pointer (some ⟨b1, 1, none⟩))] (by kernel_rfl) rfl ?_
            refine VL_load (d := 69) (t := 28) (a := ⟨b1, 1, none⟩) (v := .agg (iA .u8 ((q k).ps))) (by kernel_rfl) (by kernel_rfl) (pa_ps ho2 (hq k) (by kernel_rfl)) ?_
            refine VL_pure 6 [1, 2, 7, 8, 34, 35, 10, 65, 67, 69, 70] [(1, .slice (some ⟨lb, lo, none⟩) n cc), (2, .int .u32 ((d : Nat) : Int)), (7, .pointer (some ⟨gp1, 0, none⟩)), (8, .pointer (some ⟨gp2, 0, none⟩)), (34, .int .i64 ((n : Nat) : Int)), (35, .int .i64 ((k : Nat) : Int)), (10, .pointer (some ⟨b1, 0, none⟩)), (65, .pointer (some ⟨gp1, 0, none⟩)), (67, .int .i64 ((q k).t)), (69, .agg (iA .u8 ((q k).ps))), (70, .pointer (some ⟨b1, 49, none⟩))] (by kernel_rfl) rfl ?_
            refine VL_load (d := 71) (t := 4) (a := ⟨b1, 49, none⟩) (v := .bool ((q k).last)) (by kernel_rfl) (by kernel_rfl) (pa_last ho2 (hq k) (by kernel_rfl)) ?_
            have hzs9 := hS.size
            have hzl13 := GaOf.lt hga
            have hzl14 := GaOf.lt hgb
            have hzl15 := ho2.lt
            refine VL_call (d := 72) (f := 15) (by kernel_rfl) (by kernel_rfl) (by kernel_rfl) Try.call15 (take_any gp1 (gwalk (newG ((m + 1 : Nat) : Int)) q k) (fun _ => True) _ (fun _ _ => trivial) hga _ hI (by omega) ((q k).t) (by omega) (by omega) ((q k).ps) (hq k).1 (hq k).2 ((q k).last)) ?_
            rintro _ w15 ⟨A1, c1, rfl, hr3, hg6, hc7⟩
            replace hS := Step.transNew hS hc7 (fun _ _ _ => by omega)
            replace hgb := GaOf.other hgb hga (by decide) (by omega) hc7
            replace ho2 := ho2.step hc7 (show ¬ b1 = gp1 by omega)
            have hxhr3 := SlX.of_rw (X := fun _ => True) hr3 (fun _ _ => trivial)
            have hlthg6 := GaOf.lt hg6
            have hgihg6 := GaI.take (t := ((q k).t)) (p := ((q k).ps)) hI ((q k).last) (by omega) (by omega) (hq k).1 (hq k).2
            have htlhg6 := takeT_le hI ((q k).t) ((q k).ps) ((q k).last) (hq k).1
            refine VL_pure 15 [1, 2, 7, 8, 34, 35, 10, 11, 12, 13] [(1, .slice (some ⟨lb, lo, none⟩) n cc), (2, .int .u32 ((d : Nat) : Int)), (7, .pointer (some ⟨gp1, 0, none⟩)), (8, .pointer (some ⟨gp2, 0, none⟩)), (34, .int .i64 ((n : Nat) : Int)), (35, .int .i64 ((k : Nat) : Int)), (10, .pointer (some ⟨b1, 0, none⟩)), (11, .slice A1 ((takeT (gwalk (newG ((m + 1 : Nat) : Int)) q k) ((q k).t) ((q k).ps) ((q k).last)).length) c1), (12, .int .u8 (takeM (gwalk (newG ((m + 1 : Nat) : Int)) q k) ((q k).t) ((q k).ps) ((q k).last))), (13, .int .i64 (takeE (gwalk (newG ((m + 1 : Nat) : Int)) q k) ((q k).t) ((q k).ps) ((q k).last)))] (by kernel_rfl) rfl ?_
            refine VL_end (by kernel_rfl) ?_
            refine VQ_next ?_
            refine VC_seq ?_
            refine VC_region ?_
            refine VL_pure 2 [1, 2, 7, 8, 34, 35, 10, 11, 12, 13, 77, 78] [(1, .slice (some ⟨lb, lo, none⟩) n cc), (2, .int .u32 ((d : Nat) : Int)), (7, .pointer (some ⟨gp1, 0, none⟩)), (8, .pointer (some ⟨gp2, 0, none⟩)), (34, .int .i64 ((n : Nat) : Int)), (35, .int .i64 ((k : Nat) : Int)), (10, .pointer (some ⟨b1, 0, none⟩)), (11, .slice A1 ((takeT (gwalk (newG ((m + 1 : Nat) : Int)) q k) ((q k).t) ((q k).ps) ((q k).last)).length) c1), (12, .int .u8 (takeM (gwalk (newG ((m + 1 : Nat) : Int)) q k) ((q k).t) ((q k).ps) ((q k).last))), (13, .int .i64 (takeE (gwalk (newG ((m + 1 : Nat) : Int)) q k) ((q k).t) ((q k).ps) ((q k).last))), (77, .pointer (some ⟨gp2, 0, none⟩)), (78, .pointer (some ⟨b1, 0, none⟩))] (by kernel_rfl) rfl ?_
            refine VL_load (d := 79) (t := 3) (a := ⟨b1, 0, none⟩) (v := .int .i64 ((q k).t)) (by kernel_rfl) (by kernel_rfl) (pa_t ho2 (by kernel_rfl)) ?_
            refine VL_pure 5 [1, 2, 7, 8, 34, 35, 10, 11, 12, 13, 77, 79, 81] [(1, .slice (some ⟨lb, lo, none⟩) n cc), (2, .int .u32 ((d : Nat) : Int)), (7, .pointer (some ⟨gp1, 0, none⟩)), (8, .pointer (some ⟨gp2, 0, none⟩)), (34, .int .i64 ((n : Nat) : Int)), (35, .int .i64 ((k : Nat) : Int)), (10, .pointer (some ⟨b1, 0, none⟩)), (11, .slice A1 ((takeT (gwalk (newG ((m + 1 : Nat) : Int)) q k) ((q k).t) ((q k).ps) ((q k).last)).length) c1), (12, .int .u8 (takeM (gwalk (newG ((m + 1 : Nat) : Int)) q k) ((q k).t) ((q k).ps) ((q k).last))), (13, .int .i64 (takeE (gwalk (newG ((m + 1 : Nat) : Int)) q k) ((q k).t) ((q k).ps) ((q k).last))), (77, .pointer (some ⟨gp2, 0, none⟩)), (79, .int .i64 ((q k).t)), (81, .int .i64 (IntKind.wrap .i64 ((d : Nat) : Int)))] (by kernel_rfl) rfl ?_
            have he6 : IntKind.wrap .i64 ((d : Nat) : Int) = ((d : Nat) : Int) := (by rw [wrap_i64 _ (by omega) (by omega)])
            refine VL_eq [(1, .slice (some ⟨lb, lo, none⟩) n cc), (2, .int .u32 ((d : Nat) : Int)), (7, .pointer (some ⟨gp1, 0, none⟩)), (8, .pointer (some ⟨gp2, 0, none⟩)), (34, .int .i64 ((n : Nat) : Int)), (35, .int .i64 ((k : Nat) : Int)), (10, .pointer (some ⟨b1, 0, none⟩)), (11, .slice A1 ((takeT (gwalk (newG ((m + 1 : Nat) : Int)) q k) ((q k).t) ((q k).ps) ((q k).last)).length) c1), (12, .int .u8 (takeM (gwalk (newG ((m + 1 : Nat) : Int)) q k) ((q k).t) ((q k).ps) ((q k).last))), (13, .int .i64 (takeE (gwalk (newG ((m + 1 : Nat) : Int)) q k) ((q k).t) ((q k).ps) ((q k).last))), (77, .pointer (some ⟨gp2, 0, none⟩)), (79, .int .i64 ((q k).t)), (81, .int .i64 ((d : Nat) : Int))] (by rw [he6]) ?_
            refine VL_pure 6 [1, 2, 7, 8, 34, 35, 10, 11, 12, 13, 77, 82] [(1, .slice (some ⟨lb, lo, none⟩) n cc), (2, .int .u32 ((d : Nat) : Int)), (7, .pointer (some ⟨gp1, 0, none⟩)), (8, .pointer (some ⟨gp2, 0, none⟩)), (34, .int .i64 ((n : Nat) : Int)), (35, .int .i64 ((k : Nat) : Int)), (10, .pointer (some ⟨b1, 0, none⟩)), (11, .slice A1 ((takeT (gwalk (newG ((m + 1 : Nat) : Int)) q k) ((q k).t) ((q k).ps) ((q k).last)).length) c1), (12, .int .u8 (takeM (gwalk (newG ((m + 1 : Nat) : Int)) q k) ((q k).t) ((q k).ps) ((q k).last))), (13, .int .i64 (takeE (gwalk (newG ((m + 1 : Nat) : Int)) q k) ((q k).t) ((q k).ps) ((q k).last))), (77, .pointer (some ⟨gp2, 0, none⟩)), (82, .int .i64 (IntKind.wrap .i64 (((q k).t) + ((d : Nat) : Int))))] (by kernel_rfl) rfl ?_
            refine VL_keep [1, 2, 7, 8, 34, 35, 10, 11, 12, 13, 77, 82] [(1, .slice (some ⟨lb, lo, none⟩) n cc), (2, .int .u32 ((d : Nat) : Int)), (7, .pointer (some ⟨gp1, 0, none⟩)), (8, .pointer (some ⟨gp2, 0, none⟩)), (34, .int .i64 ((n : Nat) : Int)), (35, .int .i64 ((k : Nat) : Int)), (10, .pointer (some ⟨b1, 0, none⟩)), (11, .slice A1 ((takeT (gwalk (newG ((m + 1 : Nat) : Int)) q k) ((q k).t) ((q k).ps) ((q k).last)).length) c1), (12, .int .u8 (takeM (gwalk (newG ((m + 1 : Nat) : Int)) q k) ((q k).t) ((q k).ps) ((q k).last))), (13, .int .i64 (takeE (gwalk (newG ((m + 1 : Nat) : Int)) q k) ((q k).t) ((q k).ps) ((q k).last))), (77, .pointer (some ⟨gp2, 0, none⟩)), (82, .int .i64 (IntKind.wrap .i64 (((q k).t) + ((d : Nat) : Int))))] (by kernel_rfl) ?_
            refine VL_eq [(1, .slice (some ⟨lb, lo, none⟩) n cc), (2, .int .u32 ((d : Nat) : Int)), (7, .pointer (some ⟨gp1, 0, none⟩)), (8, .pointer (some ⟨gp2, 0, none⟩)), (34, .int .i64 ((n : Nat) : Int)), (35, .int .i64 ((k : Nat) : Int)), (10, .pointer (some ⟨b1, 0, none⟩)), (11, .slice A1 ((takeT (gwalk (newG ((m + 1 : Nat) : Int)) q k) ((q k).t) ((q k).ps) ((q k).last)).length) c1), (12, .int .u8 (takeM (gwalk (newG ((m + 1 : Nat) : Int)) q k) ((q k).t) ((q k).ps) ((q k).last))), (13, .int .i64 (takeE (gwalk (newG ((m + 1 : Nat) : Int)) q k) ((q k).t) ((q k).ps) ((q k).last))), (77, .pointer (some ⟨gp2, 0, none⟩)), (82, .int .i64 ((q k).t + ((d : Nat) : Int)))] (by rw [wrap_i64 _ (by omega) (by omega)]) ?_
            refine VL_pure 7 [1, 2, 7, 8, 34, 35, 10, 11, 12, 13, 77, 82, 83] [(1, .slice (some ⟨lb, lo, none⟩) n cc), (2, .int .u32 ((d : Nat) : Int)), (7, .pointer (some ⟨gp1, 0, none⟩)), (8, .pointer (some ⟨gp2, 0, none⟩)), (34, .int .i64 ((n : Nat) : Int)), (35, .int .i64 ((k : Nat) : Int)), (10, .pointer (some ⟨b1, 0, none⟩)), (11, .slice A1 ((takeT (gwalk (newG ((m + 1 : Nat) : Int)) q k) ((q k).t) ((q k).ps) ((q k).last)).length) c1), (12, .int .u8 (takeM (gwalk (newG ((m + 1 : Nat) : Int)) q k) ((q k).t) ((q k).ps) ((q k).last))), (13, .int .i64 (takeE (gwalk (newG ((m + 1 : Nat) : Int)) q k) ((q k).t) ((q k).ps) ((q k).last))), (77, .pointer (some ⟨gp2, 0, none⟩)), (82, .int .i64 ((q k).t + ((d : Nat) : Int))), (83, .pointer (some ⟨b1, 1, none⟩))] (by kernel_rfl) rfl ?_
            refine VL_load (d := 84) (t := 28) (a := ⟨b1, 1, none⟩) (v := .agg (iA .u8 ((q k).ps))) (by kernel_rfl) (by kernel_rfl) (pa_ps ho2 (hq k) (by kernel_rfl)) ?_
            refine VL_pure 9 [1, 2, 7, 8, 34, 35, 11, 12, 13, 77, 82, 84, 85] [(1, .slice (some ⟨lb, lo, none⟩) n cc), (2, .int .u32 ((d : Nat) : Int)), (7, .pointer (some ⟨gp1, 0, none⟩)), (8, .pointer (some ⟨gp2, 0, none⟩)), (34, .int .i64 ((n : Nat) : Int)), (35, .int .i64 ((k : Nat) : Int)), (11, .slice A1 ((takeT (gwalk (newG ((m + 1 : Nat) : Int)) q k) ((q k).t) ((q k).ps) ((q k).last)).length) c1), (12, .int .u8 (takeM (gwalk (newG ((m + 1 : Nat) : Int)) q k) ((q k).t) ((q k).ps) ((q k).last))), (13, .int .i64 (takeE (gwalk (newG ((m + 1 : Nat) : Int)) q k) ((q k).t) ((q k).ps) ((q k).last))), (77, .pointer (some ⟨gp2, 0, none⟩)), (82, .int .i64 ((q k).t + ((d : Nat) : Int))), (84, .agg (iA .u8 ((q k).ps))), (85, .pointer (some ⟨b1, 49, none⟩))] (by kernel_rfl) rfl ?_
            refine VL_load (d := 86) (t := 4) (a := ⟨b1, 49, none⟩) (v := .bool ((q k).last)) (by kernel_rfl) (by kernel_rfl) (pa_last ho2 (hq k) (by kernel_rfl)) ?_
            have hzs10 := hS.size
            have hzl16 := GaOf.lt hgb
            have hzl17 := ho2.lt
            have hzl18 := GaOf.lt hg6
            refine VL_call (d := 87) (f := 15) (by kernel_rfl) (by kernel_rfl) (by kernel_rfl) Try.call15 (take_any gp2 (gwalk (newG ((m + 1 : Nat) : Int)) (shq q ((d : Nat) : Int)) k) (fun _ => True) _ (fun _ _ => trivial) hgb _ hJ (by omega) ((q k).t + ((d : Nat) : Int)) (by omega) (by omega) ((q k).ps) (hq k).1 (hq k).2 ((q k).last)) ?_
            rintro _ w16 ⟨A2, c2, rfl, hr4, hg7, hc8⟩
            replace hS := Step.transNew hS hc8 (fun _ _ _ => by omega)
            replace ho2 := ho2.step hc8 (show ¬ b1 = gp2 by omega)
            replace hg6 := GaOf.other hg6 hgb (by decide) (by omega) hc8
            replace hxhr3 := SlX_ga hxhr3 hgb (by decide) hc8
            have hxhr4 := SlX.of_rw (X := fun _ => True) hr4 (fun _ _ => trivial)
            have hlthg7 := GaOf.lt hg7
            have hgihg7 := GaI.take (t := ((q k).t + ((d : Nat) : Int))) (p := ((q k).ps)) hJ ((q k).last) (by omega) (by omega) (hq k).1 (hq k).2
            have htlhg7 := takeT_le hJ ((q k).t + ((d : Nat) : Int)) ((q k).ps) ((q k).last) (hq k).1
            refine VL_pure 18 [1, 2, 7, 8, 34, 35, 11, 12, 13, 14, 15, 16] [(1, .slice (some ⟨lb, lo, none⟩) n cc), (2, .int .u32 ((d : Nat) : Int)), (7, .pointer (some ⟨gp1, 0, none⟩)), (8, .pointer (some ⟨gp2, 0, none⟩)), (34, .int .i64 ((n : Nat) : Int)), (35, .int .i64 ((k : Nat) : Int)), (11, .slice A1 ((takeT (gwalk (newG ((m + 1 : Nat) : Int)) q k) ((q k).t) ((q k).ps) ((q k).last)).length) c1), (12, .int .u8 (takeM (gwalk (newG ((m + 1 : Nat) : Int)) q k) ((q k).t) ((q k).ps) ((q k).last))), (13, .int .i64 (takeE (gwalk (newG ((m + 1 : Nat) : Int)) q k) ((q k).t) ((q k).ps) ((q k).last))), (14, .slice A2 ((takeT (gwalk (newG ((m + 1 : Nat) : Int)) (shq q ((d : Nat) : Int)) k) ((q k).t + ((d : Nat) : Int)) ((q k).ps) ((q k).last)).length) c2), (15, .int .u8 (takeM (gwalk (newG ((m + 1 : Nat) : Int)) (shq q ((d : Nat) : Int)) k) ((q k).t + ((d : Nat) : Int)) ((q k).ps) ((q k).last))), (16, .int .i64 (takeE (gwalk (newG ((m + 1 : Nat) : Int)) (shq q ((d : Nat) : Int)) k) ((q k).t + ((d : Nat) : Int)) ((q k).ps) ((q k).last)))] (by kernel_rfl) rfl ?_
            refine VL_end (by kernel_rfl) ?_
            refine VQ_next ?_
            refine VC_seq ?_
            refine VC_region ?_
            refine VL_pure 2 [1, 2, 7, 8, 34, 35, 12, 13, 15, 16, 91, 92] [(1, .slice (some ⟨lb, lo, none⟩) n cc), (2, .int .u32 ((d : Nat) : Int)), (7, .pointer (some ⟨gp1, 0, none⟩)), (8, .pointer (some ⟨gp2, 0, none⟩)), (34, .int .i64 ((n : Nat) : Int)), (35, .int .i64 ((k : Nat) : Int)), (12, .int .u8 (takeM (gwalk (newG ((m + 1 : Nat) : Int)) q k) ((q k).t) ((q k).ps) ((q k).last))), (13, .int .i64 (takeE (gwalk (newG ((m + 1 : Nat) : Int)) q k) ((q k).t) ((q k).ps) ((q k).last))), (15, .int .u8 (takeM (gwalk (newG ((m + 1 : Nat) : Int)) (shq q ((d : Nat) : Int)) k) ((q k).t + ((d : Nat) : Int)) ((q k).ps) ((q k).last))), (16, .int .i64 (takeE (gwalk (newG ((m + 1 : Nat) : Int)) (shq q ((d : Nat) : Int)) k) ((q k).t + ((d : Nat) : Int)) ((q k).ps) ((q k).last))), (91, .slice A1 ((takeT (gwalk (newG ((m + 1 : Nat) : Int)) q k) ((q k).t) ((q k).ps) ((q k).last)).length) c1), (92, .slice A2 ((takeT (gwalk (newG ((m + 1 : Nat) : Int)) (shq q ((d : Nat) : Int)) k) ((q k).t + ((d : Nat) : Int)) ((q k).ps) ((q k).last)).length) c2)] (by kernel_rfl) rfl ?_
            have hzs11 := hS.size
            have hzl19 := ho2.lt
            have hzl20 := GaOf.lt hg6
            have hzl21 := GaOf.lt hg7
            refine VL_call (d := 93) (f := 17) (args := #[.slice A1 ((takeT (gwalk (newG ((m + 1 : Nat) : Int)) q k) ((q k).t) ((q k).ps) ((q k).last)).length) c1, .slice A2 ((takeT (gwalk (newG ((m + 1 : Nat) : Int)) (shq q ((d : Nat) : Int)) k) ((q k).t + ((d : Nat) : Int)) ((q k).ps) ((q k).last)).length) c2]) (by kernel_rfl) (by kernel_rfl) (by kernel_rfl) Try.call17 (same_any A1 ((takeT (gwalk (newG ((m + 1 : Nat) : Int)) q k) ((q k).t) ((q k).ps) ((q k).last)).length) c1 _ (takeT (gwalk (newG ((m + 1 : Nat) : Int)) q k) ((q k).t) ((q k).ps) ((q k).last)) A2 ((takeT (gwalk (newG ((m + 1 : Nat) : Int)) (shq q ((d : Nat) : Int)) k) ((q k).t + ((d : Nat) : Int)) ((q k).ps) ((q k).last)).length) c2 _ (takeT (gwalk (newG ((m + 1 : Nat) : Int)) (shq q ((d : Nat) : Int)) k) ((q k).t + ((d : Nat) : Int)) ((q k).ps) ((q k).last)) _ rfl (SlX.sl hxhr3) rfl (SlX.sl hxhr4) (by omega) (by omega) (by first | exact Nat.le_refl _ | omega) (by first | exact Nat.le_refl _ | omega)) ?_
            rintro _ w17 ⟨rfl, hc9⟩
            replace hS := Step.trans hS hc9
            replace ho2 := ho2.no hc9
            replace hg6 := GaOf.no hg6 hc9
            replace hxhr3 := hxhr3.no hc9
            replace hg7 := GaOf.no hg7 hc9
            replace hxhr4 := hxhr4.no hc9
            refine VL_pure 5 [1, 2, 7, 8, 34, 35, 12, 13, 15, 16, 95] [(1, .slice (some ⟨lb, lo, none⟩) n cc), (2, .int .u32 ((d : Nat) : Int)), (7, .pointer (some ⟨gp1, 0, none⟩)), (8, .pointer (some ⟨gp2, 0, none⟩)), (34, .int .i64 ((n : Nat) : Int)), (35, .int .i64 ((k : Nat) : Int)), (12, .int .u8 (takeM (gwalk (newG ((m + 1 : Nat) : Int)) q k) ((q k).t) ((q k).ps) ((q k).last))), (13, .int .i64 (takeE (gwalk (newG ((m + 1 : Nat) : Int)) q k) ((q k).t) ((q k).ps) ((q k).last))), (15, .int .u8 (takeM (gwalk (newG ((m + 1 : Nat) : Int)) (shq q ((d : Nat) : Int)) k) ((q k).t + ((d : Nat) : Int)) ((q k).ps) ((q k).last))), (16, .int .i64 (takeE (gwalk (newG ((m + 1 : Nat) : Int)) (shq q ((d : Nat) : Int)) k) ((q k).t + ((d : Nat) : Int)) ((q k).ps) ((q k).last))), (95, .bool (!((takeT (gwalk (newG ((m + 1 : Nat) : Int)) q k) ((q k).t) ((q k).ps) ((q k).last)) == (takeT (gwalk (newG ((m + 1 : Nat) : Int)) (shq q ((d : Nat) : Int)) k) ((q k).t + ((d : Nat) : Int)) ((q k).ps) ((q k).last)))))] (by kernel_rfl) rfl ?_
            refine VL_known ((takeT (gwalk (newG ((m + 1 : Nat) : Int)) q k) ((q k).t) ((q k).ps) ((q k).last)) == (takeT (gwalk (newG ((m + 1 : Nat) : Int)) (shq q ((d : Nat) : Int)) k) ((q k).t + ((d : Nat) : Int)) ((q k).ps) ((q k).last))) (fun bV => [(1, .slice (some ⟨lb, lo, none⟩) n cc), (2, .int .u32 ((d : Nat) : Int)), (7, .pointer (some ⟨gp1, 0, none⟩)), (8, .pointer (some ⟨gp2, 0, none⟩)), (34, .int .i64 ((n : Nat) : Int)), (35, .int .i64 ((k : Nat) : Int)), (12, .int .u8 (takeM (gwalk (newG ((m + 1 : Nat) : Int)) q k) ((q k).t) ((q k).ps) ((q k).last))), (13, .int .i64 (takeE (gwalk (newG ((m + 1 : Nat) : Int)) q k) ((q k).t) ((q k).ps) ((q k).last))), (15, .int .u8 (takeM (gwalk (newG ((m + 1 : Nat) : Int)) (shq q ((d : Nat) : Int)) k) ((q k).t + ((d : Nat) : Int)) ((q k).ps) ((q k).last))), (16, .int .i64 (takeE (gwalk (newG ((m + 1 : Nat) : Int)) (shq q ((d : Nat) : Int)) k) ((q k).t + ((d : Nat) : Int)) ((q k).ps) ((q k).last))), (95, .bool (!bV))]) true rfl (by rw [(ShG.take (ShG.walk ((m + 1 : Nat) : Int) q ((d : Nat) : Int) k) ((q k).t) ((q k).ps) ((q k).last)).2.1]; simp) ?_
            refine VL_pure 10 [1, 2, 7, 8, 34, 35, 13, 16, 100] [(1, .slice (some ⟨lb, lo, none⟩) n cc), (2, .int .u32 ((d : Nat) : Int)), (7, .pointer (some ⟨gp1, 0, none⟩)), (8, .pointer (some ⟨gp2, 0, none⟩)), (34, .int .i64 ((n : Nat) : Int)), (35, .int .i64 ((k : Nat) : Int)), (13, .int .i64 (takeE (gwalk (newG ((m + 1 : Nat) : Int)) q k) ((q k).t) ((q k).ps) ((q k).last))), (16, .int .i64 (takeE (gwalk (newG ((m + 1 : Nat) : Int)) (shq q ((d : Nat) : Int)) k) ((q k).t + ((d : Nat) : Int)) ((q k).ps) ((q k).last))), (100, .bool ((takeM (gwalk (newG ((m + 1 : Nat) : Int)) q k) ((q k).t) ((q k).ps) ((q k).last)) != (takeM (gwalk (newG ((m + 1 : Nat) : Int)) (shq q ((d : Nat) : Int)) k) ((q k).t + ((d : Nat) : Int)) ((q k).ps) ((q k).last))))] (by kernel_rfl) rfl ?_
            refine VL_known ((takeM (gwalk (newG ((m + 1 : Nat) : Int)) q k) ((q k).t) ((q k).ps) ((q k).last)) != (takeM (gwalk (newG ((m + 1 : Nat) : Int)) (shq q ((d : Nat) : Int)) k) ((q k).t + ((d : Nat) : Int)) ((q k).ps) ((q k).last))) (fun bV => [(1, .slice (some ⟨lb, lo, none⟩) n cc), (2, .int .u32 ((d : Nat) : Int)), (7, .pointer (some ⟨gp1, 0, none⟩)), (8, .pointer (some ⟨gp2, 0, none⟩)), (34, .int .i64 ((n : Nat) : Int)), (35, .int .i64 ((k : Nat) : Int)), (13, .int .i64 (takeE (gwalk (newG ((m + 1 : Nat) : Int)) q k) ((q k).t) ((q k).ps) ((q k).last))), (16, .int .i64 (takeE (gwalk (newG ((m + 1 : Nat) : Int)) (shq q ((d : Nat) : Int)) k) ((q k).t + ((d : Nat) : Int)) ((q k).ps) ((q k).last))), (100, .bool bV)]) false rfl (by rw [(ShG.take (ShG.walk ((m + 1 : Nat) : Int) q ((d : Nat) : Int) k) ((q k).t) ((q k).ps) ((q k).last)).2.2.1]; simp) ?_
            refine VL_pure 14 [1, 2, 7, 8, 34, 35, 104] [(1, .slice (some ⟨lb, lo, none⟩) n cc), (2, .int .u32 ((d : Nat) : Int)), (7, .pointer (some ⟨gp1, 0, none⟩)), (8, .pointer (some ⟨gp2, 0, none⟩)), (34, .int .i64 ((n : Nat) : Int)), (35, .int .i64 ((k : Nat) : Int)), (104, .bool ((takeE (gwalk (newG ((m + 1 : Nat) : Int)) q k) ((q k).t) ((q k).ps) ((q k).last)) != (takeE (gwalk (newG ((m + 1 : Nat) : Int)) (shq q ((d : Nat) : Int)) k) ((q k).t + ((d : Nat) : Int)) ((q k).ps) ((q k).last))))] (by kernel_rfl) rfl ?_
            refine VL_end (by kernel_rfl) ?_
            refine VQ_next ?_
            refine VC_is (b := (takeE (gwalk (newG ((m + 1 : Nat) : Int)) q k) ((q k).t) ((q k).ps) ((q k).last)) != (takeE (gwalk (newG ((m + 1 : Nat) : Int)) (shq q ((d : Nat) : Int)) k) ((q k).t + ((d : Nat) : Int)) ((q k).ps) ((q k).last))) false (by kernel_rfl) (by rw [(ShG.take (ShG.walk ((m + 1 : Nat) : Int) q ((d : Nat) : Int) k) ((q k).t) ((q k).ps) ((q k).last)).2.2.2]; simp) ?_
            refine VC_ite_false ?_
            refine VC_skip ?_
            refine VQ_block_normal ?_
            refine VQ_next ?_
            refine VC_region ?_
            refine VL_pure 1 [1, 2, 7, 8, 34, 105] [(1, .slice (some ⟨lb, lo, none⟩) n cc), (2, .int .u32 ((d : Nat) : Int)), (7, .pointer (some ⟨gp1, 0, none⟩)), (8, .pointer (some ⟨gp2, 0, none⟩)), (34, .int .i64 ((n : Nat) : Int)), (105, .int .i64 (IntKind.wrap .i64 (((k : Nat) : Int) + 1)))] (by kernel_rfl) rfl ?_
            have he7 : IntKind.wrap .i64 (((k : Nat) : Int) + 1) = ((k + 1 : Nat) : Int) := (by rw [wrap_i64 _ (by omega) (by omega)]; omega)
            refine VL_eq [(1, .slice (some ⟨lb, lo, none⟩) n cc), (2, .int .u32 ((d : Nat) : Int)), (7, .pointer (some ⟨gp1, 0, none⟩)), (8, .pointer (some ⟨gp2, 0, none⟩)), (34, .int .i64 ((n : Nat) : Int)), (105, .int .i64 ((k + 1 : Nat) : Int))] (by rw [he7]) ?_
            refine VL_pure 2 [1, 2, 7, 8, 34, 35] [(1, .slice (some ⟨lb, lo, none⟩) n cc), (2, .int .u32 ((d : Nat) : Int)), (7, .pointer (some ⟨gp1, 0, none⟩)), (8, .pointer (some ⟨gp2, 0, none⟩)), (34, .int .i64 ((n : Nat) : Int)), (35, .int .i64 ((k + 1 : Nat) : Int))] (by kernel_rfl) rfl ?_
            refine VL_end (by kernel_rfl) ?_
            refine VQ_again (k + 1) ⟨rfl, rfl, rfl, rfl, rfl, rfl, trivial⟩ ?_ ?_
            · exact ⟨(by omega), (GaI.mono (GaI.step (x := (q k)) hI (hq k) (by (try simp only [shq]); omega) (by (try simp only [shq]); omega)) (by omega)), (GaI.mono (GaI.step (x := (shq q ((d : Nat) : Int) k)) hJ (hq k) (by (try simp only [shq]); omega) (by (try simp only [shq]); omega)) (by omega)), hS, (GaOf.cast hg6 (by first | exact stepG_tick (x := (q k)) (show (q k).tick = true by assumption) | exact stepG_take (x := (q k)) (show (q k).tick = false by assumption))), (GaOf.cast hg7 (by first | exact stepG_tick (x := (shq q ((d : Nat) : Int) k)) (show (q k).tick = true by assumption) | exact stepG_take (x := (shq q ((d : Nat) : Int) k)) (show (q k).tick = false by assumption)))⟩
            · (try dsimp only); omega
    · refine VC_exit ?_
      refine VQ_then_exit ?_
      refine VQ_then_exit ?_
      refine VQ_block_hit ?_
      refine VQ_next ?_
      refine VC_seq ?_
      refine VC_region ?_
      obtain rfl : k = n := by omega
      refine VL_pure 1 [7, 8, 106] [(7, .pointer (some ⟨gp1, 0, none⟩)), (8, .pointer (some ⟨gp2, 0, none⟩)), (106, .pointer (some ⟨gp1, 0, none⟩))] (by kernel_rfl) rfl ?_
      have hzs12 := hS.size
      have hzl22 := GaOf.lt hga
      have hzl23 := GaOf.lt hgb
      refine VL_call (d := 107) (f := 18) (by kernel_rfl) (by kernel_rfl) (by kernel_rfl) Try.call18 (parts_any gp1 (gwalk (newG ((m + 1 : Nat) : Int)) q k) (fun _ => True) _ hga (by have h9 := (hI).len_le; omega)) ?_
      rintro _ w18 ⟨rfl, hc10⟩
      replace hS := Step.trans hS hc10
      replace hga := GaOf.no hga hc10
      replace hgb := GaOf.no hgb hc10
      refine VL_pure 3 [7, 8, 107, 108] [(7, .pointer (some ⟨gp1, 0, none⟩)), (8, .pointer (some ⟨gp2, 0, none⟩)), (107, .int .i64 ((((gwalk (newG ((m + 1 : Nat) : Int)) q k)).bs.length / 48 : Nat) : Int)), (108, .pointer (some ⟨gp2, 0, none⟩))] (by kernel_rfl) rfl ?_
      have hzs13 := hS.size
      have hzl24 := GaOf.lt hga
      have hzl25 := GaOf.lt hgb
      refine VL_call (d := 109) (f := 18) (by kernel_rfl) (by kernel_rfl) (by kernel_rfl) Try.call18 (parts_any gp2 (gwalk (newG ((m + 1 : Nat) : Int)) (shq q ((d : Nat) : Int)) k) (fun _ => True) _ hgb (by have h9 := (hJ).len_le; omega)) ?_
      rintro _ w19 ⟨rfl, hc11⟩
      replace hS := Step.trans hS hc11
      replace hga := GaOf.no hga hc11
      replace hgb := GaOf.no hgb hc11
      refine VL_pure 6 [7, 8, 111] [(7, .pointer (some ⟨gp1, 0, none⟩)), (8, .pointer (some ⟨gp2, 0, none⟩)), (111, .bool (((((gwalk (newG ((m + 1 : Nat) : Int)) q k)).bs.length / 48 : Nat) : Int) == ((((gwalk (newG ((m + 1 : Nat) : Int)) (shq q ((d : Nat) : Int)) k)).bs.length / 48 : Nat) : Int)))] (by kernel_rfl) rfl ?_
      refine VL_known (((((gwalk (newG ((m + 1 : Nat) : Int)) q k)).bs.length / 48 : Nat) : Int) == ((((gwalk (newG ((m + 1 : Nat) : Int)) (shq q ((d : Nat) : Int)) k)).bs.length / 48 : Nat) : Int)) (fun bV => [(7, .pointer (some ⟨gp1, 0, none⟩)), (8, .pointer (some ⟨gp2, 0, none⟩)), (111, .bool bV)]) true rfl (by rw [(ShG.walk ((m + 1 : Nat) : Int) q ((d : Nat) : Int) k).bs]; simp) ?_
      refine VL_pure 7 [8, 111, 112] [(8, .pointer (some ⟨gp2, 0, none⟩)), (111, .bool true), (112, .pointer (some ⟨gp1, 0, none⟩))] (by kernel_rfl) rfl ?_
      have hzs14 := hS.size
      have hzl26 := GaOf.lt hga
      have hzl27 := GaOf.lt hgb
      refine VL_call (d := 113) (f := 19) (by kernel_rfl) (by kernel_rfl) (by kernel_rfl) Try.call19 (lost_any gp1 (gwalk (newG ((m + 1 : Nat) : Int)) q k) (fun _ => True) _ hga) ?_
      rintro _ w20 ⟨rfl, hc12⟩
      replace hS := Step.trans hS hc12
      replace hga := GaOf.no hga hc12
      replace hgb := GaOf.no hgb hc12
      refine VL_pure 9 [111, 113, 114] [(111, .bool true), (113, .int .i64 (((gwalk (newG ((m + 1 : Nat) : Int)) q k)).lost)), (114, .pointer (some ⟨gp2, 0, none⟩))] (by kernel_rfl) rfl ?_
      have hzs15 := hS.size
      have hzl28 := GaOf.lt hga
      have hzl29 := GaOf.lt hgb
      refine VL_call (d := 115) (f := 19) (by kernel_rfl) (by kernel_rfl) (by kernel_rfl) Try.call19 (lost_any gp2 (gwalk (newG ((m + 1 : Nat) : Int)) (shq q ((d : Nat) : Int)) k) (fun _ => True) _ hgb) ?_
      rintro _ w21 ⟨rfl, hc13⟩
      replace hS := Step.trans hS hc13
      replace hga := GaOf.no hga hc13
      replace hgb := GaOf.no hgb hc13
      refine VL_pure 13 [6] [(6, .bool ((((gwalk (newG ((m + 1 : Nat) : Int)) q k)).lost) == (((gwalk (newG ((m + 1 : Nat) : Int)) (shq q ((d : Nat) : Int)) k)).lost)))] (by kernel_rfl) rfl ?_
      refine VL_end (by kernel_rfl) ?_
      refine VQ_next ?_
      refine VC_ret ?_
      refine VQ_ret1 (.bool ((((gwalk (newG ((m + 1 : Nat) : Int)) q k)).lost) == (((gwalk (newG ((m + 1 : Nat) : Int)) (shq q ((d : Nat) : Int)) k)).lost))) (.inr rfl) rfl rfl ?_
      exact ⟨by first | rfl | (rw [(ShG.walk ((m + 1 : Nat) : Int) q ((d : Nat) : Int) _).lost]; simp; done) | simp [*], hS⟩

end Go.Proofs.Ytgiefcolkohgkaa
