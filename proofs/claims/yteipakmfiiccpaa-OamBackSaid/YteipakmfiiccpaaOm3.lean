/- Layer 14: Sealed, Unpack. -/
import Derived.Test.YteipakmfiiccpaaProg
import Derived.Test.YteipakmfiiccpaaOm2
set_option linter.unusedVariables false
set_option linter.unusedSimpArgs false
namespace Go.Proofs.Yteipakmfiiccpaa
open Go.Vc Go.RowKit

set_option maxRecDepth 100000 in
set_option maxHeartbeats 4000000 in
theorem sealed_any (bs : List Int) (w : World) (hn : bs.length = 48) :
    CV Try.prog 17 #[.agg (iA .u8 bs)] w (fun x w1 => x = .bool (sealL bs == bs) ∧ Step No w w1) := by
  have hS : Step No w w := Step.refl _ _
  refine CV_enter Try.f17 _ 7 [(0, .agg (iA .u8 bs))] Try.func17 rfl rfl (by kernel_rfl) rfl ?_
  refine VC_seq ?_
  refine VC_region ?_
  have hzs1 := hS.size
  have hzs2 := hS.size
  refine VL_box (d := 1) (t := 26) (c := iA .u8 bs) (by kernel_rfl) (by kernel_rfl) ?_
  intro b1 w1 hn1
  replace hS := Step.trans hS (hn1.step No)
  have ho1 := hn1.own
  have hzhn1 := hn1.size
  have hqhn1 := hn1.eqb
  refine VL_pure 2 [1] [(1, .pointer (some ⟨b1, 0, none⟩))] (by kernel_rfl) rfl ?_
  refine VL_end (by kernel_rfl) ?_
  refine VQ_next ?_
  refine VC_seq ?_
  refine VC_det [[], [0], [], [0, 1, 2], [0, 1, 2, 3]] 3 [.agg (iA .u8 bs), .agg (iA .u8 (sealL bs)), .agg (iA .u8 bs)] [] [0, 1, 2] (by kernel_rfl) (by kernel_rfl) (by kernel_rfl) (by kernel_rfl) ?_ ?_
  · intro w2 hs1
    replace hS := Step.trans hS hs1
    replace ho1 := ho1.no hs1
    exact ⟨Det1_load (d := 3) (t := 26) (a := ⟨b1, 0, none⟩) (by kernel_rfl) (by kernel_rfl) (Loads.arr (N := 48) ho1 (by kernel_rfl) (by (try simp only [List.length_set, List.length_append, List.length_map, List.length_replicate, List.length_cons, List.length_nil, List.length_take, List.length_drop, List.length_range]) <;> omega)), Det1_call (d := 4) (f := 18) (args := #[.agg (iA .u8 bs)]) (by kernel_rfl) (by kernel_rfl) (by kernel_rfl) Try.call18 (by exact seal_any bs _ hn), Det1_load (d := 5) (t := 26) (a := ⟨b1, 0, none⟩) (by kernel_rfl) (by kernel_rfl) (Loads.arr (N := 48) ho1 (by kernel_rfl) (by (try simp only [List.length_set, List.length_append, List.length_map, List.length_replicate, List.length_cons, List.length_nil, List.length_take, List.length_drop, List.length_range]) <;> omega)), trivial⟩
  intro w2 hs1
  replace hS := Step.trans hS hs1
  replace ho1 := ho1.no hs1
  refine VL_keep [4, 5] [(4, .agg (iA .u8 (sealL bs))), (5, .agg (iA .u8 bs))] (by kernel_rfl) ?_
  refine VL_agEq (d := 6) (dd := 9) (ls := (rep 48 [.int .u8])) (pos := true) (t := 26) (xs := (iA .u8 (sealL bs))) (ys := (iA .u8 bs)) (by kernel_rfl) (by kernel_rfl) (by kernel_rfl) (by kernel_rfl) (iA_are (by first | exact hn | rw [sealL_len, hn])) (iA_are (by first | exact hn | rw [sealL_len, hn])) ((sealL bs) == bs) (iA_eq true) ?_
  refine VL_pure 5 [2] [(2, .bool ((sealL bs) == bs))] (by kernel_rfl) rfl ?_
  refine VL_end (by kernel_rfl) ?_
  refine VQ_next ?_
  refine VC_ret ?_
  refine VQ_ret1 (.bool ((sealL bs) == bs)) (.inr rfl) rfl rfl ?_
  exact ⟨rfl, hS⟩

set_option maxRecDepth 100000 in
set_option maxHeartbeats 4000000 in
theorem unpack_any (bs : List Int) (w : World) (hn : bs.length = 48) :
    CV Try.prog 12 #[.agg (iA .u8 bs)] w (fun x w1 => x = .tuple #[.agg (omL (unpV bs)).toArray, .int .i64 (unpE bs)] ∧ Step No w w1) := by
  have hS : Step No w w := Step.refl _ _
  refine CV_enter Try.f12 _ 83 [(0, .agg (iA .u8 bs))] Try.func12 rfl rfl (by kernel_rfl) rfl ?_
  refine VC_seq ?_
  refine VC_region ?_
  have hzs1 := hS.size
  have hzs2 := hS.size
  refine VL_box (d := 1) (t := 26) (c := iA .u8 bs) (by kernel_rfl) (by kernel_rfl) ?_
  intro b1 w1 hn1
  replace hS := Step.trans hS (hn1.step No)
  have ho1 := hn1.own
  have hzhn1 := hn1.size
  have hqhn1 := hn1.eqb
  have hzs3 := hS.size
  have hzl1 := ho1.lt
  refine VL_box (d := 2) (t := 31) (c := #[.int .i64 0, .int .u8 0, .bool false, .int .u32 0, .int .u8 0, .int .u8 0, .int .u8 0, .int .u8 0, .int .u8 0, .int .u8 0, .int .u8 0, .int .u8 0, .int .u8 0, .int .u8 0, .int .u8 0, .int .u8 0, .int .u8 0, .int .u8 0, .int .u8 0, .int .u8 0, .int .u8 0, .int .u8 0, .int .u8 0, .int .u8 0, .int .u8 0, .int .u8 0, .int .u8 0, .int .u8 0, .int .u8 0, .int .u8 0, .int .u8 0, .int .u8 0, .int .u8 0, .int .u8 0, .int .u8 0, .int .u8 0]) (by kernel_rfl) (by kernel_rfl) ?_
  intro b2 w2 hn2
  replace hS := Step.trans hS (hn2.step No)
  replace ho1 := ho1.no (hn2.step No)
  have ho2 := hn2.own
  have hzhn2 := hn2.size
  have hqhn2 := hn2.eqb
  refine VL_pure 3 [1, 2] [(1, .pointer (some ⟨b1, 0, none⟩)), (2, .pointer (some ⟨b2, 0, none⟩))] (by kernel_rfl) rfl ?_
  refine VL_end (by kernel_rfl) ?_
  refine VQ_next ?_
  refine VC_seq ?_
  refine VC_seq ?_
  refine VC_region ?_
  refine VL_load (d := 10) (t := 26) (a := ⟨b1, 0, none⟩) (v := .agg (iA .u8 bs)) (by kernel_rfl) (by kernel_rfl) (Loads.arr (N := 48) ho1 (by kernel_rfl) (by (try simp only [List.length_set, List.length_append, List.length_map, List.length_replicate, List.length_cons, List.length_nil, List.length_take, List.length_drop, List.length_range]) <;> omega)) ?_
  have hzs4 := hS.size
  have hzl2 := ho1.lt
  have hzl3 := ho2.lt
  refine VL_call (d := 11) (f := 17) (args := #[.agg (iA .u8 bs)]) (by kernel_rfl) (by kernel_rfl) (by kernel_rfl) Try.call17 (sealed_any bs _ hn) ?_
  rintro _ w3 ⟨rfl, hc1⟩
  replace hS := Step.trans hS hc1
  replace ho1 := ho1.no hc1
  replace ho2 := ho2.no hc1
  refine VL_pure 3 [1, 2, 12] [(1, .pointer (some ⟨b1, 0, none⟩)), (2, .pointer (some ⟨b2, 0, none⟩)), (12, .bool (!(sealL bs == bs)))] (by kernel_rfl) rfl ?_
  refine VL_end (by kernel_rfl) ?_
  refine VQ_next ?_
  refine VC_cond (!(sealL bs == bs)) (by kernel_rfl) (fun h1 => ?_) (fun h1 => ?_)
  · try simp only [Bool.and_eq_true, Bool.or_eq_true, decide_eq_true_eq, Bool.not_eq_true', decide_eq_false_iff_not, Bool.and_eq_false_iff, Bool.or_eq_false_iff, beq_iff_eq, bne_iff_ne, beq_eq_false_iff_ne, bne_eq_false_iff_eq, Bool.not_eq_eq_eq_not, Bool.not_true, Bool.not_false] at h1
    refine VC_seq ?_
    refine VC_region ?_
    refine VL_pure 1 [2, 13] [(2, .pointer (some ⟨b2, 0, none⟩)), (13, .agg #[.int .i64 0, .int .u8 0, .bool false, .int .u32 0, .int .u8 0, .int .u8 0, .int .u8 0, .int .u8 0, .int .u8 0, .int .u8 0, .int .u8 0, .int .u8 0, .int .u8 0, .int .u8 0, .int .u8 0, .int .u8 0, .int .u8 0, .int .u8 0, .int .u8 0, .int .u8 0, .int .u8 0, .int .u8 0, .int .u8 0, .int .u8 0, .int .u8 0, .int .u8 0, .int .u8 0, .int .u8 0, .int .u8 0, .int .u8 0, .int .u8 0, .int .u8 0, .int .u8 0, .int .u8 0, .int .u8 0, .int .u8 0])] (by kernel_rfl) rfl ?_
    refine VL_store (b := b2) (o := 0) (vs := [.int .i64 0, .int .u8 0, .bool false, .int .u32 0, .int .u8 0, .int .u8 0, .int .u8 0, .int .u8 0, .int .u8 0, .int .u8 0, .int .u8 0, .int .u8 0, .int .u8 0, .int .u8 0, .int .u8 0, .int .u8 0, .int .u8 0, .int .u8 0, .int .u8 0, .int .u8 0, .int .u8 0, .int .u8 0, .int .u8 0, .int .u8 0, .int .u8 0, .int .u8 0, .int .u8 0, .int .u8 0, .int .u8 0, .int .u8 0, .int .u8 0, .int .u8 0, .int .u8 0, .int .u8 0, .int .u8 0, .int .u8 0]) (by kernel_rfl) (by kernel_rfl) ho2 (Nat.le_of_ble_eq_true (by kernel_rfl)) ?_
    intro w4 hw1
    replace hS := Step.transNew hS hw1.step (fun _ _ _ => by omega)
    replace ho1 := ho1.step hw1.step (show ¬ b1 = b2 by omega)
    have ho3 : Own w4 b2 #[.int .i64 0, .int .u8 0, .bool false, .int .u32 0, .int .u8 0, .int .u8 0, .int .u8 0, .int .u8 0, .int .u8 0, .int .u8 0, .int .u8 0, .int .u8 0, .int .u8 0, .int .u8 0, .int .u8 0, .int .u8 0, .int .u8 0, .int .u8 0, .int .u8 0, .int .u8 0, .int .u8 0, .int .u8 0, .int .u8 0, .int .u8 0, .int .u8 0, .int .u8 0, .int .u8 0, .int .u8 0, .int .u8 0, .int .u8 0, .int .u8 0, .int .u8 0, .int .u8 0, .int .u8 0, .int .u8 0, .int .u8 0] 31 := Own.cast hw1.own (by kernel_rfl)
    have hzhw1 := hw1.same
    refine VL_pure 3 [2, 3] [(2, .pointer (some ⟨b2, 0, none⟩)), (3, .int .i64 4)] (by kernel_rfl) rfl ?_
    refine VL_end (by kernel_rfl) ?_
    refine VQ_next ?_
    refine VC_ret ?_
    refine VQ_then_ret ?_
    refine VQ_retC1T1 (T := 31) (.agg #[.int .i64 0, .int .u8 0, .bool false, .int .u32 0, .int .u8 0, .int .u8 0, .int .u8 0, .int .u8 0, .int .u8 0, .int .u8 0, .int .u8 0, .int .u8 0, .int .u8 0, .int .u8 0, .int .u8 0, .int .u8 0, .int .u8 0, .int .u8 0, .int .u8 0, .int .u8 0, .int .u8 0, .int .u8 0, .int .u8 0, .int .u8 0, .int .u8 0, .int .u8 0, .int .u8 0, .int .u8 0, .int .u8 0, .int .u8 0, .int .u8 0, .int .u8 0, .int .u8 0, .int .u8 0, .int .u8 0, .int .u8 0]) (.int .i64 4) (.inr rfl) rfl rfl rfl (Loads.ownL ho3 (n := 36) (by kernel_rfl) (by kernel_rfl) (by kernel_rfl)) ?_
    obtain ⟨e1, e2⟩ := unp_4 (bs := bs) ‹_›
    exact ⟨by rw [e1, e2]; rfl, hS⟩
  · try simp only [Bool.and_eq_true, Bool.or_eq_true, decide_eq_true_eq, Bool.not_eq_true', decide_eq_false_iff_not, Bool.and_eq_false_iff, Bool.or_eq_false_iff, beq_iff_eq, bne_iff_ne, beq_eq_false_iff_ne, bne_eq_false_iff_eq, Bool.not_eq_eq_eq_not, Bool.not_true, Bool.not_false] at h1
    refine VC_skip ?_
    refine VQ_next ?_
    refine VC_seq ?_
    refine VC_region ?_
    refine VL_index (d := 14) (b := b1) (o := 0) (len := 48) (sz := 1) (m := 0) (by kernel_rfl) (by kernel_rfl) 0 (by rfl) (by omega) 0 (by omega) ?_
    refine VL_load (d := 15) (t := 5) (a := ⟨b1, 0, none⟩) (v := .int .u8 (bs.getD 0 0)) (by kernel_rfl) (by kernel_rfl) (Loads.arr1 ho1 (by kernel_rfl) (by (try simp only [List.length_set, List.length_append, List.length_map, List.length_replicate, List.length_cons, List.length_nil, List.length_take, List.length_drop, List.length_range]) <;> omega)) ?_
    refine VL_pure 5 [1, 2, 18] [(1, .pointer (some ⟨b1, 0, none⟩)), (2, .pointer (some ⟨b2, 0, none⟩)), (18, .agg #[.int .i64 (IntKind.wrap .i64 ((IntKind.wrap .i64 (bs.getD 0 0)) - 16)), .int .u8 0, .bool false, .int .u32 0, .int .u8 0, .int .u8 0, .int .u8 0, .int .u8 0, .int .u8 0, .int .u8 0, .int .u8 0, .int .u8 0, .int .u8 0, .int .u8 0, .int .u8 0, .int .u8 0, .int .u8 0, .int .u8 0, .int .u8 0, .int .u8 0, .int .u8 0, .int .u8 0, .int .u8 0, .int .u8 0, .int .u8 0, .int .u8 0, .int .u8 0, .int .u8 0, .int .u8 0, .int .u8 0, .int .u8 0, .int .u8 0, .int .u8 0, .int .u8 0, .int .u8 0, .int .u8 0])] (by kernel_rfl) rfl ?_
    have hzs5 := hS.size
    have hzl4 := ho1.lt
    have hzl5 := ho2.lt
    refine VL_box (d := 4) (t := 31) (c := #[.int .i64 0, .int .u8 0, .bool false, .int .u32 0, .int .u8 0, .int .u8 0, .int .u8 0, .int .u8 0, .int .u8 0, .int .u8 0, .int .u8 0, .int .u8 0, .int .u8 0, .int .u8 0, .int .u8 0, .int .u8 0, .int .u8 0, .int .u8 0, .int .u8 0, .int .u8 0, .int .u8 0, .int .u8 0, .int .u8 0, .int .u8 0, .int .u8 0, .int .u8 0, .int .u8 0, .int .u8 0, .int .u8 0, .int .u8 0, .int .u8 0, .int .u8 0, .int .u8 0, .int .u8 0, .int .u8 0, .int .u8 0]) (by kernel_rfl) (by kernel_rfl) ?_
    intro b3 w5 hn3
    replace hS := Step.trans hS (hn3.step No)
    replace ho1 := ho1.no (hn3.step No)
    replace ho2 := ho2.no (hn3.step No)
    have ho4 := hn3.own
    have hzhn3 := hn3.size
    have hqhn3 := hn3.eqb
    refine VL_store (b := b3) (o := 0) (vs := [.int .i64 (IntKind.wrap .i64 ((IntKind.wrap .i64 (bs.getD 0 0)) - 16)), .int .u8 0, .bool false, .int .u32 0, .int .u8 0, .int .u8 0, .int .u8 0, .int .u8 0, .int .u8 0, .int .u8 0, .int .u8 0, .int .u8 0, .int .u8 0, .int .u8 0, .int .u8 0, .int .u8 0, .int .u8 0, .int .u8 0, .int .u8 0, .int .u8 0, .int .u8 0, .int .u8 0, .int .u8 0, .int .u8 0, .int .u8 0, .int .u8 0, .int .u8 0, .int .u8 0, .int .u8 0, .int .u8 0, .int .u8 0, .int .u8 0, .int .u8 0, .int .u8 0, .int .u8 0, .int .u8 0]) (by kernel_rfl) (by kernel_rfl) ho4 (Nat.le_of_ble_eq_true (by kernel_rfl)) ?_
    intro w6 hw2
    replace hS := Step.transNew hS hw2.step (fun _ _ _ => by omega)
    replace ho1 := ho1.step hw2.step (show ¬ b1 = b3 by omega)
    replace ho2 := ho2.step hw2.step (show ¬ b2 = b3 by omega)
    have ho5 : Own w6 b3 #[.int .i64 (IntKind.wrap .i64 ((IntKind.wrap .i64 (bs.getD 0 0)) - 16)), .int .u8 0, .bool false, .int .u32 0, .int .u8 0, .int .u8 0, .int .u8 0, .int .u8 0, .int .u8 0, .int .u8 0, .int .u8 0, .int .u8 0, .int .u8 0, .int .u8 0, .int .u8 0, .int .u8 0, .int .u8 0, .int .u8 0, .int .u8 0, .int .u8 0, .int .u8 0, .int .u8 0, .int .u8 0, .int .u8 0, .int .u8 0, .int .u8 0, .int .u8 0, .int .u8 0, .int .u8 0, .int .u8 0, .int .u8 0, .int .u8 0, .int .u8 0, .int .u8 0, .int .u8 0, .int .u8 0] 31 := Own.cast hw2.own (by kernel_rfl)
    have hzhw2 := hw2.same
    refine VL_end (by kernel_rfl) ?_
    refine VQ_next ?_
    refine VC_seq ?_
    refine VC_region ?_
    refine VL_pure 2 [1, 2, 4, 5] [(1, .pointer (some ⟨b1, 0, none⟩)), (2, .pointer (some ⟨b2, 0, none⟩)), (4, .pointer (some ⟨b3, 0, none⟩)), (5, .slice (some ⟨b1, 1, none⟩) 47 47)] (by kernel_rfl) rfl ?_
    refine VL_end (by kernel_rfl) ?_
    refine VQ_next ?_
    refine VC_seq ?_
    refine VC_seq ?_
    refine VC_region ?_
    refine VL_pure 1 [1, 2, 4, 5, 20] [(1, .pointer (some ⟨b1, 0, none⟩)), (2, .pointer (some ⟨b2, 0, none⟩)), (4, .pointer (some ⟨b3, 0, none⟩)), (5, .slice (some ⟨b1, 1, none⟩) 47 47), (20, .pointer (some ⟨b3, 0, none⟩))] (by kernel_rfl) rfl ?_
    refine VL_load (d := 21) (t := 3) (a := ⟨b3, 0, none⟩) (v := .int .i64 (IntKind.wrap .i64 ((IntKind.wrap .i64 (bs.getD 0 0)) - 16))) (by kernel_rfl) (by kernel_rfl) (Loads.own1 ho5 (by kernel_rfl) (by rfl)) ?_
    refine VL_end (by kernel_rfl) ?_
    refine VQ_next ?_
    refine VC_block ?_
    refine VC_seq ?_
    refine VC_seq ?_
    refine VC_region ?_
    refine VL_pure 2 [1, 2, 4, 5, 21, 23] [(1, .pointer (some ⟨b1, 0, none⟩)), (2, .pointer (some ⟨b2, 0, none⟩)), (4, .pointer (some ⟨b3, 0, none⟩)), (5, .slice (some ⟨b1, 1, none⟩) 47 47), (21, .int .i64 (IntKind.wrap .i64 ((IntKind.wrap .i64 (bs.getD 0 0)) - 16))), (23, .bool ((IntKind.wrap .i64 ((IntKind.wrap .i64 (bs.getD 0 0)) - 16)) == 0))] (by kernel_rfl) rfl ?_
    refine VL_end (by kernel_rfl) ?_
    refine VQ_next ?_
    refine VC_eq (IntKind.wrap .i64 ((IntKind.wrap .i64 (bs.getD 0 0)) - 16)) 0 (by kernel_rfl) (fun h2 => ?_) (fun h2 => ?_)
    · refine VC_skip ?_
      refine VQ_next ?_
      refine VC_eq (IntKind.wrap .i64 ((IntKind.wrap .i64 (bs.getD 0 0)) - 16)) 0 (by kernel_rfl) (fun h3 => ?_) (fun h3 => ?_)
      · refine VC_eff [[], [0], [0, 1], [], [3], [3, 4], [3, 4, 5], [0, 1, 2], [0, 1, 2, 7], [0, 1, 2, 3, 4, 5, 6, 7, 8], [0, 1, 2, 3, 4, 5, 6, 7, 8, 9]] 9 [.slice (some ⟨b1, 1, none⟩) 47 47, .pointer (some ⟨b1, 1, none⟩), .int .u8 (bs.getD 1 0), .slice (some ⟨b1, 1, none⟩) 47 47, .slice (some ⟨b1, 2, none⟩) 46 46, .pointer (some ⟨b1, 2, none⟩), .agg #[.int .u8 (bs.getD 2 0), .int .u8 (bs.getD 3 0), .int .u8 (bs.getD 4 0), .int .u8 (bs.getD 5 0), .int .u8 (bs.getD 6 0), .int .u8 (bs.getD 7 0), .int .u8 (bs.getD 8 0), .int .u8 (bs.getD 9 0), .int .u8 (bs.getD 10 0), .int .u8 (bs.getD 11 0), .int .u8 (bs.getD 12 0), .int .u8 (bs.getD 13 0), .int .u8 (bs.getD 14 0), .int .u8 (bs.getD 15 0), .int .u8 (bs.getD 16 0), .int .u8 (bs.getD 17 0)], .pointer (some ⟨b3, 1, none⟩), undef] [0, 3, 4, 5, 7] [1, 2, 6, 8] (ROwn b3 31 #[.int .i64 (IntKind.wrap .i64 ((IntKind.wrap .i64 (bs.getD 0 0)) - 16)), .int .u8 0, .bool false, .int .u32 0, .int .u8 0, .int .u8 0, .int .u8 0, .int .u8 0, .int .u8 0, .int .u8 0, .int .u8 0, .int .u8 0, .int .u8 0, .int .u8 0, .int .u8 0, .int .u8 0, .int .u8 0, .int .u8 0, .int .u8 0, .int .u8 0, .int .u8 0, .int .u8 0, .int .u8 0, .int .u8 0, .int .u8 0, .int .u8 0, .int .u8 0, .int .u8 0, .int .u8 0, .int .u8 0, .int .u8 0, .int .u8 0, .int .u8 0, .int .u8 0, .int .u8 0, .int .u8 0] #[.int .i64 (IntKind.wrap .i64 ((IntKind.wrap .i64 (bs.getD 0 0)) - 16)), .int .u8 (bs.getD 1 0), .bool false, .int .u32 0, .int .u8 0, .int .u8 0, .int .u8 0, .int .u8 0, .int .u8 0, .int .u8 0, .int .u8 0, .int .u8 0, .int .u8 0, .int .u8 0, .int .u8 0, .int .u8 0, .int .u8 0, .int .u8 0, .int .u8 0, .int .u8 0, .int .u8 0, .int .u8 0, .int .u8 0, .int .u8 0, .int .u8 0, .int .u8 0, .int .u8 0, .int .u8 0, .int .u8 0, .int .u8 0, .int .u8 0, .int .u8 0, .int .u8 0, .int .u8 0, .int .u8 0, .int .u8 0]) (fun j x => j = 8 → Own x b3 #[.int .i64 (IntKind.wrap .i64 ((IntKind.wrap .i64 (bs.getD 0 0)) - 16)), .int .u8 (bs.getD 1 0), .bool false, .int .u32 0, .int .u8 0, .int .u8 0, .int .u8 0, .int .u8 0, .int .u8 0, .int .u8 0, .int .u8 0, .int .u8 0, .int .u8 0, .int .u8 0, .int .u8 0, .int .u8 0, .int .u8 0, .int .u8 0, .int .u8 0, .int .u8 0, .int .u8 0, .int .u8 0, .int .u8 0, .int .u8 0, .int .u8 0, .int .u8 0, .int .u8 0, .int .u8 0, .int .u8 0, .int .u8 0, .int .u8 0, .int .u8 0, .int .u8 0, .int .u8 0, .int .u8 0, .int .u8 0] 31) (by kernel_rfl) (by kernel_rfl) (by kernel_rfl) (ROwn.refl _ _ _ _) ROwn.trans (ROwn.no (drew_step _)) (fun _ _ _ h hr e => hr.2.1 (h e)) (by kernel_rfl) (by intro k hk x e; subst e; simp at hk) ?_ ?_
        · intro w9 hr1
          have hI := hr1.1 (.inl ho5)
          replace hS := Step.transNew hS hr1.2.2 (fun _ _ _ => by omega)
          replace ho1 := ho1.step hr1.2.2 (show ¬ b1 = b3 by omega)
          replace ho2 := ho2.step hr1.2.2 (show ¬ b2 = b3 by omega)
          exact ⟨fun _ => Eff1_no (Det1_index (d := 27) (b := b1) (o := 1) (len := 47) (sz := 1) (m := 0) (by kernel_rfl) (by kernel_rfl) 0 (by rfl) (by omega) 1 (by omega)) (fun x e => absurd e (by decide)), fun _ => Eff1_no (Det1_load (d := 28) (t := 5) (a := ⟨b1, 1, none⟩) (by kernel_rfl) (by kernel_rfl) (Loads.arr1 ho1 (by kernel_rfl) (by (try simp only [List.length_set, List.length_append, List.length_map, List.length_replicate, List.length_cons, List.length_nil, List.length_take, List.length_drop, List.length_range]) <;> omega))) (fun x e => absurd e (by decide)), fun _ => Eff1_no (Det1_load (d := 32) (t := 23) (a := ⟨b1, 2, none⟩) (by kernel_rfl) (by kernel_rfl) (Loads.arrSub (o := 2) (N := 16) ho1 (by kernel_rfl) (by (try simp only [List.length_set, List.length_append, List.length_map, List.length_replicate, List.length_cons, List.length_nil, List.length_take, List.length_drop, List.length_range]) <;> omega))) (fun x e => absurd e (by decide)), fun _ => Eff1_store (b := b3) (o := 1) (T := 31) (c0 := #[.int .i64 (IntKind.wrap .i64 ((IntKind.wrap .i64 (bs.getD 0 0)) - 16)), .int .u8 0, .bool false, .int .u32 0, .int .u8 0, .int .u8 0, .int .u8 0, .int .u8 0, .int .u8 0, .int .u8 0, .int .u8 0, .int .u8 0, .int .u8 0, .int .u8 0, .int .u8 0, .int .u8 0, .int .u8 0, .int .u8 0, .int .u8 0, .int .u8 0, .int .u8 0, .int .u8 0, .int .u8 0, .int .u8 0, .int .u8 0, .int .u8 0, .int .u8 0, .int .u8 0, .int .u8 0, .int .u8 0, .int .u8 0, .int .u8 0, .int .u8 0, .int .u8 0, .int .u8 0, .int .u8 0]) (c1 := #[.int .i64 (IntKind.wrap .i64 ((IntKind.wrap .i64 (bs.getD 0 0)) - 16)), .int .u8 (bs.getD 1 0), .bool false, .int .u32 0, .int .u8 0, .int .u8 0, .int .u8 0, .int .u8 0, .int .u8 0, .int .u8 0, .int .u8 0, .int .u8 0, .int .u8 0, .int .u8 0, .int .u8 0, .int .u8 0, .int .u8 0, .int .u8 0, .int .u8 0, .int .u8 0, .int .u8 0, .int .u8 0, .int .u8 0, .int .u8 0, .int .u8 0, .int .u8 0, .int .u8 0, .int .u8 0, .int .u8 0, .int .u8 0, .int .u8 0, .int .u8 0, .int .u8 0, .int .u8 0, .int .u8 0, .int .u8 0]) (vs := [.int .u8 (bs.getD 1 0)]) (by kernel_rfl) (by kernel_rfl) hI (Nat.le_of_ble_eq_true (by kernel_rfl)) (Nat.le_of_ble_eq_true (by kernel_rfl)) (by kernel_rfl) (by kernel_rfl), trivial⟩
        intro w8 hr2 hB1
        have ho6 := hB1 8 (by decide) rfl
        replace hS := Step.transNew hS hr2.2.2 (fun _ _ _ => by omega)
        replace ho1 := ho1.step hr2.2.2 (show ¬ b1 = b3 by omega)
        replace ho2 := ho2.step hr2.2.2 (show ¬ b2 = b3 by omega)
        refine VL_keep [1, 2, 4, 32] [(1, .pointer (some ⟨b1, 0, none⟩)), (2, .pointer (some ⟨b2, 0, none⟩)), (4, .pointer (some ⟨b3, 0, none⟩)), (32, .agg #[.int .u8 (bs.getD 2 0), .int .u8 (bs.getD 3 0), .int .u8 (bs.getD 4 0), .int .u8 (bs.getD 5 0), .int .u8 (bs.getD 6 0), .int .u8 (bs.getD 7 0), .int .u8 (bs.getD 8 0), .int .u8 (bs.getD 9 0), .int .u8 (bs.getD 10 0), .int .u8 (bs.getD 11 0), .int .u8 (bs.getD 12 0), .int .u8 (bs.getD 13 0), .int .u8 (bs.getD 14 0), .int .u8 (bs.getD 15 0), .int .u8 (bs.getD 16 0), .int .u8 (bs.getD 17 0)])] (by kernel_rfl) ?_
        refine VL_pure 10 [1, 2, 4, 32, 34] [(1, .pointer (some ⟨b1, 0, none⟩)), (2, .pointer (some ⟨b2, 0, none⟩)), (4, .pointer (some ⟨b3, 0, none⟩)), (32, .agg #[.int .u8 (bs.getD 2 0), .int .u8 (bs.getD 3 0), .int .u8 (bs.getD 4 0), .int .u8 (bs.getD 5 0), .int .u8 (bs.getD 6 0), .int .u8 (bs.getD 7 0), .int .u8 (bs.getD 8 0), .int .u8 (bs.getD 9 0), .int .u8 (bs.getD 10 0), .int .u8 (bs.getD 11 0), .int .u8 (bs.getD 12 0), .int .u8 (bs.getD 13 0), .int .u8 (bs.getD 14 0), .int .u8 (bs.getD 15 0), .int .u8 (bs.getD 16 0), .int .u8 (bs.getD 17 0)]), (34, .pointer (some ⟨b3, 4, none⟩))] (by kernel_rfl) rfl ?_
        refine VL_store (b := b3) (o := 4) (vs := [.int .u8 (bs.getD 2 0), .int .u8 (bs.getD 3 0), .int .u8 (bs.getD 4 0), .int .u8 (bs.getD 5 0), .int .u8 (bs.getD 6 0), .int .u8 (bs.getD 7 0), .int .u8 (bs.getD 8 0), .int .u8 (bs.getD 9 0), .int .u8 (bs.getD 10 0), .int .u8 (bs.getD 11 0), .int .u8 (bs.getD 12 0), .int .u8 (bs.getD 13 0), .int .u8 (bs.getD 14 0), .int .u8 (bs.getD 15 0), .int .u8 (bs.getD 16 0), .int .u8 (bs.getD 17 0)]) (by kernel_rfl) (by kernel_rfl) ho6 (Nat.le_of_ble_eq_true (by kernel_rfl)) ?_
        intro w10 hw3
        replace hS := Step.transNew hS hw3.step (fun _ _ _ => by omega)
        replace ho1 := ho1.step hw3.step (show ¬ b1 = b3 by omega)
        replace ho2 := ho2.step hw3.step (show ¬ b2 = b3 by omega)
        have ho7 : Own w10 b3 #[.int .i64 (IntKind.wrap .i64 ((IntKind.wrap .i64 (bs.getD 0 0)) - 16)), .int .u8 (bs.getD 1 0), .bool false, .int .u32 0, .int .u8 (bs.getD 2 0), .int .u8 (bs.getD 3 0), .int .u8 (bs.getD 4 0), .int .u8 (bs.getD 5 0), .int .u8 (bs.getD 6 0), .int .u8 (bs.getD 7 0), .int .u8 (bs.getD 8 0), .int .u8 (bs.getD 9 0), .int .u8 (bs.getD 10 0), .int .u8 (bs.getD 11 0), .int .u8 (bs.getD 12 0), .int .u8 (bs.getD 13 0), .int .u8 (bs.getD 14 0), .int .u8 (bs.getD 15 0), .int .u8 (bs.getD 16 0), .int .u8 (bs.getD 17 0), .int .u8 0, .int .u8 0, .int .u8 0, .int .u8 0, .int .u8 0, .int .u8 0, .int .u8 0, .int .u8 0, .int .u8 0, .int .u8 0, .int .u8 0, .int .u8 0, .int .u8 0, .int .u8 0, .int .u8 0, .int .u8 0] 31 := Own.cast hw3.own (by kernel_rfl)
        have hzhw3 := hw3.same
        refine VL_end (by kernel_rfl) ?_
        refine VQ_block_normal ?_
        refine VQ_next ?_
        refine VC_seq ?_
        refine VC_seq ?_
        refine VC_region ?_
        refine VL_load (d := 70) (t := 31) (a := ⟨b3, 0, none⟩) (v := .agg #[.int .i64 (IntKind.wrap .i64 ((IntKind.wrap .i64 (bs.getD 0 0)) - 16)), .int .u8 (bs.getD 1 0), .bool false, .int .u32 0, .int .u8 (bs.getD 2 0), .int .u8 (bs.getD 3 0), .int .u8 (bs.getD 4 0), .int .u8 (bs.getD 5 0), .int .u8 (bs.getD 6 0), .int .u8 (bs.getD 7 0), .int .u8 (bs.getD 8 0), .int .u8 (bs.getD 9 0), .int .u8 (bs.getD 10 0), .int .u8 (bs.getD 11 0), .int .u8 (bs.getD 12 0), .int .u8 (bs.getD 13 0), .int .u8 (bs.getD 14 0), .int .u8 (bs.getD 15 0), .int .u8 (bs.getD 16 0), .int .u8 (bs.getD 17 0), .int .u8 0, .int .u8 0, .int .u8 0, .int .u8 0, .int .u8 0, .int .u8 0, .int .u8 0, .int .u8 0, .int .u8 0, .int .u8 0, .int .u8 0, .int .u8 0, .int .u8 0, .int .u8 0, .int .u8 0, .int .u8 0]) (by kernel_rfl) (by kernel_rfl) (Loads.ownL ho7 (n := 36) (by kernel_rfl) (by kernel_rfl) (by kernel_rfl)) ?_
        have hzs6 := hS.size
        have hzl6 := ho1.lt
        have hzl7 := ho2.lt
        have hzl8 := ho7.lt
        refine VL_call (d := 71) (f := 10) (by kernel_rfl) (by kernel_rfl) (by kernel_rfl) Try.call10 (pack_any (⟨IntKind.wrap .i64 ((IntKind.wrap .i64 (bs.getD 0 0)) - 16), bs.getD 1 0, false, 0, (plG bs 2), zp⟩ : Om) _) ?_
        rintro _ w11 ⟨rfl, hc2⟩
        replace hS := Step.trans hS hc2
        replace ho1 := ho1.no hc2
        replace ho2 := ho2.no hc2
        replace ho7 := ho7.no hc2
        refine VL_pure 5 [1, 2, 4, 72, 73] [(1, .pointer (some ⟨b1, 0, none⟩)), (2, .pointer (some ⟨b2, 0, none⟩)), (4, .pointer (some ⟨b3, 0, none⟩)), (72, .agg (iA .u8 (packV (⟨IntKind.wrap .i64 ((IntKind.wrap .i64 (bs.getD 0 0)) - 16), bs.getD 1 0, false, 0, (plG bs 2), zp⟩ : Om)))), (73, .int .i64 (packE (⟨IntKind.wrap .i64 ((IntKind.wrap .i64 (bs.getD 0 0)) - 16), bs.getD 1 0, false, 0, (plG bs 2), zp⟩ : Om)))] (by kernel_rfl) rfl ?_
        have hzs7 := hS.size
        have hzl9 := ho1.lt
        have hzl10 := ho2.lt
        have hzl11 := ho7.lt
        have hzs8 := hS.size
        have hzl12 := ho1.lt
        have hzl13 := ho2.lt
        have hzl14 := ho7.lt
        refine VL_box (d := 8) (t := 26) (c := iA .u8 (List.replicate 48 0)) (by kernel_rfl) (by kernel_rfl) ?_
        intro b4 w12 hn4
        replace hS := Step.trans hS (hn4.step No)
        replace ho1 := ho1.no (hn4.step No)
        replace ho2 := ho2.no (hn4.step No)
        replace ho7 := ho7.no (hn4.step No)
        have ho8 := hn4.own
        have hzhn4 := hn4.size
        have hqhn4 := hn4.eqb
        refine VL_storeA (b := b4) (sz := 48) (k := .u8) (bs := packV (⟨IntKind.wrap .i64 ((IntKind.wrap .i64 (bs.getD 0 0)) - 16), bs.getD 1 0, false, 0, (plG bs 2), zp⟩ : Om)) (by kernel_rfl) (by kernel_rfl) (by first | exact hn | exact packV_len _) ho8 (iA_size.trans (by (try simp only [List.length_set, List.length_append, List.length_map, List.length_replicate, List.length_cons, List.length_nil, List.length_take, List.length_drop, List.length_range]) <;> omega)) ?_
        intro w13 hw4
        replace hS := Step.transNew hS hw4.step (fun _ _ _ => by omega)
        replace ho1 := ho1.step hw4.step (show ¬ b1 = b4 by omega)
        replace ho2 := ho2.step hw4.step (show ¬ b2 = b4 by omega)
        replace ho7 := ho7.step hw4.step (show ¬ b3 = b4 by omega)
        have ho9 := hw4.own
        have hzhw4 := hw4.same
        refine VL_pure 8 [1, 2, 4, 8, 9] [(1, .pointer (some ⟨b1, 0, none⟩)), (2, .pointer (some ⟨b2, 0, none⟩)), (4, .pointer (some ⟨b3, 0, none⟩)), (8, .pointer (some ⟨b4, 0, none⟩)), (9, .int .i64 (packE (⟨IntKind.wrap .i64 ((IntKind.wrap .i64 (bs.getD 0 0)) - 16), bs.getD 1 0, false, 0, (plG bs 2), zp⟩ : Om)))] (by kernel_rfl) rfl ?_
        refine VL_end (by kernel_rfl) ?_
        refine VQ_next ?_
        refine VC_seq ?_
        refine VC_region ?_
        refine VL_pure 3 [1, 2, 4, 8, 76] [(1, .pointer (some ⟨b1, 0, none⟩)), (2, .pointer (some ⟨b2, 0, none⟩)), (4, .pointer (some ⟨b3, 0, none⟩)), (8, .pointer (some ⟨b4, 0, none⟩)), (76, .bool ((packE (⟨IntKind.wrap .i64 ((IntKind.wrap .i64 (bs.getD 0 0)) - 16), bs.getD 1 0, false, 0, (plG bs 2), zp⟩ : Om)) != 0))] (by kernel_rfl) rfl ?_
        refine VL_bne (packE (⟨IntKind.wrap .i64 ((IntKind.wrap .i64 (bs.getD 0 0)) - 16), bs.getD 1 0, false, 0, (plG bs 2), zp⟩ : Om)) 0 (fun bV => [(1, .pointer (some ⟨b1, 0, none⟩)), (2, .pointer (some ⟨b2, 0, none⟩)), (4, .pointer (some ⟨b3, 0, none⟩)), (8, .pointer (some ⟨b4, 0, none⟩)), (76, .bool bV)]) rfl (fun hg1 => ?_) (fun hg1 => ?_)
        · refine VL_pure 7 [2, 4, 80] [(2, .pointer (some ⟨b2, 0, none⟩)), (4, .pointer (some ⟨b3, 0, none⟩)), (80, .bool true)] (by kernel_rfl) rfl ?_
          refine VL_end (by kernel_rfl) ?_
          refine VQ_next ?_
          refine VC_true (by kernel_rfl) ?_
          refine VC_seq ?_
          refine VC_region ?_
          refine VL_pure 1 [2, 81] [(2, .pointer (some ⟨b2, 0, none⟩)), (81, .agg #[.int .i64 0, .int .u8 0, .bool false, .int .u32 0, .int .u8 0, .int .u8 0, .int .u8 0, .int .u8 0, .int .u8 0, .int .u8 0, .int .u8 0, .int .u8 0, .int .u8 0, .int .u8 0, .int .u8 0, .int .u8 0, .int .u8 0, .int .u8 0, .int .u8 0, .int .u8 0, .int .u8 0, .int .u8 0, .int .u8 0, .int .u8 0, .int .u8 0, .int .u8 0, .int .u8 0, .int .u8 0, .int .u8 0, .int .u8 0, .int .u8 0, .int .u8 0, .int .u8 0, .int .u8 0, .int .u8 0, .int .u8 0])] (by kernel_rfl) rfl ?_
          refine VL_store (b := b2) (o := 0) (vs := [.int .i64 0, .int .u8 0, .bool false, .int .u32 0, .int .u8 0, .int .u8 0, .int .u8 0, .int .u8 0, .int .u8 0, .int .u8 0, .int .u8 0, .int .u8 0, .int .u8 0, .int .u8 0, .int .u8 0, .int .u8 0, .int .u8 0, .int .u8 0, .int .u8 0, .int .u8 0, .int .u8 0, .int .u8 0, .int .u8 0, .int .u8 0, .int .u8 0, .int .u8 0, .int .u8 0, .int .u8 0, .int .u8 0, .int .u8 0, .int .u8 0, .int .u8 0, .int .u8 0, .int .u8 0, .int .u8 0, .int .u8 0]) (by kernel_rfl) (by kernel_rfl) ho2 (Nat.le_of_ble_eq_true (by kernel_rfl)) ?_
          intro w14 hw5
          replace hS := Step.transNew hS hw5.step (fun _ _ _ => by omega)
          replace ho1 := ho1.step hw5.step (show ¬ b1 = b2 by omega)
          replace ho7 := ho7.step hw5.step (show ¬ b3 = b2 by omega)
          replace ho9 := ho9.step hw5.step (show ¬ b4 = b2 by omega)
          have ho10 : Own w14 b2 #[.int .i64 0, .int .u8 0, .bool false, .int .u32 0, .int .u8 0, .int .u8 0, .int .u8 0, .int .u8 0, .int .u8 0, .int .u8 0, .int .u8 0, .int .u8 0, .int .u8 0, .int .u8 0, .int .u8 0, .int .u8 0, .int .u8 0, .int .u8 0, .int .u8 0, .int .u8 0, .int .u8 0, .int .u8 0, .int .u8 0, .int .u8 0, .int .u8 0, .int .u8 0, .int .u8 0, .int .u8 0, .int .u8 0, .int .u8 0, .int .u8 0, .int .u8 0, .int .u8 0, .int .u8 0, .int .u8 0, .int .u8 0] 31 := Own.cast hw5.own (by kernel_rfl)
          have hzhw5 := hw5.same
          refine VL_pure 3 [2, 3] [(2, .pointer (some ⟨b2, 0, none⟩)), (3, .int .i64 5)] (by kernel_rfl) rfl ?_
          refine VL_end (by kernel_rfl) ?_
          refine VQ_next ?_
          refine VC_ret ?_
          refine VQ_then_ret ?_
          refine VQ_retC1T1 (T := 31) (.agg #[.int .i64 0, .int .u8 0, .bool false, .int .u32 0, .int .u8 0, .int .u8 0, .int .u8 0, .int .u8 0, .int .u8 0, .int .u8 0, .int .u8 0, .int .u8 0, .int .u8 0, .int .u8 0, .int .u8 0, .int .u8 0, .int .u8 0, .int .u8 0, .int .u8 0, .int .u8 0, .int .u8 0, .int .u8 0, .int .u8 0, .int .u8 0, .int .u8 0, .int .u8 0, .int .u8 0, .int .u8 0, .int .u8 0, .int .u8 0, .int .u8 0, .int .u8 0, .int .u8 0, .int .u8 0, .int .u8 0, .int .u8 0]) (.int .i64 5) (.inr rfl) rfl rfl rfl (Loads.ownL ho10 (n := 36) (by kernel_rfl) (by kernel_rfl) (by kernel_rfl)) ?_
          obtain ⟨e1, e2⟩ := unp_5 (bs := bs) (unpO_01 (by simp only [kOf]; omega)) ‹_› (by unfold kindB; simp only [kOf]; omega) (by first | exact .inl ‹_› | exact .inr ‹_›)
          exact ⟨by rw [e1, e2]; rfl, hS⟩
        · refine VL_load (d := 77) (t := 26) (a := ⟨b4, 0, none⟩) (v := .agg (iA .u8 (packV (⟨IntKind.wrap .i64 ((IntKind.wrap .i64 (bs.getD 0 0)) - 16), bs.getD 1 0, false, 0, (plG bs 2), zp⟩ : Om)))) (by kernel_rfl) (by kernel_rfl) (Loads.arr (N := 48) ho9 (by kernel_rfl) (by first | exact hn | exact packV_len _)) ?_
          refine VL_load (d := 78) (t := 26) (a := ⟨b1, 0, none⟩) (v := .agg (iA .u8 bs)) (by kernel_rfl) (by kernel_rfl) (Loads.arr (N := 48) ho1 (by kernel_rfl) (by (try simp only [List.length_set, List.length_append, List.length_map, List.length_replicate, List.length_cons, List.length_nil, List.length_take, List.length_drop, List.length_range]) <;> omega)) ?_
          refine VL_agEq (d := 79) (dd := 9) (ls := (rep 48 [.int .u8])) (pos := false) (t := 26) (xs := (iA .u8 (packV (⟨IntKind.wrap .i64 ((IntKind.wrap .i64 (bs.getD 0 0)) - 16), bs.getD 1 0, false, 0, (plG bs 2), zp⟩ : Om)))) (ys := (iA .u8 bs)) (by kernel_rfl) (by kernel_rfl) (by kernel_rfl) (by kernel_rfl) (iA_are (by first | exact hn | exact packV_len _)) (iA_are (by first | exact hn | exact packV_len _)) (!((packV (⟨IntKind.wrap .i64 ((IntKind.wrap .i64 (bs.getD 0 0)) - 16), bs.getD 1 0, false, 0, (plG bs 2), zp⟩ : Om)) == bs)) (iA_eq false) ?_
          refine VL_pure 7 [2, 4, 80] [(2, .pointer (some ⟨b2, 0, none⟩)), (4, .pointer (some ⟨b3, 0, none⟩)), (80, .bool (!((packV (⟨IntKind.wrap .i64 ((IntKind.wrap .i64 (bs.getD 0 0)) - 16), bs.getD 1 0, false, 0, (plG bs 2), zp⟩ : Om)) == bs)))] (by kernel_rfl) rfl ?_
          refine VL_end (by kernel_rfl) ?_
          refine VQ_next ?_
          refine VC_cond (!((packV (⟨IntKind.wrap .i64 ((IntKind.wrap .i64 (bs.getD 0 0)) - 16), bs.getD 1 0, false, 0, (plG bs 2), zp⟩ : Om)) == bs)) (by kernel_rfl) (fun h4 => ?_) (fun h4 => ?_)
          · try simp only [Bool.and_eq_true, Bool.or_eq_true, decide_eq_true_eq, Bool.not_eq_true', decide_eq_false_iff_not, Bool.and_eq_false_iff, Bool.or_eq_false_iff, beq_iff_eq, bne_iff_ne, beq_eq_false_iff_ne, bne_eq_false_iff_eq, Bool.not_eq_eq_eq_not, Bool.not_true, Bool.not_false] at h4
            refine VC_seq ?_
            refine VC_region ?_
            refine VL_pure 1 [2, 81] [(2, .pointer (some ⟨b2, 0, none⟩)), (81, .agg #[.int .i64 0, .int .u8 0, .bool false, .int .u32 0, .int .u8 0, .int .u8 0, .int .u8 0, .int .u8 0, .int .u8 0, .int .u8 0, .int .u8 0, .int .u8 0, .int .u8 0, .int .u8 0, .int .u8 0, .int .u8 0, .int .u8 0, .int .u8 0, .int .u8 0, .int .u8 0, .int .u8 0, .int .u8 0, .int .u8 0, .int .u8 0, .int .u8 0, .int .u8 0, .int .u8 0, .int .u8 0, .int .u8 0, .int .u8 0, .int .u8 0, .int .u8 0, .int .u8 0, .int .u8 0, .int .u8 0, .int .u8 0])] (by kernel_rfl) rfl ?_
            refine VL_store (b := b2) (o := 0) (vs := [.int .i64 0, .int .u8 0, .bool false, .int .u32 0, .int .u8 0, .int .u8 0, .int .u8 0, .int .u8 0, .int .u8 0, .int .u8 0, .int .u8 0, .int .u8 0, .int .u8 0, .int .u8 0, .int .u8 0, .int .u8 0, .int .u8 0, .int .u8 0, .int .u8 0, .int .u8 0, .int .u8 0, .int .u8 0, .int .u8 0, .int .u8 0, .int .u8 0, .int .u8 0, .int .u8 0, .int .u8 0, .int .u8 0, .int .u8 0, .int .u8 0, .int .u8 0, .int .u8 0, .int .u8 0, .int .u8 0, .int .u8 0]) (by kernel_rfl) (by kernel_rfl) ho2 (Nat.le_of_ble_eq_true (by kernel_rfl)) ?_
            intro w15 hw6
            replace hS := Step.transNew hS hw6.step (fun _ _ _ => by omega)
            replace ho1 := ho1.step hw6.step (show ¬ b1 = b2 by omega)
            replace ho7 := ho7.step hw6.step (show ¬ b3 = b2 by omega)
            replace ho9 := ho9.step hw6.step (show ¬ b4 = b2 by omega)
            have ho11 : Own w15 b2 #[.int .i64 0, .int .u8 0, .bool false, .int .u32 0, .int .u8 0, .int .u8 0, .int .u8 0, .int .u8 0, .int .u8 0, .int .u8 0, .int .u8 0, .int .u8 0, .int .u8 0, .int .u8 0, .int .u8 0, .int .u8 0, .int .u8 0, .int .u8 0, .int .u8 0, .int .u8 0, .int .u8 0, .int .u8 0, .int .u8 0, .int .u8 0, .int .u8 0, .int .u8 0, .int .u8 0, .int .u8 0, .int .u8 0, .int .u8 0, .int .u8 0, .int .u8 0, .int .u8 0, .int .u8 0, .int .u8 0, .int .u8 0] 31 := Own.cast hw6.own (by kernel_rfl)
            have hzhw6 := hw6.same
            refine VL_pure 3 [2, 3] [(2, .pointer (some ⟨b2, 0, none⟩)), (3, .int .i64 5)] (by kernel_rfl) rfl ?_
            refine VL_end (by kernel_rfl) ?_
            refine VQ_next ?_
            refine VC_ret ?_
            refine VQ_then_ret ?_
            refine VQ_retC1T1 (T := 31) (.agg #[.int .i64 0, .int .u8 0, .bool false, .int .u32 0, .int .u8 0, .int .u8 0, .int .u8 0, .int .u8 0, .int .u8 0, .int .u8 0, .int .u8 0, .int .u8 0, .int .u8 0, .int .u8 0, .int .u8 0, .int .u8 0, .int .u8 0, .int .u8 0, .int .u8 0, .int .u8 0, .int .u8 0, .int .u8 0, .int .u8 0, .int .u8 0, .int .u8 0, .int .u8 0, .int .u8 0, .int .u8 0, .int .u8 0, .int .u8 0, .int .u8 0, .int .u8 0, .int .u8 0, .int .u8 0, .int .u8 0, .int .u8 0]) (.int .i64 5) (.inr rfl) rfl rfl rfl (Loads.ownL ho11 (n := 36) (by kernel_rfl) (by kernel_rfl) (by kernel_rfl)) ?_
            obtain ⟨e1, e2⟩ := unp_5 (bs := bs) (unpO_01 (by simp only [kOf]; omega)) ‹_› (by unfold kindB; simp only [kOf]; omega) (by first | exact .inl ‹_› | exact .inr ‹_›)
            exact ⟨by rw [e1, e2]; rfl, hS⟩
          · try simp only [Bool.and_eq_true, Bool.or_eq_true, decide_eq_true_eq, Bool.not_eq_true', decide_eq_false_iff_not, Bool.and_eq_false_iff, Bool.or_eq_false_iff, beq_iff_eq, bne_iff_ne, beq_eq_false_iff_ne, bne_eq_false_iff_eq, Bool.not_eq_eq_eq_not, Bool.not_true, Bool.not_false] at h4
            refine VC_skip ?_
            refine VQ_next ?_
            refine VC_seq ?_
            refine VC_region ?_
            refine VL_load (d := 82) (t := 31) (a := ⟨b3, 0, none⟩) (v := .agg #[.int .i64 (IntKind.wrap .i64 ((IntKind.wrap .i64 (bs.getD 0 0)) - 16)), .int .u8 (bs.getD 1 0), .bool false, .int .u32 0, .int .u8 (bs.getD 2 0), .int .u8 (bs.getD 3 0), .int .u8 (bs.getD 4 0), .int .u8 (bs.getD 5 0), .int .u8 (bs.getD 6 0), .int .u8 (bs.getD 7 0), .int .u8 (bs.getD 8 0), .int .u8 (bs.getD 9 0), .int .u8 (bs.getD 10 0), .int .u8 (bs.getD 11 0), .int .u8 (bs.getD 12 0), .int .u8 (bs.getD 13 0), .int .u8 (bs.getD 14 0), .int .u8 (bs.getD 15 0), .int .u8 (bs.getD 16 0), .int .u8 (bs.getD 17 0), .int .u8 0, .int .u8 0, .int .u8 0, .int .u8 0, .int .u8 0, .int .u8 0, .int .u8 0, .int .u8 0, .int .u8 0, .int .u8 0, .int .u8 0, .int .u8 0, .int .u8 0, .int .u8 0, .int .u8 0, .int .u8 0]) (by kernel_rfl) (by kernel_rfl) (Loads.ownL ho7 (n := 36) (by kernel_rfl) (by kernel_rfl) (by kernel_rfl)) ?_
            refine VL_store (b := b2) (o := 0) (vs := [.int .i64 (IntKind.wrap .i64 ((IntKind.wrap .i64 (bs.getD 0 0)) - 16)), .int .u8 (bs.getD 1 0), .bool false, .int .u32 0, .int .u8 (bs.getD 2 0), .int .u8 (bs.getD 3 0), .int .u8 (bs.getD 4 0), .int .u8 (bs.getD 5 0), .int .u8 (bs.getD 6 0), .int .u8 (bs.getD 7 0), .int .u8 (bs.getD 8 0), .int .u8 (bs.getD 9 0), .int .u8 (bs.getD 10 0), .int .u8 (bs.getD 11 0), .int .u8 (bs.getD 12 0), .int .u8 (bs.getD 13 0), .int .u8 (bs.getD 14 0), .int .u8 (bs.getD 15 0), .int .u8 (bs.getD 16 0), .int .u8 (bs.getD 17 0), .int .u8 0, .int .u8 0, .int .u8 0, .int .u8 0, .int .u8 0, .int .u8 0, .int .u8 0, .int .u8 0, .int .u8 0, .int .u8 0, .int .u8 0, .int .u8 0, .int .u8 0, .int .u8 0, .int .u8 0, .int .u8 0]) (by kernel_rfl) (by kernel_rfl) ho2 (Nat.le_of_ble_eq_true (by kernel_rfl)) ?_
            intro w16 hw7
            replace hS := Step.transNew hS hw7.step (fun _ _ _ => by omega)
            replace ho1 := ho1.step hw7.step (show ¬ b1 = b2 by omega)
            replace ho7 := ho7.step hw7.step (show ¬ b3 = b2 by omega)
            replace ho9 := ho9.step hw7.step (show ¬ b4 = b2 by omega)
            have ho12 : Own w16 b2 #[.int .i64 (IntKind.wrap .i64 ((IntKind.wrap .i64 (bs.getD 0 0)) - 16)), .int .u8 (bs.getD 1 0), .bool false, .int .u32 0, .int .u8 (bs.getD 2 0), .int .u8 (bs.getD 3 0), .int .u8 (bs.getD 4 0), .int .u8 (bs.getD 5 0), .int .u8 (bs.getD 6 0), .int .u8 (bs.getD 7 0), .int .u8 (bs.getD 8 0), .int .u8 (bs.getD 9 0), .int .u8 (bs.getD 10 0), .int .u8 (bs.getD 11 0), .int .u8 (bs.getD 12 0), .int .u8 (bs.getD 13 0), .int .u8 (bs.getD 14 0), .int .u8 (bs.getD 15 0), .int .u8 (bs.getD 16 0), .int .u8 (bs.getD 17 0), .int .u8 0, .int .u8 0, .int .u8 0, .int .u8 0, .int .u8 0, .int .u8 0, .int .u8 0, .int .u8 0, .int .u8 0, .int .u8 0, .int .u8 0, .int .u8 0, .int .u8 0, .int .u8 0, .int .u8 0, .int .u8 0] 31 := Own.cast hw7.own (by kernel_rfl)
            have hzhw7 := hw7.same
            refine VL_pure 3 [2, 3] [(2, .pointer (some ⟨b2, 0, none⟩)), (3, .int .i64 0)] (by kernel_rfl) rfl ?_
            refine VL_end (by kernel_rfl) ?_
            refine VQ_next ?_
            refine VC_ret ?_
            refine VQ_retC1T1 (T := 31) (.agg #[.int .i64 (IntKind.wrap .i64 ((IntKind.wrap .i64 (bs.getD 0 0)) - 16)), .int .u8 (bs.getD 1 0), .bool false, .int .u32 0, .int .u8 (bs.getD 2 0), .int .u8 (bs.getD 3 0), .int .u8 (bs.getD 4 0), .int .u8 (bs.getD 5 0), .int .u8 (bs.getD 6 0), .int .u8 (bs.getD 7 0), .int .u8 (bs.getD 8 0), .int .u8 (bs.getD 9 0), .int .u8 (bs.getD 10 0), .int .u8 (bs.getD 11 0), .int .u8 (bs.getD 12 0), .int .u8 (bs.getD 13 0), .int .u8 (bs.getD 14 0), .int .u8 (bs.getD 15 0), .int .u8 (bs.getD 16 0), .int .u8 (bs.getD 17 0), .int .u8 0, .int .u8 0, .int .u8 0, .int .u8 0, .int .u8 0, .int .u8 0, .int .u8 0, .int .u8 0, .int .u8 0, .int .u8 0, .int .u8 0, .int .u8 0, .int .u8 0, .int .u8 0, .int .u8 0, .int .u8 0]) (.int .i64 0) (.inr rfl) rfl rfl rfl (Loads.ownL ho12 (n := 36) (by kernel_rfl) (by kernel_rfl) (by kernel_rfl)) ?_
            obtain ⟨e1, e2⟩ := unp_0 (bs := bs) (unpO_01 (by simp only [kOf]; omega)) ‹_› (by unfold kindB; simp only [kOf]; omega) ‹_› ‹_›
            exact ⟨by rw [e1, e2]; rfl, hS⟩
      · refine VC_seq ?_
        refine VC_region ?_
        refine VL_pure 2 [1, 2, 4, 5, 21, 35] [(1, .pointer (some ⟨b1, 0, none⟩)), (2, .pointer (some ⟨b2, 0, none⟩)), (4, .pointer (some ⟨b3, 0, none⟩)), (5, .slice (some ⟨b1, 1, none⟩) 47 47), (21, .int .i64 (IntKind.wrap .i64 ((IntKind.wrap .i64 (bs.getD 0 0)) - 16))), (35, .bool ((IntKind.wrap .i64 ((IntKind.wrap .i64 (bs.getD 0 0)) - 16)) == 8))] (by kernel_rfl) rfl ?_
        refine VL_end (by kernel_rfl) ?_
        refine VQ_next ?_
        refine VC_eq (IntKind.wrap .i64 ((IntKind.wrap .i64 (bs.getD 0 0)) - 16)) 8 (by kernel_rfl) (fun h5 => ?_) (fun h5 => ?_)
        · refine VC_seq ?_
          refine VC_region ?_
          refine VL_pure 1 [1, 2, 4, 5, 37] [(1, .pointer (some ⟨b1, 0, none⟩)), (2, .pointer (some ⟨b2, 0, none⟩)), (4, .pointer (some ⟨b3, 0, none⟩)), (5, .slice (some ⟨b1, 1, none⟩) 47 47), (37, .slice (some ⟨b1, 1, none⟩) 47 47)] (by kernel_rfl) rfl ?_
          refine VL_index (d := 38) (b := b1) (o := 1) (len := 47) (sz := 1) (m := 0) (by kernel_rfl) (by kernel_rfl) 0 (by rfl) (by omega) 1 (by omega) ?_
          refine VL_load (d := 39) (t := 5) (a := ⟨b1, 1, none⟩) (v := .int .u8 (bs.getD 1 0)) (by kernel_rfl) (by kernel_rfl) (Loads.arr1 ho1 (by kernel_rfl) (by (try simp only [List.length_set, List.length_append, List.length_map, List.length_replicate, List.length_cons, List.length_nil, List.length_take, List.length_drop, List.length_range]) <;> omega)) ?_
          refine VL_pure 5 [1, 2, 4, 5, 40, 41] [(1, .pointer (some ⟨b1, 0, none⟩)), (2, .pointer (some ⟨b2, 0, none⟩)), (4, .pointer (some ⟨b3, 0, none⟩)), (5, .slice (some ⟨b1, 1, none⟩) 47 47), (40, .bool ((bs.getD 1 0) == 1)), (41, .pointer (some ⟨b3, 2, none⟩))] (by kernel_rfl) rfl ?_
          refine VL_store (b := b3) (o := 2) (vs := [.bool ((bs.getD 1 0) == 1)]) (by kernel_rfl) (by kernel_rfl) ho5 (Nat.le_of_ble_eq_true (by kernel_rfl)) ?_
          intro w17 hw8
          replace hS := Step.transNew hS hw8.step (fun _ _ _ => by omega)
          replace ho1 := ho1.step hw8.step (show ¬ b1 = b3 by omega)
          replace ho2 := ho2.step hw8.step (show ¬ b2 = b3 by omega)
          have ho13 : Own w17 b3 #[.int .i64 (IntKind.wrap .i64 ((IntKind.wrap .i64 (bs.getD 0 0)) - 16)), .int .u8 0, .bool ((bs.getD 1 0) == 1), .int .u32 0, .int .u8 0, .int .u8 0, .int .u8 0, .int .u8 0, .int .u8 0, .int .u8 0, .int .u8 0, .int .u8 0, .int .u8 0, .int .u8 0, .int .u8 0, .int .u8 0, .int .u8 0, .int .u8 0, .int .u8 0, .int .u8 0, .int .u8 0, .int .u8 0, .int .u8 0, .int .u8 0, .int .u8 0, .int .u8 0, .int .u8 0, .int .u8 0, .int .u8 0, .int .u8 0, .int .u8 0, .int .u8 0, .int .u8 0, .int .u8 0, .int .u8 0, .int .u8 0] 31 := Own.cast hw8.own (by kernel_rfl)
          have hzhw8 := hw8.same
          refine VL_end (by kernel_rfl) ?_
          refine VQ_next ?_
          refine VC_seq ?_
          refine VC_seq ?_
          refine VC_region ?_
          refine VL_pure 4 [1, 2, 4, 5, 43, 44, 45] [(1, .pointer (some ⟨b1, 0, none⟩)), (2, .pointer (some ⟨b2, 0, none⟩)), (4, .pointer (some ⟨b3, 0, none⟩)), (5, .slice (some ⟨b1, 1, none⟩) 47 47), (43, .slice (some ⟨b1, 2, none⟩) 4 46), (44, .int .i64 4), (45, .int .i64 0)] (by kernel_rfl) rfl ?_
          refine VL_end (by kernel_rfl) ?_
          refine VQ_next ?_
          refine VC_block ?_
          refine VC_rounds ?_
          refine VCL_round ?_
          refine VC_seq ?_
          refine VC_region ?_
          refine VL_pure 1 [1, 2, 4, 5, 43, 44, 45, 46] [(1, .pointer (some ⟨b1, 0, none⟩)), (2, .pointer (some ⟨b2, 0, none⟩)), (4, .pointer (some ⟨b3, 0, none⟩)), (5, .slice (some ⟨b1, 1, none⟩) 47 47), (43, .slice (some ⟨b1, 2, none⟩) 4 46), (44, .int .i64 4), (45, .int .i64 0), (46, .bool true)] (by kernel_rfl) rfl ?_
          refine VL_end (by kernel_rfl) ?_
          refine VQ_next ?_
          refine VC_seq ?_
          refine VC_true (by kernel_rfl) ?_
          refine VC_skip ?_
          refine VQ_next ?_
          refine VC_seq ?_
          refine VC_block ?_
          refine VC_seq ?_
          refine VC_region ?_
          refine VL_index (d := 47) (b := b1) (o := 2) (len := 4) (sz := 1) (m := 0) (by kernel_rfl) (by kernel_rfl) 0 (by rfl) (by omega) 2 (by omega) ?_
          refine VL_load (d := 48) (t := 5) (a := ⟨b1, 2, none⟩) (v := .int .u8 (bs.getD 2 0)) (by kernel_rfl) (by kernel_rfl) (Loads.arr1 ho1 (by kernel_rfl) (by (try simp only [List.length_set, List.length_append, List.length_map, List.length_replicate, List.length_cons, List.length_nil, List.length_take, List.length_drop, List.length_range]) <;> omega)) ?_
          refine VL_pure 3 [1, 2, 4, 5, 43, 44, 45, 7] [(1, .pointer (some ⟨b1, 0, none⟩)), (2, .pointer (some ⟨b2, 0, none⟩)), (4, .pointer (some ⟨b3, 0, none⟩)), (5, .slice (some ⟨b1, 1, none⟩) 47 47), (43, .slice (some ⟨b1, 2, none⟩) 4 46), (44, .int .i64 4), (45, .int .i64 0), (7, .int .u8 (bs.getD 2 0))] (by kernel_rfl) rfl ?_
          refine VL_end (by kernel_rfl) ?_
          refine VQ_next ?_
          refine VC_region ?_
          refine VL_pure 1 [1, 2, 4, 5, 43, 44, 45, 7, 49] [(1, .pointer (some ⟨b1, 0, none⟩)), (2, .pointer (some ⟨b2, 0, none⟩)), (4, .pointer (some ⟨b3, 0, none⟩)), (5, .slice (some ⟨b1, 1, none⟩) 47 47), (43, .slice (some ⟨b1, 2, none⟩) 4 46), (44, .int .i64 4), (45, .int .i64 0), (7, .int .u8 (bs.getD 2 0)), (49, .pointer (some ⟨b3, 3, none⟩))] (by kernel_rfl) rfl ?_
          refine VL_load (d := 50) (t := 22) (a := ⟨b3, 3, none⟩) (v := .int .u32 0) (by kernel_rfl) (by kernel_rfl) (Loads.own1 ho13 (by kernel_rfl) (by rfl)) ?_
          refine VL_pure 7 [1, 2, 4, 5, 43, 44, 45, 54, 55] [(1, .pointer (some ⟨b1, 0, none⟩)), (2, .pointer (some ⟨b2, 0, none⟩)), (4, .pointer (some ⟨b3, 0, none⟩)), (5, .slice (some ⟨b1, 1, none⟩) 47 47), (43, .slice (some ⟨b1, 2, none⟩) 4 46), (44, .int .i64 4), (45, .int .i64 0), (54, .int .u32 (bOr .u32 0 (IntKind.wrap .u32 (bs.getD 2 0)))), (55, .pointer (some ⟨b3, 3, none⟩))] (by kernel_rfl) rfl ?_
          refine VL_store (b := b3) (o := 3) (vs := [.int .u32 (bOr .u32 0 (IntKind.wrap .u32 (bs.getD 2 0)))]) (by kernel_rfl) (by kernel_rfl) ho13 (Nat.le_of_ble_eq_true (by kernel_rfl)) ?_
          intro w18 hw9
          replace hS := Step.transNew hS hw9.step (fun _ _ _ => by omega)
          replace ho1 := ho1.step hw9.step (show ¬ b1 = b3 by omega)
          replace ho2 := ho2.step hw9.step (show ¬ b2 = b3 by omega)
          have ho14 : Own w18 b3 #[.int .i64 (IntKind.wrap .i64 ((IntKind.wrap .i64 (bs.getD 0 0)) - 16)), .int .u8 0, .bool ((bs.getD 1 0) == 1), .int .u32 (bOr .u32 0 (IntKind.wrap .u32 (bs.getD 2 0))), .int .u8 0, .int .u8 0, .int .u8 0, .int .u8 0, .int .u8 0, .int .u8 0, .int .u8 0, .int .u8 0, .int .u8 0, .int .u8 0, .int .u8 0, .int .u8 0, .int .u8 0, .int .u8 0, .int .u8 0, .int .u8 0, .int .u8 0, .int .u8 0, .int .u8 0, .int .u8 0, .int .u8 0, .int .u8 0, .int .u8 0, .int .u8 0, .int .u8 0, .int .u8 0, .int .u8 0, .int .u8 0, .int .u8 0, .int .u8 0, .int .u8 0, .int .u8 0] 31 := Own.cast hw9.own (by kernel_rfl)
          have hzhw9 := hw9.same
          refine VL_end (by kernel_rfl) ?_
          refine VQ_block_normal ?_
          refine VQ_next ?_
          refine VC_region ?_
          refine VL_pure 2 [1, 2, 4, 5, 43, 44, 45] [(1, .pointer (some ⟨b1, 0, none⟩)), (2, .pointer (some ⟨b2, 0, none⟩)), (4, .pointer (some ⟨b3, 0, none⟩)), (5, .slice (some ⟨b1, 1, none⟩) 47 47), (43, .slice (some ⟨b1, 2, none⟩) 4 46), (44, .int .i64 4), (45, .int .i64 1)] (by kernel_rfl) rfl ?_
          refine VL_end (by kernel_rfl) ?_
          refine VQ_round ?_
          refine VCL_round ?_
          refine VC_seq ?_
          refine VC_region ?_
          refine VL_pure 1 [1, 2, 4, 5, 43, 44, 45, 46] [(1, .pointer (some ⟨b1, 0, none⟩)), (2, .pointer (some ⟨b2, 0, none⟩)), (4, .pointer (some ⟨b3, 0, none⟩)), (5, .slice (some ⟨b1, 1, none⟩) 47 47), (43, .slice (some ⟨b1, 2, none⟩) 4 46), (44, .int .i64 4), (45, .int .i64 1), (46, .bool true)] (by kernel_rfl) rfl ?_
          refine VL_end (by kernel_rfl) ?_
          refine VQ_next ?_
          refine VC_seq ?_
          refine VC_true (by kernel_rfl) ?_
          refine VC_skip ?_
          refine VQ_next ?_
          refine VC_seq ?_
          refine VC_block ?_
          refine VC_seq ?_
          refine VC_region ?_
          refine VL_index (d := 47) (b := b1) (o := 2) (len := 4) (sz := 1) (m := 1) (by kernel_rfl) (by kernel_rfl) 1 (by rfl) (by omega) 3 (by omega) ?_
          refine VL_load (d := 48) (t := 5) (a := ⟨b1, 3, none⟩) (v := .int .u8 (bs.getD 3 0)) (by kernel_rfl) (by kernel_rfl) (Loads.arr1 ho1 (by kernel_rfl) (by (try simp only [List.length_set, List.length_append, List.length_map, List.length_replicate, List.length_cons, List.length_nil, List.length_take, List.length_drop, List.length_range]) <;> omega)) ?_
          refine VL_pure 3 [1, 2, 4, 5, 43, 44, 45, 7] [(1, .pointer (some ⟨b1, 0, none⟩)), (2, .pointer (some ⟨b2, 0, none⟩)), (4, .pointer (some ⟨b3, 0, none⟩)), (5, .slice (some ⟨b1, 1, none⟩) 47 47), (43, .slice (some ⟨b1, 2, none⟩) 4 46), (44, .int .i64 4), (45, .int .i64 1), (7, .int .u8 (bs.getD 3 0))] (by kernel_rfl) rfl ?_
          refine VL_end (by kernel_rfl) ?_
          refine VQ_next ?_
          refine VC_region ?_
          refine VL_pure 1 [1, 2, 4, 5, 43, 44, 45, 7, 49] [(1, .pointer (some ⟨b1, 0, none⟩)), (2, .pointer (some ⟨b2, 0, none⟩)), (4, .pointer (some ⟨b3, 0, none⟩)), (5, .slice (some ⟨b1, 1, none⟩) 47 47), (43, .slice (some ⟨b1, 2, none⟩) 4 46), (44, .int .i64 4), (45, .int .i64 1), (7, .int .u8 (bs.getD 3 0)), (49, .pointer (some ⟨b3, 3, none⟩))] (by kernel_rfl) rfl ?_
          refine VL_load (d := 50) (t := 22) (a := ⟨b3, 3, none⟩) (v := .int .u32 (bOr .u32 0 (IntKind.wrap .u32 (bs.getD 2 0)))) (by kernel_rfl) (by kernel_rfl) (Loads.own1 ho14 (by kernel_rfl) (by rfl)) ?_
          refine VL_pure 7 [1, 2, 4, 5, 43, 44, 45, 54, 55] [(1, .pointer (some ⟨b1, 0, none⟩)), (2, .pointer (some ⟨b2, 0, none⟩)), (4, .pointer (some ⟨b3, 0, none⟩)), (5, .slice (some ⟨b1, 1, none⟩) 47 47), (43, .slice (some ⟨b1, 2, none⟩) 4 46), (44, .int .i64 4), (45, .int .i64 1), (54, .int .u32 (bOr .u32 (IntKind.wrap .u32 ((bOr .u32 0 (IntKind.wrap .u32 (bs.getD 2 0))) * 2 ^ 8)) (IntKind.wrap .u32 (bs.getD 3 0)))), (55, .pointer (some ⟨b3, 3, none⟩))] (by kernel_rfl) rfl ?_
          refine VL_store (b := b3) (o := 3) (vs := [.int .u32 (bOr .u32 (IntKind.wrap .u32 ((bOr .u32 0 (IntKind.wrap .u32 (bs.getD 2 0))) * 2 ^ 8)) (IntKind.wrap .u32 (bs.getD 3 0)))]) (by kernel_rfl) (by kernel_rfl) ho14 (Nat.le_of_ble_eq_true (by kernel_rfl)) ?_
          intro w19 hw10
          replace hS := Step.transNew hS hw10.step (fun _ _ _ => by omega)
          replace ho1 := ho1.step hw10.step (show ¬ b1 = b3 by omega)
          replace ho2 := ho2.step hw10.step (show ¬ b2 = b3 by omega)
          have ho15 : Own w19 b3 #[.int .i64 (IntKind.wrap .i64 ((IntKind.wrap .i64 (bs.getD 0 0)) - 16)), .int .u8 0, .bool ((bs.getD 1 0) == 1), .int .u32 (bOr .u32 (IntKind.wrap .u32 ((bOr .u32 0 (IntKind.wrap .u32 (bs.getD 2 0))) * 2 ^ 8)) (IntKind.wrap .u32 (bs.getD 3 0))), .int .u8 0, .int .u8 0, .int .u8 0, .int .u8 0, .int .u8 0, .int .u8 0, .int .u8 0, .int .u8 0, .int .u8 0, .int .u8 0, .int .u8 0, .int .u8 0, .int .u8 0, .int .u8 0, .int .u8 0, .int .u8 0, .int .u8 0, .int .u8 0, .int .u8 0, .int .u8 0, .int .u8 0, .int .u8 0, .int .u8 0, .int .u8 0, .int .u8 0, .int .u8 0, .int .u8 0, .int .u8 0, .int .u8 0, .int .u8 0, .int .u8 0, .int .u8 0] 31 := Own.cast hw10.own (by kernel_rfl)
          have hzhw10 := hw10.same
          refine VL_end (by kernel_rfl) ?_
          refine VQ_block_normal ?_
          refine VQ_next ?_
          refine VC_region ?_
          refine VL_pure 2 [1, 2, 4, 5, 43, 44, 45] [(1, .pointer (some ⟨b1, 0, none⟩)), (2, .pointer (some ⟨b2, 0, none⟩)), (4, .pointer (some ⟨b3, 0, none⟩)), (5, .slice (some ⟨b1, 1, none⟩) 47 47), (43, .slice (some ⟨b1, 2, none⟩) 4 46), (44, .int .i64 4), (45, .int .i64 2)] (by kernel_rfl) rfl ?_
          refine VL_end (by kernel_rfl) ?_
          refine VQ_round ?_
          refine VCL_round ?_
          refine VC_seq ?_
          refine VC_region ?_
          refine VL_pure 1 [1, 2, 4, 5, 43, 44, 45, 46] [(1, .pointer (some ⟨b1, 0, none⟩)), (2, .pointer (some ⟨b2, 0, none⟩)), (4, .pointer (some ⟨b3, 0, none⟩)), (5, .slice (some ⟨b1, 1, none⟩) 47 47), (43, .slice (some ⟨b1, 2, none⟩) 4 46), (44, .int .i64 4), (45, .int .i64 2), (46, .bool true)] (by kernel_rfl) rfl ?_
          refine VL_end (by kernel_rfl) ?_
          refine VQ_next ?_
          refine VC_seq ?_
          refine VC_true (by kernel_rfl) ?_
          refine VC_skip ?_
          refine VQ_next ?_
          refine VC_seq ?_
          refine VC_block ?_
          refine VC_seq ?_
          refine VC_region ?_
          refine VL_index (d := 47) (b := b1) (o := 2) (len := 4) (sz := 1) (m := 2) (by kernel_rfl) (by kernel_rfl) 2 (by rfl) (by omega) 4 (by omega) ?_
          refine VL_load (d := 48) (t := 5) (a := ⟨b1, 4, none⟩) (v := .int .u8 (bs.getD 4 0)) (by kernel_rfl) (by kernel_rfl) (Loads.arr1 ho1 (by kernel_rfl) (by (try simp only [List.length_set, List.length_append, List.length_map, List.length_replicate, List.length_cons, List.length_nil, List.length_take, List.length_drop, List.length_range]) <;> omega)) ?_
          refine VL_pure 3 [1, 2, 4, 5, 43, 44, 45, 7] [(1, .pointer (some ⟨b1, 0, none⟩)), (2, .pointer (some ⟨b2, 0, none⟩)), (4, .pointer (some ⟨b3, 0, none⟩)), (5, .slice (some ⟨b1, 1, none⟩) 47 47), (43, .slice (some ⟨b1, 2, none⟩) 4 46), (44, .int .i64 4), (45, .int .i64 2), (7, .int .u8 (bs.getD 4 0))] (by kernel_rfl) rfl ?_
          refine VL_end (by kernel_rfl) ?_
          refine VQ_next ?_
          refine VC_region ?_
          refine VL_pure 1 [1, 2, 4, 5, 43, 44, 45, 7, 49] [(1, .pointer (some ⟨b1, 0, none⟩)), (2, .pointer (some ⟨b2, 0, none⟩)), (4, .pointer (some ⟨b3, 0, none⟩)), (5, .slice (some ⟨b1, 1, none⟩) 47 47), (43, .slice (some ⟨b1, 2, none⟩) 4 46), (44, .int .i64 4), (45, .int .i64 2), (7, .int .u8 (bs.getD 4 0)), (49, .pointer (some ⟨b3, 3, none⟩))] (by kernel_rfl) rfl ?_
          refine VL_load (d := 50) (t := 22) (a := ⟨b3, 3, none⟩) (v := .int .u32 (bOr .u32 (IntKind.wrap .u32 ((bOr .u32 0 (IntKind.wrap .u32 (bs.getD 2 0))) * 2 ^ 8)) (IntKind.wrap .u32 (bs.getD 3 0)))) (by kernel_rfl) (by kernel_rfl) (Loads.own1 ho15 (by kernel_rfl) (by rfl)) ?_
          refine VL_pure 7 [1, 2, 4, 5, 43, 44, 45, 54, 55] [(1, .pointer (some ⟨b1, 0, none⟩)), (2, .pointer (some ⟨b2, 0, none⟩)), (4, .pointer (some ⟨b3, 0, none⟩)), (5, .slice (some ⟨b1, 1, none⟩) 47 47), (43, .slice (some ⟨b1, 2, none⟩) 4 46), (44, .int .i64 4), (45, .int .i64 2), (54, .int .u32 (bOr .u32 (IntKind.wrap .u32 ((bOr .u32 (IntKind.wrap .u32 ((bOr .u32 0 (IntKind.wrap .u32 (bs.getD 2 0))) * 2 ^ 8)) (IntKind.wrap .u32 (bs.getD 3 0))) * 2 ^ 8)) (IntKind.wrap .u32 (bs.getD 4 0)))), (55, .pointer (some ⟨b3, 3, none⟩))] (by kernel_rfl) rfl ?_
          refine VL_store (b := b3) (o := 3) (vs := [.int .u32 (bOr .u32 (IntKind.wrap .u32 ((bOr .u32 (IntKind.wrap .u32 ((bOr .u32 0 (IntKind.wrap .u32 (bs.getD 2 0))) * 2 ^ 8)) (IntKind.wrap .u32 (bs.getD 3 0))) * 2 ^ 8)) (IntKind.wrap .u32 (bs.getD 4 0)))]) (by kernel_rfl) (by kernel_rfl) ho15 (Nat.le_of_ble_eq_true (by kernel_rfl)) ?_
          intro w20 hw11
          replace hS := Step.transNew hS hw11.step (fun _ _ _ => by omega)
          replace ho1 := ho1.step hw11.step (show ¬ b1 = b3 by omega)
          replace ho2 := ho2.step hw11.step (show ¬ b2 = b3 by omega)
          have ho16 : Own w20 b3 #[.int .i64 (IntKind.wrap .i64 ((IntKind.wrap .i64 (bs.getD 0 0)) - 16)), .int .u8 0, .bool ((bs.getD 1 0) == 1), .int .u32 (bOr .u32 (IntKind.wrap .u32 ((bOr .u32 (IntKind.wrap .u32 ((bOr .u32 0 (IntKind.wrap .u32 (bs.getD 2 0))) * 2 ^ 8)) (IntKind.wrap .u32 (bs.getD 3 0))) * 2 ^ 8)) (IntKind.wrap .u32 (bs.getD 4 0))), .int .u8 0, .int .u8 0, .int .u8 0, .int .u8 0, .int .u8 0, .int .u8 0, .int .u8 0, .int .u8 0, .int .u8 0, .int .u8 0, .int .u8 0, .int .u8 0, .int .u8 0, .int .u8 0, .int .u8 0, .int .u8 0, .int .u8 0, .int .u8 0, .int .u8 0, .int .u8 0, .int .u8 0, .int .u8 0, .int .u8 0, .int .u8 0, .int .u8 0, .int .u8 0, .int .u8 0, .int .u8 0, .int .u8 0, .int .u8 0, .int .u8 0, .int .u8 0] 31 := Own.cast hw11.own (by kernel_rfl)
          have hzhw11 := hw11.same
          refine VL_end (by kernel_rfl) ?_
          refine VQ_block_normal ?_
          refine VQ_next ?_
          refine VC_region ?_
          refine VL_pure 2 [1, 2, 4, 5, 43, 44, 45] [(1, .pointer (some ⟨b1, 0, none⟩)), (2, .pointer (some ⟨b2, 0, none⟩)), (4, .pointer (some ⟨b3, 0, none⟩)), (5, .slice (some ⟨b1, 1, none⟩) 47 47), (43, .slice (some ⟨b1, 2, none⟩) 4 46), (44, .int .i64 4), (45, .int .i64 3)] (by kernel_rfl) rfl ?_
          refine VL_end (by kernel_rfl) ?_
          refine VQ_round ?_
          refine VCL_round ?_
          refine VC_seq ?_
          refine VC_region ?_
          refine VL_pure 1 [1, 2, 4, 5, 43, 44, 45, 46] [(1, .pointer (some ⟨b1, 0, none⟩)), (2, .pointer (some ⟨b2, 0, none⟩)), (4, .pointer (some ⟨b3, 0, none⟩)), (5, .slice (some ⟨b1, 1, none⟩) 47 47), (43, .slice (some ⟨b1, 2, none⟩) 4 46), (44, .int .i64 4), (45, .int .i64 3), (46, .bool true)] (by kernel_rfl) rfl ?_
          refine VL_end (by kernel_rfl) ?_
          refine VQ_next ?_
          refine VC_seq ?_
          refine VC_true (by kernel_rfl) ?_
          refine VC_skip ?_
          refine VQ_next ?_
          refine VC_seq ?_
          refine VC_block ?_
          refine VC_seq ?_
          refine VC_region ?_
          refine VL_index (d := 47) (b := b1) (o := 2) (len := 4) (sz := 1) (m := 3) (by kernel_rfl) (by kernel_rfl) 3 (by rfl) (by omega) 5 (by omega) ?_
          refine VL_load (d := 48) (t := 5) (a := ⟨b1, 5, none⟩) (v := .int .u8 (bs.getD 5 0)) (by kernel_rfl) (by kernel_rfl) (Loads.arr1 ho1 (by kernel_rfl) (by (try simp only [List.length_set, List.length_append, List.length_map, List.length_replicate, List.length_cons, List.length_nil, List.length_take, List.length_drop, List.length_range]) <;> omega)) ?_
          refine VL_pure 3 [1, 2, 4, 5, 43, 44, 45, 7] [(1, .pointer (some ⟨b1, 0, none⟩)), (2, .pointer (some ⟨b2, 0, none⟩)), (4, .pointer (some ⟨b3, 0, none⟩)), (5, .slice (some ⟨b1, 1, none⟩) 47 47), (43, .slice (some ⟨b1, 2, none⟩) 4 46), (44, .int .i64 4), (45, .int .i64 3), (7, .int .u8 (bs.getD 5 0))] (by kernel_rfl) rfl ?_
          refine VL_end (by kernel_rfl) ?_
          refine VQ_next ?_
          refine VC_region ?_
          refine VL_pure 1 [1, 2, 4, 5, 43, 44, 45, 7, 49] [(1, .pointer (some ⟨b1, 0, none⟩)), (2, .pointer (some ⟨b2, 0, none⟩)), (4, .pointer (some ⟨b3, 0, none⟩)), (5, .slice (some ⟨b1, 1, none⟩) 47 47), (43, .slice (some ⟨b1, 2, none⟩) 4 46), (44, .int .i64 4), (45, .int .i64 3), (7, .int .u8 (bs.getD 5 0)), (49, .pointer (some ⟨b3, 3, none⟩))] (by kernel_rfl) rfl ?_
          refine VL_load (d := 50) (t := 22) (a := ⟨b3, 3, none⟩) (v := .int .u32 (bOr .u32 (IntKind.wrap .u32 ((bOr .u32 (IntKind.wrap .u32 ((bOr .u32 0 (IntKind.wrap .u32 (bs.getD 2 0))) * 2 ^ 8)) (IntKind.wrap .u32 (bs.getD 3 0))) * 2 ^ 8)) (IntKind.wrap .u32 (bs.getD 4 0)))) (by kernel_rfl) (by kernel_rfl) (Loads.own1 ho16 (by kernel_rfl) (by rfl)) ?_
          refine VL_pure 7 [1, 2, 4, 5, 43, 44, 45, 54, 55] [(1, .pointer (some ⟨b1, 0, none⟩)), (2, .pointer (some ⟨b2, 0, none⟩)), (4, .pointer (some ⟨b3, 0, none⟩)), (5, .slice (some ⟨b1, 1, none⟩) 47 47), (43, .slice (some ⟨b1, 2, none⟩) 4 46), (44, .int .i64 4), (45, .int .i64 3), (54, .int .u32 (bOr .u32 (IntKind.wrap .u32 ((bOr .u32 (IntKind.wrap .u32 ((bOr .u32 (IntKind.wrap .u32 ((bOr .u32 0 (IntKind.wrap .u32 (bs.getD 2 0))) * 2 ^ 8)) (IntKind.wrap .u32 (bs.getD 3 0))) * 2 ^ 8)) (IntKind.wrap .u32 (bs.getD 4 0))) * 2 ^ 8)) (IntKind.wrap .u32 (bs.getD 5 0)))), (55, .pointer (some ⟨b3, 3, none⟩))] (by kernel_rfl) rfl ?_
          refine VL_store (b := b3) (o := 3) (vs := [.int .u32 (bOr .u32 (IntKind.wrap .u32 ((bOr .u32 (IntKind.wrap .u32 ((bOr .u32 (IntKind.wrap .u32 ((bOr .u32 0 (IntKind.wrap .u32 (bs.getD 2 0))) * 2 ^ 8)) (IntKind.wrap .u32 (bs.getD 3 0))) * 2 ^ 8)) (IntKind.wrap .u32 (bs.getD 4 0))) * 2 ^ 8)) (IntKind.wrap .u32 (bs.getD 5 0)))]) (by kernel_rfl) (by kernel_rfl) ho16 (Nat.le_of_ble_eq_true (by kernel_rfl)) ?_
          intro w21 hw12
          replace hS := Step.transNew hS hw12.step (fun _ _ _ => by omega)
          replace ho1 := ho1.step hw12.step (show ¬ b1 = b3 by omega)
          replace ho2 := ho2.step hw12.step (show ¬ b2 = b3 by omega)
          have ho17 : Own w21 b3 #[.int .i64 (IntKind.wrap .i64 ((IntKind.wrap .i64 (bs.getD 0 0)) - 16)), .int .u8 0, .bool ((bs.getD 1 0) == 1), .int .u32 (bOr .u32 (IntKind.wrap .u32 ((bOr .u32 (IntKind.wrap .u32 ((bOr .u32 (IntKind.wrap .u32 ((bOr .u32 0 (IntKind.wrap .u32 (bs.getD 2 0))) * 2 ^ 8)) (IntKind.wrap .u32 (bs.getD 3 0))) * 2 ^ 8)) (IntKind.wrap .u32 (bs.getD 4 0))) * 2 ^ 8)) (IntKind.wrap .u32 (bs.getD 5 0))), .int .u8 0, .int .u8 0, .int .u8 0, .int .u8 0, .int .u8 0, .int .u8 0, .int .u8 0, .int .u8 0, .int .u8 0, .int .u8 0, .int .u8 0, .int .u8 0, .int .u8 0, .int .u8 0, .int .u8 0, .int .u8 0, .int .u8 0, .int .u8 0, .int .u8 0, .int .u8 0, .int .u8 0, .int .u8 0, .int .u8 0, .int .u8 0, .int .u8 0, .int .u8 0, .int .u8 0, .int .u8 0, .int .u8 0, .int .u8 0, .int .u8 0, .int .u8 0] 31 := Own.cast hw12.own (by kernel_rfl)
          have hzhw12 := hw12.same
          refine VL_end (by kernel_rfl) ?_
          refine VQ_block_normal ?_
          refine VQ_next ?_
          refine VC_region ?_
          refine VL_pure 2 [1, 2, 4, 5, 43, 44, 45] [(1, .pointer (some ⟨b1, 0, none⟩)), (2, .pointer (some ⟨b2, 0, none⟩)), (4, .pointer (some ⟨b3, 0, none⟩)), (5, .slice (some ⟨b1, 1, none⟩) 47 47), (43, .slice (some ⟨b1, 2, none⟩) 4 46), (44, .int .i64 4), (45, .int .i64 4)] (by kernel_rfl) rfl ?_
          refine VL_end (by kernel_rfl) ?_
          refine VQ_round ?_
          refine VCL_round ?_
          refine VC_seq ?_
          refine VC_region ?_
          refine VL_pure 1 [1, 2, 4, 5, 43, 44, 45, 46] [(1, .pointer (some ⟨b1, 0, none⟩)), (2, .pointer (some ⟨b2, 0, none⟩)), (4, .pointer (some ⟨b3, 0, none⟩)), (5, .slice (some ⟨b1, 1, none⟩) 47 47), (43, .slice (some ⟨b1, 2, none⟩) 4 46), (44, .int .i64 4), (45, .int .i64 4), (46, .bool false)] (by kernel_rfl) rfl ?_
          refine VL_end (by kernel_rfl) ?_
          refine VQ_next ?_
          refine VC_seq ?_
          refine VC_false (by kernel_rfl) ?_
          refine VC_exit ?_
          refine VQ_then_exit ?_
          refine VQ_then_exit ?_
          refine VQ_block_hit ?_
          refine VQ_next ?_
          refine VC_eff [[], [0], [0, 1], [0, 1, 2], [], [4], [4, 5], [4, 5, 6], [0, 1, 2, 3], [0, 1, 2, 3, 8], [0, 1, 2, 3, 4, 5, 6, 7, 8, 9], [0, 1, 2, 3, 4, 5, 6, 7, 8, 9, 10]] 10 [.slice (some ⟨b1, 1, none⟩) 47 47, .slice (some ⟨b1, 6, none⟩) 42 42, .pointer (some ⟨b1, 6, none⟩), .agg #[.int .u8 (bs.getD 6 0), .int .u8 (bs.getD 7 0), .int .u8 (bs.getD 8 0), .int .u8 (bs.getD 9 0), .int .u8 (bs.getD 10 0), .int .u8 (bs.getD 11 0), .int .u8 (bs.getD 12 0), .int .u8 (bs.getD 13 0), .int .u8 (bs.getD 14 0), .int .u8 (bs.getD 15 0), .int .u8 (bs.getD 16 0), .int .u8 (bs.getD 17 0), .int .u8 (bs.getD 18 0), .int .u8 (bs.getD 19 0), .int .u8 (bs.getD 20 0), .int .u8 (bs.getD 21 0)], .slice (some ⟨b1, 1, none⟩) 47 47, .slice (some ⟨b1, 22, none⟩) 26 26, .pointer (some ⟨b1, 22, none⟩), .agg #[.int .u8 (bs.getD 22 0), .int .u8 (bs.getD 23 0), .int .u8 (bs.getD 24 0), .int .u8 (bs.getD 25 0), .int .u8 (bs.getD 26 0), .int .u8 (bs.getD 27 0), .int .u8 (bs.getD 28 0), .int .u8 (bs.getD 29 0), .int .u8 (bs.getD 30 0), .int .u8 (bs.getD 31 0), .int .u8 (bs.getD 32 0), .int .u8 (bs.getD 33 0), .int .u8 (bs.getD 34 0), .int .u8 (bs.getD 35 0), .int .u8 (bs.getD 36 0), .int .u8 (bs.getD 37 0)], .pointer (some ⟨b3, 4, none⟩), undef] [0, 1, 2, 4, 5, 6, 8] [3, 7, 9] (ROwn b3 31 #[.int .i64 (IntKind.wrap .i64 ((IntKind.wrap .i64 (bs.getD 0 0)) - 16)), .int .u8 0, .bool ((bs.getD 1 0) == 1), .int .u32 (bOr .u32 (IntKind.wrap .u32 ((bOr .u32 (IntKind.wrap .u32 ((bOr .u32 (IntKind.wrap .u32 ((bOr .u32 0 (IntKind.wrap .u32 (bs.getD 2 0))) * 2 ^ 8)) (IntKind.wrap .u32 (bs.getD 3 0))) * 2 ^ 8)) (IntKind.wrap .u32 (bs.getD 4 0))) * 2 ^ 8)) (IntKind.wrap .u32 (bs.getD 5 0))), .int .u8 0, .int .u8 0, .int .u8 0, .int .u8 0, .int .u8 0, .int .u8 0, .int .u8 0, .int .u8 0, .int .u8 0, .int .u8 0, .int .u8 0, .int .u8 0, .int .u8 0, .int .u8 0, .int .u8 0, .int .u8 0, .int .u8 0, .int .u8 0, .int .u8 0, .int .u8 0, .int .u8 0, .int .u8 0, .int .u8 0, .int .u8 0, .int .u8 0, .int .u8 0, .int .u8 0, .int .u8 0, .int .u8 0, .int .u8 0, .int .u8 0, .int .u8 0] #[.int .i64 (IntKind.wrap .i64 ((IntKind.wrap .i64 (bs.getD 0 0)) - 16)), .int .u8 0, .bool ((bs.getD 1 0) == 1), .int .u32 (bOr .u32 (IntKind.wrap .u32 ((bOr .u32 (IntKind.wrap .u32 ((bOr .u32 (IntKind.wrap .u32 ((bOr .u32 0 (IntKind.wrap .u32 (bs.getD 2 0))) * 2 ^ 8)) (IntKind.wrap .u32 (bs.getD 3 0))) * 2 ^ 8)) (IntKind.wrap .u32 (bs.getD 4 0))) * 2 ^ 8)) (IntKind.wrap .u32 (bs.getD 5 0))), .int .u8 (bs.getD 6 0), .int .u8 (bs.getD 7 0), .int .u8 (bs.getD 8 0), .int .u8 (bs.getD 9 0), .int .u8 (bs.getD 10 0), .int .u8 (bs.getD 11 0), .int .u8 (bs.getD 12 0), .int .u8 (bs.getD 13 0), .int .u8 (bs.getD 14 0), .int .u8 (bs.getD 15 0), .int .u8 (bs.getD 16 0), .int .u8 (bs.getD 17 0), .int .u8 (bs.getD 18 0), .int .u8 (bs.getD 19 0), .int .u8 (bs.getD 20 0), .int .u8 (bs.getD 21 0), .int .u8 0, .int .u8 0, .int .u8 0, .int .u8 0, .int .u8 0, .int .u8 0, .int .u8 0, .int .u8 0, .int .u8 0, .int .u8 0, .int .u8 0, .int .u8 0, .int .u8 0, .int .u8 0, .int .u8 0, .int .u8 0]) (fun j x => j = 9 → Own x b3 #[.int .i64 (IntKind.wrap .i64 ((IntKind.wrap .i64 (bs.getD 0 0)) - 16)), .int .u8 0, .bool ((bs.getD 1 0) == 1), .int .u32 (bOr .u32 (IntKind.wrap .u32 ((bOr .u32 (IntKind.wrap .u32 ((bOr .u32 (IntKind.wrap .u32 ((bOr .u32 0 (IntKind.wrap .u32 (bs.getD 2 0))) * 2 ^ 8)) (IntKind.wrap .u32 (bs.getD 3 0))) * 2 ^ 8)) (IntKind.wrap .u32 (bs.getD 4 0))) * 2 ^ 8)) (IntKind.wrap .u32 (bs.getD 5 0))), .int .u8 (bs.getD 6 0), .int .u8 (bs.getD 7 0), .int .u8 (bs.getD 8 0), .int .u8 (bs.getD 9 0), .int .u8 (bs.getD 10 0), .int .u8 (bs.getD 11 0), .int .u8 (bs.getD 12 0), .int .u8 (bs.getD 13 0), .int .u8 (bs.getD 14 0), .int .u8 (bs.getD 15 0), .int .u8 (bs.getD 16 0), .int .u8 (bs.getD 17 0), .int .u8 (bs.getD 18 0), .int .u8 (bs.getD 19 0), .int .u8 (bs.getD 20 0), .int .u8 (bs.getD 21 0), .int .u8 0, .int .u8 0, .int .u8 0, .int .u8 0, .int .u8 0, .int .u8 0, .int .u8 0, .int .u8 0, .int .u8 0, .int .u8 0, .int .u8 0, .int .u8 0, .int .u8 0, .int .u8 0, .int .u8 0, .int .u8 0] 31) (by kernel_rfl) (by kernel_rfl) (by kernel_rfl) (ROwn.refl _ _ _ _) ROwn.trans (ROwn.no (drew_step _)) (fun _ _ _ h hr e => hr.2.1 (h e)) (by kernel_rfl) (by intro k hk x e; subst e; simp at hk) ?_ ?_
          · intro w24 hr3
            have hI := hr3.1 (.inl ho17)
            replace hS := Step.transNew hS hr3.2.2 (fun _ _ _ => by omega)
            replace ho1 := ho1.step hr3.2.2 (show ¬ b1 = b3 by omega)
            replace ho2 := ho2.step hr3.2.2 (show ¬ b2 = b3 by omega)
            exact ⟨fun _ => Eff1_no (Det1_load (d := 60) (t := 23) (a := ⟨b1, 6, none⟩) (by kernel_rfl) (by kernel_rfl) (Loads.arrSub (o := 6) (N := 16) ho1 (by kernel_rfl) (by (try simp only [List.length_set, List.length_append, List.length_map, List.length_replicate, List.length_cons, List.length_nil, List.length_take, List.length_drop, List.length_range]) <;> omega))) (fun x e => absurd e (by decide)), fun _ => Eff1_no (Det1_load (d := 64) (t := 23) (a := ⟨b1, 22, none⟩) (by kernel_rfl) (by kernel_rfl) (Loads.arrSub (o := 22) (N := 16) ho1 (by kernel_rfl) (by (try simp only [List.length_set, List.length_append, List.length_map, List.length_replicate, List.length_cons, List.length_nil, List.length_take, List.length_drop, List.length_range]) <;> omega))) (fun x e => absurd e (by decide)), fun _ => Eff1_store (b := b3) (o := 4) (T := 31) (c0 := #[.int .i64 (IntKind.wrap .i64 ((IntKind.wrap .i64 (bs.getD 0 0)) - 16)), .int .u8 0, .bool ((bs.getD 1 0) == 1), .int .u32 (bOr .u32 (IntKind.wrap .u32 ((bOr .u32 (IntKind.wrap .u32 ((bOr .u32 (IntKind.wrap .u32 ((bOr .u32 0 (IntKind.wrap .u32 (bs.getD 2 0))) * 2 ^ 8)) (IntKind.wrap .u32 (bs.getD 3 0))) * 2 ^ 8)) (IntKind.wrap .u32 (bs.getD 4 0))) * 2 ^ 8)) (IntKind.wrap .u32 (bs.getD 5 0))), .int .u8 0, .int .u8 0, .int .u8 0, .int .u8 0, .int .u8 0, .int .u8 0, .int .u8 0, .int .u8 0, .int .u8 0, .int .u8 0, .int .u8 0, .int .u8 0, .int .u8 0, .int .u8 0, .int .u8 0, .int .u8 0, .int .u8 0, .int .u8 0, .int .u8 0, .int .u8 0, .int .u8 0, .int .u8 0, .int .u8 0, .int .u8 0, .int .u8 0, .int .u8 0, .int .u8 0, .int .u8 0, .int .u8 0, .int .u8 0, .int .u8 0, .int .u8 0]) (c1 := #[.int .i64 (IntKind.wrap .i64 ((IntKind.wrap .i64 (bs.getD 0 0)) - 16)), .int .u8 0, .bool ((bs.getD 1 0) == 1), .int .u32 (bOr .u32 (IntKind.wrap .u32 ((bOr .u32 (IntKind.wrap .u32 ((bOr .u32 (IntKind.wrap .u32 ((bOr .u32 0 (IntKind.wrap .u32 (bs.getD 2 0))) * 2 ^ 8)) (IntKind.wrap .u32 (bs.getD 3 0))) * 2 ^ 8)) (IntKind.wrap .u32 (bs.getD 4 0))) * 2 ^ 8)) (IntKind.wrap .u32 (bs.getD 5 0))), .int .u8 (bs.getD 6 0), .int .u8 (bs.getD 7 0), .int .u8 (bs.getD 8 0), .int .u8 (bs.getD 9 0), .int .u8 (bs.getD 10 0), .int .u8 (bs.getD 11 0), .int .u8 (bs.getD 12 0), .int .u8 (bs.getD 13 0), .int .u8 (bs.getD 14 0), .int .u8 (bs.getD 15 0), .int .u8 (bs.getD 16 0), .int .u8 (bs.getD 17 0), .int .u8 (bs.getD 18 0), .int .u8 (bs.getD 19 0), .int .u8 (bs.getD 20 0), .int .u8 (bs.getD 21 0), .int .u8 0, .int .u8 0, .int .u8 0, .int .u8 0, .int .u8 0, .int .u8 0, .int .u8 0, .int .u8 0, .int .u8 0, .int .u8 0, .int .u8 0, .int .u8 0, .int .u8 0, .int .u8 0, .int .u8 0, .int .u8 0]) (vs := [.int .u8 (bs.getD 6 0), .int .u8 (bs.getD 7 0), .int .u8 (bs.getD 8 0), .int .u8 (bs.getD 9 0), .int .u8 (bs.getD 10 0), .int .u8 (bs.getD 11 0), .int .u8 (bs.getD 12 0), .int .u8 (bs.getD 13 0), .int .u8 (bs.getD 14 0), .int .u8 (bs.getD 15 0), .int .u8 (bs.getD 16 0), .int .u8 (bs.getD 17 0), .int .u8 (bs.getD 18 0), .int .u8 (bs.getD 19 0), .int .u8 (bs.getD 20 0), .int .u8 (bs.getD 21 0)]) (by kernel_rfl) (by kernel_rfl) hI (Nat.le_of_ble_eq_true (by kernel_rfl)) (Nat.le_of_ble_eq_true (by kernel_rfl)) (by kernel_rfl) (by kernel_rfl), trivial⟩
          intro w23 hr4 hB2
          have ho18 := hB2 9 (by decide) rfl
          replace hS := Step.transNew hS hr4.2.2 (fun _ _ _ => by omega)
          replace ho1 := ho1.step hr4.2.2 (show ¬ b1 = b3 by omega)
          replace ho2 := ho2.step hr4.2.2 (show ¬ b2 = b3 by omega)
          refine VL_keep [1, 2, 4, 64] [(1, .pointer (some ⟨b1, 0, none⟩)), (2, .pointer (some ⟨b2, 0, none⟩)), (4, .pointer (some ⟨b3, 0, none⟩)), (64, .agg #[.int .u8 (bs.getD 22 0), .int .u8 (bs.getD 23 0), .int .u8 (bs.getD 24 0), .int .u8 (bs.getD 25 0), .int .u8 (bs.getD 26 0), .int .u8 (bs.getD 27 0), .int .u8 (bs.getD 28 0), .int .u8 (bs.getD 29 0), .int .u8 (bs.getD 30 0), .int .u8 (bs.getD 31 0), .int .u8 (bs.getD 32 0), .int .u8 (bs.getD 33 0), .int .u8 (bs.getD 34 0), .int .u8 (bs.getD 35 0), .int .u8 (bs.getD 36 0), .int .u8 (bs.getD 37 0)])] (by kernel_rfl) ?_
          refine VL_pure 11 [1, 2, 4, 64, 66] [(1, .pointer (some ⟨b1, 0, none⟩)), (2, .pointer (some ⟨b2, 0, none⟩)), (4, .pointer (some ⟨b3, 0, none⟩)), (64, .agg #[.int .u8 (bs.getD 22 0), .int .u8 (bs.getD 23 0), .int .u8 (bs.getD 24 0), .int .u8 (bs.getD 25 0), .int .u8 (bs.getD 26 0), .int .u8 (bs.getD 27 0), .int .u8 (bs.getD 28 0), .int .u8 (bs.getD 29 0), .int .u8 (bs.getD 30 0), .int .u8 (bs.getD 31 0), .int .u8 (bs.getD 32 0), .int .u8 (bs.getD 33 0), .int .u8 (bs.getD 34 0), .int .u8 (bs.getD 35 0), .int .u8 (bs.getD 36 0), .int .u8 (bs.getD 37 0)]), (66, .pointer (some ⟨b3, 20, none⟩))] (by kernel_rfl) rfl ?_
          refine VL_store (b := b3) (o := 20) (vs := [.int .u8 (bs.getD 22 0), .int .u8 (bs.getD 23 0), .int .u8 (bs.getD 24 0), .int .u8 (bs.getD 25 0), .int .u8 (bs.getD 26 0), .int .u8 (bs.getD 27 0), .int .u8 (bs.getD 28 0), .int .u8 (bs.getD 29 0), .int .u8 (bs.getD 30 0), .int .u8 (bs.getD 31 0), .int .u8 (bs.getD 32 0), .int .u8 (bs.getD 33 0), .int .u8 (bs.getD 34 0), .int .u8 (bs.getD 35 0), .int .u8 (bs.getD 36 0), .int .u8 (bs.getD 37 0)]) (by kernel_rfl) (by kernel_rfl) ho18 (Nat.le_of_ble_eq_true (by kernel_rfl)) ?_
          intro w25 hw13
          replace hS := Step.transNew hS hw13.step (fun _ _ _ => by omega)
          replace ho1 := ho1.step hw13.step (show ¬ b1 = b3 by omega)
          replace ho2 := ho2.step hw13.step (show ¬ b2 = b3 by omega)
          have ho19 : Own w25 b3 #[.int .i64 (IntKind.wrap .i64 ((IntKind.wrap .i64 (bs.getD 0 0)) - 16)), .int .u8 0, .bool ((bs.getD 1 0) == 1), .int .u32 (bOr .u32 (IntKind.wrap .u32 ((bOr .u32 (IntKind.wrap .u32 ((bOr .u32 (IntKind.wrap .u32 ((bOr .u32 0 (IntKind.wrap .u32 (bs.getD 2 0))) * 2 ^ 8)) (IntKind.wrap .u32 (bs.getD 3 0))) * 2 ^ 8)) (IntKind.wrap .u32 (bs.getD 4 0))) * 2 ^ 8)) (IntKind.wrap .u32 (bs.getD 5 0))), .int .u8 (bs.getD 6 0), .int .u8 (bs.getD 7 0), .int .u8 (bs.getD 8 0), .int .u8 (bs.getD 9 0), .int .u8 (bs.getD 10 0), .int .u8 (bs.getD 11 0), .int .u8 (bs.getD 12 0), .int .u8 (bs.getD 13 0), .int .u8 (bs.getD 14 0), .int .u8 (bs.getD 15 0), .int .u8 (bs.getD 16 0), .int .u8 (bs.getD 17 0), .int .u8 (bs.getD 18 0), .int .u8 (bs.getD 19 0), .int .u8 (bs.getD 20 0), .int .u8 (bs.getD 21 0), .int .u8 (bs.getD 22 0), .int .u8 (bs.getD 23 0), .int .u8 (bs.getD 24 0), .int .u8 (bs.getD 25 0), .int .u8 (bs.getD 26 0), .int .u8 (bs.getD 27 0), .int .u8 (bs.getD 28 0), .int .u8 (bs.getD 29 0), .int .u8 (bs.getD 30 0), .int .u8 (bs.getD 31 0), .int .u8 (bs.getD 32 0), .int .u8 (bs.getD 33 0), .int .u8 (bs.getD 34 0), .int .u8 (bs.getD 35 0), .int .u8 (bs.getD 36 0), .int .u8 (bs.getD 37 0)] 31 := Own.cast hw13.own (by kernel_rfl)
          have hzhw13 := hw13.same
          refine VL_end (by kernel_rfl) ?_
          refine VQ_block_normal ?_
          refine VQ_next ?_
          refine VC_seq ?_
          refine VC_seq ?_
          refine VC_region ?_
          refine VL_load (d := 70) (t := 31) (a := ⟨b3, 0, none⟩) (v := .agg #[.int .i64 (IntKind.wrap .i64 ((IntKind.wrap .i64 (bs.getD 0 0)) - 16)), .int .u8 0, .bool ((bs.getD 1 0) == 1), .int .u32 (bOr .u32 (IntKind.wrap .u32 ((bOr .u32 (IntKind.wrap .u32 ((bOr .u32 (IntKind.wrap .u32 ((bOr .u32 0 (IntKind.wrap .u32 (bs.getD 2 0))) * 2 ^ 8)) (IntKind.wrap .u32 (bs.getD 3 0))) * 2 ^ 8)) (IntKind.wrap .u32 (bs.getD 4 0))) * 2 ^ 8)) (IntKind.wrap .u32 (bs.getD 5 0))), .int .u8 (bs.getD 6 0), .int .u8 (bs.getD 7 0), .int .u8 (bs.getD 8 0), .int .u8 (bs.getD 9 0), .int .u8 (bs.getD 10 0), .int .u8 (bs.getD 11 0), .int .u8 (bs.getD 12 0), .int .u8 (bs.getD 13 0), .int .u8 (bs.getD 14 0), .int .u8 (bs.getD 15 0), .int .u8 (bs.getD 16 0), .int .u8 (bs.getD 17 0), .int .u8 (bs.getD 18 0), .int .u8 (bs.getD 19 0), .int .u8 (bs.getD 20 0), .int .u8 (bs.getD 21 0), .int .u8 (bs.getD 22 0), .int .u8 (bs.getD 23 0), .int .u8 (bs.getD 24 0), .int .u8 (bs.getD 25 0), .int .u8 (bs.getD 26 0), .int .u8 (bs.getD 27 0), .int .u8 (bs.getD 28 0), .int .u8 (bs.getD 29 0), .int .u8 (bs.getD 30 0), .int .u8 (bs.getD 31 0), .int .u8 (bs.getD 32 0), .int .u8 (bs.getD 33 0), .int .u8 (bs.getD 34 0), .int .u8 (bs.getD 35 0), .int .u8 (bs.getD 36 0), .int .u8 (bs.getD 37 0)]) (by kernel_rfl) (by kernel_rfl) (Loads.ownL ho19 (n := 36) (by kernel_rfl) (by kernel_rfl) (by kernel_rfl)) ?_
          have hzs9 := hS.size
          have hzl15 := ho1.lt
          have hzl16 := ho2.lt
          have hzl17 := ho19.lt
          refine VL_call (d := 71) (f := 10) (by kernel_rfl) (by kernel_rfl) (by kernel_rfl) Try.call10 (pack_any (⟨IntKind.wrap .i64 ((IntKind.wrap .i64 (bs.getD 0 0)) - 16), 0, (bs.getD 1 0) == 1, bOr .u32 (IntKind.wrap .u32 ((bOr .u32 (IntKind.wrap .u32 ((bOr .u32 (IntKind.wrap .u32 ((bOr .u32 0 (IntKind.wrap .u32 (bs.getD 2 0))) * 2 ^ 8)) (IntKind.wrap .u32 (bs.getD 3 0))) * 2 ^ 8)) (IntKind.wrap .u32 (bs.getD 4 0))) * 2 ^ 8)) (IntKind.wrap .u32 (bs.getD 5 0)), (plG bs 6), (plG bs 22)⟩ : Om) _) ?_
          rintro _ w26 ⟨rfl, hc3⟩
          replace hS := Step.trans hS hc3
          replace ho1 := ho1.no hc3
          replace ho2 := ho2.no hc3
          replace ho19 := ho19.no hc3
          refine VL_pure 5 [1, 2, 4, 72, 73] [(1, .pointer (some ⟨b1, 0, none⟩)), (2, .pointer (some ⟨b2, 0, none⟩)), (4, .pointer (some ⟨b3, 0, none⟩)), (72, .agg (iA .u8 (packV (⟨IntKind.wrap .i64 ((IntKind.wrap .i64 (bs.getD 0 0)) - 16), 0, (bs.getD 1 0) == 1, bOr .u32 (IntKind.wrap .u32 ((bOr .u32 (IntKind.wrap .u32 ((bOr .u32 (IntKind.wrap .u32 ((bOr .u32 0 (IntKind.wrap .u32 (bs.getD 2 0))) * 2 ^ 8)) (IntKind.wrap .u32 (bs.getD 3 0))) * 2 ^ 8)) (IntKind.wrap .u32 (bs.getD 4 0))) * 2 ^ 8)) (IntKind.wrap .u32 (bs.getD 5 0)), (plG bs 6), (plG bs 22)⟩ : Om)))), (73, .int .i64 (packE (⟨IntKind.wrap .i64 ((IntKind.wrap .i64 (bs.getD 0 0)) - 16), 0, (bs.getD 1 0) == 1, bOr .u32 (IntKind.wrap .u32 ((bOr .u32 (IntKind.wrap .u32 ((bOr .u32 (IntKind.wrap .u32 ((bOr .u32 0 (IntKind.wrap .u32 (bs.getD 2 0))) * 2 ^ 8)) (IntKind.wrap .u32 (bs.getD 3 0))) * 2 ^ 8)) (IntKind.wrap .u32 (bs.getD 4 0))) * 2 ^ 8)) (IntKind.wrap .u32 (bs.getD 5 0)), (plG bs 6), (plG bs 22)⟩ : Om)))] (by kernel_rfl) rfl ?_
          have hzs10 := hS.size
          have hzl18 := ho1.lt
          have hzl19 := ho2.lt
          have hzl20 := ho19.lt
          have hzs11 := hS.size
          have hzl21 := ho1.lt
          have hzl22 := ho2.lt
          have hzl23 := ho19.lt
          refine VL_box (d := 8) (t := 26) (c := iA .u8 (List.replicate 48 0)) (by kernel_rfl) (by kernel_rfl) ?_
          intro b5 w27 hn5
          replace hS := Step.trans hS (hn5.step No)
          replace ho1 := ho1.no (hn5.step No)
          replace ho2 := ho2.no (hn5.step No)
          replace ho19 := ho19.no (hn5.step No)
          have ho20 := hn5.own
          have hzhn5 := hn5.size
          have hqhn5 := hn5.eqb
          refine VL_storeA (b := b5) (sz := 48) (k := .u8) (bs := packV (⟨IntKind.wrap .i64 ((IntKind.wrap .i64 (bs.getD 0 0)) - 16), 0, (bs.getD 1 0) == 1, bOr .u32 (IntKind.wrap .u32 ((bOr .u32 (IntKind.wrap .u32 ((bOr .u32 (IntKind.wrap .u32 ((bOr .u32 0 (IntKind.wrap .u32 (bs.getD 2 0))) * 2 ^ 8)) (IntKind.wrap .u32 (bs.getD 3 0))) * 2 ^ 8)) (IntKind.wrap .u32 (bs.getD 4 0))) * 2 ^ 8)) (IntKind.wrap .u32 (bs.getD 5 0)), (plG bs 6), (plG bs 22)⟩ : Om)) (by kernel_rfl) (by kernel_rfl) (by first | exact hn | exact packV_len _) ho20 (iA_size.trans (by (try simp only [List.length_set, List.length_append, List.length_map, List.length_replicate, List.length_cons, List.length_nil, List.length_take, List.length_drop, List.length_range]) <;> omega)) ?_
          intro w28 hw14
          replace hS := Step.transNew hS hw14.step (fun _ _ _ => by omega)
          replace ho1 := ho1.step hw14.step (show ¬ b1 = b5 by omega)
          replace ho2 := ho2.step hw14.step (show ¬ b2 = b5 by omega)
          replace ho19 := ho19.step hw14.step (show ¬ b3 = b5 by omega)
          have ho21 := hw14.own
          have hzhw14 := hw14.same
          refine VL_pure 8 [1, 2, 4, 8, 9] [(1, .pointer (some ⟨b1, 0, none⟩)), (2, .pointer (some ⟨b2, 0, none⟩)), (4, .pointer (some ⟨b3, 0, none⟩)), (8, .pointer (some ⟨b5, 0, none⟩)), (9, .int .i64 (packE (⟨IntKind.wrap .i64 ((IntKind.wrap .i64 (bs.getD 0 0)) - 16), 0, (bs.getD 1 0) == 1, bOr .u32 (IntKind.wrap .u32 ((bOr .u32 (IntKind.wrap .u32 ((bOr .u32 (IntKind.wrap .u32 ((bOr .u32 0 (IntKind.wrap .u32 (bs.getD 2 0))) * 2 ^ 8)) (IntKind.wrap .u32 (bs.getD 3 0))) * 2 ^ 8)) (IntKind.wrap .u32 (bs.getD 4 0))) * 2 ^ 8)) (IntKind.wrap .u32 (bs.getD 5 0)), (plG bs 6), (plG bs 22)⟩ : Om)))] (by kernel_rfl) rfl ?_
          refine VL_end (by kernel_rfl) ?_
          refine VQ_next ?_
          refine VC_seq ?_
          refine VC_region ?_
          refine VL_pure 3 [1, 2, 4, 8, 76] [(1, .pointer (some ⟨b1, 0, none⟩)), (2, .pointer (some ⟨b2, 0, none⟩)), (4, .pointer (some ⟨b3, 0, none⟩)), (8, .pointer (some ⟨b5, 0, none⟩)), (76, .bool ((packE (⟨IntKind.wrap .i64 ((IntKind.wrap .i64 (bs.getD 0 0)) - 16), 0, (bs.getD 1 0) == 1, bOr .u32 (IntKind.wrap .u32 ((bOr .u32 (IntKind.wrap .u32 ((bOr .u32 (IntKind.wrap .u32 ((bOr .u32 0 (IntKind.wrap .u32 (bs.getD 2 0))) * 2 ^ 8)) (IntKind.wrap .u32 (bs.getD 3 0))) * 2 ^ 8)) (IntKind.wrap .u32 (bs.getD 4 0))) * 2 ^ 8)) (IntKind.wrap .u32 (bs.getD 5 0)), (plG bs 6), (plG bs 22)⟩ : Om)) != 0))] (by kernel_rfl) rfl ?_
          refine VL_bne (packE (⟨IntKind.wrap .i64 ((IntKind.wrap .i64 (bs.getD 0 0)) - 16), 0, (bs.getD 1 0) == 1, bOr .u32 (IntKind.wrap .u32 ((bOr .u32 (IntKind.wrap .u32 ((bOr .u32 (IntKind.wrap .u32 ((bOr .u32 0 (IntKind.wrap .u32 (bs.getD 2 0))) * 2 ^ 8)) (IntKind.wrap .u32 (bs.getD 3 0))) * 2 ^ 8)) (IntKind.wrap .u32 (bs.getD 4 0))) * 2 ^ 8)) (IntKind.wrap .u32 (bs.getD 5 0)), (plG bs 6), (plG bs 22)⟩ : Om)) 0 (fun bV => [(1, .pointer (some ⟨b1, 0, none⟩)), (2, .pointer (some ⟨b2, 0, none⟩)), (4, .pointer (some ⟨b3, 0, none⟩)), (8, .pointer (some ⟨b5, 0, none⟩)), (76, .bool bV)]) rfl (fun hg2 => ?_) (fun hg2 => ?_)
          · refine VL_pure 7 [2, 4, 80] [(2, .pointer (some ⟨b2, 0, none⟩)), (4, .pointer (some ⟨b3, 0, none⟩)), (80, .bool true)] (by kernel_rfl) rfl ?_
            refine VL_end (by kernel_rfl) ?_
            refine VQ_next ?_
            refine VC_true (by kernel_rfl) ?_
            refine VC_seq ?_
            refine VC_region ?_
            refine VL_pure 1 [2, 81] [(2, .pointer (some ⟨b2, 0, none⟩)), (81, .agg #[.int .i64 0, .int .u8 0, .bool false, .int .u32 0, .int .u8 0, .int .u8 0, .int .u8 0, .int .u8 0, .int .u8 0, .int .u8 0, .int .u8 0, .int .u8 0, .int .u8 0, .int .u8 0, .int .u8 0, .int .u8 0, .int .u8 0, .int .u8 0, .int .u8 0, .int .u8 0, .int .u8 0, .int .u8 0, .int .u8 0, .int .u8 0, .int .u8 0, .int .u8 0, .int .u8 0, .int .u8 0, .int .u8 0, .int .u8 0, .int .u8 0, .int .u8 0, .int .u8 0, .int .u8 0, .int .u8 0, .int .u8 0])] (by kernel_rfl) rfl ?_
            refine VL_store (b := b2) (o := 0) (vs := [.int .i64 0, .int .u8 0, .bool false, .int .u32 0, .int .u8 0, .int .u8 0, .int .u8 0, .int .u8 0, .int .u8 0, .int .u8 0, .int .u8 0, .int .u8 0, .int .u8 0, .int .u8 0, .int .u8 0, .int .u8 0, .int .u8 0, .int .u8 0, .int .u8 0, .int .u8 0, .int .u8 0, .int .u8 0, .int .u8 0, .int .u8 0, .int .u8 0, .int .u8 0, .int .u8 0, .int .u8 0, .int .u8 0, .int .u8 0, .int .u8 0, .int .u8 0, .int .u8 0, .int .u8 0, .int .u8 0, .int .u8 0]) (by kernel_rfl) (by kernel_rfl) ho2 (Nat.le_of_ble_eq_true (by kernel_rfl)) ?_
            intro w29 hw15
            replace hS := Step.transNew hS hw15.step (fun _ _ _ => by omega)
            replace ho1 := ho1.step hw15.step (show ¬ b1 = b2 by omega)
            replace ho19 := ho19.step hw15.step (show ¬ b3 = b2 by omega)
            replace ho21 := ho21.step hw15.step (show ¬ b5 = b2 by omega)
            have ho22 : Own w29 b2 #[.int .i64 0, .int .u8 0, .bool false, .int .u32 0, .int .u8 0, .int .u8 0, .int .u8 0, .int .u8 0, .int .u8 0, .int .u8 0, .int .u8 0, .int .u8 0, .int .u8 0, .int .u8 0, .int .u8 0, .int .u8 0, .int .u8 0, .int .u8 0, .int .u8 0, .int .u8 0, .int .u8 0, .int .u8 0, .int .u8 0, .int .u8 0, .int .u8 0, .int .u8 0, .int .u8 0, .int .u8 0, .int .u8 0, .int .u8 0, .int .u8 0, .int .u8 0, .int .u8 0, .int .u8 0, .int .u8 0, .int .u8 0] 31 := Own.cast hw15.own (by kernel_rfl)
            have hzhw15 := hw15.same
            refine VL_pure 3 [2, 3] [(2, .pointer (some ⟨b2, 0, none⟩)), (3, .int .i64 5)] (by kernel_rfl) rfl ?_
            refine VL_end (by kernel_rfl) ?_
            refine VQ_next ?_
            refine VC_ret ?_
            refine VQ_then_ret ?_
            refine VQ_retC1T1 (T := 31) (.agg #[.int .i64 0, .int .u8 0, .bool false, .int .u32 0, .int .u8 0, .int .u8 0, .int .u8 0, .int .u8 0, .int .u8 0, .int .u8 0, .int .u8 0, .int .u8 0, .int .u8 0, .int .u8 0, .int .u8 0, .int .u8 0, .int .u8 0, .int .u8 0, .int .u8 0, .int .u8 0, .int .u8 0, .int .u8 0, .int .u8 0, .int .u8 0, .int .u8 0, .int .u8 0, .int .u8 0, .int .u8 0, .int .u8 0, .int .u8 0, .int .u8 0, .int .u8 0, .int .u8 0, .int .u8 0, .int .u8 0, .int .u8 0]) (.int .i64 5) (.inr rfl) rfl rfl rfl (Loads.ownL ho22 (n := 36) (by kernel_rfl) (by kernel_rfl) (by kernel_rfl)) ?_
            obtain ⟨e1, e2⟩ := unp_5 (bs := bs) (unpO_8 (by simp only [kOf]; omega)) ‹_› (by unfold kindB; simp only [kOf]; omega) (by first | exact .inl ‹_› | exact .inr ‹_›)
            exact ⟨by rw [e1, e2]; rfl, hS⟩
          · refine VL_load (d := 77) (t := 26) (a := ⟨b5, 0, none⟩) (v := .agg (iA .u8 (packV (⟨IntKind.wrap .i64 ((IntKind.wrap .i64 (bs.getD 0 0)) - 16), 0, (bs.getD 1 0) == 1, bOr .u32 (IntKind.wrap .u32 ((bOr .u32 (IntKind.wrap .u32 ((bOr .u32 (IntKind.wrap .u32 ((bOr .u32 0 (IntKind.wrap .u32 (bs.getD 2 0))) * 2 ^ 8)) (IntKind.wrap .u32 (bs.getD 3 0))) * 2 ^ 8)) (IntKind.wrap .u32 (bs.getD 4 0))) * 2 ^ 8)) (IntKind.wrap .u32 (bs.getD 5 0)), (plG bs 6), (plG bs 22)⟩ : Om)))) (by kernel_rfl) (by kernel_rfl) (Loads.arr (N := 48) ho21 (by kernel_rfl) (by first | exact hn | exact packV_len _)) ?_
            refine VL_load (d := 78) (t := 26) (a := ⟨b1, 0, none⟩) (v := .agg (iA .u8 bs)) (by kernel_rfl) (by kernel_rfl) (Loads.arr (N := 48) ho1 (by kernel_rfl) (by (try simp only [List.length_set, List.length_append, List.length_map, List.length_replicate, List.length_cons, List.length_nil, List.length_take, List.length_drop, List.length_range]) <;> omega)) ?_
            refine VL_agEq (d := 79) (dd := 9) (ls := (rep 48 [.int .u8])) (pos := false) (t := 26) (xs := (iA .u8 (packV (⟨IntKind.wrap .i64 ((IntKind.wrap .i64 (bs.getD 0 0)) - 16), 0, (bs.getD 1 0) == 1, bOr .u32 (IntKind.wrap .u32 ((bOr .u32 (IntKind.wrap .u32 ((bOr .u32 (IntKind.wrap .u32 ((bOr .u32 0 (IntKind.wrap .u32 (bs.getD 2 0))) * 2 ^ 8)) (IntKind.wrap .u32 (bs.getD 3 0))) * 2 ^ 8)) (IntKind.wrap .u32 (bs.getD 4 0))) * 2 ^ 8)) (IntKind.wrap .u32 (bs.getD 5 0)), (plG bs 6), (plG bs 22)⟩ : Om)))) (ys := (iA .u8 bs)) (by kernel_rfl) (by kernel_rfl) (by kernel_rfl) (by kernel_rfl) (iA_are (by first | exact hn | exact packV_len _)) (iA_are (by first | exact hn | exact packV_len _)) (!((packV (⟨IntKind.wrap .i64 ((IntKind.wrap .i64 (bs.getD 0 0)) - 16), 0, (bs.getD 1 0) == 1, bOr .u32 (IntKind.wrap .u32 ((bOr .u32 (IntKind.wrap .u32 ((bOr .u32 (IntKind.wrap .u32 ((bOr .u32 0 (IntKind.wrap .u32 (bs.getD 2 0))) * 2 ^ 8)) (IntKind.wrap .u32 (bs.getD 3 0))) * 2 ^ 8)) (IntKind.wrap .u32 (bs.getD 4 0))) * 2 ^ 8)) (IntKind.wrap .u32 (bs.getD 5 0)), (plG bs 6), (plG bs 22)⟩ : Om)) == bs)) (iA_eq false) ?_
            refine VL_pure 7 [2, 4, 80] [(2, .pointer (some ⟨b2, 0, none⟩)), (4, .pointer (some ⟨b3, 0, none⟩)), (80, .bool (!((packV (⟨IntKind.wrap .i64 ((IntKind.wrap .i64 (bs.getD 0 0)) - 16), 0, (bs.getD 1 0) == 1, bOr .u32 (IntKind.wrap .u32 ((bOr .u32 (IntKind.wrap .u32 ((bOr .u32 (IntKind.wrap .u32 ((bOr .u32 0 (IntKind.wrap .u32 (bs.getD 2 0))) * 2 ^ 8)) (IntKind.wrap .u32 (bs.getD 3 0))) * 2 ^ 8)) (IntKind.wrap .u32 (bs.getD 4 0))) * 2 ^ 8)) (IntKind.wrap .u32 (bs.getD 5 0)), (plG bs 6), (plG bs 22)⟩ : Om)) == bs)))] (by kernel_rfl) rfl ?_
            refine VL_end (by kernel_rfl) ?_
            refine VQ_next ?_
            refine VC_cond (!((packV (⟨IntKind.wrap .i64 ((IntKind.wrap .i64 (bs.getD 0 0)) - 16), 0, (bs.getD 1 0) == 1, bOr .u32 (IntKind.wrap .u32 ((bOr .u32 (IntKind.wrap .u32 ((bOr .u32 (IntKind.wrap .u32 ((bOr .u32 0 (IntKind.wrap .u32 (bs.getD 2 0))) * 2 ^ 8)) (IntKind.wrap .u32 (bs.getD 3 0))) * 2 ^ 8)) (IntKind.wrap .u32 (bs.getD 4 0))) * 2 ^ 8)) (IntKind.wrap .u32 (bs.getD 5 0)), (plG bs 6), (plG bs 22)⟩ : Om)) == bs)) (by kernel_rfl) (fun h6 => ?_) (fun h6 => ?_)
            · try simp only [Bool.and_eq_true, Bool.or_eq_true, decide_eq_true_eq, Bool.not_eq_true', decide_eq_false_iff_not, Bool.and_eq_false_iff, Bool.or_eq_false_iff, beq_iff_eq, bne_iff_ne, beq_eq_false_iff_ne, bne_eq_false_iff_eq, Bool.not_eq_eq_eq_not, Bool.not_true, Bool.not_false] at h6
              refine VC_seq ?_
              refine VC_region ?_
              refine VL_pure 1 [2, 81] [(2, .pointer (some ⟨b2, 0, none⟩)), (81, .agg #[.int .i64 0, .int .u8 0, .bool false, .int .u32 0, .int .u8 0, .int .u8 0, .int .u8 0, .int .u8 0, .int .u8 0, .int .u8 0, .int .u8 0, .int .u8 0, .int .u8 0, .int .u8 0, .int .u8 0, .int .u8 0, .int .u8 0, .int .u8 0, .int .u8 0, .int .u8 0, .int .u8 0, .int .u8 0, .int .u8 0, .int .u8 0, .int .u8 0, .int .u8 0, .int .u8 0, .int .u8 0, .int .u8 0, .int .u8 0, .int .u8 0, .int .u8 0, .int .u8 0, .int .u8 0, .int .u8 0, .int .u8 0])] (by kernel_rfl) rfl ?_
              refine VL_store (b := b2) (o := 0) (vs := [.int .i64 0, .int .u8 0, .bool false, .int .u32 0, .int .u8 0, .int .u8 0, .int .u8 0, .int .u8 0, .int .u8 0, .int .u8 0, .int .u8 0, .int .u8 0, .int .u8 0, .int .u8 0, .int .u8 0, .int .u8 0, .int .u8 0, .int .u8 0, .int .u8 0, .int .u8 0, .int .u8 0, .int .u8 0, .int .u8 0, .int .u8 0, .int .u8 0, .int .u8 0, .int .u8 0, .int .u8 0, .int .u8 0, .int .u8 0, .int .u8 0, .int .u8 0, .int .u8 0, .int .u8 0, .int .u8 0, .int .u8 0]) (by kernel_rfl) (by kernel_rfl) ho2 (Nat.le_of_ble_eq_true (by kernel_rfl)) ?_
              intro w30 hw16
              replace hS := Step.transNew hS hw16.step (fun _ _ _ => by omega)
              replace ho1 := ho1.step hw16.step (show ¬ b1 = b2 by omega)
              replace ho19 := ho19.step hw16.step (show ¬ b3 = b2 by omega)
              replace ho21 := ho21.step hw16.step (show ¬ b5 = b2 by omega)
              have ho23 : Own w30 b2 #[.int .i64 0, .int .u8 0, .bool false, .int .u32 0, .int .u8 0, .int .u8 0, .int .u8 0, .int .u8 0, .int .u8 0, .int .u8 0, .int .u8 0, .int .u8 0, .int .u8 0, .int .u8 0, .int .u8 0, .int .u8 0, .int .u8 0, .int .u8 0, .int .u8 0, .int .u8 0, .int .u8 0, .int .u8 0, .int .u8 0, .int .u8 0, .int .u8 0, .int .u8 0, .int .u8 0, .int .u8 0, .int .u8 0, .int .u8 0, .int .u8 0, .int .u8 0, .int .u8 0, .int .u8 0, .int .u8 0, .int .u8 0] 31 := Own.cast hw16.own (by kernel_rfl)
              have hzhw16 := hw16.same
              refine VL_pure 3 [2, 3] [(2, .pointer (some ⟨b2, 0, none⟩)), (3, .int .i64 5)] (by kernel_rfl) rfl ?_
              refine VL_end (by kernel_rfl) ?_
              refine VQ_next ?_
              refine VC_ret ?_
              refine VQ_then_ret ?_
              refine VQ_retC1T1 (T := 31) (.agg #[.int .i64 0, .int .u8 0, .bool false, .int .u32 0, .int .u8 0, .int .u8 0, .int .u8 0, .int .u8 0, .int .u8 0, .int .u8 0, .int .u8 0, .int .u8 0, .int .u8 0, .int .u8 0, .int .u8 0, .int .u8 0, .int .u8 0, .int .u8 0, .int .u8 0, .int .u8 0, .int .u8 0, .int .u8 0, .int .u8 0, .int .u8 0, .int .u8 0, .int .u8 0, .int .u8 0, .int .u8 0, .int .u8 0, .int .u8 0, .int .u8 0, .int .u8 0, .int .u8 0, .int .u8 0, .int .u8 0, .int .u8 0]) (.int .i64 5) (.inr rfl) rfl rfl rfl (Loads.ownL ho23 (n := 36) (by kernel_rfl) (by kernel_rfl) (by kernel_rfl)) ?_
              obtain ⟨e1, e2⟩ := unp_5 (bs := bs) (unpO_8 (by simp only [kOf]; omega)) ‹_› (by unfold kindB; simp only [kOf]; omega) (by first | exact .inl ‹_› | exact .inr ‹_›)
              exact ⟨by rw [e1, e2]; rfl, hS⟩
            · try simp only [Bool.and_eq_true, Bool.or_eq_true, decide_eq_true_eq, Bool.not_eq_true', decide_eq_false_iff_not, Bool.and_eq_false_iff, Bool.or_eq_false_iff, beq_iff_eq, bne_iff_ne, beq_eq_false_iff_ne, bne_eq_false_iff_eq, Bool.not_eq_eq_eq_not, Bool.not_true, Bool.not_false] at h6
              refine VC_skip ?_
              refine VQ_next ?_
              refine VC_seq ?_
              refine VC_region ?_
              refine VL_load (d := 82) (t := 31) (a := ⟨b3, 0, none⟩) (v := .agg #[.int .i64 (IntKind.wrap .i64 ((IntKind.wrap .i64 (bs.getD 0 0)) - 16)), .int .u8 0, .bool ((bs.getD 1 0) == 1), .int .u32 (bOr .u32 (IntKind.wrap .u32 ((bOr .u32 (IntKind.wrap .u32 ((bOr .u32 (IntKind.wrap .u32 ((bOr .u32 0 (IntKind.wrap .u32 (bs.getD 2 0))) * 2 ^ 8)) (IntKind.wrap .u32 (bs.getD 3 0))) * 2 ^ 8)) (IntKind.wrap .u32 (bs.getD 4 0))) * 2 ^ 8)) (IntKind.wrap .u32 (bs.getD 5 0))), .int .u8 (bs.getD 6 0), .int .u8 (bs.getD 7 0), .int .u8 (bs.getD 8 0), .int .u8 (bs.getD 9 0), .int .u8 (bs.getD 10 0), .int .u8 (bs.getD 11 0), .int .u8 (bs.getD 12 0), .int .u8 (bs.getD 13 0), .int .u8 (bs.getD 14 0), .int .u8 (bs.getD 15 0), .int .u8 (bs.getD 16 0), .int .u8 (bs.getD 17 0), .int .u8 (bs.getD 18 0), .int .u8 (bs.getD 19 0), .int .u8 (bs.getD 20 0), .int .u8 (bs.getD 21 0), .int .u8 (bs.getD 22 0), .int .u8 (bs.getD 23 0), .int .u8 (bs.getD 24 0), .int .u8 (bs.getD 25 0), .int .u8 (bs.getD 26 0), .int .u8 (bs.getD 27 0), .int .u8 (bs.getD 28 0), .int .u8 (bs.getD 29 0), .int .u8 (bs.getD 30 0), .int .u8 (bs.getD 31 0), .int .u8 (bs.getD 32 0), .int .u8 (bs.getD 33 0), .int .u8 (bs.getD 34 0), .int .u8 (bs.getD 35 0), .int .u8 (bs.getD 36 0), .int .u8 (bs.getD 37 0)]) (by kernel_rfl) (by kernel_rfl) (Loads.ownL ho19 (n := 36) (by kernel_rfl) (by kernel_rfl) (by kernel_rfl)) ?_
              refine VL_store (b := b2) (o := 0) (vs := [.int .i64 (IntKind.wrap .i64 ((IntKind.wrap .i64 (bs.getD 0 0)) - 16)), .int .u8 0, .bool ((bs.getD 1 0) == 1), .int .u32 (bOr .u32 (IntKind.wrap .u32 ((bOr .u32 (IntKind.wrap .u32 ((bOr .u32 (IntKind.wrap .u32 ((bOr .u32 0 (IntKind.wrap .u32 (bs.getD 2 0))) * 2 ^ 8)) (IntKind.wrap .u32 (bs.getD 3 0))) * 2 ^ 8)) (IntKind.wrap .u32 (bs.getD 4 0))) * 2 ^ 8)) (IntKind.wrap .u32 (bs.getD 5 0))), .int .u8 (bs.getD 6 0), .int .u8 (bs.getD 7 0), .int .u8 (bs.getD 8 0), .int .u8 (bs.getD 9 0), .int .u8 (bs.getD 10 0), .int .u8 (bs.getD 11 0), .int .u8 (bs.getD 12 0), .int .u8 (bs.getD 13 0), .int .u8 (bs.getD 14 0), .int .u8 (bs.getD 15 0), .int .u8 (bs.getD 16 0), .int .u8 (bs.getD 17 0), .int .u8 (bs.getD 18 0), .int .u8 (bs.getD 19 0), .int .u8 (bs.getD 20 0), .int .u8 (bs.getD 21 0), .int .u8 (bs.getD 22 0), .int .u8 (bs.getD 23 0), .int .u8 (bs.getD 24 0), .int .u8 (bs.getD 25 0), .int .u8 (bs.getD 26 0), .int .u8 (bs.getD 27 0), .int .u8 (bs.getD 28 0), .int .u8 (bs.getD 29 0), .int .u8 (bs.getD 30 0), .int .u8 (bs.getD 31 0), .int .u8 (bs.getD 32 0), .int .u8 (bs.getD 33 0), .int .u8 (bs.getD 34 0), .int .u8 (bs.getD 35 0), .int .u8 (bs.getD 36 0), .int .u8 (bs.getD 37 0)]) (by kernel_rfl) (by kernel_rfl) ho2 (Nat.le_of_ble_eq_true (by kernel_rfl)) ?_
              intro w31 hw17
              replace hS := Step.transNew hS hw17.step (fun _ _ _ => by omega)
              replace ho1 := ho1.step hw17.step (show ¬ b1 = b2 by omega)
              replace ho19 := ho19.step hw17.step (show ¬ b3 = b2 by omega)
              replace ho21 := ho21.step hw17.step (show ¬ b5 = b2 by omega)
              have ho24 : Own w31 b2 #[.int .i64 (IntKind.wrap .i64 ((IntKind.wrap .i64 (bs.getD 0 0)) - 16)), .int .u8 0, .bool ((bs.getD 1 0) == 1), .int .u32 (bOr .u32 (IntKind.wrap .u32 ((bOr .u32 (IntKind.wrap .u32 ((bOr .u32 (IntKind.wrap .u32 ((bOr .u32 0 (IntKind.wrap .u32 (bs.getD 2 0))) * 2 ^ 8)) (IntKind.wrap .u32 (bs.getD 3 0))) * 2 ^ 8)) (IntKind.wrap .u32 (bs.getD 4 0))) * 2 ^ 8)) (IntKind.wrap .u32 (bs.getD 5 0))), .int .u8 (bs.getD 6 0), .int .u8 (bs.getD 7 0), .int .u8 (bs.getD 8 0), .int .u8 (bs.getD 9 0), .int .u8 (bs.getD 10 0), .int .u8 (bs.getD 11 0), .int .u8 (bs.getD 12 0), .int .u8 (bs.getD 13 0), .int .u8 (bs.getD 14 0), .int .u8 (bs.getD 15 0), .int .u8 (bs.getD 16 0), .int .u8 (bs.getD 17 0), .int .u8 (bs.getD 18 0), .int .u8 (bs.getD 19 0), .int .u8 (bs.getD 20 0), .int .u8 (bs.getD 21 0), .int .u8 (bs.getD 22 0), .int .u8 (bs.getD 23 0), .int .u8 (bs.getD 24 0), .int .u8 (bs.getD 25 0), .int .u8 (bs.getD 26 0), .int .u8 (bs.getD 27 0), .int .u8 (bs.getD 28 0), .int .u8 (bs.getD 29 0), .int .u8 (bs.getD 30 0), .int .u8 (bs.getD 31 0), .int .u8 (bs.getD 32 0), .int .u8 (bs.getD 33 0), .int .u8 (bs.getD 34 0), .int .u8 (bs.getD 35 0), .int .u8 (bs.getD 36 0), .int .u8 (bs.getD 37 0)] 31 := Own.cast hw17.own (by kernel_rfl)
              have hzhw17 := hw17.same
              refine VL_pure 3 [2, 3] [(2, .pointer (some ⟨b2, 0, none⟩)), (3, .int .i64 0)] (by kernel_rfl) rfl ?_
              refine VL_end (by kernel_rfl) ?_
              refine VQ_next ?_
              refine VC_ret ?_
              refine VQ_retC1T1 (T := 31) (.agg #[.int .i64 (IntKind.wrap .i64 ((IntKind.wrap .i64 (bs.getD 0 0)) - 16)), .int .u8 0, .bool ((bs.getD 1 0) == 1), .int .u32 (bOr .u32 (IntKind.wrap .u32 ((bOr .u32 (IntKind.wrap .u32 ((bOr .u32 (IntKind.wrap .u32 ((bOr .u32 0 (IntKind.wrap .u32 (bs.getD 2 0))) * 2 ^ 8)) (IntKind.wrap .u32 (bs.getD 3 0))) * 2 ^ 8)) (IntKind.wrap .u32 (bs.getD 4 0))) * 2 ^ 8)) (IntKind.wrap .u32 (bs.getD 5 0))), .int .u8 (bs.getD 6 0), .int .u8 (bs.getD 7 0), .int .u8 (bs.getD 8 0), .int .u8 (bs.getD 9 0), .int .u8 (bs.getD 10 0), .int .u8 (bs.getD 11 0), .int .u8 (bs.getD 12 0), .int .u8 (bs.getD 13 0), .int .u8 (bs.getD 14 0), .int .u8 (bs.getD 15 0), .int .u8 (bs.getD 16 0), .int .u8 (bs.getD 17 0), .int .u8 (bs.getD 18 0), .int .u8 (bs.getD 19 0), .int .u8 (bs.getD 20 0), .int .u8 (bs.getD 21 0), .int .u8 (bs.getD 22 0), .int .u8 (bs.getD 23 0), .int .u8 (bs.getD 24 0), .int .u8 (bs.getD 25 0), .int .u8 (bs.getD 26 0), .int .u8 (bs.getD 27 0), .int .u8 (bs.getD 28 0), .int .u8 (bs.getD 29 0), .int .u8 (bs.getD 30 0), .int .u8 (bs.getD 31 0), .int .u8 (bs.getD 32 0), .int .u8 (bs.getD 33 0), .int .u8 (bs.getD 34 0), .int .u8 (bs.getD 35 0), .int .u8 (bs.getD 36 0), .int .u8 (bs.getD 37 0)]) (.int .i64 0) (.inr rfl) rfl rfl rfl (Loads.ownL ho24 (n := 36) (by kernel_rfl) (by kernel_rfl) (by kernel_rfl)) ?_
              obtain ⟨e1, e2⟩ := unp_0 (bs := bs) (unpO_8 (by simp only [kOf]; omega)) ‹_› (by unfold kindB; simp only [kOf]; omega) ‹_› ‹_›
              exact ⟨by rw [e1, e2]; rfl, hS⟩
        · refine VC_seq ?_
          refine VC_region ?_
          refine VL_pure 2 [1, 2, 4, 67] [(1, .pointer (some ⟨b1, 0, none⟩)), (2, .pointer (some ⟨b2, 0, none⟩)), (4, .pointer (some ⟨b3, 0, none⟩)), (67, .bool ((IntKind.wrap .i64 ((IntKind.wrap .i64 (bs.getD 0 0)) - 16)) == 4))] (by kernel_rfl) rfl ?_
          refine VL_end (by kernel_rfl) ?_
          refine VQ_next ?_
          refine VC_eq (IntKind.wrap .i64 ((IntKind.wrap .i64 (bs.getD 0 0)) - 16)) 4 (by kernel_rfl) (fun h7 => ?_) (fun h7 => ?_)
          · refine VC_skip ?_
            refine VQ_block_normal ?_
            refine VQ_next ?_
            refine VC_seq ?_
            refine VC_seq ?_
            refine VC_region ?_
            refine VL_load (d := 70) (t := 31) (a := ⟨b3, 0, none⟩) (v := .agg #[.int .i64 (IntKind.wrap .i64 ((IntKind.wrap .i64 (bs.getD 0 0)) - 16)), .int .u8 0, .bool false, .int .u32 0, .int .u8 0, .int .u8 0, .int .u8 0, .int .u8 0, .int .u8 0, .int .u8 0, .int .u8 0, .int .u8 0, .int .u8 0, .int .u8 0, .int .u8 0, .int .u8 0, .int .u8 0, .int .u8 0, .int .u8 0, .int .u8 0, .int .u8 0, .int .u8 0, .int .u8 0, .int .u8 0, .int .u8 0, .int .u8 0, .int .u8 0, .int .u8 0, .int .u8 0, .int .u8 0, .int .u8 0, .int .u8 0, .int .u8 0, .int .u8 0, .int .u8 0, .int .u8 0]) (by kernel_rfl) (by kernel_rfl) (Loads.ownL ho5 (n := 36) (by kernel_rfl) (by kernel_rfl) (by kernel_rfl)) ?_
            have hzs12 := hS.size
            have hzl24 := ho1.lt
            have hzl25 := ho2.lt
            have hzl26 := ho5.lt
            refine VL_call (d := 71) (f := 10) (by kernel_rfl) (by kernel_rfl) (by kernel_rfl) Try.call10 (pack_any (⟨IntKind.wrap .i64 ((IntKind.wrap .i64 (bs.getD 0 0)) - 16), 0, false, 0, zp, zp⟩ : Om) _) ?_
            rintro _ w32 ⟨rfl, hc4⟩
            replace hS := Step.trans hS hc4
            replace ho1 := ho1.no hc4
            replace ho2 := ho2.no hc4
            replace ho5 := ho5.no hc4
            refine VL_pure 5 [1, 2, 4, 72, 73] [(1, .pointer (some ⟨b1, 0, none⟩)), (2, .pointer (some ⟨b2, 0, none⟩)), (4, .pointer (some ⟨b3, 0, none⟩)), (72, .agg (iA .u8 (packV (⟨IntKind.wrap .i64 ((IntKind.wrap .i64 (bs.getD 0 0)) - 16), 0, false, 0, zp, zp⟩ : Om)))), (73, .int .i64 (packE (⟨IntKind.wrap .i64 ((IntKind.wrap .i64 (bs.getD 0 0)) - 16), 0, false, 0, zp, zp⟩ : Om)))] (by kernel_rfl) rfl ?_
            have hzs13 := hS.size
            have hzl27 := ho1.lt
            have hzl28 := ho2.lt
            have hzl29 := ho5.lt
            have hzs14 := hS.size
            have hzl30 := ho1.lt
            have hzl31 := ho2.lt
            have hzl32 := ho5.lt
            refine VL_box (d := 8) (t := 26) (c := iA .u8 (List.replicate 48 0)) (by kernel_rfl) (by kernel_rfl) ?_
            intro b6 w33 hn6
            replace hS := Step.trans hS (hn6.step No)
            replace ho1 := ho1.no (hn6.step No)
            replace ho2 := ho2.no (hn6.step No)
            replace ho5 := ho5.no (hn6.step No)
            have ho25 := hn6.own
            have hzhn6 := hn6.size
            have hqhn6 := hn6.eqb
            refine VL_storeA (b := b6) (sz := 48) (k := .u8) (bs := packV (⟨IntKind.wrap .i64 ((IntKind.wrap .i64 (bs.getD 0 0)) - 16), 0, false, 0, zp, zp⟩ : Om)) (by kernel_rfl) (by kernel_rfl) (by first | exact hn | exact packV_len _) ho25 (iA_size.trans (by (try simp only [List.length_set, List.length_append, List.length_map, List.length_replicate, List.length_cons, List.length_nil, List.length_take, List.length_drop, List.length_range]) <;> omega)) ?_
            intro w34 hw18
            replace hS := Step.transNew hS hw18.step (fun _ _ _ => by omega)
            replace ho1 := ho1.step hw18.step (show ¬ b1 = b6 by omega)
            replace ho2 := ho2.step hw18.step (show ¬ b2 = b6 by omega)
            replace ho5 := ho5.step hw18.step (show ¬ b3 = b6 by omega)
            have ho26 := hw18.own
            have hzhw18 := hw18.same
            refine VL_pure 8 [1, 2, 4, 8, 9] [(1, .pointer (some ⟨b1, 0, none⟩)), (2, .pointer (some ⟨b2, 0, none⟩)), (4, .pointer (some ⟨b3, 0, none⟩)), (8, .pointer (some ⟨b6, 0, none⟩)), (9, .int .i64 (packE (⟨IntKind.wrap .i64 ((IntKind.wrap .i64 (bs.getD 0 0)) - 16), 0, false, 0, zp, zp⟩ : Om)))] (by kernel_rfl) rfl ?_
            refine VL_end (by kernel_rfl) ?_
            refine VQ_next ?_
            refine VC_seq ?_
            refine VC_region ?_
            refine VL_pure 3 [1, 2, 4, 8, 76] [(1, .pointer (some ⟨b1, 0, none⟩)), (2, .pointer (some ⟨b2, 0, none⟩)), (4, .pointer (some ⟨b3, 0, none⟩)), (8, .pointer (some ⟨b6, 0, none⟩)), (76, .bool ((packE (⟨IntKind.wrap .i64 ((IntKind.wrap .i64 (bs.getD 0 0)) - 16), 0, false, 0, zp, zp⟩ : Om)) != 0))] (by kernel_rfl) rfl ?_
            refine VL_bne (packE (⟨IntKind.wrap .i64 ((IntKind.wrap .i64 (bs.getD 0 0)) - 16), 0, false, 0, zp, zp⟩ : Om)) 0 (fun bV => [(1, .pointer (some ⟨b1, 0, none⟩)), (2, .pointer (some ⟨b2, 0, none⟩)), (4, .pointer (some ⟨b3, 0, none⟩)), (8, .pointer (some ⟨b6, 0, none⟩)), (76, .bool bV)]) rfl (fun hg3 => ?_) (fun hg3 => ?_)
            · refine VL_pure 7 [2, 4, 80] [(2, .pointer (some ⟨b2, 0, none⟩)), (4, .pointer (some ⟨b3, 0, none⟩)), (80, .bool true)] (by kernel_rfl) rfl ?_
              refine VL_end (by kernel_rfl) ?_
              refine VQ_next ?_
              refine VC_true (by kernel_rfl) ?_
              refine VC_seq ?_
              refine VC_region ?_
              refine VL_pure 1 [2, 81] [(2, .pointer (some ⟨b2, 0, none⟩)), (81, .agg #[.int .i64 0, .int .u8 0, .bool false, .int .u32 0, .int .u8 0, .int .u8 0, .int .u8 0, .int .u8 0, .int .u8 0, .int .u8 0, .int .u8 0, .int .u8 0, .int .u8 0, .int .u8 0, .int .u8 0, .int .u8 0, .int .u8 0, .int .u8 0, .int .u8 0, .int .u8 0, .int .u8 0, .int .u8 0, .int .u8 0, .int .u8 0, .int .u8 0, .int .u8 0, .int .u8 0, .int .u8 0, .int .u8 0, .int .u8 0, .int .u8 0, .int .u8 0, .int .u8 0, .int .u8 0, .int .u8 0, .int .u8 0])] (by kernel_rfl) rfl ?_
              refine VL_store (b := b2) (o := 0) (vs := [.int .i64 0, .int .u8 0, .bool false, .int .u32 0, .int .u8 0, .int .u8 0, .int .u8 0, .int .u8 0, .int .u8 0, .int .u8 0, .int .u8 0, .int .u8 0, .int .u8 0, .int .u8 0, .int .u8 0, .int .u8 0, .int .u8 0, .int .u8 0, .int .u8 0, .int .u8 0, .int .u8 0, .int .u8 0, .int .u8 0, .int .u8 0, .int .u8 0, .int .u8 0, .int .u8 0, .int .u8 0, .int .u8 0, .int .u8 0, .int .u8 0, .int .u8 0, .int .u8 0, .int .u8 0, .int .u8 0, .int .u8 0]) (by kernel_rfl) (by kernel_rfl) ho2 (Nat.le_of_ble_eq_true (by kernel_rfl)) ?_
              intro w35 hw19
              replace hS := Step.transNew hS hw19.step (fun _ _ _ => by omega)
              replace ho1 := ho1.step hw19.step (show ¬ b1 = b2 by omega)
              replace ho5 := ho5.step hw19.step (show ¬ b3 = b2 by omega)
              replace ho26 := ho26.step hw19.step (show ¬ b6 = b2 by omega)
              have ho27 : Own w35 b2 #[.int .i64 0, .int .u8 0, .bool false, .int .u32 0, .int .u8 0, .int .u8 0, .int .u8 0, .int .u8 0, .int .u8 0, .int .u8 0, .int .u8 0, .int .u8 0, .int .u8 0, .int .u8 0, .int .u8 0, .int .u8 0, .int .u8 0, .int .u8 0, .int .u8 0, .int .u8 0, .int .u8 0, .int .u8 0, .int .u8 0, .int .u8 0, .int .u8 0, .int .u8 0, .int .u8 0, .int .u8 0, .int .u8 0, .int .u8 0, .int .u8 0, .int .u8 0, .int .u8 0, .int .u8 0, .int .u8 0, .int .u8 0] 31 := Own.cast hw19.own (by kernel_rfl)
              have hzhw19 := hw19.same
              refine VL_pure 3 [2, 3] [(2, .pointer (some ⟨b2, 0, none⟩)), (3, .int .i64 5)] (by kernel_rfl) rfl ?_
              refine VL_end (by kernel_rfl) ?_
              refine VQ_next ?_
              refine VC_ret ?_
              refine VQ_then_ret ?_
              refine VQ_retC1T1 (T := 31) (.agg #[.int .i64 0, .int .u8 0, .bool false, .int .u32 0, .int .u8 0, .int .u8 0, .int .u8 0, .int .u8 0, .int .u8 0, .int .u8 0, .int .u8 0, .int .u8 0, .int .u8 0, .int .u8 0, .int .u8 0, .int .u8 0, .int .u8 0, .int .u8 0, .int .u8 0, .int .u8 0, .int .u8 0, .int .u8 0, .int .u8 0, .int .u8 0, .int .u8 0, .int .u8 0, .int .u8 0, .int .u8 0, .int .u8 0, .int .u8 0, .int .u8 0, .int .u8 0, .int .u8 0, .int .u8 0, .int .u8 0, .int .u8 0]) (.int .i64 5) (.inr rfl) rfl rfl rfl (Loads.ownL ho27 (n := 36) (by kernel_rfl) (by kernel_rfl) (by kernel_rfl)) ?_
              obtain ⟨e1, e2⟩ := unp_5 (bs := bs) (unpO_4 (by simp only [kOf]; omega)) ‹_› (by unfold kindB; simp only [kOf]; omega) (by first | exact .inl ‹_› | exact .inr ‹_›)
              exact ⟨by rw [e1, e2]; rfl, hS⟩
            · refine VL_load (d := 77) (t := 26) (a := ⟨b6, 0, none⟩) (v := .agg (iA .u8 (packV (⟨IntKind.wrap .i64 ((IntKind.wrap .i64 (bs.getD 0 0)) - 16), 0, false, 0, zp, zp⟩ : Om)))) (by kernel_rfl) (by kernel_rfl) (Loads.arr (N := 48) ho26 (by kernel_rfl) (by first | exact hn | exact packV_len _)) ?_
              refine VL_load (d := 78) (t := 26) (a := ⟨b1, 0, none⟩) (v := .agg (iA .u8 bs)) (by kernel_rfl) (by kernel_rfl) (Loads.arr (N := 48) ho1 (by kernel_rfl) (by (try simp only [List.length_set, List.length_append, List.length_map, List.length_replicate, List.length_cons, List.length_nil, List.length_take, List.length_drop, List.length_range]) <;> omega)) ?_
              refine VL_agEq (d := 79) (dd := 9) (ls := (rep 48 [.int .u8])) (pos := false) (t := 26) (xs := (iA .u8 (packV (⟨IntKind.wrap .i64 ((IntKind.wrap .i64 (bs.getD 0 0)) - 16), 0, false, 0, zp, zp⟩ : Om)))) (ys := (iA .u8 bs)) (by kernel_rfl) (by kernel_rfl) (by kernel_rfl) (by kernel_rfl) (iA_are (by first | exact hn | exact packV_len _)) (iA_are (by first | exact hn | exact packV_len _)) (!((packV (⟨IntKind.wrap .i64 ((IntKind.wrap .i64 (bs.getD 0 0)) - 16), 0, false, 0, zp, zp⟩ : Om)) == bs)) (iA_eq false) ?_
              refine VL_pure 7 [2, 4, 80] [(2, .pointer (some ⟨b2, 0, none⟩)), (4, .pointer (some ⟨b3, 0, none⟩)), (80, .bool (!((packV (⟨IntKind.wrap .i64 ((IntKind.wrap .i64 (bs.getD 0 0)) - 16), 0, false, 0, zp, zp⟩ : Om)) == bs)))] (by kernel_rfl) rfl ?_
              refine VL_end (by kernel_rfl) ?_
              refine VQ_next ?_
              refine VC_cond (!((packV (⟨IntKind.wrap .i64 ((IntKind.wrap .i64 (bs.getD 0 0)) - 16), 0, false, 0, zp, zp⟩ : Om)) == bs)) (by kernel_rfl) (fun h8 => ?_) (fun h8 => ?_)
              · try simp only [Bool.and_eq_true, Bool.or_eq_true, decide_eq_true_eq, Bool.not_eq_true', decide_eq_false_iff_not, Bool.and_eq_false_iff, Bool.or_eq_false_iff, beq_iff_eq, bne_iff_ne, beq_eq_false_iff_ne, bne_eq_false_iff_eq, Bool.not_eq_eq_eq_not, Bool.not_true, Bool.not_false] at h8
                refine VC_seq ?_
                refine VC_region ?_
                refine VL_pure 1 [2, 81] [(2, .pointer (some ⟨b2, 0, none⟩)), (81, .agg #[.int .i64 0, .int .u8 0, .bool false, .int .u32 0, .int .u8 0, .int .u8 0, .int .u8 0, .int .u8 0, .int .u8 0, .int .u8 0, .int .u8 0, .int .u8 0, .int .u8 0, .int .u8 0, .int .u8 0, .int .u8 0, .int .u8 0, .int .u8 0, .int .u8 0, .int .u8 0, .int .u8 0, .int .u8 0, .int .u8 0, .int .u8 0, .int .u8 0, .int .u8 0, .int .u8 0, .int .u8 0, .int .u8 0, .int .u8 0, .int .u8 0, .int .u8 0, .int .u8 0, .int .u8 0, .int .u8 0, .int .u8 0])] (by kernel_rfl) rfl ?_
                refine VL_store (b := b2) (o := 0) (vs := [.int .i64 0, .int .u8 0, .bool false, .int .u32 0, .int .u8 0, .int .u8 0, .int .u8 0, .int .u8 0, .int .u8 0, .int .u8 0, .int .u8 0, .int .u8 0, .int .u8 0, .int .u8 0, .int .u8 0, .int .u8 0, .int .u8 0, .int .u8 0, .int .u8 0, .int .u8 0, .int .u8 0, .int .u8 0, .int .u8 0, .int .u8 0, .int .u8 0, .int .u8 0, .int .u8 0, .int .u8 0, .int .u8 0, .int .u8 0, .int .u8 0, .int .u8 0, .int .u8 0, .int .u8 0, .int .u8 0, .int .u8 0]) (by kernel_rfl) (by kernel_rfl) ho2 (Nat.le_of_ble_eq_true (by kernel_rfl)) ?_
                intro w36 hw20
                replace hS := Step.transNew hS hw20.step (fun _ _ _ => by omega)
                replace ho1 := ho1.step hw20.step (show ¬ b1 = b2 by omega)
                replace ho5 := ho5.step hw20.step (show ¬ b3 = b2 by omega)
                replace ho26 := ho26.step hw20.step (show ¬ b6 = b2 by omega)
                have ho28 : Own w36 b2 #[.int .i64 0, .int .u8 0, .bool false, .int .u32 0, .int .u8 0, .int .u8 0, .int .u8 0, .int .u8 0, .int .u8 0, .int .u8 0, .int .u8 0, .int .u8 0, .int .u8 0, .int .u8 0, .int .u8 0, .int .u8 0, .int .u8 0, .int .u8 0, .int .u8 0, .int .u8 0, .int .u8 0, .int .u8 0, .int .u8 0, .int .u8 0, .int .u8 0, .int .u8 0, .int .u8 0, .int .u8 0, .int .u8 0, .int .u8 0, .int .u8 0, .int .u8 0, .int .u8 0, .int .u8 0, .int .u8 0, .int .u8 0] 31 := Own.cast hw20.own (by kernel_rfl)
                have hzhw20 := hw20.same
                refine VL_pure 3 [2, 3] [(2, .pointer (some ⟨b2, 0, none⟩)), (3, .int .i64 5)] (by kernel_rfl) rfl ?_
                refine VL_end (by kernel_rfl) ?_
                refine VQ_next ?_
                refine VC_ret ?_
                refine VQ_then_ret ?_
                refine VQ_retC1T1 (T := 31) (.agg #[.int .i64 0, .int .u8 0, .bool false, .int .u32 0, .int .u8 0, .int .u8 0, .int .u8 0, .int .u8 0, .int .u8 0, .int .u8 0, .int .u8 0, .int .u8 0, .int .u8 0, .int .u8 0, .int .u8 0, .int .u8 0, .int .u8 0, .int .u8 0, .int .u8 0, .int .u8 0, .int .u8 0, .int .u8 0, .int .u8 0, .int .u8 0, .int .u8 0, .int .u8 0, .int .u8 0, .int .u8 0, .int .u8 0, .int .u8 0, .int .u8 0, .int .u8 0, .int .u8 0, .int .u8 0, .int .u8 0, .int .u8 0]) (.int .i64 5) (.inr rfl) rfl rfl rfl (Loads.ownL ho28 (n := 36) (by kernel_rfl) (by kernel_rfl) (by kernel_rfl)) ?_
                obtain ⟨e1, e2⟩ := unp_5 (bs := bs) (unpO_4 (by simp only [kOf]; omega)) ‹_› (by unfold kindB; simp only [kOf]; omega) (by first | exact .inl ‹_› | exact .inr ‹_›)
                exact ⟨by rw [e1, e2]; rfl, hS⟩
              · try simp only [Bool.and_eq_true, Bool.or_eq_true, decide_eq_true_eq, Bool.not_eq_true', decide_eq_false_iff_not, Bool.and_eq_false_iff, Bool.or_eq_false_iff, beq_iff_eq, bne_iff_ne, beq_eq_false_iff_ne, bne_eq_false_iff_eq, Bool.not_eq_eq_eq_not, Bool.not_true, Bool.not_false] at h8
                refine VC_skip ?_
                refine VQ_next ?_
                refine VC_seq ?_
                refine VC_region ?_
                refine VL_load (d := 82) (t := 31) (a := ⟨b3, 0, none⟩) (v := .agg #[.int .i64 (IntKind.wrap .i64 ((IntKind.wrap .i64 (bs.getD 0 0)) - 16)), .int .u8 0, .bool false, .int .u32 0, .int .u8 0, .int .u8 0, .int .u8 0, .int .u8 0, .int .u8 0, .int .u8 0, .int .u8 0, .int .u8 0, .int .u8 0, .int .u8 0, .int .u8 0, .int .u8 0, .int .u8 0, .int .u8 0, .int .u8 0, .int .u8 0, .int .u8 0, .int .u8 0, .int .u8 0, .int .u8 0, .int .u8 0, .int .u8 0, .int .u8 0, .int .u8 0, .int .u8 0, .int .u8 0, .int .u8 0, .int .u8 0, .int .u8 0, .int .u8 0, .int .u8 0, .int .u8 0]) (by kernel_rfl) (by kernel_rfl) (Loads.ownL ho5 (n := 36) (by kernel_rfl) (by kernel_rfl) (by kernel_rfl)) ?_
                refine VL_store (b := b2) (o := 0) (vs := [.int .i64 (IntKind.wrap .i64 ((IntKind.wrap .i64 (bs.getD 0 0)) - 16)), .int .u8 0, .bool false, .int .u32 0, .int .u8 0, .int .u8 0, .int .u8 0, .int .u8 0, .int .u8 0, .int .u8 0, .int .u8 0, .int .u8 0, .int .u8 0, .int .u8 0, .int .u8 0, .int .u8 0, .int .u8 0, .int .u8 0, .int .u8 0, .int .u8 0, .int .u8 0, .int .u8 0, .int .u8 0, .int .u8 0, .int .u8 0, .int .u8 0, .int .u8 0, .int .u8 0, .int .u8 0, .int .u8 0, .int .u8 0, .int .u8 0, .int .u8 0, .int .u8 0, .int .u8 0, .int .u8 0]) (by kernel_rfl) (by kernel_rfl) ho2 (Nat.le_of_ble_eq_true (by kernel_rfl)) ?_
                intro w37 hw21
                replace hS := Step.transNew hS hw21.step (fun _ _ _ => by omega)
                replace ho1 := ho1.step hw21.step (show ¬ b1 = b2 by omega)
                replace ho5 := ho5.step hw21.step (show ¬ b3 = b2 by omega)
                replace ho26 := ho26.step hw21.step (show ¬ b6 = b2 by omega)
                have ho29 : Own w37 b2 #[.int .i64 (IntKind.wrap .i64 ((IntKind.wrap .i64 (bs.getD 0 0)) - 16)), .int .u8 0, .bool false, .int .u32 0, .int .u8 0, .int .u8 0, .int .u8 0, .int .u8 0, .int .u8 0, .int .u8 0, .int .u8 0, .int .u8 0, .int .u8 0, .int .u8 0, .int .u8 0, .int .u8 0, .int .u8 0, .int .u8 0, .int .u8 0, .int .u8 0, .int .u8 0, .int .u8 0, .int .u8 0, .int .u8 0, .int .u8 0, .int .u8 0, .int .u8 0, .int .u8 0, .int .u8 0, .int .u8 0, .int .u8 0, .int .u8 0, .int .u8 0, .int .u8 0, .int .u8 0, .int .u8 0] 31 := Own.cast hw21.own (by kernel_rfl)
                have hzhw21 := hw21.same
                refine VL_pure 3 [2, 3] [(2, .pointer (some ⟨b2, 0, none⟩)), (3, .int .i64 0)] (by kernel_rfl) rfl ?_
                refine VL_end (by kernel_rfl) ?_
                refine VQ_next ?_
                refine VC_ret ?_
                refine VQ_retC1T1 (T := 31) (.agg #[.int .i64 (IntKind.wrap .i64 ((IntKind.wrap .i64 (bs.getD 0 0)) - 16)), .int .u8 0, .bool false, .int .u32 0, .int .u8 0, .int .u8 0, .int .u8 0, .int .u8 0, .int .u8 0, .int .u8 0, .int .u8 0, .int .u8 0, .int .u8 0, .int .u8 0, .int .u8 0, .int .u8 0, .int .u8 0, .int .u8 0, .int .u8 0, .int .u8 0, .int .u8 0, .int .u8 0, .int .u8 0, .int .u8 0, .int .u8 0, .int .u8 0, .int .u8 0, .int .u8 0, .int .u8 0, .int .u8 0, .int .u8 0, .int .u8 0, .int .u8 0, .int .u8 0, .int .u8 0, .int .u8 0]) (.int .i64 0) (.inr rfl) rfl rfl rfl (Loads.ownL ho29 (n := 36) (by kernel_rfl) (by kernel_rfl) (by kernel_rfl)) ?_
                obtain ⟨e1, e2⟩ := unp_0 (bs := bs) (unpO_4 (by simp only [kOf]; omega)) ‹_› (by unfold kindB; simp only [kOf]; omega) ‹_› ‹_›
                exact ⟨by rw [e1, e2]; rfl, hS⟩
          · refine VC_seq ?_
            refine VC_region ?_
            refine VL_pure 1 [2, 22] [(2, .pointer (some ⟨b2, 0, none⟩)), (22, .agg #[.int .i64 0, .int .u8 0, .bool false, .int .u32 0, .int .u8 0, .int .u8 0, .int .u8 0, .int .u8 0, .int .u8 0, .int .u8 0, .int .u8 0, .int .u8 0, .int .u8 0, .int .u8 0, .int .u8 0, .int .u8 0, .int .u8 0, .int .u8 0, .int .u8 0, .int .u8 0, .int .u8 0, .int .u8 0, .int .u8 0, .int .u8 0, .int .u8 0, .int .u8 0, .int .u8 0, .int .u8 0, .int .u8 0, .int .u8 0, .int .u8 0, .int .u8 0, .int .u8 0, .int .u8 0, .int .u8 0, .int .u8 0])] (by kernel_rfl) rfl ?_
            refine VL_store (b := b2) (o := 0) (vs := [.int .i64 0, .int .u8 0, .bool false, .int .u32 0, .int .u8 0, .int .u8 0, .int .u8 0, .int .u8 0, .int .u8 0, .int .u8 0, .int .u8 0, .int .u8 0, .int .u8 0, .int .u8 0, .int .u8 0, .int .u8 0, .int .u8 0, .int .u8 0, .int .u8 0, .int .u8 0, .int .u8 0, .int .u8 0, .int .u8 0, .int .u8 0, .int .u8 0, .int .u8 0, .int .u8 0, .int .u8 0, .int .u8 0, .int .u8 0, .int .u8 0, .int .u8 0, .int .u8 0, .int .u8 0, .int .u8 0, .int .u8 0]) (by kernel_rfl) (by kernel_rfl) ho2 (Nat.le_of_ble_eq_true (by kernel_rfl)) ?_
            intro w38 hw22
            replace hS := Step.transNew hS hw22.step (fun _ _ _ => by omega)
            replace ho1 := ho1.step hw22.step (show ¬ b1 = b2 by omega)
            replace ho5 := ho5.step hw22.step (show ¬ b3 = b2 by omega)
            have ho30 : Own w38 b2 #[.int .i64 0, .int .u8 0, .bool false, .int .u32 0, .int .u8 0, .int .u8 0, .int .u8 0, .int .u8 0, .int .u8 0, .int .u8 0, .int .u8 0, .int .u8 0, .int .u8 0, .int .u8 0, .int .u8 0, .int .u8 0, .int .u8 0, .int .u8 0, .int .u8 0, .int .u8 0, .int .u8 0, .int .u8 0, .int .u8 0, .int .u8 0, .int .u8 0, .int .u8 0, .int .u8 0, .int .u8 0, .int .u8 0, .int .u8 0, .int .u8 0, .int .u8 0, .int .u8 0, .int .u8 0, .int .u8 0, .int .u8 0] 31 := Own.cast hw22.own (by kernel_rfl)
            have hzhw22 := hw22.same
            refine VL_pure 3 [2, 3] [(2, .pointer (some ⟨b2, 0, none⟩)), (3, .int .i64 12)] (by kernel_rfl) rfl ?_
            refine VL_end (by kernel_rfl) ?_
            refine VQ_next ?_
            refine VC_ret ?_
            refine VQ_block_ret ?_
            refine VQ_then_ret ?_
            refine VQ_retC1T1 (T := 31) (.agg #[.int .i64 0, .int .u8 0, .bool false, .int .u32 0, .int .u8 0, .int .u8 0, .int .u8 0, .int .u8 0, .int .u8 0, .int .u8 0, .int .u8 0, .int .u8 0, .int .u8 0, .int .u8 0, .int .u8 0, .int .u8 0, .int .u8 0, .int .u8 0, .int .u8 0, .int .u8 0, .int .u8 0, .int .u8 0, .int .u8 0, .int .u8 0, .int .u8 0, .int .u8 0, .int .u8 0, .int .u8 0, .int .u8 0, .int .u8 0, .int .u8 0, .int .u8 0, .int .u8 0, .int .u8 0, .int .u8 0, .int .u8 0]) (.int .i64 12) (.inr rfl) rfl rfl rfl (Loads.ownL ho30 (n := 36) (by kernel_rfl) (by kernel_rfl) (by kernel_rfl)) ?_
            obtain ⟨e1, e2⟩ := unp_12 (bs := bs) ‹_› (by unfold kindB; simp only [kOf]; omega)
            exact ⟨by rw [e1, e2]; rfl, hS⟩
    · refine VC_region ?_
      refine VL_pure 2 [1, 2, 4, 5, 21, 23] [(1, .pointer (some ⟨b1, 0, none⟩)), (2, .pointer (some ⟨b2, 0, none⟩)), (4, .pointer (some ⟨b3, 0, none⟩)), (5, .slice (some ⟨b1, 1, none⟩) 47 47), (21, .int .i64 (IntKind.wrap .i64 ((IntKind.wrap .i64 (bs.getD 0 0)) - 16))), (23, .bool ((IntKind.wrap .i64 ((IntKind.wrap .i64 (bs.getD 0 0)) - 16)) == 1))] (by kernel_rfl) rfl ?_
      refine VL_end (by kernel_rfl) ?_
      refine VQ_next ?_
      refine VC_eq (IntKind.wrap .i64 ((IntKind.wrap .i64 (bs.getD 0 0)) - 16)) 1 (by kernel_rfl) (fun h9 => ?_) (fun h9 => ?_)
      · refine VC_eff [[], [0], [0, 1], [], [3], [3, 4], [3, 4, 5], [0, 1, 2], [0, 1, 2, 7], [0, 1, 2, 3, 4, 5, 6, 7, 8], [0, 1, 2, 3, 4, 5, 6, 7, 8, 9]] 9 [.slice (some ⟨b1, 1, none⟩) 47 47, .pointer (some ⟨b1, 1, none⟩), .int .u8 (bs.getD 1 0), .slice (some ⟨b1, 1, none⟩) 47 47, .slice (some ⟨b1, 2, none⟩) 46 46, .pointer (some ⟨b1, 2, none⟩), .agg #[.int .u8 (bs.getD 2 0), .int .u8 (bs.getD 3 0), .int .u8 (bs.getD 4 0), .int .u8 (bs.getD 5 0), .int .u8 (bs.getD 6 0), .int .u8 (bs.getD 7 0), .int .u8 (bs.getD 8 0), .int .u8 (bs.getD 9 0), .int .u8 (bs.getD 10 0), .int .u8 (bs.getD 11 0), .int .u8 (bs.getD 12 0), .int .u8 (bs.getD 13 0), .int .u8 (bs.getD 14 0), .int .u8 (bs.getD 15 0), .int .u8 (bs.getD 16 0), .int .u8 (bs.getD 17 0)], .pointer (some ⟨b3, 1, none⟩), undef] [0, 3, 4, 5, 7] [1, 2, 6, 8] (ROwn b3 31 #[.int .i64 (IntKind.wrap .i64 ((IntKind.wrap .i64 (bs.getD 0 0)) - 16)), .int .u8 0, .bool false, .int .u32 0, .int .u8 0, .int .u8 0, .int .u8 0, .int .u8 0, .int .u8 0, .int .u8 0, .int .u8 0, .int .u8 0, .int .u8 0, .int .u8 0, .int .u8 0, .int .u8 0, .int .u8 0, .int .u8 0, .int .u8 0, .int .u8 0, .int .u8 0, .int .u8 0, .int .u8 0, .int .u8 0, .int .u8 0, .int .u8 0, .int .u8 0, .int .u8 0, .int .u8 0, .int .u8 0, .int .u8 0, .int .u8 0, .int .u8 0, .int .u8 0, .int .u8 0, .int .u8 0] #[.int .i64 (IntKind.wrap .i64 ((IntKind.wrap .i64 (bs.getD 0 0)) - 16)), .int .u8 (bs.getD 1 0), .bool false, .int .u32 0, .int .u8 0, .int .u8 0, .int .u8 0, .int .u8 0, .int .u8 0, .int .u8 0, .int .u8 0, .int .u8 0, .int .u8 0, .int .u8 0, .int .u8 0, .int .u8 0, .int .u8 0, .int .u8 0, .int .u8 0, .int .u8 0, .int .u8 0, .int .u8 0, .int .u8 0, .int .u8 0, .int .u8 0, .int .u8 0, .int .u8 0, .int .u8 0, .int .u8 0, .int .u8 0, .int .u8 0, .int .u8 0, .int .u8 0, .int .u8 0, .int .u8 0, .int .u8 0]) (fun j x => j = 8 → Own x b3 #[.int .i64 (IntKind.wrap .i64 ((IntKind.wrap .i64 (bs.getD 0 0)) - 16)), .int .u8 (bs.getD 1 0), .bool false, .int .u32 0, .int .u8 0, .int .u8 0, .int .u8 0, .int .u8 0, .int .u8 0, .int .u8 0, .int .u8 0, .int .u8 0, .int .u8 0, .int .u8 0, .int .u8 0, .int .u8 0, .int .u8 0, .int .u8 0, .int .u8 0, .int .u8 0, .int .u8 0, .int .u8 0, .int .u8 0, .int .u8 0, .int .u8 0, .int .u8 0, .int .u8 0, .int .u8 0, .int .u8 0, .int .u8 0, .int .u8 0, .int .u8 0, .int .u8 0, .int .u8 0, .int .u8 0, .int .u8 0] 31) (by kernel_rfl) (by kernel_rfl) (by kernel_rfl) (ROwn.refl _ _ _ _) ROwn.trans (ROwn.no (drew_step _)) (fun _ _ _ h hr e => hr.2.1 (h e)) (by kernel_rfl) (by intro k hk x e; subst e; simp at hk) ?_ ?_
        · intro w41 hr5
          have hI := hr5.1 (.inl ho5)
          replace hS := Step.transNew hS hr5.2.2 (fun _ _ _ => by omega)
          replace ho1 := ho1.step hr5.2.2 (show ¬ b1 = b3 by omega)
          replace ho2 := ho2.step hr5.2.2 (show ¬ b2 = b3 by omega)
          exact ⟨fun _ => Eff1_no (Det1_index (d := 27) (b := b1) (o := 1) (len := 47) (sz := 1) (m := 0) (by kernel_rfl) (by kernel_rfl) 0 (by rfl) (by omega) 1 (by omega)) (fun x e => absurd e (by decide)), fun _ => Eff1_no (Det1_load (d := 28) (t := 5) (a := ⟨b1, 1, none⟩) (by kernel_rfl) (by kernel_rfl) (Loads.arr1 ho1 (by kernel_rfl) (by (try simp only [List.length_set, List.length_append, List.length_map, List.length_replicate, List.length_cons, List.length_nil, List.length_take, List.length_drop, List.length_range]) <;> omega))) (fun x e => absurd e (by decide)), fun _ => Eff1_no (Det1_load (d := 32) (t := 23) (a := ⟨b1, 2, none⟩) (by kernel_rfl) (by kernel_rfl) (Loads.arrSub (o := 2) (N := 16) ho1 (by kernel_rfl) (by (try simp only [List.length_set, List.length_append, List.length_map, List.length_replicate, List.length_cons, List.length_nil, List.length_take, List.length_drop, List.length_range]) <;> omega))) (fun x e => absurd e (by decide)), fun _ => Eff1_store (b := b3) (o := 1) (T := 31) (c0 := #[.int .i64 (IntKind.wrap .i64 ((IntKind.wrap .i64 (bs.getD 0 0)) - 16)), .int .u8 0, .bool false, .int .u32 0, .int .u8 0, .int .u8 0, .int .u8 0, .int .u8 0, .int .u8 0, .int .u8 0, .int .u8 0, .int .u8 0, .int .u8 0, .int .u8 0, .int .u8 0, .int .u8 0, .int .u8 0, .int .u8 0, .int .u8 0, .int .u8 0, .int .u8 0, .int .u8 0, .int .u8 0, .int .u8 0, .int .u8 0, .int .u8 0, .int .u8 0, .int .u8 0, .int .u8 0, .int .u8 0, .int .u8 0, .int .u8 0, .int .u8 0, .int .u8 0, .int .u8 0, .int .u8 0]) (c1 := #[.int .i64 (IntKind.wrap .i64 ((IntKind.wrap .i64 (bs.getD 0 0)) - 16)), .int .u8 (bs.getD 1 0), .bool false, .int .u32 0, .int .u8 0, .int .u8 0, .int .u8 0, .int .u8 0, .int .u8 0, .int .u8 0, .int .u8 0, .int .u8 0, .int .u8 0, .int .u8 0, .int .u8 0, .int .u8 0, .int .u8 0, .int .u8 0, .int .u8 0, .int .u8 0, .int .u8 0, .int .u8 0, .int .u8 0, .int .u8 0, .int .u8 0, .int .u8 0, .int .u8 0, .int .u8 0, .int .u8 0, .int .u8 0, .int .u8 0, .int .u8 0, .int .u8 0, .int .u8 0, .int .u8 0, .int .u8 0]) (vs := [.int .u8 (bs.getD 1 0)]) (by kernel_rfl) (by kernel_rfl) hI (Nat.le_of_ble_eq_true (by kernel_rfl)) (Nat.le_of_ble_eq_true (by kernel_rfl)) (by kernel_rfl) (by kernel_rfl), trivial⟩
        intro w40 hr6 hB3
        have ho31 := hB3 8 (by decide) rfl
        replace hS := Step.transNew hS hr6.2.2 (fun _ _ _ => by omega)
        replace ho1 := ho1.step hr6.2.2 (show ¬ b1 = b3 by omega)
        replace ho2 := ho2.step hr6.2.2 (show ¬ b2 = b3 by omega)
        refine VL_keep [1, 2, 4, 32] [(1, .pointer (some ⟨b1, 0, none⟩)), (2, .pointer (some ⟨b2, 0, none⟩)), (4, .pointer (some ⟨b3, 0, none⟩)), (32, .agg #[.int .u8 (bs.getD 2 0), .int .u8 (bs.getD 3 0), .int .u8 (bs.getD 4 0), .int .u8 (bs.getD 5 0), .int .u8 (bs.getD 6 0), .int .u8 (bs.getD 7 0), .int .u8 (bs.getD 8 0), .int .u8 (bs.getD 9 0), .int .u8 (bs.getD 10 0), .int .u8 (bs.getD 11 0), .int .u8 (bs.getD 12 0), .int .u8 (bs.getD 13 0), .int .u8 (bs.getD 14 0), .int .u8 (bs.getD 15 0), .int .u8 (bs.getD 16 0), .int .u8 (bs.getD 17 0)])] (by kernel_rfl) ?_
        refine VL_pure 10 [1, 2, 4, 32, 34] [(1, .pointer (some ⟨b1, 0, none⟩)), (2, .pointer (some ⟨b2, 0, none⟩)), (4, .pointer (some ⟨b3, 0, none⟩)), (32, .agg #[.int .u8 (bs.getD 2 0), .int .u8 (bs.getD 3 0), .int .u8 (bs.getD 4 0), .int .u8 (bs.getD 5 0), .int .u8 (bs.getD 6 0), .int .u8 (bs.getD 7 0), .int .u8 (bs.getD 8 0), .int .u8 (bs.getD 9 0), .int .u8 (bs.getD 10 0), .int .u8 (bs.getD 11 0), .int .u8 (bs.getD 12 0), .int .u8 (bs.getD 13 0), .int .u8 (bs.getD 14 0), .int .u8 (bs.getD 15 0), .int .u8 (bs.getD 16 0), .int .u8 (bs.getD 17 0)]), (34, .pointer (some ⟨b3, 4, none⟩))] (by kernel_rfl) rfl ?_
        refine VL_store (b := b3) (o := 4) (vs := [.int .u8 (bs.getD 2 0), .int .u8 (bs.getD 3 0), .int .u8 (bs.getD 4 0), .int .u8 (bs.getD 5 0), .int .u8 (bs.getD 6 0), .int .u8 (bs.getD 7 0), .int .u8 (bs.getD 8 0), .int .u8 (bs.getD 9 0), .int .u8 (bs.getD 10 0), .int .u8 (bs.getD 11 0), .int .u8 (bs.getD 12 0), .int .u8 (bs.getD 13 0), .int .u8 (bs.getD 14 0), .int .u8 (bs.getD 15 0), .int .u8 (bs.getD 16 0), .int .u8 (bs.getD 17 0)]) (by kernel_rfl) (by kernel_rfl) ho31 (Nat.le_of_ble_eq_true (by kernel_rfl)) ?_
        intro w42 hw23
        replace hS := Step.transNew hS hw23.step (fun _ _ _ => by omega)
        replace ho1 := ho1.step hw23.step (show ¬ b1 = b3 by omega)
        replace ho2 := ho2.step hw23.step (show ¬ b2 = b3 by omega)
        have ho32 : Own w42 b3 #[.int .i64 (IntKind.wrap .i64 ((IntKind.wrap .i64 (bs.getD 0 0)) - 16)), .int .u8 (bs.getD 1 0), .bool false, .int .u32 0, .int .u8 (bs.getD 2 0), .int .u8 (bs.getD 3 0), .int .u8 (bs.getD 4 0), .int .u8 (bs.getD 5 0), .int .u8 (bs.getD 6 0), .int .u8 (bs.getD 7 0), .int .u8 (bs.getD 8 0), .int .u8 (bs.getD 9 0), .int .u8 (bs.getD 10 0), .int .u8 (bs.getD 11 0), .int .u8 (bs.getD 12 0), .int .u8 (bs.getD 13 0), .int .u8 (bs.getD 14 0), .int .u8 (bs.getD 15 0), .int .u8 (bs.getD 16 0), .int .u8 (bs.getD 17 0), .int .u8 0, .int .u8 0, .int .u8 0, .int .u8 0, .int .u8 0, .int .u8 0, .int .u8 0, .int .u8 0, .int .u8 0, .int .u8 0, .int .u8 0, .int .u8 0, .int .u8 0, .int .u8 0, .int .u8 0, .int .u8 0] 31 := Own.cast hw23.own (by kernel_rfl)
        have hzhw23 := hw23.same
        refine VL_end (by kernel_rfl) ?_
        refine VQ_block_normal ?_
        refine VQ_next ?_
        refine VC_seq ?_
        refine VC_seq ?_
        refine VC_region ?_
        refine VL_load (d := 70) (t := 31) (a := ⟨b3, 0, none⟩) (v := .agg #[.int .i64 (IntKind.wrap .i64 ((IntKind.wrap .i64 (bs.getD 0 0)) - 16)), .int .u8 (bs.getD 1 0), .bool false, .int .u32 0, .int .u8 (bs.getD 2 0), .int .u8 (bs.getD 3 0), .int .u8 (bs.getD 4 0), .int .u8 (bs.getD 5 0), .int .u8 (bs.getD 6 0), .int .u8 (bs.getD 7 0), .int .u8 (bs.getD 8 0), .int .u8 (bs.getD 9 0), .int .u8 (bs.getD 10 0), .int .u8 (bs.getD 11 0), .int .u8 (bs.getD 12 0), .int .u8 (bs.getD 13 0), .int .u8 (bs.getD 14 0), .int .u8 (bs.getD 15 0), .int .u8 (bs.getD 16 0), .int .u8 (bs.getD 17 0), .int .u8 0, .int .u8 0, .int .u8 0, .int .u8 0, .int .u8 0, .int .u8 0, .int .u8 0, .int .u8 0, .int .u8 0, .int .u8 0, .int .u8 0, .int .u8 0, .int .u8 0, .int .u8 0, .int .u8 0, .int .u8 0]) (by kernel_rfl) (by kernel_rfl) (Loads.ownL ho32 (n := 36) (by kernel_rfl) (by kernel_rfl) (by kernel_rfl)) ?_
        have hzs15 := hS.size
        have hzl33 := ho1.lt
        have hzl34 := ho2.lt
        have hzl35 := ho32.lt
        refine VL_call (d := 71) (f := 10) (by kernel_rfl) (by kernel_rfl) (by kernel_rfl) Try.call10 (pack_any (⟨IntKind.wrap .i64 ((IntKind.wrap .i64 (bs.getD 0 0)) - 16), bs.getD 1 0, false, 0, (plG bs 2), zp⟩ : Om) _) ?_
        rintro _ w43 ⟨rfl, hc5⟩
        replace hS := Step.trans hS hc5
        replace ho1 := ho1.no hc5
        replace ho2 := ho2.no hc5
        replace ho32 := ho32.no hc5
        refine VL_pure 5 [1, 2, 4, 72, 73] [(1, .pointer (some ⟨b1, 0, none⟩)), (2, .pointer (some ⟨b2, 0, none⟩)), (4, .pointer (some ⟨b3, 0, none⟩)), (72, .agg (iA .u8 (packV (⟨IntKind.wrap .i64 ((IntKind.wrap .i64 (bs.getD 0 0)) - 16), bs.getD 1 0, false, 0, (plG bs 2), zp⟩ : Om)))), (73, .int .i64 (packE (⟨IntKind.wrap .i64 ((IntKind.wrap .i64 (bs.getD 0 0)) - 16), bs.getD 1 0, false, 0, (plG bs 2), zp⟩ : Om)))] (by kernel_rfl) rfl ?_
        have hzs16 := hS.size
        have hzl36 := ho1.lt
        have hzl37 := ho2.lt
        have hzl38 := ho32.lt
        have hzs17 := hS.size
        have hzl39 := ho1.lt
        have hzl40 := ho2.lt
        have hzl41 := ho32.lt
        refine VL_box (d := 8) (t := 26) (c := iA .u8 (List.replicate 48 0)) (by kernel_rfl) (by kernel_rfl) ?_
        intro b7 w44 hn7
        replace hS := Step.trans hS (hn7.step No)
        replace ho1 := ho1.no (hn7.step No)
        replace ho2 := ho2.no (hn7.step No)
        replace ho32 := ho32.no (hn7.step No)
        have ho33 := hn7.own
        have hzhn7 := hn7.size
        have hqhn7 := hn7.eqb
        refine VL_storeA (b := b7) (sz := 48) (k := .u8) (bs := packV (⟨IntKind.wrap .i64 ((IntKind.wrap .i64 (bs.getD 0 0)) - 16), bs.getD 1 0, false, 0, (plG bs 2), zp⟩ : Om)) (by kernel_rfl) (by kernel_rfl) (by first | exact hn | exact packV_len _) ho33 (iA_size.trans (by (try simp only [List.length_set, List.length_append, List.length_map, List.length_replicate, List.length_cons, List.length_nil, List.length_take, List.length_drop, List.length_range]) <;> omega)) ?_
        intro w45 hw24
        replace hS := Step.transNew hS hw24.step (fun _ _ _ => by omega)
        replace ho1 := ho1.step hw24.step (show ¬ b1 = b7 by omega)
        replace ho2 := ho2.step hw24.step (show ¬ b2 = b7 by omega)
        replace ho32 := ho32.step hw24.step (show ¬ b3 = b7 by omega)
        have ho34 := hw24.own
        have hzhw24 := hw24.same
        refine VL_pure 8 [1, 2, 4, 8, 9] [(1, .pointer (some ⟨b1, 0, none⟩)), (2, .pointer (some ⟨b2, 0, none⟩)), (4, .pointer (some ⟨b3, 0, none⟩)), (8, .pointer (some ⟨b7, 0, none⟩)), (9, .int .i64 (packE (⟨IntKind.wrap .i64 ((IntKind.wrap .i64 (bs.getD 0 0)) - 16), bs.getD 1 0, false, 0, (plG bs 2), zp⟩ : Om)))] (by kernel_rfl) rfl ?_
        refine VL_end (by kernel_rfl) ?_
        refine VQ_next ?_
        refine VC_seq ?_
        refine VC_region ?_
        refine VL_pure 3 [1, 2, 4, 8, 76] [(1, .pointer (some ⟨b1, 0, none⟩)), (2, .pointer (some ⟨b2, 0, none⟩)), (4, .pointer (some ⟨b3, 0, none⟩)), (8, .pointer (some ⟨b7, 0, none⟩)), (76, .bool ((packE (⟨IntKind.wrap .i64 ((IntKind.wrap .i64 (bs.getD 0 0)) - 16), bs.getD 1 0, false, 0, (plG bs 2), zp⟩ : Om)) != 0))] (by kernel_rfl) rfl ?_
        refine VL_bne (packE (⟨IntKind.wrap .i64 ((IntKind.wrap .i64 (bs.getD 0 0)) - 16), bs.getD 1 0, false, 0, (plG bs 2), zp⟩ : Om)) 0 (fun bV => [(1, .pointer (some ⟨b1, 0, none⟩)), (2, .pointer (some ⟨b2, 0, none⟩)), (4, .pointer (some ⟨b3, 0, none⟩)), (8, .pointer (some ⟨b7, 0, none⟩)), (76, .bool bV)]) rfl (fun hg4 => ?_) (fun hg4 => ?_)
        · refine VL_pure 7 [2, 4, 80] [(2, .pointer (some ⟨b2, 0, none⟩)), (4, .pointer (some ⟨b3, 0, none⟩)), (80, .bool true)] (by kernel_rfl) rfl ?_
          refine VL_end (by kernel_rfl) ?_
          refine VQ_next ?_
          refine VC_true (by kernel_rfl) ?_
          refine VC_seq ?_
          refine VC_region ?_
          refine VL_pure 1 [2, 81] [(2, .pointer (some ⟨b2, 0, none⟩)), (81, .agg #[.int .i64 0, .int .u8 0, .bool false, .int .u32 0, .int .u8 0, .int .u8 0, .int .u8 0, .int .u8 0, .int .u8 0, .int .u8 0, .int .u8 0, .int .u8 0, .int .u8 0, .int .u8 0, .int .u8 0, .int .u8 0, .int .u8 0, .int .u8 0, .int .u8 0, .int .u8 0, .int .u8 0, .int .u8 0, .int .u8 0, .int .u8 0, .int .u8 0, .int .u8 0, .int .u8 0, .int .u8 0, .int .u8 0, .int .u8 0, .int .u8 0, .int .u8 0, .int .u8 0, .int .u8 0, .int .u8 0, .int .u8 0])] (by kernel_rfl) rfl ?_
          refine VL_store (b := b2) (o := 0) (vs := [.int .i64 0, .int .u8 0, .bool false, .int .u32 0, .int .u8 0, .int .u8 0, .int .u8 0, .int .u8 0, .int .u8 0, .int .u8 0, .int .u8 0, .int .u8 0, .int .u8 0, .int .u8 0, .int .u8 0, .int .u8 0, .int .u8 0, .int .u8 0, .int .u8 0, .int .u8 0, .int .u8 0, .int .u8 0, .int .u8 0, .int .u8 0, .int .u8 0, .int .u8 0, .int .u8 0, .int .u8 0, .int .u8 0, .int .u8 0, .int .u8 0, .int .u8 0, .int .u8 0, .int .u8 0, .int .u8 0, .int .u8 0]) (by kernel_rfl) (by kernel_rfl) ho2 (Nat.le_of_ble_eq_true (by kernel_rfl)) ?_
          intro w46 hw25
          replace hS := Step.transNew hS hw25.step (fun _ _ _ => by omega)
          replace ho1 := ho1.step hw25.step (show ¬ b1 = b2 by omega)
          replace ho32 := ho32.step hw25.step (show ¬ b3 = b2 by omega)
          replace ho34 := ho34.step hw25.step (show ¬ b7 = b2 by omega)
          have ho35 : Own w46 b2 #[.int .i64 0, .int .u8 0, .bool false, .int .u32 0, .int .u8 0, .int .u8 0, .int .u8 0, .int .u8 0, .int .u8 0, .int .u8 0, .int .u8 0, .int .u8 0, .int .u8 0, .int .u8 0, .int .u8 0, .int .u8 0, .int .u8 0, .int .u8 0, .int .u8 0, .int .u8 0, .int .u8 0, .int .u8 0, .int .u8 0, .int .u8 0, .int .u8 0, .int .u8 0, .int .u8 0, .int .u8 0, .int .u8 0, .int .u8 0, .int .u8 0, .int .u8 0, .int .u8 0, .int .u8 0, .int .u8 0, .int .u8 0] 31 := Own.cast hw25.own (by kernel_rfl)
          have hzhw25 := hw25.same
          refine VL_pure 3 [2, 3] [(2, .pointer (some ⟨b2, 0, none⟩)), (3, .int .i64 5)] (by kernel_rfl) rfl ?_
          refine VL_end (by kernel_rfl) ?_
          refine VQ_next ?_
          refine VC_ret ?_
          refine VQ_then_ret ?_
          refine VQ_retC1T1 (T := 31) (.agg #[.int .i64 0, .int .u8 0, .bool false, .int .u32 0, .int .u8 0, .int .u8 0, .int .u8 0, .int .u8 0, .int .u8 0, .int .u8 0, .int .u8 0, .int .u8 0, .int .u8 0, .int .u8 0, .int .u8 0, .int .u8 0, .int .u8 0, .int .u8 0, .int .u8 0, .int .u8 0, .int .u8 0, .int .u8 0, .int .u8 0, .int .u8 0, .int .u8 0, .int .u8 0, .int .u8 0, .int .u8 0, .int .u8 0, .int .u8 0, .int .u8 0, .int .u8 0, .int .u8 0, .int .u8 0, .int .u8 0, .int .u8 0]) (.int .i64 5) (.inr rfl) rfl rfl rfl (Loads.ownL ho35 (n := 36) (by kernel_rfl) (by kernel_rfl) (by kernel_rfl)) ?_
          obtain ⟨e1, e2⟩ := unp_5 (bs := bs) (unpO_01 (by simp only [kOf]; omega)) ‹_› (by unfold kindB; simp only [kOf]; omega) (by first | exact .inl ‹_› | exact .inr ‹_›)
          exact ⟨by rw [e1, e2]; rfl, hS⟩
        · refine VL_load (d := 77) (t := 26) (a := ⟨b7, 0, none⟩) (v := .agg (iA .u8 (packV (⟨IntKind.wrap .i64 ((IntKind.wrap .i64 (bs.getD 0 0)) - 16), bs.getD 1 0, false, 0, (plG bs 2), zp⟩ : Om)))) (by kernel_rfl) (by kernel_rfl) (Loads.arr (N := 48) ho34 (by kernel_rfl) (by first | exact hn | exact packV_len _)) ?_
          refine VL_load (d := 78) (t := 26) (a := ⟨b1, 0, none⟩) (v := .agg (iA .u8 bs)) (by kernel_rfl) (by kernel_rfl) (Loads.arr (N := 48) ho1 (by kernel_rfl) (by (try simp only [List.length_set, List.length_append, List.length_map, List.length_replicate, List.length_cons, List.length_nil, List.length_take, List.length_drop, List.length_range]) <;> omega)) ?_
          refine VL_agEq (d := 79) (dd := 9) (ls := (rep 48 [.int .u8])) (pos := false) (t := 26) (xs := (iA .u8 (packV (⟨IntKind.wrap .i64 ((IntKind.wrap .i64 (bs.getD 0 0)) - 16), bs.getD 1 0, false, 0, (plG bs 2), zp⟩ : Om)))) (ys := (iA .u8 bs)) (by kernel_rfl) (by kernel_rfl) (by kernel_rfl) (by kernel_rfl) (iA_are (by first | exact hn | exact packV_len _)) (iA_are (by first | exact hn | exact packV_len _)) (!((packV (⟨IntKind.wrap .i64 ((IntKind.wrap .i64 (bs.getD 0 0)) - 16), bs.getD 1 0, false, 0, (plG bs 2), zp⟩ : Om)) == bs)) (iA_eq false) ?_
          refine VL_pure 7 [2, 4, 80] [(2, .pointer (some ⟨b2, 0, none⟩)), (4, .pointer (some ⟨b3, 0, none⟩)), (80, .bool (!((packV (⟨IntKind.wrap .i64 ((IntKind.wrap .i64 (bs.getD 0 0)) - 16), bs.getD 1 0, false, 0, (plG bs 2), zp⟩ : Om)) == bs)))] (by kernel_rfl) rfl ?_
          refine VL_end (by kernel_rfl) ?_
          refine VQ_next ?_
          refine VC_cond (!((packV (⟨IntKind.wrap .i64 ((IntKind.wrap .i64 (bs.getD 0 0)) - 16), bs.getD 1 0, false, 0, (plG bs 2), zp⟩ : Om)) == bs)) (by kernel_rfl) (fun h10 => ?_) (fun h10 => ?_)
          · try simp only [Bool.and_eq_true, Bool.or_eq_true, decide_eq_true_eq, Bool.not_eq_true', decide_eq_false_iff_not, Bool.and_eq_false_iff, Bool.or_eq_false_iff, beq_iff_eq, bne_iff_ne, beq_eq_false_iff_ne, bne_eq_false_iff_eq, Bool.not_eq_eq_eq_not, Bool.not_true, Bool.not_false] at h10
            refine VC_seq ?_
            refine VC_region ?_
            refine VL_pure 1 [2, 81] [(2, .pointer (some ⟨b2, 0, none⟩)), (81, .agg #[.int .i64 0, .int .u8 0, .bool false, .int .u32 0, .int .u8 0, .int .u8 0, .int .u8 0, .int .u8 0, .int .u8 0, .int .u8 0, .int .u8 0, .int .u8 0, .int .u8 0, .int .u8 0, .int .u8 0, .int .u8 0, .int .u8 0, .int .u8 0, .int .u8 0, .int .u8 0, .int .u8 0, .int .u8 0, .int .u8 0, .int .u8 0, .int .u8 0, .int .u8 0, .int .u8 0, .int .u8 0, .int .u8 0, .int .u8 0, .int .u8 0, .int .u8 0, .int .u8 0, .int .u8 0, .int .u8 0, .int .u8 0])] (by kernel_rfl) rfl ?_
            refine VL_store (b := b2) (o := 0) (vs := [.int .i64 0, .int .u8 0, .bool false, .int .u32 0, .int .u8 0, .int .u8 0, .int .u8 0, .int .u8 0, .int .u8 0, .int .u8 0, .int .u8 0, .int .u8 0, .int .u8 0, .int .u8 0, .int .u8 0, .int .u8 0, .int .u8 0, .int .u8 0, .int .u8 0, .int .u8 0, .int .u8 0, .int .u8 0, .int .u8 0, .int .u8 0, .int .u8 0, .int .u8 0, .int .u8 0, .int .u8 0, .int .u8 0, .int .u8 0, .int .u8 0, .int .u8 0, .int .u8 0, .int .u8 0, .int .u8 0, .int .u8 0]) (by kernel_rfl) (by kernel_rfl) ho2 (Nat.le_of_ble_eq_true (by kernel_rfl)) ?_
            intro w47 hw26
            replace hS := Step.transNew hS hw26.step (fun _ _ _ => by omega)
            replace ho1 := ho1.step hw26.step (show ¬ b1 = b2 by omega)
            replace ho32 := ho32.step hw26.step (show ¬ b3 = b2 by omega)
            replace ho34 := ho34.step hw26.step (show ¬ b7 = b2 by omega)
            have ho36 : Own w47 b2 #[.int .i64 0, .int .u8 0, .bool false, .int .u32 0, .int .u8 0, .int .u8 0, .int .u8 0, .int .u8 0, .int .u8 0, .int .u8 0, .int .u8 0, .int .u8 0, .int .u8 0, .int .u8 0, .int .u8 0, .int .u8 0, .int .u8 0, .int .u8 0, .int .u8 0, .int .u8 0, .int .u8 0, .int .u8 0, .int .u8 0, .int .u8 0, .int .u8 0, .int .u8 0, .int .u8 0, .int .u8 0, .int .u8 0, .int .u8 0, .int .u8 0, .int .u8 0, .int .u8 0, .int .u8 0, .int .u8 0, .int .u8 0] 31 := Own.cast hw26.own (by kernel_rfl)
            have hzhw26 := hw26.same
            refine VL_pure 3 [2, 3] [(2, .pointer (some ⟨b2, 0, none⟩)), (3, .int .i64 5)] (by kernel_rfl) rfl ?_
            refine VL_end (by kernel_rfl) ?_
            refine VQ_next ?_
            refine VC_ret ?_
            refine VQ_then_ret ?_
            refine VQ_retC1T1 (T := 31) (.agg #[.int .i64 0, .int .u8 0, .bool false, .int .u32 0, .int .u8 0, .int .u8 0, .int .u8 0, .int .u8 0, .int .u8 0, .int .u8 0, .int .u8 0, .int .u8 0, .int .u8 0, .int .u8 0, .int .u8 0, .int .u8 0, .int .u8 0, .int .u8 0, .int .u8 0, .int .u8 0, .int .u8 0, .int .u8 0, .int .u8 0, .int .u8 0, .int .u8 0, .int .u8 0, .int .u8 0, .int .u8 0, .int .u8 0, .int .u8 0, .int .u8 0, .int .u8 0, .int .u8 0, .int .u8 0, .int .u8 0, .int .u8 0]) (.int .i64 5) (.inr rfl) rfl rfl rfl (Loads.ownL ho36 (n := 36) (by kernel_rfl) (by kernel_rfl) (by kernel_rfl)) ?_
            obtain ⟨e1, e2⟩ := unp_5 (bs := bs) (unpO_01 (by simp only [kOf]; omega)) ‹_› (by unfold kindB; simp only [kOf]; omega) (by first | exact .inl ‹_› | exact .inr ‹_›)
            exact ⟨by rw [e1, e2]; rfl, hS⟩
          · try simp only [Bool.and_eq_true, Bool.or_eq_true, decide_eq_true_eq, Bool.not_eq_true', decide_eq_false_iff_not, Bool.and_eq_false_iff, Bool.or_eq_false_iff, beq_iff_eq, bne_iff_ne, beq_eq_false_iff_ne, bne_eq_false_iff_eq, Bool.not_eq_eq_eq_not, Bool.not_true, Bool.not_false] at h10
            refine VC_skip ?_
            refine VQ_next ?_
            refine VC_seq ?_
            refine VC_region ?_
            refine VL_load (d := 82) (t := 31) (a := ⟨b3, 0, none⟩) (v := .agg #[.int .i64 (IntKind.wrap .i64 ((IntKind.wrap .i64 (bs.getD 0 0)) - 16)), .int .u8 (bs.getD 1 0), .bool false, .int .u32 0, .int .u8 (bs.getD 2 0), .int .u8 (bs.getD 3 0), .int .u8 (bs.getD 4 0), .int .u8 (bs.getD 5 0), .int .u8 (bs.getD 6 0), .int .u8 (bs.getD 7 0), .int .u8 (bs.getD 8 0), .int .u8 (bs.getD 9 0), .int .u8 (bs.getD 10 0), .int .u8 (bs.getD 11 0), .int .u8 (bs.getD 12 0), .int .u8 (bs.getD 13 0), .int .u8 (bs.getD 14 0), .int .u8 (bs.getD 15 0), .int .u8 (bs.getD 16 0), .int .u8 (bs.getD 17 0), .int .u8 0, .int .u8 0, .int .u8 0, .int .u8 0, .int .u8 0, .int .u8 0, .int .u8 0, .int .u8 0, .int .u8 0, .int .u8 0, .int .u8 0, .int .u8 0, .int .u8 0, .int .u8 0, .int .u8 0, .int .u8 0]) (by kernel_rfl) (by kernel_rfl) (Loads.ownL ho32 (n := 36) (by kernel_rfl) (by kernel_rfl) (by kernel_rfl)) ?_
            refine VL_store (b := b2) (o := 0) (vs := [.int .i64 (IntKind.wrap .i64 ((IntKind.wrap .i64 (bs.getD 0 0)) - 16)), .int .u8 (bs.getD 1 0), .bool false, .int .u32 0, .int .u8 (bs.getD 2 0), .int .u8 (bs.getD 3 0), .int .u8 (bs.getD 4 0), .int .u8 (bs.getD 5 0), .int .u8 (bs.getD 6 0), .int .u8 (bs.getD 7 0), .int .u8 (bs.getD 8 0), .int .u8 (bs.getD 9 0), .int .u8 (bs.getD 10 0), .int .u8 (bs.getD 11 0), .int .u8 (bs.getD 12 0), .int .u8 (bs.getD 13 0), .int .u8 (bs.getD 14 0), .int .u8 (bs.getD 15 0), .int .u8 (bs.getD 16 0), .int .u8 (bs.getD 17 0), .int .u8 0, .int .u8 0, .int .u8 0, .int .u8 0, .int .u8 0, .int .u8 0, .int .u8 0, .int .u8 0, .int .u8 0, .int .u8 0, .int .u8 0, .int .u8 0, .int .u8 0, .int .u8 0, .int .u8 0, .int .u8 0]) (by kernel_rfl) (by kernel_rfl) ho2 (Nat.le_of_ble_eq_true (by kernel_rfl)) ?_
            intro w48 hw27
            replace hS := Step.transNew hS hw27.step (fun _ _ _ => by omega)
            replace ho1 := ho1.step hw27.step (show ¬ b1 = b2 by omega)
            replace ho32 := ho32.step hw27.step (show ¬ b3 = b2 by omega)
            replace ho34 := ho34.step hw27.step (show ¬ b7 = b2 by omega)
            have ho37 : Own w48 b2 #[.int .i64 (IntKind.wrap .i64 ((IntKind.wrap .i64 (bs.getD 0 0)) - 16)), .int .u8 (bs.getD 1 0), .bool false, .int .u32 0, .int .u8 (bs.getD 2 0), .int .u8 (bs.getD 3 0), .int .u8 (bs.getD 4 0), .int .u8 (bs.getD 5 0), .int .u8 (bs.getD 6 0), .int .u8 (bs.getD 7 0), .int .u8 (bs.getD 8 0), .int .u8 (bs.getD 9 0), .int .u8 (bs.getD 10 0), .int .u8 (bs.getD 11 0), .int .u8 (bs.getD 12 0), .int .u8 (bs.getD 13 0), .int .u8 (bs.getD 14 0), .int .u8 (bs.getD 15 0), .int .u8 (bs.getD 16 0), .int .u8 (bs.getD 17 0), .int .u8 0, .int .u8 0, .int .u8 0, .int .u8 0, .int .u8 0, .int .u8 0, .int .u8 0, .int .u8 0, .int .u8 0, .int .u8 0, .int .u8 0, .int .u8 0, .int .u8 0, .int .u8 0, .int .u8 0, .int .u8 0] 31 := Own.cast hw27.own (by kernel_rfl)
            have hzhw27 := hw27.same
            refine VL_pure 3 [2, 3] [(2, .pointer (some ⟨b2, 0, none⟩)), (3, .int .i64 0)] (by kernel_rfl) rfl ?_
            refine VL_end (by kernel_rfl) ?_
            refine VQ_next ?_
            refine VC_ret ?_
            refine VQ_retC1T1 (T := 31) (.agg #[.int .i64 (IntKind.wrap .i64 ((IntKind.wrap .i64 (bs.getD 0 0)) - 16)), .int .u8 (bs.getD 1 0), .bool false, .int .u32 0, .int .u8 (bs.getD 2 0), .int .u8 (bs.getD 3 0), .int .u8 (bs.getD 4 0), .int .u8 (bs.getD 5 0), .int .u8 (bs.getD 6 0), .int .u8 (bs.getD 7 0), .int .u8 (bs.getD 8 0), .int .u8 (bs.getD 9 0), .int .u8 (bs.getD 10 0), .int .u8 (bs.getD 11 0), .int .u8 (bs.getD 12 0), .int .u8 (bs.getD 13 0), .int .u8 (bs.getD 14 0), .int .u8 (bs.getD 15 0), .int .u8 (bs.getD 16 0), .int .u8 (bs.getD 17 0), .int .u8 0, .int .u8 0, .int .u8 0, .int .u8 0, .int .u8 0, .int .u8 0, .int .u8 0, .int .u8 0, .int .u8 0, .int .u8 0, .int .u8 0, .int .u8 0, .int .u8 0, .int .u8 0, .int .u8 0, .int .u8 0]) (.int .i64 0) (.inr rfl) rfl rfl rfl (Loads.ownL ho37 (n := 36) (by kernel_rfl) (by kernel_rfl) (by kernel_rfl)) ?_
            obtain ⟨e1, e2⟩ := unp_0 (bs := bs) (unpO_01 (by simp only [kOf]; omega)) ‹_› (by unfold kindB; simp only [kOf]; omega) ‹_› ‹_›
            exact ⟨by rw [e1, e2]; rfl, hS⟩
      · refine VC_seq ?_
        refine VC_region ?_
        refine VL_pure 2 [1, 2, 4, 5, 21, 35] [(1, .pointer (some ⟨b1, 0, none⟩)), (2, .pointer (some ⟨b2, 0, none⟩)), (4, .pointer (some ⟨b3, 0, none⟩)), (5, .slice (some ⟨b1, 1, none⟩) 47 47), (21, .int .i64 (IntKind.wrap .i64 ((IntKind.wrap .i64 (bs.getD 0 0)) - 16))), (35, .bool ((IntKind.wrap .i64 ((IntKind.wrap .i64 (bs.getD 0 0)) - 16)) == 8))] (by kernel_rfl) rfl ?_
        refine VL_end (by kernel_rfl) ?_
        refine VQ_next ?_
        refine VC_eq (IntKind.wrap .i64 ((IntKind.wrap .i64 (bs.getD 0 0)) - 16)) 8 (by kernel_rfl) (fun h11 => ?_) (fun h11 => ?_)
        · refine VC_seq ?_
          refine VC_region ?_
          refine VL_pure 1 [1, 2, 4, 5, 37] [(1, .pointer (some ⟨b1, 0, none⟩)), (2, .pointer (some ⟨b2, 0, none⟩)), (4, .pointer (some ⟨b3, 0, none⟩)), (5, .slice (some ⟨b1, 1, none⟩) 47 47), (37, .slice (some ⟨b1, 1, none⟩) 47 47)] (by kernel_rfl) rfl ?_
          refine VL_index (d := 38) (b := b1) (o := 1) (len := 47) (sz := 1) (m := 0) (by kernel_rfl) (by kernel_rfl) 0 (by rfl) (by omega) 1 (by omega) ?_
          refine VL_load (d := 39) (t := 5) (a := ⟨b1, 1, none⟩) (v := .int .u8 (bs.getD 1 0)) (by kernel_rfl) (by kernel_rfl) (Loads.arr1 ho1 (by kernel_rfl) (by (try simp only [List.length_set, List.length_append, List.length_map, List.length_replicate, List.length_cons, List.length_nil, List.length_take, List.length_drop, List.length_range]) <;> omega)) ?_
          refine VL_pure 5 [1, 2, 4, 5, 40, 41] [(1, .pointer (some ⟨b1, 0, none⟩)), (2, .pointer (some ⟨b2, 0, none⟩)), (4, .pointer (some ⟨b3, 0, none⟩)), (5, .slice (some ⟨b1, 1, none⟩) 47 47), (40, .bool ((bs.getD 1 0) == 1)), (41, .pointer (some ⟨b3, 2, none⟩))] (by kernel_rfl) rfl ?_
          refine VL_store (b := b3) (o := 2) (vs := [.bool ((bs.getD 1 0) == 1)]) (by kernel_rfl) (by kernel_rfl) ho5 (Nat.le_of_ble_eq_true (by kernel_rfl)) ?_
          intro w49 hw28
          replace hS := Step.transNew hS hw28.step (fun _ _ _ => by omega)
          replace ho1 := ho1.step hw28.step (show ¬ b1 = b3 by omega)
          replace ho2 := ho2.step hw28.step (show ¬ b2 = b3 by omega)
          have ho38 : Own w49 b3 #[.int .i64 (IntKind.wrap .i64 ((IntKind.wrap .i64 (bs.getD 0 0)) - 16)), .int .u8 0, .bool ((bs.getD 1 0) == 1), .int .u32 0, .int .u8 0, .int .u8 0, .int .u8 0, .int .u8 0, .int .u8 0, .int .u8 0, .int .u8 0, .int .u8 0, .int .u8 0, .int .u8 0, .int .u8 0, .int .u8 0, .int .u8 0, .int .u8 0, .int .u8 0, .int .u8 0, .int .u8 0, .int .u8 0, .int .u8 0, .int .u8 0, .int .u8 0, .int .u8 0, .int .u8 0, .int .u8 0, .int .u8 0, .int .u8 0, .int .u8 0, .int .u8 0, .int .u8 0, .int .u8 0, .int .u8 0, .int .u8 0] 31 := Own.cast hw28.own (by kernel_rfl)
          have hzhw28 := hw28.same
          refine VL_end (by kernel_rfl) ?_
          refine VQ_next ?_
          refine VC_seq ?_
          refine VC_seq ?_
          refine VC_region ?_
          refine VL_pure 4 [1, 2, 4, 5, 43, 44, 45] [(1, .pointer (some ⟨b1, 0, none⟩)), (2, .pointer (some ⟨b2, 0, none⟩)), (4, .pointer (some ⟨b3, 0, none⟩)), (5, .slice (some ⟨b1, 1, none⟩) 47 47), (43, .slice (some ⟨b1, 2, none⟩) 4 46), (44, .int .i64 4), (45, .int .i64 0)] (by kernel_rfl) rfl ?_
          refine VL_end (by kernel_rfl) ?_
          refine VQ_next ?_
          refine VC_block ?_
          refine VC_rounds ?_
          refine VCL_round ?_
          refine VC_seq ?_
          refine VC_region ?_
          refine VL_pure 1 [1, 2, 4, 5, 43, 44, 45, 46] [(1, .pointer (some ⟨b1, 0, none⟩)), (2, .pointer (some ⟨b2, 0, none⟩)), (4, .pointer (some ⟨b3, 0, none⟩)), (5, .slice (some ⟨b1, 1, none⟩) 47 47), (43, .slice (some ⟨b1, 2, none⟩) 4 46), (44, .int .i64 4), (45, .int .i64 0), (46, .bool true)] (by kernel_rfl) rfl ?_
          refine VL_end (by kernel_rfl) ?_
          refine VQ_next ?_
          refine VC_seq ?_
          refine VC_true (by kernel_rfl) ?_
          refine VC_skip ?_
          refine VQ_next ?_
          refine VC_seq ?_
          refine VC_block ?_
          refine VC_seq ?_
          refine VC_region ?_
          refine VL_index (d := 47) (b := b1) (o := 2) (len := 4) (sz := 1) (m := 0) (by kernel_rfl) (by kernel_rfl) 0 (by rfl) (by omega) 2 (by omega) ?_
          refine VL_load (d := 48) (t := 5) (a := ⟨b1, 2, none⟩) (v := .int .u8 (bs.getD 2 0)) (by kernel_rfl) (by kernel_rfl) (Loads.arr1 ho1 (by kernel_rfl) (by (try simp only [List.length_set, List.length_append, List.length_map, List.length_replicate, List.length_cons, List.length_nil, List.length_take, List.length_drop, List.length_range]) <;> omega)) ?_
          refine VL_pure 3 [1, 2, 4, 5, 43, 44, 45, 7] [(1, .pointer (some ⟨b1, 0, none⟩)), (2, .pointer (some ⟨b2, 0, none⟩)), (4, .pointer (some ⟨b3, 0, none⟩)), (5, .slice (some ⟨b1, 1, none⟩) 47 47), (43, .slice (some ⟨b1, 2, none⟩) 4 46), (44, .int .i64 4), (45, .int .i64 0), (7, .int .u8 (bs.getD 2 0))] (by kernel_rfl) rfl ?_
          refine VL_end (by kernel_rfl) ?_
          refine VQ_next ?_
          refine VC_region ?_
          refine VL_pure 1 [1, 2, 4, 5, 43, 44, 45, 7, 49] [(1, .pointer (some ⟨b1, 0, none⟩)), (2, .pointer (some ⟨b2, 0, none⟩)), (4, .pointer (some ⟨b3, 0, none⟩)), (5, .slice (some ⟨b1, 1, none⟩) 47 47), (43, .slice (some ⟨b1, 2, none⟩) 4 46), (44, .int .i64 4), (45, .int .i64 0), (7, .int .u8 (bs.getD 2 0)), (49, .pointer (some ⟨b3, 3, none⟩))] (by kernel_rfl) rfl ?_
          refine VL_load (d := 50) (t := 22) (a := ⟨b3, 3, none⟩) (v := .int .u32 0) (by kernel_rfl) (by kernel_rfl) (Loads.own1 ho38 (by kernel_rfl) (by rfl)) ?_
          refine VL_pure 7 [1, 2, 4, 5, 43, 44, 45, 54, 55] [(1, .pointer (some ⟨b1, 0, none⟩)), (2, .pointer (some ⟨b2, 0, none⟩)), (4, .pointer (some ⟨b3, 0, none⟩)), (5, .slice (some ⟨b1, 1, none⟩) 47 47), (43, .slice (some ⟨b1, 2, none⟩) 4 46), (44, .int .i64 4), (45, .int .i64 0), (54, .int .u32 (bOr .u32 0 (IntKind.wrap .u32 (bs.getD 2 0)))), (55, .pointer (some ⟨b3, 3, none⟩))] (by kernel_rfl) rfl ?_
          refine VL_store (b := b3) (o := 3) (vs := [.int .u32 (bOr .u32 0 (IntKind.wrap .u32 (bs.getD 2 0)))]) (by kernel_rfl) (by kernel_rfl) ho38 (Nat.le_of_ble_eq_true (by kernel_rfl)) ?_
          intro w50 hw29
          replace hS := Step.transNew hS hw29.step (fun _ _ _ => by omega)
          replace ho1 := ho1.step hw29.step (show ¬ b1 = b3 by omega)
          replace ho2 := ho2.step hw29.step (show ¬ b2 = b3 by omega)
          have ho39 : Own w50 b3 #[.int .i64 (IntKind.wrap .i64 ((IntKind.wrap .i64 (bs.getD 0 0)) - 16)), .int .u8 0, .bool ((bs.getD 1 0) == 1), .int .u32 (bOr .u32 0 (IntKind.wrap .u32 (bs.getD 2 0))), .int .u8 0, .int .u8 0, .int .u8 0, .int .u8 0, .int .u8 0, .int .u8 0, .int .u8 0, .int .u8 0, .int .u8 0, .int .u8 0, .int .u8 0, .int .u8 0, .int .u8 0, .int .u8 0, .int .u8 0, .int .u8 0, .int .u8 0, .int .u8 0, .int .u8 0, .int .u8 0, .int .u8 0, .int .u8 0, .int .u8 0, .int .u8 0, .int .u8 0, .int .u8 0, .int .u8 0, .int .u8 0, .int .u8 0, .int .u8 0, .int .u8 0, .int .u8 0] 31 := Own.cast hw29.own (by kernel_rfl)
          have hzhw29 := hw29.same
          refine VL_end (by kernel_rfl) ?_
          refine VQ_block_normal ?_
          refine VQ_next ?_
          refine VC_region ?_
          refine VL_pure 2 [1, 2, 4, 5, 43, 44, 45] [(1, .pointer (some ⟨b1, 0, none⟩)), (2, .pointer (some ⟨b2, 0, none⟩)), (4, .pointer (some ⟨b3, 0, none⟩)), (5, .slice (some ⟨b1, 1, none⟩) 47 47), (43, .slice (some ⟨b1, 2, none⟩) 4 46), (44, .int .i64 4), (45, .int .i64 1)] (by kernel_rfl) rfl ?_
          refine VL_end (by kernel_rfl) ?_
          refine VQ_round ?_
          refine VCL_round ?_
          refine VC_seq ?_
          refine VC_region ?_
          refine VL_pure 1 [1, 2, 4, 5, 43, 44, 45, 46] [(1, .pointer (some ⟨b1, 0, none⟩)), (2, .pointer (some ⟨b2, 0, none⟩)), (4, .pointer (some ⟨b3, 0, none⟩)), (5, .slice (some ⟨b1, 1, none⟩) 47 47), (43, .slice (some ⟨b1, 2, none⟩) 4 46), (44, .int .i64 4), (45, .int .i64 1), (46, .bool true)] (by kernel_rfl) rfl ?_
          refine VL_end (by kernel_rfl) ?_
          refine VQ_next ?_
          refine VC_seq ?_
          refine VC_true (by kernel_rfl) ?_
          refine VC_skip ?_
          refine VQ_next ?_
          refine VC_seq ?_
          refine VC_block ?_
          refine VC_seq ?_
          refine VC_region ?_
          refine VL_index (d := 47) (b := b1) (o := 2) (len := 4) (sz := 1) (m := 1) (by kernel_rfl) (by kernel_rfl) 1 (by rfl) (by omega) 3 (by omega) ?_
          refine VL_load (d := 48) (t := 5) (a := ⟨b1, 3, none⟩) (v := .int .u8 (bs.getD 3 0)) (by kernel_rfl) (by kernel_rfl) (Loads.arr1 ho1 (by kernel_rfl) (by (try simp only [List.length_set, List.length_append, List.length_map, List.length_replicate, List.length_cons, List.length_nil, List.length_take, List.length_drop, List.length_range]) <;> omega)) ?_
          refine VL_pure 3 [1, 2, 4, 5, 43, 44, 45, 7] [(1, .pointer (some ⟨b1, 0, none⟩)), (2, .pointer (some ⟨b2, 0, none⟩)), (4, .pointer (some ⟨b3, 0, none⟩)), (5, .slice (some ⟨b1, 1, none⟩) 47 47), (43, .slice (some ⟨b1, 2, none⟩) 4 46), (44, .int .i64 4), (45, .int .i64 1), (7, .int .u8 (bs.getD 3 0))] (by kernel_rfl) rfl ?_
          refine VL_end (by kernel_rfl) ?_
          refine VQ_next ?_
          refine VC_region ?_
          refine VL_pure 1 [1, 2, 4, 5, 43, 44, 45, 7, 49] [(1, .pointer (some ⟨b1, 0, none⟩)), (2, .pointer (some ⟨b2, 0, none⟩)), (4, .pointer (some ⟨b3, 0, none⟩)), (5, .slice (some ⟨b1, 1, none⟩) 47 47), (43, .slice (some ⟨b1, 2, none⟩) 4 46), (44, .int .i64 4), (45, .int .i64 1), (7, .int .u8 (bs.getD 3 0)), (49, .pointer (some ⟨b3, 3, none⟩))] (by kernel_rfl) rfl ?_
          refine VL_load (d := 50) (t := 22) (a := ⟨b3, 3, none⟩) (v := .int .u32 (bOr .u32 0 (IntKind.wrap .u32 (bs.getD 2 0)))) (by kernel_rfl) (by kernel_rfl) (Loads.own1 ho39 (by kernel_rfl) (by rfl)) ?_
          refine VL_pure 7 [1, 2, 4, 5, 43, 44, 45, 54, 55] [(1, .pointer (some ⟨b1, 0, none⟩)), (2, .pointer (some ⟨b2, 0, none⟩)), (4, .pointer (some ⟨b3, 0, none⟩)), (5, .slice (some ⟨b1, 1, none⟩) 47 47), (43, .slice (some ⟨b1, 2, none⟩) 4 46), (44, .int .i64 4), (45, .int .i64 1), (54, .int .u32 (bOr .u32 (IntKind.wrap .u32 ((bOr .u32 0 (IntKind.wrap .u32 (bs.getD 2 0))) * 2 ^ 8)) (IntKind.wrap .u32 (bs.getD 3 0)))), (55, .pointer (some ⟨b3, 3, none⟩))] (by kernel_rfl) rfl ?_
          refine VL_store (b := b3) (o := 3) (vs := [.int .u32 (bOr .u32 (IntKind.wrap .u32 ((bOr .u32 0 (IntKind.wrap .u32 (bs.getD 2 0))) * 2 ^ 8)) (IntKind.wrap .u32 (bs.getD 3 0)))]) (by kernel_rfl) (by kernel_rfl) ho39 (Nat.le_of_ble_eq_true (by kernel_rfl)) ?_
          intro w51 hw30
          replace hS := Step.transNew hS hw30.step (fun _ _ _ => by omega)
          replace ho1 := ho1.step hw30.step (show ¬ b1 = b3 by omega)
          replace ho2 := ho2.step hw30.step (show ¬ b2 = b3 by omega)
          have ho40 : Own w51 b3 #[.int .i64 (IntKind.wrap .i64 ((IntKind.wrap .i64 (bs.getD 0 0)) - 16)), .int .u8 0, .bool ((bs.getD 1 0) == 1), .int .u32 (bOr .u32 (IntKind.wrap .u32 ((bOr .u32 0 (IntKind.wrap .u32 (bs.getD 2 0))) * 2 ^ 8)) (IntKind.wrap .u32 (bs.getD 3 0))), .int .u8 0, .int .u8 0, .int .u8 0, .int .u8 0, .int .u8 0, .int .u8 0, .int .u8 0, .int .u8 0, .int .u8 0, .int .u8 0, .int .u8 0, .int .u8 0, .int .u8 0, .int .u8 0, .int .u8 0, .int .u8 0, .int .u8 0, .int .u8 0, .int .u8 0, .int .u8 0, .int .u8 0, .int .u8 0, .int .u8 0, .int .u8 0, .int .u8 0, .int .u8 0, .int .u8 0, .int .u8 0, .int .u8 0, .int .u8 0, .int .u8 0, .int .u8 0] 31 := Own.cast hw30.own (by kernel_rfl)
          have hzhw30 := hw30.same
          refine VL_end (by kernel_rfl) ?_
          refine VQ_block_normal ?_
          refine VQ_next ?_
          refine VC_region ?_
          refine VL_pure 2 [1, 2, 4, 5, 43, 44, 45] [(1, .pointer (some ⟨b1, 0, none⟩)), (2, .pointer (some ⟨b2, 0, none⟩)), (4, .pointer (some ⟨b3, 0, none⟩)), (5, .slice (some ⟨b1, 1, none⟩) 47 47), (43, .slice (some ⟨b1, 2, none⟩) 4 46), (44, .int .i64 4), (45, .int .i64 2)] (by kernel_rfl) rfl ?_
          refine VL_end (by kernel_rfl) ?_
          refine VQ_round ?_
          refine VCL_round ?_
          refine VC_seq ?_
          refine VC_region ?_
          refine VL_pure 1 [1, 2, 4, 5, 43, 44, 45, 46] [(1, .pointer (some ⟨b1, 0, none⟩)), (2, .pointer (some ⟨b2, 0, none⟩)), (4, .pointer (some ⟨b3, 0, none⟩)), (5, .slice (some ⟨b1, 1, none⟩) 47 47), (43, .slice (some ⟨b1, 2, none⟩) 4 46), (44, .int .i64 4), (45, .int .i64 2), (46, .bool true)] (by kernel_rfl) rfl ?_
          refine VL_end (by kernel_rfl) ?_
          refine VQ_next ?_
          refine VC_seq ?_
          refine VC_true (by kernel_rfl) ?_
          refine VC_skip ?_
          refine VQ_next ?_
          refine VC_seq ?_
          refine VC_block ?_
          refine VC_seq ?_
          refine VC_region ?_
          refine VL_index (d := 47) (b := b1) (o := 2) (len := 4) (sz := 1) (m := 2) (by kernel_rfl) (by kernel_rfl) 2 (by rfl) (by omega) 4 (by omega) ?_
          refine VL_load (d := 48) (t := 5) (a := ⟨b1, 4, none⟩) (v := .int .u8 (bs.getD 4 0)) (by kernel_rfl) (by kernel_rfl) (Loads.arr1 ho1 (by kernel_rfl) (by (try simp only [List.length_set, List.length_append, List.length_map, List.length_replicate, List.length_cons, List.length_nil, List.length_take, List.length_drop, List.length_range]) <;> omega)) ?_
          refine VL_pure 3 [1, 2, 4, 5, 43, 44, 45, 7] [(1, .pointer (some ⟨b1, 0, none⟩)), (2, .pointer (some ⟨b2, 0, none⟩)), (4, .pointer (some ⟨b3, 0, none⟩)), (5, .slice (some ⟨b1, 1, none⟩) 47 47), (43, .slice (some ⟨b1, 2, none⟩) 4 46), (44, .int .i64 4), (45, .int .i64 2), (7, .int .u8 (bs.getD 4 0))] (by kernel_rfl) rfl ?_
          refine VL_end (by kernel_rfl) ?_
          refine VQ_next ?_
          refine VC_region ?_
          refine VL_pure 1 [1, 2, 4, 5, 43, 44, 45, 7, 49] [(1, .pointer (some ⟨b1, 0, none⟩)), (2, .pointer (some ⟨b2, 0, none⟩)), (4, .pointer (some ⟨b3, 0, none⟩)), (5, .slice (some ⟨b1, 1, none⟩) 47 47), (43, .slice (some ⟨b1, 2, none⟩) 4 46), (44, .int .i64 4), (45, .int .i64 2), (7, .int .u8 (bs.getD 4 0)), (49, .pointer (some ⟨b3, 3, none⟩))] (by kernel_rfl) rfl ?_
          refine VL_load (d := 50) (t := 22) (a := ⟨b3, 3, none⟩) (v := .int .u32 (bOr .u32 (IntKind.wrap .u32 ((bOr .u32 0 (IntKind.wrap .u32 (bs.getD 2 0))) * 2 ^ 8)) (IntKind.wrap .u32 (bs.getD 3 0)))) (by kernel_rfl) (by kernel_rfl) (Loads.own1 ho40 (by kernel_rfl) (by rfl)) ?_
          refine VL_pure 7 [1, 2, 4, 5, 43, 44, 45, 54, 55] [(1, .pointer (some ⟨b1, 0, none⟩)), (2, .pointer (some ⟨b2, 0, none⟩)), (4, .pointer (some ⟨b3, 0, none⟩)), (5, .slice (some ⟨b1, 1, none⟩) 47 47), (43, .slice (some ⟨b1, 2, none⟩) 4 46), (44, .int .i64 4), (45, .int .i64 2), (54, .int .u32 (bOr .u32 (IntKind.wrap .u32 ((bOr .u32 (IntKind.wrap .u32 ((bOr .u32 0 (IntKind.wrap .u32 (bs.getD 2 0))) * 2 ^ 8)) (IntKind.wrap .u32 (bs.getD 3 0))) * 2 ^ 8)) (IntKind.wrap .u32 (bs.getD 4 0)))), (55, .pointer (some ⟨b3, 3, none⟩))] (by kernel_rfl) rfl ?_
          refine VL_store (b := b3) (o := 3) (vs := [.int .u32 (bOr .u32 (IntKind.wrap .u32 ((bOr .u32 (IntKind.wrap .u32 ((bOr .u32 0 (IntKind.wrap .u32 (bs.getD 2 0))) * 2 ^ 8)) (IntKind.wrap .u32 (bs.getD 3 0))) * 2 ^ 8)) (IntKind.wrap .u32 (bs.getD 4 0)))]) (by kernel_rfl) (by kernel_rfl) ho40 (Nat.le_of_ble_eq_true (by kernel_rfl)) ?_
          intro w52 hw31
          replace hS := Step.transNew hS hw31.step (fun _ _ _ => by omega)
          replace ho1 := ho1.step hw31.step (show ¬ b1 = b3 by omega)
          replace ho2 := ho2.step hw31.step (show ¬ b2 = b3 by omega)
          have ho41 : Own w52 b3 #[.int .i64 (IntKind.wrap .i64 ((IntKind.wrap .i64 (bs.getD 0 0)) - 16)), .int .u8 0, .bool ((bs.getD 1 0) == 1), .int .u32 (bOr .u32 (IntKind.wrap .u32 ((bOr .u32 (IntKind.wrap .u32 ((bOr .u32 0 (IntKind.wrap .u32 (bs.getD 2 0))) * 2 ^ 8)) (IntKind.wrap .u32 (bs.getD 3 0))) * 2 ^ 8)) (IntKind.wrap .u32 (bs.getD 4 0))), .int .u8 0, .int .u8 0, .int .u8 0, .int .u8 0, .int .u8 0, .int .u8 0, .int .u8 0, .int .u8 0, .int .u8 0, .int .u8 0, .int .u8 0, .int .u8 0, .int .u8 0, .int .u8 0, .int .u8 0, .int .u8 0, .int .u8 0, .int .u8 0, .int .u8 0, .int .u8 0, .int .u8 0, .int .u8 0, .int .u8 0, .int .u8 0, .int .u8 0, .int .u8 0, .int .u8 0, .int .u8 0, .int .u8 0, .int .u8 0, .int .u8 0, .int .u8 0] 31 := Own.cast hw31.own (by kernel_rfl)
          have hzhw31 := hw31.same
          refine VL_end (by kernel_rfl) ?_
          refine VQ_block_normal ?_
          refine VQ_next ?_
          refine VC_region ?_
          refine VL_pure 2 [1, 2, 4, 5, 43, 44, 45] [(1, .pointer (some ⟨b1, 0, none⟩)), (2, .pointer (some ⟨b2, 0, none⟩)), (4, .pointer (some ⟨b3, 0, none⟩)), (5, .slice (some ⟨b1, 1, none⟩) 47 47), (43, .slice (some ⟨b1, 2, none⟩) 4 46), (44, .int .i64 4), (45, .int .i64 3)] (by kernel_rfl) rfl ?_
          refine VL_end (by kernel_rfl) ?_
          refine VQ_round ?_
          refine VCL_round ?_
          refine VC_seq ?_
          refine VC_region ?_
          refine VL_pure 1 [1, 2, 4, 5, 43, 44, 45, 46] [(1, .pointer (some ⟨b1, 0, none⟩)), (2, .pointer (some ⟨b2, 0, none⟩)), (4, .pointer (some ⟨b3, 0, none⟩)), (5, .slice (some ⟨b1, 1, none⟩) 47 47), (43, .slice (some ⟨b1, 2, none⟩) 4 46), (44, .int .i64 4), (45, .int .i64 3), (46, .bool true)] (by kernel_rfl) rfl ?_
          refine VL_end (by kernel_rfl) ?_
          refine VQ_next ?_
          refine VC_seq ?_
          refine VC_true (by kernel_rfl) ?_
          refine VC_skip ?_
          refine VQ_next ?_
          refine VC_seq ?_
          refine VC_block ?_
          refine VC_seq ?_
          refine VC_region ?_
          refine VL_index (d := 47) (b := b1) (o := 2) (len := 4) (sz := 1) (m := 3) (by kernel_rfl) (by kernel_rfl) 3 (by rfl) (by omega) 5 (by omega) ?_
          refine VL_load (d := 48) (t := 5) (a := ⟨b1, 5, none⟩) (v := .int .u8 (bs.getD 5 0)) (by kernel_rfl) (by kernel_rfl) (Loads.arr1 ho1 (by kernel_rfl) (by (try simp only [List.length_set, List.length_append, List.length_map, List.length_replicate, List.length_cons, List.length_nil, List.length_take, List.length_drop, List.length_range]) <;> omega)) ?_
          refine VL_pure 3 [1, 2, 4, 5, 43, 44, 45, 7] [(1, .pointer (some ⟨b1, 0, none⟩)), (2, .pointer (some ⟨b2, 0, none⟩)), (4, .pointer (some ⟨b3, 0, none⟩)), (5, .slice (some ⟨b1, 1, none⟩) 47 47), (43, .slice (some ⟨b1, 2, none⟩) 4 46), (44, .int .i64 4), (45, .int .i64 3), (7, .int .u8 (bs.getD 5 0))] (by kernel_rfl) rfl ?_
          refine VL_end (by kernel_rfl) ?_
          refine VQ_next ?_
          refine VC_region ?_
          refine VL_pure 1 [1, 2, 4, 5, 43, 44, 45, 7, 49] [(1, .pointer (some ⟨b1, 0, none⟩)), (2, .pointer (some ⟨b2, 0, none⟩)), (4, .pointer (some ⟨b3, 0, none⟩)), (5, .slice (some ⟨b1, 1, none⟩) 47 47), (43, .slice (some ⟨b1, 2, none⟩) 4 46), (44, .int .i64 4), (45, .int .i64 3), (7, .int .u8 (bs.getD 5 0)), (49, .pointer (some ⟨b3, 3, none⟩))] (by kernel_rfl) rfl ?_
          refine VL_load (d := 50) (t := 22) (a := ⟨b3, 3, none⟩) (v := .int .u32 (bOr .u32 (IntKind.wrap .u32 ((bOr .u32 (IntKind.wrap .u32 ((bOr .u32 0 (IntKind.wrap .u32 (bs.getD 2 0))) * 2 ^ 8)) (IntKind.wrap .u32 (bs.getD 3 0))) * 2 ^ 8)) (IntKind.wrap .u32 (bs.getD 4 0)))) (by kernel_rfl) (by kernel_rfl) (Loads.own1 ho41 (by kernel_rfl) (by rfl)) ?_
          refine VL_pure 7 [1, 2, 4, 5, 43, 44, 45, 54, 55] [(1, .pointer (some ⟨b1, 0, none⟩)), (2, .pointer (some ⟨b2, 0, none⟩)), (4, .pointer (some ⟨b3, 0, none⟩)), (5, .slice (some ⟨b1, 1, none⟩) 47 47), (43, .slice (some ⟨b1, 2, none⟩) 4 46), (44, .int .i64 4), (45, .int .i64 3), (54, .int .u32 (bOr .u32 (IntKind.wrap .u32 ((bOr .u32 (IntKind.wrap .u32 ((bOr .u32 (IntKind.wrap .u32 ((bOr .u32 0 (IntKind.wrap .u32 (bs.getD 2 0))) * 2 ^ 8)) (IntKind.wrap .u32 (bs.getD 3 0))) * 2 ^ 8)) (IntKind.wrap .u32 (bs.getD 4 0))) * 2 ^ 8)) (IntKind.wrap .u32 (bs.getD 5 0)))), (55, .pointer (some ⟨b3, 3, none⟩))] (by kernel_rfl) rfl ?_
          refine VL_store (b := b3) (o := 3) (vs := [.int .u32 (bOr .u32 (IntKind.wrap .u32 ((bOr .u32 (IntKind.wrap .u32 ((bOr .u32 (IntKind.wrap .u32 ((bOr .u32 0 (IntKind.wrap .u32 (bs.getD 2 0))) * 2 ^ 8)) (IntKind.wrap .u32 (bs.getD 3 0))) * 2 ^ 8)) (IntKind.wrap .u32 (bs.getD 4 0))) * 2 ^ 8)) (IntKind.wrap .u32 (bs.getD 5 0)))]) (by kernel_rfl) (by kernel_rfl) ho41 (Nat.le_of_ble_eq_true (by kernel_rfl)) ?_
          intro w53 hw32
          replace hS := Step.transNew hS hw32.step (fun _ _ _ => by omega)
          replace ho1 := ho1.step hw32.step (show ¬ b1 = b3 by omega)
          replace ho2 := ho2.step hw32.step (show ¬ b2 = b3 by omega)
          have ho42 : Own w53 b3 #[.int .i64 (IntKind.wrap .i64 ((IntKind.wrap .i64 (bs.getD 0 0)) - 16)), .int .u8 0, .bool ((bs.getD 1 0) == 1), .int .u32 (bOr .u32 (IntKind.wrap .u32 ((bOr .u32 (IntKind.wrap .u32 ((bOr .u32 (IntKind.wrap .u32 ((bOr .u32 0 (IntKind.wrap .u32 (bs.getD 2 0))) * 2 ^ 8)) (IntKind.wrap .u32 (bs.getD 3 0))) * 2 ^ 8)) (IntKind.wrap .u32 (bs.getD 4 0))) * 2 ^ 8)) (IntKind.wrap .u32 (bs.getD 5 0))), .int .u8 0, .int .u8 0, .int .u8 0, .int .u8 0, .int .u8 0, .int .u8 0, .int .u8 0, .int .u8 0, .int .u8 0, .int .u8 0, .int .u8 0, .int .u8 0, .int .u8 0, .int .u8 0, .int .u8 0, .int .u8 0, .int .u8 0, .int .u8 0, .int .u8 0, .int .u8 0, .int .u8 0, .int .u8 0, .int .u8 0, .int .u8 0, .int .u8 0, .int .u8 0, .int .u8 0, .int .u8 0, .int .u8 0, .int .u8 0, .int .u8 0, .int .u8 0] 31 := Own.cast hw32.own (by kernel_rfl)
          have hzhw32 := hw32.same
          refine VL_end (by kernel_rfl) ?_
          refine VQ_block_normal ?_
          refine VQ_next ?_
          refine VC_region ?_
          refine VL_pure 2 [1, 2, 4, 5, 43, 44, 45] [(1, .pointer (some ⟨b1, 0, none⟩)), (2, .pointer (some ⟨b2, 0, none⟩)), (4, .pointer (some ⟨b3, 0, none⟩)), (5, .slice (some ⟨b1, 1, none⟩) 47 47), (43, .slice (some ⟨b1, 2, none⟩) 4 46), (44, .int .i64 4), (45, .int .i64 4)] (by kernel_rfl) rfl ?_
          refine VL_end (by kernel_rfl) ?_
          refine VQ_round ?_
          refine VCL_round ?_
          refine VC_seq ?_
          refine VC_region ?_
          refine VL_pure 1 [1, 2, 4, 5, 43, 44, 45, 46] [(1, .pointer (some ⟨b1, 0, none⟩)), (2, .pointer (some ⟨b2, 0, none⟩)), (4, .pointer (some ⟨b3, 0, none⟩)), (5, .slice (some ⟨b1, 1, none⟩) 47 47), (43, .slice (some ⟨b1, 2, none⟩) 4 46), (44, .int .i64 4), (45, .int .i64 4), (46, .bool false)] (by kernel_rfl) rfl ?_
          refine VL_end (by kernel_rfl) ?_
          refine VQ_next ?_
          refine VC_seq ?_
          refine VC_false (by kernel_rfl) ?_
          refine VC_exit ?_
          refine VQ_then_exit ?_
          refine VQ_then_exit ?_
          refine VQ_block_hit ?_
          refine VQ_next ?_
          refine VC_eff [[], [0], [0, 1], [0, 1, 2], [], [4], [4, 5], [4, 5, 6], [0, 1, 2, 3], [0, 1, 2, 3, 8], [0, 1, 2, 3, 4, 5, 6, 7, 8, 9], [0, 1, 2, 3, 4, 5, 6, 7, 8, 9, 10]] 10 [.slice (some ⟨b1, 1, none⟩) 47 47, .slice (some ⟨b1, 6, none⟩) 42 42, .pointer (some ⟨b1, 6, none⟩), .agg #[.int .u8 (bs.getD 6 0), .int .u8 (bs.getD 7 0), .int .u8 (bs.getD 8 0), .int .u8 (bs.getD 9 0), .int .u8 (bs.getD 10 0), .int .u8 (bs.getD 11 0), .int .u8 (bs.getD 12 0), .int .u8 (bs.getD 13 0), .int .u8 (bs.getD 14 0), .int .u8 (bs.getD 15 0), .int .u8 (bs.getD 16 0), .int .u8 (bs.getD 17 0), .int .u8 (bs.getD 18 0), .int .u8 (bs.getD 19 0), .int .u8 (bs.getD 20 0), .int .u8 (bs.getD 21 0)], .slice (some ⟨b1, 1, none⟩) 47 47, .slice (some ⟨b1, 22, none⟩) 26 26, .pointer (some ⟨b1, 22, none⟩), .agg #[.int .u8 (bs.getD 22 0), .int .u8 (bs.getD 23 0), .int .u8 (bs.getD 24 0), .int .u8 (bs.getD 25 0), .int .u8 (bs.getD 26 0), .int .u8 (bs.getD 27 0), .int .u8 (bs.getD 28 0), .int .u8 (bs.getD 29 0), .int .u8 (bs.getD 30 0), .int .u8 (bs.getD 31 0), .int .u8 (bs.getD 32 0), .int .u8 (bs.getD 33 0), .int .u8 (bs.getD 34 0), .int .u8 (bs.getD 35 0), .int .u8 (bs.getD 36 0), .int .u8 (bs.getD 37 0)], .pointer (some ⟨b3, 4, none⟩), undef] [0, 1, 2, 4, 5, 6, 8] [3, 7, 9] (ROwn b3 31 #[.int .i64 (IntKind.wrap .i64 ((IntKind.wrap .i64 (bs.getD 0 0)) - 16)), .int .u8 0, .bool ((bs.getD 1 0) == 1), .int .u32 (bOr .u32 (IntKind.wrap .u32 ((bOr .u32 (IntKind.wrap .u32 ((bOr .u32 (IntKind.wrap .u32 ((bOr .u32 0 (IntKind.wrap .u32 (bs.getD 2 0))) * 2 ^ 8)) (IntKind.wrap .u32 (bs.getD 3 0))) * 2 ^ 8)) (IntKind.wrap .u32 (bs.getD 4 0))) * 2 ^ 8)) (IntKind.wrap .u32 (bs.getD 5 0))), .int .u8 0, .int .u8 0, .int .u8 0, .int .u8 0, .int .u8 0, .int .u8 0, .int .u8 0, .int .u8 0, .int .u8 0, .int .u8 0, .int .u8 0, .int .u8 0, .int .u8 0, .int .u8 0, .int .u8 0, .int .u8 0, .int .u8 0, .int .u8 0, .int .u8 0, .int .u8 0, .int .u8 0, .int .u8 0, .int .u8 0, .int .u8 0, .int .u8 0, .int .u8 0, .int .u8 0, .int .u8 0, .int .u8 0, .int .u8 0, .int .u8 0, .int .u8 0] #[.int .i64 (IntKind.wrap .i64 ((IntKind.wrap .i64 (bs.getD 0 0)) - 16)), .int .u8 0, .bool ((bs.getD 1 0) == 1), .int .u32 (bOr .u32 (IntKind.wrap .u32 ((bOr .u32 (IntKind.wrap .u32 ((bOr .u32 (IntKind.wrap .u32 ((bOr .u32 0 (IntKind.wrap .u32 (bs.getD 2 0))) * 2 ^ 8)) (IntKind.wrap .u32 (bs.getD 3 0))) * 2 ^ 8)) (IntKind.wrap .u32 (bs.getD 4 0))) * 2 ^ 8)) (IntKind.wrap .u32 (bs.getD 5 0))), .int .u8 (bs.getD 6 0), .int .u8 (bs.getD 7 0), .int .u8 (bs.getD 8 0), .int .u8 (bs.getD 9 0), .int .u8 (bs.getD 10 0), .int .u8 (bs.getD 11 0), .int .u8 (bs.getD 12 0), .int .u8 (bs.getD 13 0), .int .u8 (bs.getD 14 0), .int .u8 (bs.getD 15 0), .int .u8 (bs.getD 16 0), .int .u8 (bs.getD 17 0), .int .u8 (bs.getD 18 0), .int .u8 (bs.getD 19 0), .int .u8 (bs.getD 20 0), .int .u8 (bs.getD 21 0), .int .u8 0, .int .u8 0, .int .u8 0, .int .u8 0, .int .u8 0, .int .u8 0, .int .u8 0, .int .u8 0, .int .u8 0, .int .u8 0, .int .u8 0, .int .u8 0, .int .u8 0, .int .u8 0, .int .u8 0, .int .u8 0]) (fun j x => j = 9 → Own x b3 #[.int .i64 (IntKind.wrap .i64 ((IntKind.wrap .i64 (bs.getD 0 0)) - 16)), .int .u8 0, .bool ((bs.getD 1 0) == 1), .int .u32 (bOr .u32 (IntKind.wrap .u32 ((bOr .u32 (IntKind.wrap .u32 ((bOr .u32 (IntKind.wrap .u32 ((bOr .u32 0 (IntKind.wrap .u32 (bs.getD 2 0))) * 2 ^ 8)) (IntKind.wrap .u32 (bs.getD 3 0))) * 2 ^ 8)) (IntKind.wrap .u32 (bs.getD 4 0))) * 2 ^ 8)) (IntKind.wrap .u32 (bs.getD 5 0))), .int .u8 (bs.getD 6 0), .int .u8 (bs.getD 7 0), .int .u8 (bs.getD 8 0), .int .u8 (bs.getD 9 0), .int .u8 (bs.getD 10 0), .int .u8 (bs.getD 11 0), .int .u8 (bs.getD 12 0), .int .u8 (bs.getD 13 0), .int .u8 (bs.getD 14 0), .int .u8 (bs.getD 15 0), .int .u8 (bs.getD 16 0), .int .u8 (bs.getD 17 0), .int .u8 (bs.getD 18 0), .int .u8 (bs.getD 19 0), .int .u8 (bs.getD 20 0), .int .u8 (bs.getD 21 0), .int .u8 0, .int .u8 0, .int .u8 0, .int .u8 0, .int .u8 0, .int .u8 0, .int .u8 0, .int .u8 0, .int .u8 0, .int .u8 0, .int .u8 0, .int .u8 0, .int .u8 0, .int .u8 0, .int .u8 0, .int .u8 0] 31) (by kernel_rfl) (by kernel_rfl) (by kernel_rfl) (ROwn.refl _ _ _ _) ROwn.trans (ROwn.no (drew_step _)) (fun _ _ _ h hr e => hr.2.1 (h e)) (by kernel_rfl) (by intro k hk x e; subst e; simp at hk) ?_ ?_
          · intro w56 hr7
            have hI := hr7.1 (.inl ho42)
            replace hS := Step.transNew hS hr7.2.2 (fun _ _ _ => by omega)
            replace ho1 := ho1.step hr7.2.2 (show ¬ b1 = b3 by omega)
            replace ho2 := ho2.step hr7.2.2 (show ¬ b2 = b3 by omega)
            exact ⟨fun _ => Eff1_no (Det1_load (d := 60) (t := 23) (a := ⟨b1, 6, none⟩) (by kernel_rfl) (by kernel_rfl) (Loads.arrSub (o := 6) (N := 16) ho1 (by kernel_rfl) (by (try simp only [List.length_set, List.length_append, List.length_map, List.length_replicate, List.length_cons, List.length_nil, List.length_take, List.length_drop, List.length_range]) <;> omega))) (fun x e => absurd e (by decide)), fun _ => Eff1_no (Det1_load (d := 64) (t := 23) (a := ⟨b1, 22, none⟩) (by kernel_rfl) (by kernel_rfl) (Loads.arrSub (o := 22) (N := 16) ho1 (by kernel_rfl) (by (try simp only [List.length_set, List.length_append, List.length_map, List.length_replicate, List.length_cons, List.length_nil, List.length_take, List.length_drop, List.length_range]) <;> omega))) (fun x e => absurd e (by decide)), fun _ => Eff1_store (b := b3) (o := 4) (T := 31) (c0 := #[.int .i64 (IntKind.wrap .i64 ((IntKind.wrap .i64 (bs.getD 0 0)) - 16)), .int .u8 0, .bool ((bs.getD 1 0) == 1), .int .u32 (bOr .u32 (IntKind.wrap .u32 ((bOr .u32 (IntKind.wrap .u32 ((bOr .u32 (IntKind.wrap .u32 ((bOr .u32 0 (IntKind.wrap .u32 (bs.getD 2 0))) * 2 ^ 8)) (IntKind.wrap .u32 (bs.getD 3 0))) * 2 ^ 8)) (IntKind.wrap .u32 (bs.getD 4 0))) * 2 ^ 8)) (IntKind.wrap .u32 (bs.getD 5 0))), .int .u8 0, .int .u8 0, .int .u8 0, .int .u8 0, .int .u8 0, .int .u8 0, .int .u8 0, .int .u8 0, .int .u8 0, .int .u8 0, .int .u8 0, .int .u8 0, .int .u8 0, .int .u8 0, .int .u8 0, .int .u8 0, .int .u8 0, .int .u8 0, .int .u8 0, .int .u8 0, .int .u8 0, .int .u8 0, .int .u8 0, .int .u8 0, .int .u8 0, .int .u8 0, .int .u8 0, .int .u8 0, .int .u8 0, .int .u8 0, .int .u8 0, .int .u8 0]) (c1 := #[.int .i64 (IntKind.wrap .i64 ((IntKind.wrap .i64 (bs.getD 0 0)) - 16)), .int .u8 0, .bool ((bs.getD 1 0) == 1), .int .u32 (bOr .u32 (IntKind.wrap .u32 ((bOr .u32 (IntKind.wrap .u32 ((bOr .u32 (IntKind.wrap .u32 ((bOr .u32 0 (IntKind.wrap .u32 (bs.getD 2 0))) * 2 ^ 8)) (IntKind.wrap .u32 (bs.getD 3 0))) * 2 ^ 8)) (IntKind.wrap .u32 (bs.getD 4 0))) * 2 ^ 8)) (IntKind.wrap .u32 (bs.getD 5 0))), .int .u8 (bs.getD 6 0), .int .u8 (bs.getD 7 0), .int .u8 (bs.getD 8 0), .int .u8 (bs.getD 9 0), .int .u8 (bs.getD 10 0), .int .u8 (bs.getD 11 0), .int .u8 (bs.getD 12 0), .int .u8 (bs.getD 13 0), .int .u8 (bs.getD 14 0), .int .u8 (bs.getD 15 0), .int .u8 (bs.getD 16 0), .int .u8 (bs.getD 17 0), .int .u8 (bs.getD 18 0), .int .u8 (bs.getD 19 0), .int .u8 (bs.getD 20 0), .int .u8 (bs.getD 21 0), .int .u8 0, .int .u8 0, .int .u8 0, .int .u8 0, .int .u8 0, .int .u8 0, .int .u8 0, .int .u8 0, .int .u8 0, .int .u8 0, .int .u8 0, .int .u8 0, .int .u8 0, .int .u8 0, .int .u8 0, .int .u8 0]) (vs := [.int .u8 (bs.getD 6 0), .int .u8 (bs.getD 7 0), .int .u8 (bs.getD 8 0), .int .u8 (bs.getD 9 0), .int .u8 (bs.getD 10 0), .int .u8 (bs.getD 11 0), .int .u8 (bs.getD 12 0), .int .u8 (bs.getD 13 0), .int .u8 (bs.getD 14 0), .int .u8 (bs.getD 15 0), .int .u8 (bs.getD 16 0), .int .u8 (bs.getD 17 0), .int .u8 (bs.getD 18 0), .int .u8 (bs.getD 19 0), .int .u8 (bs.getD 20 0), .int .u8 (bs.getD 21 0)]) (by kernel_rfl) (by kernel_rfl) hI (Nat.le_of_ble_eq_true (by kernel_rfl)) (Nat.le_of_ble_eq_true (by kernel_rfl)) (by kernel_rfl) (by kernel_rfl), trivial⟩
          intro w55 hr8 hB4
          have ho43 := hB4 9 (by decide) rfl
          replace hS := Step.transNew hS hr8.2.2 (fun _ _ _ => by omega)
          replace ho1 := ho1.step hr8.2.2 (show ¬ b1 = b3 by omega)
          replace ho2 := ho2.step hr8.2.2 (show ¬ b2 = b3 by omega)
          refine VL_keep [1, 2, 4, 64] [(1, .pointer (some ⟨b1, 0, none⟩)), (2, .pointer (some ⟨b2, 0, none⟩)), (4, .pointer (some ⟨b3, 0, none⟩)), (64, .agg #[.int .u8 (bs.getD 22 0), .int .u8 (bs.getD 23 0), .int .u8 (bs.getD 24 0), .int .u8 (bs.getD 25 0), .int .u8 (bs.getD 26 0), .int .u8 (bs.getD 27 0), .int .u8 (bs.getD 28 0), .int .u8 (bs.getD 29 0), .int .u8 (bs.getD 30 0), .int .u8 (bs.getD 31 0), .int .u8 (bs.getD 32 0), .int .u8 (bs.getD 33 0), .int .u8 (bs.getD 34 0), .int .u8 (bs.getD 35 0), .int .u8 (bs.getD 36 0), .int .u8 (bs.getD 37 0)])] (by kernel_rfl) ?_
          refine VL_pure 11 [1, 2, 4, 64, 66] [(1, .pointer (some ⟨b1, 0, none⟩)), (2, .pointer (some ⟨b2, 0, none⟩)), (4, .pointer (some ⟨b3, 0, none⟩)), (64, .agg #[.int .u8 (bs.getD 22 0), .int .u8 (bs.getD 23 0), .int .u8 (bs.getD 24 0), .int .u8 (bs.getD 25 0), .int .u8 (bs.getD 26 0), .int .u8 (bs.getD 27 0), .int .u8 (bs.getD 28 0), .int .u8 (bs.getD 29 0), .int .u8 (bs.getD 30 0), .int .u8 (bs.getD 31 0), .int .u8 (bs.getD 32 0), .int .u8 (bs.getD 33 0), .int .u8 (bs.getD 34 0), .int .u8 (bs.getD 35 0), .int .u8 (bs.getD 36 0), .int .u8 (bs.getD 37 0)]), (66, .pointer (some ⟨b3, 20, none⟩))] (by kernel_rfl) rfl ?_
          refine VL_store (b := b3) (o := 20) (vs := [.int .u8 (bs.getD 22 0), .int .u8 (bs.getD 23 0), .int .u8 (bs.getD 24 0), .int .u8 (bs.getD 25 0), .int .u8 (bs.getD 26 0), .int .u8 (bs.getD 27 0), .int .u8 (bs.getD 28 0), .int .u8 (bs.getD 29 0), .int .u8 (bs.getD 30 0), .int .u8 (bs.getD 31 0), .int .u8 (bs.getD 32 0), .int .u8 (bs.getD 33 0), .int .u8 (bs.getD 34 0), .int .u8 (bs.getD 35 0), .int .u8 (bs.getD 36 0), .int .u8 (bs.getD 37 0)]) (by kernel_rfl) (by kernel_rfl) ho43 (Nat.le_of_ble_eq_true (by kernel_rfl)) ?_
          intro w57 hw33
          replace hS := Step.transNew hS hw33.step (fun _ _ _ => by omega)
          replace ho1 := ho1.step hw33.step (show ¬ b1 = b3 by omega)
          replace ho2 := ho2.step hw33.step (show ¬ b2 = b3 by omega)
          have ho44 : Own w57 b3 #[.int .i64 (IntKind.wrap .i64 ((IntKind.wrap .i64 (bs.getD 0 0)) - 16)), .int .u8 0, .bool ((bs.getD 1 0) == 1), .int .u32 (bOr .u32 (IntKind.wrap .u32 ((bOr .u32 (IntKind.wrap .u32 ((bOr .u32 (IntKind.wrap .u32 ((bOr .u32 0 (IntKind.wrap .u32 (bs.getD 2 0))) * 2 ^ 8)) (IntKind.wrap .u32 (bs.getD 3 0))) * 2 ^ 8)) (IntKind.wrap .u32 (bs.getD 4 0))) * 2 ^ 8)) (IntKind.wrap .u32 (bs.getD 5 0))), .int .u8 (bs.getD 6 0), .int .u8 (bs.getD 7 0), .int .u8 (bs.getD 8 0), .int .u8 (bs.getD 9 0), .int .u8 (bs.getD 10 0), .int .u8 (bs.getD 11 0), .int .u8 (bs.getD 12 0), .int .u8 (bs.getD 13 0), .int .u8 (bs.getD 14 0), .int .u8 (bs.getD 15 0), .int .u8 (bs.getD 16 0), .int .u8 (bs.getD 17 0), .int .u8 (bs.getD 18 0), .int .u8 (bs.getD 19 0), .int .u8 (bs.getD 20 0), .int .u8 (bs.getD 21 0), .int .u8 (bs.getD 22 0), .int .u8 (bs.getD 23 0), .int .u8 (bs.getD 24 0), .int .u8 (bs.getD 25 0), .int .u8 (bs.getD 26 0), .int .u8 (bs.getD 27 0), .int .u8 (bs.getD 28 0), .int .u8 (bs.getD 29 0), .int .u8 (bs.getD 30 0), .int .u8 (bs.getD 31 0), .int .u8 (bs.getD 32 0), .int .u8 (bs.getD 33 0), .int .u8 (bs.getD 34 0), .int .u8 (bs.getD 35 0), .int .u8 (bs.getD 36 0), .int .u8 (bs.getD 37 0)] 31 := Own.cast hw33.own (by kernel_rfl)
          have hzhw33 := hw33.same
          refine VL_end (by kernel_rfl) ?_
          refine VQ_block_normal ?_
          refine VQ_next ?_
          refine VC_seq ?_
          refine VC_seq ?_
          refine VC_region ?_
          refine VL_load (d := 70) (t := 31) (a := ⟨b3, 0, none⟩) (v := .agg #[.int .i64 (IntKind.wrap .i64 ((IntKind.wrap .i64 (bs.getD 0 0)) - 16)), .int .u8 0, .bool ((bs.getD 1 0) == 1), .int .u32 (bOr .u32 (IntKind.wrap .u32 ((bOr .u32 (IntKind.wrap .u32 ((bOr .u32 (IntKind.wrap .u32 ((bOr .u32 0 (IntKind.wrap .u32 (bs.getD 2 0))) * 2 ^ 8)) (IntKind.wrap .u32 (bs.getD 3 0))) * 2 ^ 8)) (IntKind.wrap .u32 (bs.getD 4 0))) * 2 ^ 8)) (IntKind.wrap .u32 (bs.getD 5 0))), .int .u8 (bs.getD 6 0), .int .u8 (bs.getD 7 0), .int .u8 (bs.getD 8 0), .int .u8 (bs.getD 9 0), .int .u8 (bs.getD 10 0), .int .u8 (bs.getD 11 0), .int .u8 (bs.getD 12 0), .int .u8 (bs.getD 13 0), .int .u8 (bs.getD 14 0), .int .u8 (bs.getD 15 0), .int .u8 (bs.getD 16 0), .int .u8 (bs.getD 17 0), .int .u8 (bs.getD 18 0), .int .u8 (bs.getD 19 0), .int .u8 (bs.getD 20 0), .int .u8 (bs.getD 21 0), .int .u8 (bs.getD 22 0), .int .u8 (bs.getD 23 0), .int .u8 (bs.getD 24 0), .int .u8 (bs.getD 25 0), .int .u8 (bs.getD 26 0), .int .u8 (bs.getD 27 0), .int .u8 (bs.getD 28 0), .int .u8 (bs.getD 29 0), .int .u8 (bs.getD 30 0), .int .u8 (bs.getD 31 0), .int .u8 (bs.getD 32 0), .int .u8 (bs.getD 33 0), .int .u8 (bs.getD 34 0), .int .u8 (bs.getD 35 0), .int .u8 (bs.getD 36 0), .int .u8 (bs.getD 37 0)]) (by kernel_rfl) (by kernel_rfl) (Loads.ownL ho44 (n := 36) (by kernel_rfl) (by kernel_rfl) (by kernel_rfl)) ?_
          have hzs18 := hS.size
          have hzl42 := ho1.lt
          have hzl43 := ho2.lt
          have hzl44 := ho44.lt
          refine VL_call (d := 71) (f := 10) (by kernel_rfl) (by kernel_rfl) (by kernel_rfl) Try.call10 (pack_any (⟨IntKind.wrap .i64 ((IntKind.wrap .i64 (bs.getD 0 0)) - 16), 0, (bs.getD 1 0) == 1, bOr .u32 (IntKind.wrap .u32 ((bOr .u32 (IntKind.wrap .u32 ((bOr .u32 (IntKind.wrap .u32 ((bOr .u32 0 (IntKind.wrap .u32 (bs.getD 2 0))) * 2 ^ 8)) (IntKind.wrap .u32 (bs.getD 3 0))) * 2 ^ 8)) (IntKind.wrap .u32 (bs.getD 4 0))) * 2 ^ 8)) (IntKind.wrap .u32 (bs.getD 5 0)), (plG bs 6), (plG bs 22)⟩ : Om) _) ?_
          rintro _ w58 ⟨rfl, hc6⟩
          replace hS := Step.trans hS hc6
          replace ho1 := ho1.no hc6
          replace ho2 := ho2.no hc6
          replace ho44 := ho44.no hc6
          refine VL_pure 5 [1, 2, 4, 72, 73] [(1, .pointer (some ⟨b1, 0, none⟩)), (2, .pointer (some ⟨b2, 0, none⟩)), (4, .pointer (some ⟨b3, 0, none⟩)), (72, .agg (iA .u8 (packV (⟨IntKind.wrap .i64 ((IntKind.wrap .i64 (bs.getD 0 0)) - 16), 0, (bs.getD 1 0) == 1, bOr .u32 (IntKind.wrap .u32 ((bOr .u32 (IntKind.wrap .u32 ((bOr .u32 (IntKind.wrap .u32 ((bOr .u32 0 (IntKind.wrap .u32 (bs.getD 2 0))) * 2 ^ 8)) (IntKind.wrap .u32 (bs.getD 3 0))) * 2 ^ 8)) (IntKind.wrap .u32 (bs.getD 4 0))) * 2 ^ 8)) (IntKind.wrap .u32 (bs.getD 5 0)), (plG bs 6), (plG bs 22)⟩ : Om)))), (73, .int .i64 (packE (⟨IntKind.wrap .i64 ((IntKind.wrap .i64 (bs.getD 0 0)) - 16), 0, (bs.getD 1 0) == 1, bOr .u32 (IntKind.wrap .u32 ((bOr .u32 (IntKind.wrap .u32 ((bOr .u32 (IntKind.wrap .u32 ((bOr .u32 0 (IntKind.wrap .u32 (bs.getD 2 0))) * 2 ^ 8)) (IntKind.wrap .u32 (bs.getD 3 0))) * 2 ^ 8)) (IntKind.wrap .u32 (bs.getD 4 0))) * 2 ^ 8)) (IntKind.wrap .u32 (bs.getD 5 0)), (plG bs 6), (plG bs 22)⟩ : Om)))] (by kernel_rfl) rfl ?_
          have hzs19 := hS.size
          have hzl45 := ho1.lt
          have hzl46 := ho2.lt
          have hzl47 := ho44.lt
          have hzs20 := hS.size
          have hzl48 := ho1.lt
          have hzl49 := ho2.lt
          have hzl50 := ho44.lt
          refine VL_box (d := 8) (t := 26) (c := iA .u8 (List.replicate 48 0)) (by kernel_rfl) (by kernel_rfl) ?_
          intro b8 w59 hn8
          replace hS := Step.trans hS (hn8.step No)
          replace ho1 := ho1.no (hn8.step No)
          replace ho2 := ho2.no (hn8.step No)
          replace ho44 := ho44.no (hn8.step No)
          have ho45 := hn8.own
          have hzhn8 := hn8.size
          have hqhn8 := hn8.eqb
          refine VL_storeA (b := b8) (sz := 48) (k := .u8) (bs := packV (⟨IntKind.wrap .i64 ((IntKind.wrap .i64 (bs.getD 0 0)) - 16), 0, (bs.getD 1 0) == 1, bOr .u32 (IntKind.wrap .u32 ((bOr .u32 (IntKind.wrap .u32 ((bOr .u32 (IntKind.wrap .u32 ((bOr .u32 0 (IntKind.wrap .u32 (bs.getD 2 0))) * 2 ^ 8)) (IntKind.wrap .u32 (bs.getD 3 0))) * 2 ^ 8)) (IntKind.wrap .u32 (bs.getD 4 0))) * 2 ^ 8)) (IntKind.wrap .u32 (bs.getD 5 0)), (plG bs 6), (plG bs 22)⟩ : Om)) (by kernel_rfl) (by kernel_rfl) (by first | exact hn | exact packV_len _) ho45 (iA_size.trans (by (try simp only [List.length_set, List.length_append, List.length_map, List.length_replicate, List.length_cons, List.length_nil, List.length_take, List.length_drop, List.length_range]) <;> omega)) ?_
          intro w60 hw34
          replace hS := Step.transNew hS hw34.step (fun _ _ _ => by omega)
          replace ho1 := ho1.step hw34.step (show ¬ b1 = b8 by omega)
          replace ho2 := ho2.step hw34.step (show ¬ b2 = b8 by omega)
          replace ho44 := ho44.step hw34.step (show ¬ b3 = b8 by omega)
          have ho46 := hw34.own
          have hzhw34 := hw34.same
          refine VL_pure 8 [1, 2, 4, 8, 9] [(1, .pointer (some ⟨b1, 0, none⟩)), (2, .pointer (some ⟨b2, 0, none⟩)), (4, .pointer (some ⟨b3, 0, none⟩)), (8, .pointer (some ⟨b8, 0, none⟩)), (9, .int .i64 (packE (⟨IntKind.wrap .i64 ((IntKind.wrap .i64 (bs.getD 0 0)) - 16), 0, (bs.getD 1 0) == 1, bOr .u32 (IntKind.wrap .u32 ((bOr .u32 (IntKind.wrap .u32 ((bOr .u32 (IntKind.wrap .u32 ((bOr .u32 0 (IntKind.wrap .u32 (bs.getD 2 0))) * 2 ^ 8)) (IntKind.wrap .u32 (bs.getD 3 0))) * 2 ^ 8)) (IntKind.wrap .u32 (bs.getD 4 0))) * 2 ^ 8)) (IntKind.wrap .u32 (bs.getD 5 0)), (plG bs 6), (plG bs 22)⟩ : Om)))] (by kernel_rfl) rfl ?_
          refine VL_end (by kernel_rfl) ?_
          refine VQ_next ?_
          refine VC_seq ?_
          refine VC_region ?_
          refine VL_pure 3 [1, 2, 4, 8, 76] [(1, .pointer (some ⟨b1, 0, none⟩)), (2, .pointer (some ⟨b2, 0, none⟩)), (4, .pointer (some ⟨b3, 0, none⟩)), (8, .pointer (some ⟨b8, 0, none⟩)), (76, .bool ((packE (⟨IntKind.wrap .i64 ((IntKind.wrap .i64 (bs.getD 0 0)) - 16), 0, (bs.getD 1 0) == 1, bOr .u32 (IntKind.wrap .u32 ((bOr .u32 (IntKind.wrap .u32 ((bOr .u32 (IntKind.wrap .u32 ((bOr .u32 0 (IntKind.wrap .u32 (bs.getD 2 0))) * 2 ^ 8)) (IntKind.wrap .u32 (bs.getD 3 0))) * 2 ^ 8)) (IntKind.wrap .u32 (bs.getD 4 0))) * 2 ^ 8)) (IntKind.wrap .u32 (bs.getD 5 0)), (plG bs 6), (plG bs 22)⟩ : Om)) != 0))] (by kernel_rfl) rfl ?_
          refine VL_bne (packE (⟨IntKind.wrap .i64 ((IntKind.wrap .i64 (bs.getD 0 0)) - 16), 0, (bs.getD 1 0) == 1, bOr .u32 (IntKind.wrap .u32 ((bOr .u32 (IntKind.wrap .u32 ((bOr .u32 (IntKind.wrap .u32 ((bOr .u32 0 (IntKind.wrap .u32 (bs.getD 2 0))) * 2 ^ 8)) (IntKind.wrap .u32 (bs.getD 3 0))) * 2 ^ 8)) (IntKind.wrap .u32 (bs.getD 4 0))) * 2 ^ 8)) (IntKind.wrap .u32 (bs.getD 5 0)), (plG bs 6), (plG bs 22)⟩ : Om)) 0 (fun bV => [(1, .pointer (some ⟨b1, 0, none⟩)), (2, .pointer (some ⟨b2, 0, none⟩)), (4, .pointer (some ⟨b3, 0, none⟩)), (8, .pointer (some ⟨b8, 0, none⟩)), (76, .bool bV)]) rfl (fun hg5 => ?_) (fun hg5 => ?_)
          · refine VL_pure 7 [2, 4, 80] [(2, .pointer (some ⟨b2, 0, none⟩)), (4, .pointer (some ⟨b3, 0, none⟩)), (80, .bool true)] (by kernel_rfl) rfl ?_
            refine VL_end (by kernel_rfl) ?_
            refine VQ_next ?_
            refine VC_true (by kernel_rfl) ?_
            refine VC_seq ?_
            refine VC_region ?_
            refine VL_pure 1 [2, 81] [(2, .pointer (some ⟨b2, 0, none⟩)), (81, .agg #[.int .i64 0, .int .u8 0, .bool false, .int .u32 0, .int .u8 0, .int .u8 0, .int .u8 0, .int .u8 0, .int .u8 0, .int .u8 0, .int .u8 0, .int .u8 0, .int .u8 0, .int .u8 0, .int .u8 0, .int .u8 0, .int .u8 0, .int .u8 0, .int .u8 0, .int .u8 0, .int .u8 0, .int .u8 0, .int .u8 0, .int .u8 0, .int .u8 0, .int .u8 0, .int .u8 0, .int .u8 0, .int .u8 0, .int .u8 0, .int .u8 0, .int .u8 0, .int .u8 0, .int .u8 0, .int .u8 0, .int .u8 0])] (by kernel_rfl) rfl ?_
            refine VL_store (b := b2) (o := 0) (vs := [.int .i64 0, .int .u8 0, .bool false, .int .u32 0, .int .u8 0, .int .u8 0, .int .u8 0, .int .u8 0, .int .u8 0, .int .u8 0, .int .u8 0, .int .u8 0, .int .u8 0, .int .u8 0, .int .u8 0, .int .u8 0, .int .u8 0, .int .u8 0, .int .u8 0, .int .u8 0, .int .u8 0, .int .u8 0, .int .u8 0, .int .u8 0, .int .u8 0, .int .u8 0, .int .u8 0, .int .u8 0, .int .u8 0, .int .u8 0, .int .u8 0, .int .u8 0, .int .u8 0, .int .u8 0, .int .u8 0, .int .u8 0]) (by kernel_rfl) (by kernel_rfl) ho2 (Nat.le_of_ble_eq_true (by kernel_rfl)) ?_
            intro w61 hw35
            replace hS := Step.transNew hS hw35.step (fun _ _ _ => by omega)
            replace ho1 := ho1.step hw35.step (show ¬ b1 = b2 by omega)
            replace ho44 := ho44.step hw35.step (show ¬ b3 = b2 by omega)
            replace ho46 := ho46.step hw35.step (show ¬ b8 = b2 by omega)
            have ho47 : Own w61 b2 #[.int .i64 0, .int .u8 0, .bool false, .int .u32 0, .int .u8 0, .int .u8 0, .int .u8 0, .int .u8 0, .int .u8 0, .int .u8 0, .int .u8 0, .int .u8 0, .int .u8 0, .int .u8 0, .int .u8 0, .int .u8 0, .int .u8 0, .int .u8 0, .int .u8 0, .int .u8 0, .int .u8 0, .int .u8 0, .int .u8 0, .int .u8 0, .int .u8 0, .int .u8 0, .int .u8 0, .int .u8 0, .int .u8 0, .int .u8 0, .int .u8 0, .int .u8 0, .int .u8 0, .int .u8 0, .int .u8 0, .int .u8 0] 31 := Own.cast hw35.own (by kernel_rfl)
            have hzhw35 := hw35.same
            refine VL_pure 3 [2, 3] [(2, .pointer (some ⟨b2, 0, none⟩)), (3, .int .i64 5)] (by kernel_rfl) rfl ?_
            refine VL_end (by kernel_rfl) ?_
            refine VQ_next ?_
            refine VC_ret ?_
            refine VQ_then_ret ?_
            refine VQ_retC1T1 (T := 31) (.agg #[.int .i64 0, .int .u8 0, .bool false, .int .u32 0, .int .u8 0, .int .u8 0, .int .u8 0, .int .u8 0, .int .u8 0, .int .u8 0, .int .u8 0, .int .u8 0, .int .u8 0, .int .u8 0, .int .u8 0, .int .u8 0, .int .u8 0, .int .u8 0, .int .u8 0, .int .u8 0, .int .u8 0, .int .u8 0, .int .u8 0, .int .u8 0, .int .u8 0, .int .u8 0, .int .u8 0, .int .u8 0, .int .u8 0, .int .u8 0, .int .u8 0, .int .u8 0, .int .u8 0, .int .u8 0, .int .u8 0, .int .u8 0]) (.int .i64 5) (.inr rfl) rfl rfl rfl (Loads.ownL ho47 (n := 36) (by kernel_rfl) (by kernel_rfl) (by kernel_rfl)) ?_
            obtain ⟨e1, e2⟩ := unp_5 (bs := bs) (unpO_8 (by simp only [kOf]; omega)) ‹_› (by unfold kindB; simp only [kOf]; omega) (by first | exact .inl ‹_› | exact .inr ‹_›)
            exact ⟨by rw [e1, e2]; rfl, hS⟩
          · refine VL_load (d := 77) (t := 26) (a := ⟨b8, 0, none⟩) (v := .agg (iA .u8 (packV (⟨IntKind.wrap .i64 ((IntKind.wrap .i64 (bs.getD 0 0)) - 16), 0, (bs.getD 1 0) == 1, bOr .u32 (IntKind.wrap .u32 ((bOr .u32 (IntKind.wrap .u32 ((bOr .u32 (IntKind.wrap .u32 ((bOr .u32 0 (IntKind.wrap .u32 (bs.getD 2 0))) * 2 ^ 8)) (IntKind.wrap .u32 (bs.getD 3 0))) * 2 ^ 8)) (IntKind.wrap .u32 (bs.getD 4 0))) * 2 ^ 8)) (IntKind.wrap .u32 (bs.getD 5 0)), (plG bs 6), (plG bs 22)⟩ : Om)))) (by kernel_rfl) (by kernel_rfl) (Loads.arr (N := 48) ho46 (by kernel_rfl) (by first | exact hn | exact packV_len _)) ?_
            refine VL_load (d := 78) (t := 26) (a := ⟨b1, 0, none⟩) (v := .agg (iA .u8 bs)) (by kernel_rfl) (by kernel_rfl) (Loads.arr (N := 48) ho1 (by kernel_rfl) (by (try simp only [List.length_set, List.length_append, List.length_map, List.length_replicate, List.length_cons, List.length_nil, List.length_take, List.length_drop, List.length_range]) <;> omega)) ?_
            refine VL_agEq (d := 79) (dd := 9) (ls := (rep 48 [.int .u8])) (pos := false) (t := 26) (xs := (iA .u8 (packV (⟨IntKind.wrap .i64 ((IntKind.wrap .i64 (bs.getD 0 0)) - 16), 0, (bs.getD 1 0) == 1, bOr .u32 (IntKind.wrap .u32 ((bOr .u32 (IntKind.wrap .u32 ((bOr .u32 (IntKind.wrap .u32 ((bOr .u32 0 (IntKind.wrap .u32 (bs.getD 2 0))) * 2 ^ 8)) (IntKind.wrap .u32 (bs.getD 3 0))) * 2 ^ 8)) (IntKind.wrap .u32 (bs.getD 4 0))) * 2 ^ 8)) (IntKind.wrap .u32 (bs.getD 5 0)), (plG bs 6), (plG bs 22)⟩ : Om)))) (ys := (iA .u8 bs)) (by kernel_rfl) (by kernel_rfl) (by kernel_rfl) (by kernel_rfl) (iA_are (by first | exact hn | exact packV_len _)) (iA_are (by first | exact hn | exact packV_len _)) (!((packV (⟨IntKind.wrap .i64 ((IntKind.wrap .i64 (bs.getD 0 0)) - 16), 0, (bs.getD 1 0) == 1, bOr .u32 (IntKind.wrap .u32 ((bOr .u32 (IntKind.wrap .u32 ((bOr .u32 (IntKind.wrap .u32 ((bOr .u32 0 (IntKind.wrap .u32 (bs.getD 2 0))) * 2 ^ 8)) (IntKind.wrap .u32 (bs.getD 3 0))) * 2 ^ 8)) (IntKind.wrap .u32 (bs.getD 4 0))) * 2 ^ 8)) (IntKind.wrap .u32 (bs.getD 5 0)), (plG bs 6), (plG bs 22)⟩ : Om)) == bs)) (iA_eq false) ?_
            refine VL_pure 7 [2, 4, 80] [(2, .pointer (some ⟨b2, 0, none⟩)), (4, .pointer (some ⟨b3, 0, none⟩)), (80, .bool (!((packV (⟨IntKind.wrap .i64 ((IntKind.wrap .i64 (bs.getD 0 0)) - 16), 0, (bs.getD 1 0) == 1, bOr .u32 (IntKind.wrap .u32 ((bOr .u32 (IntKind.wrap .u32 ((bOr .u32 (IntKind.wrap .u32 ((bOr .u32 0 (IntKind.wrap .u32 (bs.getD 2 0))) * 2 ^ 8)) (IntKind.wrap .u32 (bs.getD 3 0))) * 2 ^ 8)) (IntKind.wrap .u32 (bs.getD 4 0))) * 2 ^ 8)) (IntKind.wrap .u32 (bs.getD 5 0)), (plG bs 6), (plG bs 22)⟩ : Om)) == bs)))] (by kernel_rfl) rfl ?_
            refine VL_end (by kernel_rfl) ?_
            refine VQ_next ?_
            refine VC_cond (!((packV (⟨IntKind.wrap .i64 ((IntKind.wrap .i64 (bs.getD 0 0)) - 16), 0, (bs.getD 1 0) == 1, bOr .u32 (IntKind.wrap .u32 ((bOr .u32 (IntKind.wrap .u32 ((bOr .u32 (IntKind.wrap .u32 ((bOr .u32 0 (IntKind.wrap .u32 (bs.getD 2 0))) * 2 ^ 8)) (IntKind.wrap .u32 (bs.getD 3 0))) * 2 ^ 8)) (IntKind.wrap .u32 (bs.getD 4 0))) * 2 ^ 8)) (IntKind.wrap .u32 (bs.getD 5 0)), (plG bs 6), (plG bs 22)⟩ : Om)) == bs)) (by kernel_rfl) (fun h12 => ?_) (fun h12 => ?_)
            · try simp only [Bool.and_eq_true, Bool.or_eq_true, decide_eq_true_eq, Bool.not_eq_true', decide_eq_false_iff_not, Bool.and_eq_false_iff, Bool.or_eq_false_iff, beq_iff_eq, bne_iff_ne, beq_eq_false_iff_ne, bne_eq_false_iff_eq, Bool.not_eq_eq_eq_not, Bool.not_true, Bool.not_false] at h12
              refine VC_seq ?_
              refine VC_region ?_
              refine VL_pure 1 [2, 81] [(2, .pointer (some ⟨b2, 0, none⟩)), (81, .agg #[.int .i64 0, .int .u8 0, .bool false, .int .u32 0, .int .u8 0, .int .u8 0, .int .u8 0, .int .u8 0, .int .u8 0, .int .u8 0, .int .u8 0, .int .u8 0, .int .u8 0, .int .u8 0, .int .u8 0, .int .u8 0, .int .u8 0, .int .u8 0, .int .u8 0, .int .u8 0, .int .u8 0, .int .u8 0, .int .u8 0, .int .u8 0, .int .u8 0, .int .u8 0, .int .u8 0, .int .u8 0, .int .u8 0, .int .u8 0, .int .u8 0, .int .u8 0, .int .u8 0, .int .u8 0, .int .u8 0, .int .u8 0])] (by kernel_rfl) rfl ?_
              refine VL_store (b := b2) (o := 0) (vs := [.int .i64 0, .int .u8 0, .bool false, .int .u32 0, .int .u8 0, .int .u8 0, .int .u8 0, .int .u8 0, .int .u8 0, .int .u8 0, .int .u8 0, .int .u8 0, .int .u8 0, .int .u8 0, .int .u8 0, .int .u8 0, .int .u8 0, .int .u8 0, .int .u8 0, .int .u8 0, .int .u8 0, .int .u8 0, .int .u8 0, .int .u8 0, .int .u8 0, .int .u8 0, .int .u8 0, .int .u8 0, .int .u8 0, .int .u8 0, .int .u8 0, .int .u8 0, .int .u8 0, .int .u8 0, .int .u8 0, .int .u8 0]) (by kernel_rfl) (by kernel_rfl) ho2 (Nat.le_of_ble_eq_true (by kernel_rfl)) ?_
              intro w62 hw36
              replace hS := Step.transNew hS hw36.step (fun _ _ _ => by omega)
              replace ho1 := ho1.step hw36.step (show ¬ b1 = b2 by omega)
              replace ho44 := ho44.step hw36.step (show ¬ b3 = b2 by omega)
              replace ho46 := ho46.step hw36.step (show ¬ b8 = b2 by omega)
              have ho48 : Own w62 b2 #[.int .i64 0, .int .u8 0, .bool false, .int .u32 0, .int .u8 0, .int .u8 0, .int .u8 0, .int .u8 0, .int .u8 0, .int .u8 0, .int .u8 0, .int .u8 0, .int .u8 0, .int .u8 0, .int .u8 0, .int .u8 0, .int .u8 0, .int .u8 0, .int .u8 0, .int .u8 0, .int .u8 0, .int .u8 0, .int .u8 0, .int .u8 0, .int .u8 0, .int .u8 0, .int .u8 0, .int .u8 0, .int .u8 0, .int .u8 0, .int .u8 0, .int .u8 0, .int .u8 0, .int .u8 0, .int .u8 0, .int .u8 0] 31 := Own.cast hw36.own (by kernel_rfl)
              have hzhw36 := hw36.same
              refine VL_pure 3 [2, 3] [(2, .pointer (some ⟨b2, 0, none⟩)), (3, .int .i64 5)] (by kernel_rfl) rfl ?_
              refine VL_end (by kernel_rfl) ?_
              refine VQ_next ?_
              refine VC_ret ?_
              refine VQ_then_ret ?_
              refine VQ_retC1T1 (T := 31) (.agg #[.int .i64 0, .int .u8 0, .bool false, .int .u32 0, .int .u8 0, .int .u8 0, .int .u8 0, .int .u8 0, .int .u8 0, .int .u8 0, .int .u8 0, .int .u8 0, .int .u8 0, .int .u8 0, .int .u8 0, .int .u8 0, .int .u8 0, .int .u8 0, .int .u8 0, .int .u8 0, .int .u8 0, .int .u8 0, .int .u8 0, .int .u8 0, .int .u8 0, .int .u8 0, .int .u8 0, .int .u8 0, .int .u8 0, .int .u8 0, .int .u8 0, .int .u8 0, .int .u8 0, .int .u8 0, .int .u8 0, .int .u8 0]) (.int .i64 5) (.inr rfl) rfl rfl rfl (Loads.ownL ho48 (n := 36) (by kernel_rfl) (by kernel_rfl) (by kernel_rfl)) ?_
              obtain ⟨e1, e2⟩ := unp_5 (bs := bs) (unpO_8 (by simp only [kOf]; omega)) ‹_› (by unfold kindB; simp only [kOf]; omega) (by first | exact .inl ‹_› | exact .inr ‹_›)
              exact ⟨by rw [e1, e2]; rfl, hS⟩
            · try simp only [Bool.and_eq_true, Bool.or_eq_true, decide_eq_true_eq, Bool.not_eq_true', decide_eq_false_iff_not, Bool.and_eq_false_iff, Bool.or_eq_false_iff, beq_iff_eq, bne_iff_ne, beq_eq_false_iff_ne, bne_eq_false_iff_eq, Bool.not_eq_eq_eq_not, Bool.not_true, Bool.not_false] at h12
              refine VC_skip ?_
              refine VQ_next ?_
              refine VC_seq ?_
              refine VC_region ?_
              refine VL_load (d := 82) (t := 31) (a := ⟨b3, 0, none⟩) (v := .agg #[.int .i64 (IntKind.wrap .i64 ((IntKind.wrap .i64 (bs.getD 0 0)) - 16)), .int .u8 0, .bool ((bs.getD 1 0) == 1), .int .u32 (bOr .u32 (IntKind.wrap .u32 ((bOr .u32 (IntKind.wrap .u32 ((bOr .u32 (IntKind.wrap .u32 ((bOr .u32 0 (IntKind.wrap .u32 (bs.getD 2 0))) * 2 ^ 8)) (IntKind.wrap .u32 (bs.getD 3 0))) * 2 ^ 8)) (IntKind.wrap .u32 (bs.getD 4 0))) * 2 ^ 8)) (IntKind.wrap .u32 (bs.getD 5 0))), .int .u8 (bs.getD 6 0), .int .u8 (bs.getD 7 0), .int .u8 (bs.getD 8 0), .int .u8 (bs.getD 9 0), .int .u8 (bs.getD 10 0), .int .u8 (bs.getD 11 0), .int .u8 (bs.getD 12 0), .int .u8 (bs.getD 13 0), .int .u8 (bs.getD 14 0), .int .u8 (bs.getD 15 0), .int .u8 (bs.getD 16 0), .int .u8 (bs.getD 17 0), .int .u8 (bs.getD 18 0), .int .u8 (bs.getD 19 0), .int .u8 (bs.getD 20 0), .int .u8 (bs.getD 21 0), .int .u8 (bs.getD 22 0), .int .u8 (bs.getD 23 0), .int .u8 (bs.getD 24 0), .int .u8 (bs.getD 25 0), .int .u8 (bs.getD 26 0), .int .u8 (bs.getD 27 0), .int .u8 (bs.getD 28 0), .int .u8 (bs.getD 29 0), .int .u8 (bs.getD 30 0), .int .u8 (bs.getD 31 0), .int .u8 (bs.getD 32 0), .int .u8 (bs.getD 33 0), .int .u8 (bs.getD 34 0), .int .u8 (bs.getD 35 0), .int .u8 (bs.getD 36 0), .int .u8 (bs.getD 37 0)]) (by kernel_rfl) (by kernel_rfl) (Loads.ownL ho44 (n := 36) (by kernel_rfl) (by kernel_rfl) (by kernel_rfl)) ?_
              refine VL_store (b := b2) (o := 0) (vs := [.int .i64 (IntKind.wrap .i64 ((IntKind.wrap .i64 (bs.getD 0 0)) - 16)), .int .u8 0, .bool ((bs.getD 1 0) == 1), .int .u32 (bOr .u32 (IntKind.wrap .u32 ((bOr .u32 (IntKind.wrap .u32 ((bOr .u32 (IntKind.wrap .u32 ((bOr .u32 0 (IntKind.wrap .u32 (bs.getD 2 0))) * 2 ^ 8)) (IntKind.wrap .u32 (bs.getD 3 0))) * 2 ^ 8)) (IntKind.wrap .u32 (bs.getD 4 0))) * 2 ^ 8)) (IntKind.wrap .u32 (bs.getD 5 0))), .int .u8 (bs.getD 6 0), .int .u8 (bs.getD 7 0), .int .u8 (bs.getD 8 0), .int .u8 (bs.getD 9 0), .int .u8 (bs.getD 10 0), .int .u8 (bs.getD 11 0), .int .u8 (bs.getD 12 0), .int .u8 (bs.getD 13 0), .int .u8 (bs.getD 14 0), .int .u8 (bs.getD 15 0), .int .u8 (bs.getD 16 0), .int .u8 (bs.getD 17 0), .int .u8 (bs.getD 18 0), .int .u8 (bs.getD 19 0), .int .u8 (bs.getD 20 0), .int .u8 (bs.getD 21 0), .int .u8 (bs.getD 22 0), .int .u8 (bs.getD 23 0), .int .u8 (bs.getD 24 0), .int .u8 (bs.getD 25 0), .int .u8 (bs.getD 26 0), .int .u8 (bs.getD 27 0), .int .u8 (bs.getD 28 0), .int .u8 (bs.getD 29 0), .int .u8 (bs.getD 30 0), .int .u8 (bs.getD 31 0), .int .u8 (bs.getD 32 0), .int .u8 (bs.getD 33 0), .int .u8 (bs.getD 34 0), .int .u8 (bs.getD 35 0), .int .u8 (bs.getD 36 0), .int .u8 (bs.getD 37 0)]) (by kernel_rfl) (by kernel_rfl) ho2 (Nat.le_of_ble_eq_true (by kernel_rfl)) ?_
              intro w63 hw37
              replace hS := Step.transNew hS hw37.step (fun _ _ _ => by omega)
              replace ho1 := ho1.step hw37.step (show ¬ b1 = b2 by omega)
              replace ho44 := ho44.step hw37.step (show ¬ b3 = b2 by omega)
              replace ho46 := ho46.step hw37.step (show ¬ b8 = b2 by omega)
              have ho49 : Own w63 b2 #[.int .i64 (IntKind.wrap .i64 ((IntKind.wrap .i64 (bs.getD 0 0)) - 16)), .int .u8 0, .bool ((bs.getD 1 0) == 1), .int .u32 (bOr .u32 (IntKind.wrap .u32 ((bOr .u32 (IntKind.wrap .u32 ((bOr .u32 (IntKind.wrap .u32 ((bOr .u32 0 (IntKind.wrap .u32 (bs.getD 2 0))) * 2 ^ 8)) (IntKind.wrap .u32 (bs.getD 3 0))) * 2 ^ 8)) (IntKind.wrap .u32 (bs.getD 4 0))) * 2 ^ 8)) (IntKind.wrap .u32 (bs.getD 5 0))), .int .u8 (bs.getD 6 0), .int .u8 (bs.getD 7 0), .int .u8 (bs.getD 8 0), .int .u8 (bs.getD 9 0), .int .u8 (bs.getD 10 0), .int .u8 (bs.getD 11 0), .int .u8 (bs.getD 12 0), .int .u8 (bs.getD 13 0), .int .u8 (bs.getD 14 0), .int .u8 (bs.getD 15 0), .int .u8 (bs.getD 16 0), .int .u8 (bs.getD 17 0), .int .u8 (bs.getD 18 0), .int .u8 (bs.getD 19 0), .int .u8 (bs.getD 20 0), .int .u8 (bs.getD 21 0), .int .u8 (bs.getD 22 0), .int .u8 (bs.getD 23 0), .int .u8 (bs.getD 24 0), .int .u8 (bs.getD 25 0), .int .u8 (bs.getD 26 0), .int .u8 (bs.getD 27 0), .int .u8 (bs.getD 28 0), .int .u8 (bs.getD 29 0), .int .u8 (bs.getD 30 0), .int .u8 (bs.getD 31 0), .int .u8 (bs.getD 32 0), .int .u8 (bs.getD 33 0), .int .u8 (bs.getD 34 0), .int .u8 (bs.getD 35 0), .int .u8 (bs.getD 36 0), .int .u8 (bs.getD 37 0)] 31 := Own.cast hw37.own (by kernel_rfl)
              have hzhw37 := hw37.same
              refine VL_pure 3 [2, 3] [(2, .pointer (some ⟨b2, 0, none⟩)), (3, .int .i64 0)] (by kernel_rfl) rfl ?_
              refine VL_end (by kernel_rfl) ?_
              refine VQ_next ?_
              refine VC_ret ?_
              refine VQ_retC1T1 (T := 31) (.agg #[.int .i64 (IntKind.wrap .i64 ((IntKind.wrap .i64 (bs.getD 0 0)) - 16)), .int .u8 0, .bool ((bs.getD 1 0) == 1), .int .u32 (bOr .u32 (IntKind.wrap .u32 ((bOr .u32 (IntKind.wrap .u32 ((bOr .u32 (IntKind.wrap .u32 ((bOr .u32 0 (IntKind.wrap .u32 (bs.getD 2 0))) * 2 ^ 8)) (IntKind.wrap .u32 (bs.getD 3 0))) * 2 ^ 8)) (IntKind.wrap .u32 (bs.getD 4 0))) * 2 ^ 8)) (IntKind.wrap .u32 (bs.getD 5 0))), .int .u8 (bs.getD 6 0), .int .u8 (bs.getD 7 0), .int .u8 (bs.getD 8 0), .int .u8 (bs.getD 9 0), .int .u8 (bs.getD 10 0), .int .u8 (bs.getD 11 0), .int .u8 (bs.getD 12 0), .int .u8 (bs.getD 13 0), .int .u8 (bs.getD 14 0), .int .u8 (bs.getD 15 0), .int .u8 (bs.getD 16 0), .int .u8 (bs.getD 17 0), .int .u8 (bs.getD 18 0), .int .u8 (bs.getD 19 0), .int .u8 (bs.getD 20 0), .int .u8 (bs.getD 21 0), .int .u8 (bs.getD 22 0), .int .u8 (bs.getD 23 0), .int .u8 (bs.getD 24 0), .int .u8 (bs.getD 25 0), .int .u8 (bs.getD 26 0), .int .u8 (bs.getD 27 0), .int .u8 (bs.getD 28 0), .int .u8 (bs.getD 29 0), .int .u8 (bs.getD 30 0), .int .u8 (bs.getD 31 0), .int .u8 (bs.getD 32 0), .int .u8 (bs.getD 33 0), .int .u8 (bs.getD 34 0), .int .u8 (bs.getD 35 0), .int .u8 (bs.getD 36 0), .int .u8 (bs.getD 37 0)]) (.int .i64 0) (.inr rfl) rfl rfl rfl (Loads.ownL ho49 (n := 36) (by kernel_rfl) (by kernel_rfl) (by kernel_rfl)) ?_
              obtain ⟨e1, e2⟩ := unp_0 (bs := bs) (unpO_8 (by simp only [kOf]; omega)) ‹_› (by unfold kindB; simp only [kOf]; omega) ‹_› ‹_›
              exact ⟨by rw [e1, e2]; rfl, hS⟩
        · refine VC_seq ?_
          refine VC_region ?_
          refine VL_pure 2 [1, 2, 4, 67] [(1, .pointer (some ⟨b1, 0, none⟩)), (2, .pointer (some ⟨b2, 0, none⟩)), (4, .pointer (some ⟨b3, 0, none⟩)), (67, .bool ((IntKind.wrap .i64 ((IntKind.wrap .i64 (bs.getD 0 0)) - 16)) == 4))] (by kernel_rfl) rfl ?_
          refine VL_end (by kernel_rfl) ?_
          refine VQ_next ?_
          refine VC_eq (IntKind.wrap .i64 ((IntKind.wrap .i64 (bs.getD 0 0)) - 16)) 4 (by kernel_rfl) (fun h13 => ?_) (fun h13 => ?_)
          · refine VC_skip ?_
            refine VQ_block_normal ?_
            refine VQ_next ?_
            refine VC_seq ?_
            refine VC_seq ?_
            refine VC_region ?_
            refine VL_load (d := 70) (t := 31) (a := ⟨b3, 0, none⟩) (v := .agg #[.int .i64 (IntKind.wrap .i64 ((IntKind.wrap .i64 (bs.getD 0 0)) - 16)), .int .u8 0, .bool false, .int .u32 0, .int .u8 0, .int .u8 0, .int .u8 0, .int .u8 0, .int .u8 0, .int .u8 0, .int .u8 0, .int .u8 0, .int .u8 0, .int .u8 0, .int .u8 0, .int .u8 0, .int .u8 0, .int .u8 0, .int .u8 0, .int .u8 0, .int .u8 0, .int .u8 0, .int .u8 0, .int .u8 0, .int .u8 0, .int .u8 0, .int .u8 0, .int .u8 0, .int .u8 0, .int .u8 0, .int .u8 0, .int .u8 0, .int .u8 0, .int .u8 0, .int .u8 0, .int .u8 0]) (by kernel_rfl) (by kernel_rfl) (Loads.ownL ho5 (n := 36) (by kernel_rfl) (by kernel_rfl) (by kernel_rfl)) ?_
            have hzs21 := hS.size
            have hzl51 := ho1.lt
            have hzl52 := ho2.lt
            have hzl53 := ho5.lt
            refine VL_call (d := 71) (f := 10) (by kernel_rfl) (by kernel_rfl) (by kernel_rfl) Try.call10 (pack_any (⟨IntKind.wrap .i64 ((IntKind.wrap .i64 (bs.getD 0 0)) - 16), 0, false, 0, zp, zp⟩ : Om) _) ?_
            rintro _ w64 ⟨rfl, hc7⟩
            replace hS := Step.trans hS hc7
            replace ho1 := ho1.no hc7
            replace ho2 := ho2.no hc7
            replace ho5 := ho5.no hc7
            refine VL_pure 5 [1, 2, 4, 72, 73] [(1, .pointer (some ⟨b1, 0, none⟩)), (2, .pointer (some ⟨b2, 0, none⟩)), (4, .pointer (some ⟨b3, 0, none⟩)), (72, .agg (iA .u8 (packV (⟨IntKind.wrap .i64 ((IntKind.wrap .i64 (bs.getD 0 0)) - 16), 0, false, 0, zp, zp⟩ : Om)))), (73, .int .i64 (packE (⟨IntKind.wrap .i64 ((IntKind.wrap .i64 (bs.getD 0 0)) - 16), 0, false, 0, zp, zp⟩ : Om)))] (by kernel_rfl) rfl ?_
            have hzs22 := hS.size
            have hzl54 := ho1.lt
            have hzl55 := ho2.lt
            have hzl56 := ho5.lt
            have hzs23 := hS.size
            have hzl57 := ho1.lt
            have hzl58 := ho2.lt
            have hzl59 := ho5.lt
            refine VL_box (d := 8) (t := 26) (c := iA .u8 (List.replicate 48 0)) (by kernel_rfl) (by kernel_rfl) ?_
            intro b9 w65 hn9
            replace hS := Step.trans hS (hn9.step No)
            replace ho1 := ho1.no (hn9.step No)
            replace ho2 := ho2.no (hn9.step No)
            replace ho5 := ho5.no (hn9.step No)
            have ho50 := hn9.own
            have hzhn9 := hn9.size
            have hqhn9 := hn9.eqb
            refine VL_storeA (b := b9) (sz := 48) (k := .u8) (bs := packV (⟨IntKind.wrap .i64 ((IntKind.wrap .i64 (bs.getD 0 0)) - 16), 0, false, 0, zp, zp⟩ : Om)) (by kernel_rfl) (by kernel_rfl) (by first | exact hn | exact packV_len _) ho50 (iA_size.trans (by (try simp only [List.length_set, List.length_append, List.length_map, List.length_replicate, List.length_cons, List.length_nil, List.length_take, List.length_drop, List.length_range]) <;> omega)) ?_
            intro w66 hw38
            replace hS := Step.transNew hS hw38.step (fun _ _ _ => by omega)
            replace ho1 := ho1.step hw38.step (show ¬ b1 = b9 by omega)
            replace ho2 := ho2.step hw38.step (show ¬ b2 = b9 by omega)
            replace ho5 := ho5.step hw38.step (show ¬ b3 = b9 by omega)
            have ho51 := hw38.own
            have hzhw38 := hw38.same
            refine VL_pure 8 [1, 2, 4, 8, 9] [(1, .pointer (some ⟨b1, 0, none⟩)), (2, .pointer (some ⟨b2, 0, none⟩)), (4, .pointer (some ⟨b3, 0, none⟩)), (8, .pointer (some ⟨b9, 0, none⟩)), (9, .int .i64 (packE (⟨IntKind.wrap .i64 ((IntKind.wrap .i64 (bs.getD 0 0)) - 16), 0, false, 0, zp, zp⟩ : Om)))] (by kernel_rfl) rfl ?_
            refine VL_end (by kernel_rfl) ?_
            refine VQ_next ?_
            refine VC_seq ?_
            refine VC_region ?_
            refine VL_pure 3 [1, 2, 4, 8, 76] [(1, .pointer (some ⟨b1, 0, none⟩)), (2, .pointer (some ⟨b2, 0, none⟩)), (4, .pointer (some ⟨b3, 0, none⟩)), (8, .pointer (some ⟨b9, 0, none⟩)), (76, .bool ((packE (⟨IntKind.wrap .i64 ((IntKind.wrap .i64 (bs.getD 0 0)) - 16), 0, false, 0, zp, zp⟩ : Om)) != 0))] (by kernel_rfl) rfl ?_
            refine VL_bne (packE (⟨IntKind.wrap .i64 ((IntKind.wrap .i64 (bs.getD 0 0)) - 16), 0, false, 0, zp, zp⟩ : Om)) 0 (fun bV => [(1, .pointer (some ⟨b1, 0, none⟩)), (2, .pointer (some ⟨b2, 0, none⟩)), (4, .pointer (some ⟨b3, 0, none⟩)), (8, .pointer (some ⟨b9, 0, none⟩)), (76, .bool bV)]) rfl (fun hg6 => ?_) (fun hg6 => ?_)
            · refine VL_pure 7 [2, 4, 80] [(2, .pointer (some ⟨b2, 0, none⟩)), (4, .pointer (some ⟨b3, 0, none⟩)), (80, .bool true)] (by kernel_rfl) rfl ?_
              refine VL_end (by kernel_rfl) ?_
              refine VQ_next ?_
              refine VC_true (by kernel_rfl) ?_
              refine VC_seq ?_
              refine VC_region ?_
              refine VL_pure 1 [2, 81] [(2, .pointer (some ⟨b2, 0, none⟩)), (81, .agg #[.int .i64 0, .int .u8 0, .bool false, .int .u32 0, .int .u8 0, .int .u8 0, .int .u8 0, .int .u8 0, .int .u8 0, .int .u8 0, .int .u8 0, .int .u8 0, .int .u8 0, .int .u8 0, .int .u8 0, .int .u8 0, .int .u8 0, .int .u8 0, .int .u8 0, .int .u8 0, .int .u8 0, .int .u8 0, .int .u8 0, .int .u8 0, .int .u8 0, .int .u8 0, .int .u8 0, .int .u8 0, .int .u8 0, .int .u8 0, .int .u8 0, .int .u8 0, .int .u8 0, .int .u8 0, .int .u8 0, .int .u8 0])] (by kernel_rfl) rfl ?_
              refine VL_store (b := b2) (o := 0) (vs := [.int .i64 0, .int .u8 0, .bool false, .int .u32 0, .int .u8 0, .int .u8 0, .int .u8 0, .int .u8 0, .int .u8 0, .int .u8 0, .int .u8 0, .int .u8 0, .int .u8 0, .int .u8 0, .int .u8 0, .int .u8 0, .int .u8 0, .int .u8 0, .int .u8 0, .int .u8 0, .int .u8 0, .int .u8 0, .int .u8 0, .int .u8 0, .int .u8 0, .int .u8 0, .int .u8 0, .int .u8 0, .int .u8 0, .int .u8 0, .int .u8 0, .int .u8 0, .int .u8 0, .int .u8 0, .int .u8 0, .int .u8 0]) (by kernel_rfl) (by kernel_rfl) ho2 (Nat.le_of_ble_eq_true (by kernel_rfl)) ?_
              intro w67 hw39
              replace hS := Step.transNew hS hw39.step (fun _ _ _ => by omega)
              replace ho1 := ho1.step hw39.step (show ¬ b1 = b2 by omega)
              replace ho5 := ho5.step hw39.step (show ¬ b3 = b2 by omega)
              replace ho51 := ho51.step hw39.step (show ¬ b9 = b2 by omega)
              have ho52 : Own w67 b2 #[.int .i64 0, .int .u8 0, .bool false, .int .u32 0, .int .u8 0, .int .u8 0, .int .u8 0, .int .u8 0, .int .u8 0, .int .u8 0, .int .u8 0, .int .u8 0, .int .u8 0, .int .u8 0, .int .u8 0, .int .u8 0, .int .u8 0, .int .u8 0, .int .u8 0, .int .u8 0, .int .u8 0, .int .u8 0, .int .u8 0, .int .u8 0, .int .u8 0, .int .u8 0, .int .u8 0, .int .u8 0, .int .u8 0, .int .u8 0, .int .u8 0, .int .u8 0, .int .u8 0, .int .u8 0, .int .u8 0, .int .u8 0] 31 := Own.cast hw39.own (by kernel_rfl)
              have hzhw39 := hw39.same
              refine VL_pure 3 [2, 3] [(2, .pointer (some ⟨b2, 0, none⟩)), (3, .int .i64 5)] (by kernel_rfl) rfl ?_
              refine VL_end (by kernel_rfl) ?_
              refine VQ_next ?_
              refine VC_ret ?_
              refine VQ_then_ret ?_
              refine VQ_retC1T1 (T := 31) (.agg #[.int .i64 0, .int .u8 0, .bool false, .int .u32 0, .int .u8 0, .int .u8 0, .int .u8 0, .int .u8 0, .int .u8 0, .int .u8 0, .int .u8 0, .int .u8 0, .int .u8 0, .int .u8 0, .int .u8 0, .int .u8 0, .int .u8 0, .int .u8 0, .int .u8 0, .int .u8 0, .int .u8 0, .int .u8 0, .int .u8 0, .int .u8 0, .int .u8 0, .int .u8 0, .int .u8 0, .int .u8 0, .int .u8 0, .int .u8 0, .int .u8 0, .int .u8 0, .int .u8 0, .int .u8 0, .int .u8 0, .int .u8 0]) (.int .i64 5) (.inr rfl) rfl rfl rfl (Loads.ownL ho52 (n := 36) (by kernel_rfl) (by kernel_rfl) (by kernel_rfl)) ?_
              obtain ⟨e1, e2⟩ := unp_5 (bs := bs) (unpO_4 (by simp only [kOf]; omega)) ‹_› (by unfold kindB; simp only [kOf]; omega) (by first | exact .inl ‹_› | exact .inr ‹_›)
              exact ⟨by rw [e1, e2]; rfl, hS⟩
            · refine VL_load (d := 77) (t := 26) (a := ⟨b9, 0, none⟩) (v := .agg (iA .u8 (packV (⟨IntKind.wrap .i64 ((IntKind.wrap .i64 (bs.getD 0 0)) - 16), 0, false, 0, zp, zp⟩ : Om)))) (by kernel_rfl) (by kernel_rfl) (Loads.arr (N := 48) ho51 (by kernel_rfl) (by first | exact hn | exact packV_len _)) ?_
              refine VL_load (d := 78) (t := 26) (a := ⟨b1, 0, none⟩) (v := .agg (iA .u8 bs)) (by kernel_rfl) (by kernel_rfl) (Loads.arr (N := 48) ho1 (by kernel_rfl) (by (try simp only [List.length_set, List.length_append, List.length_map, List.length_replicate, List.length_cons, List.length_nil, List.length_take, List.length_drop, List.length_range]) <;> omega)) ?_
              refine VL_agEq (d := 79) (dd := 9) (ls := (rep 48 [.int .u8])) (pos := false) (t := 26) (xs := (iA .u8 (packV (⟨IntKind.wrap .i64 ((IntKind.wrap .i64 (bs.getD 0 0)) - 16), 0, false, 0, zp, zp⟩ : Om)))) (ys := (iA .u8 bs)) (by kernel_rfl) (by kernel_rfl) (by kernel_rfl) (by kernel_rfl) (iA_are (by first | exact hn | exact packV_len _)) (iA_are (by first | exact hn | exact packV_len _)) (!((packV (⟨IntKind.wrap .i64 ((IntKind.wrap .i64 (bs.getD 0 0)) - 16), 0, false, 0, zp, zp⟩ : Om)) == bs)) (iA_eq false) ?_
              refine VL_pure 7 [2, 4, 80] [(2, .pointer (some ⟨b2, 0, none⟩)), (4, .pointer (some ⟨b3, 0, none⟩)), (80, .bool (!((packV (⟨IntKind.wrap .i64 ((IntKind.wrap .i64 (bs.getD 0 0)) - 16), 0, false, 0, zp, zp⟩ : Om)) == bs)))] (by kernel_rfl) rfl ?_
              refine VL_end (by kernel_rfl) ?_
              refine VQ_next ?_
              refine VC_cond (!((packV (⟨IntKind.wrap .i64 ((IntKind.wrap .i64 (bs.getD 0 0)) - 16), 0, false, 0, zp, zp⟩ : Om)) == bs)) (by kernel_rfl) (fun h14 => ?_) (fun h14 => ?_)
              · try simp only [Bool.and_eq_true, Bool.or_eq_true, decide_eq_true_eq, Bool.not_eq_true', decide_eq_false_iff_not, Bool.and_eq_false_iff, Bool.or_eq_false_iff, beq_iff_eq, bne_iff_ne, beq_eq_false_iff_ne, bne_eq_false_iff_eq, Bool.not_eq_eq_eq_not, Bool.not_true, Bool.not_false] at h14
                refine VC_seq ?_
                refine VC_region ?_
                refine VL_pure 1 [2, 81] [(2, .pointer (some ⟨b2, 0, none⟩)), (81, .agg #[.int .i64 0, .int .u8 0, .bool false, .int .u32 0, .int .u8 0, .int .u8 0, .int .u8 0, .int .u8 0, .int .u8 0, .int .u8 0, .int .u8 0, .int .u8 0, .int .u8 0, .int .u8 0, .int .u8 0, .int .u8 0, .int .u8 0, .int .u8 0, .int .u8 0, .int .u8 0, .int .u8 0, .int .u8 0, .int .u8 0, .int .u8 0, .int .u8 0, .int .u8 0, .int .u8 0, .int .u8 0, .int .u8 0, .int .u8 0, .int .u8 0, .int .u8 0, .int .u8 0, .int .u8 0, .int .u8 0, .int .u8 0])] (by kernel_rfl) rfl ?_
                refine VL_store (b := b2) (o := 0) (vs := [.int .i64 0, .int .u8 0, .bool false, .int .u32 0, .int .u8 0, .int .u8 0, .int .u8 0, .int .u8 0, .int .u8 0, .int .u8 0, .int .u8 0, .int .u8 0, .int .u8 0, .int .u8 0, .int .u8 0, .int .u8 0, .int .u8 0, .int .u8 0, .int .u8 0, .int .u8 0, .int .u8 0, .int .u8 0, .int .u8 0, .int .u8 0, .int .u8 0, .int .u8 0, .int .u8 0, .int .u8 0, .int .u8 0, .int .u8 0, .int .u8 0, .int .u8 0, .int .u8 0, .int .u8 0, .int .u8 0, .int .u8 0]) (by kernel_rfl) (by kernel_rfl) ho2 (Nat.le_of_ble_eq_true (by kernel_rfl)) ?_
                intro w68 hw40
                replace hS := Step.transNew hS hw40.step (fun _ _ _ => by omega)
                replace ho1 := ho1.step hw40.step (show ¬ b1 = b2 by omega)
                replace ho5 := ho5.step hw40.step (show ¬ b3 = b2 by omega)
                replace ho51 := ho51.step hw40.step (show ¬ b9 = b2 by omega)
                have ho53 : Own w68 b2 #[.int .i64 0, .int .u8 0, .bool false, .int .u32 0, .int .u8 0, .int .u8 0, .int .u8 0, .int .u8 0, .int .u8 0, .int .u8 0, .int .u8 0, .int .u8 0, .int .u8 0, .int .u8 0, .int .u8 0, .int .u8 0, .int .u8 0, .int .u8 0, .int .u8 0, .int .u8 0, .int .u8 0, .int .u8 0, .int .u8 0, .int .u8 0, .int .u8 0, .int .u8 0, .int .u8 0, .int .u8 0, .int .u8 0, .int .u8 0, .int .u8 0, .int .u8 0, .int .u8 0, .int .u8 0, .int .u8 0, .int .u8 0] 31 := Own.cast hw40.own (by kernel_rfl)
                have hzhw40 := hw40.same
                refine VL_pure 3 [2, 3] [(2, .pointer (some ⟨b2, 0, none⟩)), (3, .int .i64 5)] (by kernel_rfl) rfl ?_
                refine VL_end (by kernel_rfl) ?_
                refine VQ_next ?_
                refine VC_ret ?_
                refine VQ_then_ret ?_
                refine VQ_retC1T1 (T := 31) (.agg #[.int .i64 0, .int .u8 0, .bool false, .int .u32 0, .int .u8 0, .int .u8 0, .int .u8 0, .int .u8 0, .int .u8 0, .int .u8 0, .int .u8 0, .int .u8 0, .int .u8 0, .int .u8 0, .int .u8 0, .int .u8 0, .int .u8 0, .int .u8 0, .int .u8 0, .int .u8 0, .int .u8 0, .int .u8 0, .int .u8 0, .int .u8 0, .int .u8 0, .int .u8 0, .int .u8 0, .int .u8 0, .int .u8 0, .int .u8 0, .int .u8 0, .int .u8 0, .int .u8 0, .int .u8 0, .int .u8 0, .int .u8 0]) (.int .i64 5) (.inr rfl) rfl rfl rfl (Loads.ownL ho53 (n := 36) (by kernel_rfl) (by kernel_rfl) (by kernel_rfl)) ?_
                obtain ⟨e1, e2⟩ := unp_5 (bs := bs) (unpO_4 (by simp only [kOf]; omega)) ‹_› (by unfold kindB; simp only [kOf]; omega) (by first | exact .inl ‹_› | exact .inr ‹_›)
                exact ⟨by rw [e1, e2]; rfl, hS⟩
              · try simp only [Bool.and_eq_true, Bool.or_eq_true, decide_eq_true_eq, Bool.not_eq_true', decide_eq_false_iff_not, Bool.and_eq_false_iff, Bool.or_eq_false_iff, beq_iff_eq, bne_iff_ne, beq_eq_false_iff_ne, bne_eq_false_iff_eq, Bool.not_eq_eq_eq_not, Bool.not_true, Bool.not_false] at h14
                refine VC_skip ?_
                refine VQ_next ?_
                refine VC_seq ?_
                refine VC_region ?_
                refine VL_load (d := 82) (t := 31) (a := ⟨b3, 0, none⟩) (v := .agg #[.int .i64 (IntKind.wrap .i64 ((IntKind.wrap .i64 (bs.getD 0 0)) - 16)), .int .u8 0, .bool false, .int .u32 0, .int .u8 0, .int .u8 0, .int .u8 0, .int .u8 0, .int .u8 0, .int .u8 0, .int .u8 0, .int .u8 0, .int .u8 0, .int .u8 0, .int .u8 0, .int .u8 0, .int .u8 0, .int .u8 0, .int .u8 0, .int .u8 0, .int .u8 0, .int .u8 0, .int .u8 0, .int .u8 0, .int .u8 0, .int .u8 0, .int .u8 0, .int .u8 0, .int .u8 0, .int .u8 0, .int .u8 0, .int .u8 0, .int .u8 0, .int .u8 0, .int .u8 0, .int .u8 0]) (by kernel_rfl) (by kernel_rfl) (Loads.ownL ho5 (n := 36) (by kernel_rfl) (by kernel_rfl) (by kernel_rfl)) ?_
                refine VL_store (b := b2) (o := 0) (vs := [.int .i64 (IntKind.wrap .i64 ((IntKind.wrap .i64 (bs.getD 0 0)) - 16)), .int .u8 0, .bool false, .int .u32 0, .int .u8 0, .int .u8 0, .int .u8 0, .int .u8 0, .int .u8 0, .int .u8 0, .int .u8 0, .int .u8 0, .int .u8 0, .int .u8 0, .int .u8 0, .int .u8 0, .int .u8 0, .int .u8 0, .int .u8 0, .int .u8 0, .int .u8 0, .int .u8 0, .int .u8 0, .int .u8 0, .int .u8 0, .int .u8 0, .int .u8 0, .int .u8 0, .int .u8 0, .int .u8 0, .int .u8 0, .int .u8 0, .int .u8 0, .int .u8 0, .int .u8 0, .int .u8 0]) (by kernel_rfl) (by kernel_rfl) ho2 (Nat.le_of_ble_eq_true (by kernel_rfl)) ?_
                intro w69 hw41
                replace hS := Step.transNew hS hw41.step (fun _ _ _ => by omega)
                replace ho1 := ho1.step hw41.step (show ¬ b1 = b2 by omega)
                replace ho5 := ho5.step hw41.step (show ¬ b3 = b2 by omega)
                replace ho51 := ho51.step hw41.step (show ¬ b9 = b2 by omega)
                have ho54 : Own w69 b2 #[.int .i64 (IntKind.wrap .i64 ((IntKind.wrap .i64 (bs.getD 0 0)) - 16)), .int .u8 0, .bool false, .int .u32 0, .int .u8 0, .int .u8 0, .int .u8 0, .int .u8 0, .int .u8 0, .int .u8 0, .int .u8 0, .int .u8 0, .int .u8 0, .int .u8 0, .int .u8 0, .int .u8 0, .int .u8 0, .int .u8 0, .int .u8 0, .int .u8 0, .int .u8 0, .int .u8 0, .int .u8 0, .int .u8 0, .int .u8 0, .int .u8 0, .int .u8 0, .int .u8 0, .int .u8 0, .int .u8 0, .int .u8 0, .int .u8 0, .int .u8 0, .int .u8 0, .int .u8 0, .int .u8 0] 31 := Own.cast hw41.own (by kernel_rfl)
                have hzhw41 := hw41.same
                refine VL_pure 3 [2, 3] [(2, .pointer (some ⟨b2, 0, none⟩)), (3, .int .i64 0)] (by kernel_rfl) rfl ?_
                refine VL_end (by kernel_rfl) ?_
                refine VQ_next ?_
                refine VC_ret ?_
                refine VQ_retC1T1 (T := 31) (.agg #[.int .i64 (IntKind.wrap .i64 ((IntKind.wrap .i64 (bs.getD 0 0)) - 16)), .int .u8 0, .bool false, .int .u32 0, .int .u8 0, .int .u8 0, .int .u8 0, .int .u8 0, .int .u8 0, .int .u8 0, .int .u8 0, .int .u8 0, .int .u8 0, .int .u8 0, .int .u8 0, .int .u8 0, .int .u8 0, .int .u8 0, .int .u8 0, .int .u8 0, .int .u8 0, .int .u8 0, .int .u8 0, .int .u8 0, .int .u8 0, .int .u8 0, .int .u8 0, .int .u8 0, .int .u8 0, .int .u8 0, .int .u8 0, .int .u8 0, .int .u8 0, .int .u8 0, .int .u8 0, .int .u8 0]) (.int .i64 0) (.inr rfl) rfl rfl rfl (Loads.ownL ho54 (n := 36) (by kernel_rfl) (by kernel_rfl) (by kernel_rfl)) ?_
                obtain ⟨e1, e2⟩ := unp_0 (bs := bs) (unpO_4 (by simp only [kOf]; omega)) ‹_› (by unfold kindB; simp only [kOf]; omega) ‹_› ‹_›
                exact ⟨by rw [e1, e2]; rfl, hS⟩
          · refine VC_seq ?_
            refine VC_region ?_
            refine VL_pure 1 [2, 22] [(2, .pointer (some ⟨b2, 0, none⟩)), (22, .agg #[.int .i64 0, .int .u8 0, .bool false, .int .u32 0, .int .u8 0, .int .u8 0, .int .u8 0, .int .u8 0, .int .u8 0, .int .u8 0, .int .u8 0, .int .u8 0, .int .u8 0, .int .u8 0, .int .u8 0, .int .u8 0, .int .u8 0, .int .u8 0, .int .u8 0, .int .u8 0, .int .u8 0, .int .u8 0, .int .u8 0, .int .u8 0, .int .u8 0, .int .u8 0, .int .u8 0, .int .u8 0, .int .u8 0, .int .u8 0, .int .u8 0, .int .u8 0, .int .u8 0, .int .u8 0, .int .u8 0, .int .u8 0])] (by kernel_rfl) rfl ?_
            refine VL_store (b := b2) (o := 0) (vs := [.int .i64 0, .int .u8 0, .bool false, .int .u32 0, .int .u8 0, .int .u8 0, .int .u8 0, .int .u8 0, .int .u8 0, .int .u8 0, .int .u8 0, .int .u8 0, .int .u8 0, .int .u8 0, .int .u8 0, .int .u8 0, .int .u8 0, .int .u8 0, .int .u8 0, .int .u8 0, .int .u8 0, .int .u8 0, .int .u8 0, .int .u8 0, .int .u8 0, .int .u8 0, .int .u8 0, .int .u8 0, .int .u8 0, .int .u8 0, .int .u8 0, .int .u8 0, .int .u8 0, .int .u8 0, .int .u8 0, .int .u8 0]) (by kernel_rfl) (by kernel_rfl) ho2 (Nat.le_of_ble_eq_true (by kernel_rfl)) ?_
            intro w70 hw42
            replace hS := Step.transNew hS hw42.step (fun _ _ _ => by omega)
            replace ho1 := ho1.step hw42.step (show ¬ b1 = b2 by omega)
            replace ho5 := ho5.step hw42.step (show ¬ b3 = b2 by omega)
            have ho55 : Own w70 b2 #[.int .i64 0, .int .u8 0, .bool false, .int .u32 0, .int .u8 0, .int .u8 0, .int .u8 0, .int .u8 0, .int .u8 0, .int .u8 0, .int .u8 0, .int .u8 0, .int .u8 0, .int .u8 0, .int .u8 0, .int .u8 0, .int .u8 0, .int .u8 0, .int .u8 0, .int .u8 0, .int .u8 0, .int .u8 0, .int .u8 0, .int .u8 0, .int .u8 0, .int .u8 0, .int .u8 0, .int .u8 0, .int .u8 0, .int .u8 0, .int .u8 0, .int .u8 0, .int .u8 0, .int .u8 0, .int .u8 0, .int .u8 0] 31 := Own.cast hw42.own (by kernel_rfl)
            have hzhw42 := hw42.same
            refine VL_pure 3 [2, 3] [(2, .pointer (some ⟨b2, 0, none⟩)), (3, .int .i64 12)] (by kernel_rfl) rfl ?_
            refine VL_end (by kernel_rfl) ?_
            refine VQ_next ?_
            refine VC_ret ?_
            refine VQ_block_ret ?_
            refine VQ_then_ret ?_
            refine VQ_retC1T1 (T := 31) (.agg #[.int .i64 0, .int .u8 0, .bool false, .int .u32 0, .int .u8 0, .int .u8 0, .int .u8 0, .int .u8 0, .int .u8 0, .int .u8 0, .int .u8 0, .int .u8 0, .int .u8 0, .int .u8 0, .int .u8 0, .int .u8 0, .int .u8 0, .int .u8 0, .int .u8 0, .int .u8 0, .int .u8 0, .int .u8 0, .int .u8 0, .int .u8 0, .int .u8 0, .int .u8 0, .int .u8 0, .int .u8 0, .int .u8 0, .int .u8 0, .int .u8 0, .int .u8 0, .int .u8 0, .int .u8 0, .int .u8 0, .int .u8 0]) (.int .i64 12) (.inr rfl) rfl rfl rfl (Loads.ownL ho55 (n := 36) (by kernel_rfl) (by kernel_rfl) (by kernel_rfl)) ?_
            obtain ⟨e1, e2⟩ := unp_12 (bs := bs) ‹_› (by unfold kindB; simp only [kOf]; omega)
            exact ⟨by rw [e1, e2]; rfl, hS⟩

end Go.Proofs.Yteipakmfiiccpaa
