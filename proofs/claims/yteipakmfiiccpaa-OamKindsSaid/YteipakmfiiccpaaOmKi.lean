/- Layer 14: OamKinds. -/
import Derived.Test.YteipakmfiiccpaaProg
import Derived.Test.YteipakmfiiccpaaOm8
import Derived.Test.YteipakmfiiccpaaOm13
set_option linter.unusedVariables false
set_option linter.unusedSimpArgs false
namespace Go.Proofs.Yteipakmfiiccpaa
open Go.Vc Go.RowKit

set_option maxRecDepth 100000 in
set_option maxHeartbeats 4000000 in
theorem kinds_yes (o : Om) (f : Int) (w : World) (ho : OmOk o) (hf : 0 ≤ f ∧ f < 256) (hr : rightO o = true) :
    CV Try.prog 5 #[.agg #[.int .i64 o.k, .int .u8 o.d, .bool o.a, .int .u32 o.tg, .int .u8 (o.p 0), .int .u8 (o.p 1), .int .u8 (o.p 2), .int .u8 (o.p 3), .int .u8 (o.p 4), .int .u8 (o.p 5), .int .u8 (o.p 6), .int .u8 (o.p 7), .int .u8 (o.p 8), .int .u8 (o.p 9), .int .u8 (o.p 10), .int .u8 (o.p 11), .int .u8 (o.p 12), .int .u8 (o.p 13), .int .u8 (o.p 14), .int .u8 (o.p 15), .int .u8 (o.s 0), .int .u8 (o.s 1), .int .u8 (o.s 2), .int .u8 (o.s 3), .int .u8 (o.s 4), .int .u8 (o.s 5), .int .u8 (o.s 6), .int .u8 (o.s 7), .int .u8 (o.s 8), .int .u8 (o.s 9), .int .u8 (o.s 10), .int .u8 (o.s 11), .int .u8 (o.s 12), .int .u8 (o.s 13), .int .u8 (o.s 14), .int .u8 (o.s 15)], .int .u8 f] w (fun x w1 => x = .bool true ∧ Step No w w1) := by
  have hS : Step No w w := Step.refl _ _
  refine CV_enter Try.f5 _ 58 [(0, .agg #[.int .i64 o.k, .int .u8 o.d, .bool o.a, .int .u32 o.tg, .int .u8 (o.p 0), .int .u8 (o.p 1), .int .u8 (o.p 2), .int .u8 (o.p 3), .int .u8 (o.p 4), .int .u8 (o.p 5), .int .u8 (o.p 6), .int .u8 (o.p 7), .int .u8 (o.p 8), .int .u8 (o.p 9), .int .u8 (o.p 10), .int .u8 (o.p 11), .int .u8 (o.p 12), .int .u8 (o.p 13), .int .u8 (o.p 14), .int .u8 (o.p 15), .int .u8 (o.s 0), .int .u8 (o.s 1), .int .u8 (o.s 2), .int .u8 (o.s 3), .int .u8 (o.s 4), .int .u8 (o.s 5), .int .u8 (o.s 6), .int .u8 (o.s 7), .int .u8 (o.s 8), .int .u8 (o.s 9), .int .u8 (o.s 10), .int .u8 (o.s 11), .int .u8 (o.s 12), .int .u8 (o.s 13), .int .u8 (o.s 14), .int .u8 (o.s 15)]), (1, .int .u8 f)] Try.func5 rfl rfl (by kernel_rfl) rfl ?_
  refine VC_seq ?_
  refine VC_region ?_
  have hzs1 := hS.size
  refine VL_box (d := 2) (t := 25) (c := #[.int .i64 o.k, .int .u8 o.d, .bool o.a, .int .u32 o.tg, .int .u8 (o.p 0), .int .u8 (o.p 1), .int .u8 (o.p 2), .int .u8 (o.p 3), .int .u8 (o.p 4), .int .u8 (o.p 5), .int .u8 (o.p 6), .int .u8 (o.p 7), .int .u8 (o.p 8), .int .u8 (o.p 9), .int .u8 (o.p 10), .int .u8 (o.p 11), .int .u8 (o.p 12), .int .u8 (o.p 13), .int .u8 (o.p 14), .int .u8 (o.p 15), .int .u8 (o.s 0), .int .u8 (o.s 1), .int .u8 (o.s 2), .int .u8 (o.s 3), .int .u8 (o.s 4), .int .u8 (o.s 5), .int .u8 (o.s 6), .int .u8 (o.s 7), .int .u8 (o.s 8), .int .u8 (o.s 9), .int .u8 (o.s 10), .int .u8 (o.s 11), .int .u8 (o.s 12), .int .u8 (o.s 13), .int .u8 (o.s 14), .int .u8 (o.s 15)]) (by kernel_rfl) (by kernel_rfl) ?_
  intro b1 w1 hn1
  replace hS := Step.trans hS (hn1.step No)
  have ho1 := hn1.own
  have hzhn1 := hn1.size
  have hqhn1 := hn1.eqb
  refine VL_pure 2 [1, 2] [(1, .int .u8 f), (2, .pointer (some ⟨b1, 0, none⟩))] (by kernel_rfl) rfl ?_
  refine VL_end (by kernel_rfl) ?_
  refine VQ_next ?_
  refine VC_seq ?_
  refine VC_seq ?_
  refine VC_region ?_
  have hzs2 := hS.size
  have hzl1 := ho1.lt
  refine VL_call (d := 10) (f := 9) (args := #[]) (by kernel_rfl) (by kernel_rfl) (by kernel_rfl) Try.call9 (awake_any _) ?_
  rintro _ w2 ⟨rfl, hc1⟩
  replace hS := Step.trans hS hc1
  replace ho1 := ho1.no hc1
  refine VL_pure 2 [1, 2, 11] [(1, .int .u8 f), (2, .pointer (some ⟨b1, 0, none⟩)), (11, .bool false)] (by kernel_rfl) rfl ?_
  refine VL_end (by kernel_rfl) ?_
  refine VQ_next ?_
  refine VC_false (by kernel_rfl) ?_
  refine VC_skip ?_
  refine VQ_next ?_
  refine VC_seq ?_
  refine VC_region ?_
  refine VL_load (d := 13) (t := 25) (a := ⟨b1, 0, none⟩) (v := .agg #[.int .i64 o.k, .int .u8 o.d, .bool o.a, .int .u32 o.tg, .int .u8 (o.p 0), .int .u8 (o.p 1), .int .u8 (o.p 2), .int .u8 (o.p 3), .int .u8 (o.p 4), .int .u8 (o.p 5), .int .u8 (o.p 6), .int .u8 (o.p 7), .int .u8 (o.p 8), .int .u8 (o.p 9), .int .u8 (o.p 10), .int .u8 (o.p 11), .int .u8 (o.p 12), .int .u8 (o.p 13), .int .u8 (o.p 14), .int .u8 (o.p 15), .int .u8 (o.s 0), .int .u8 (o.s 1), .int .u8 (o.s 2), .int .u8 (o.s 3), .int .u8 (o.s 4), .int .u8 (o.s 5), .int .u8 (o.s 6), .int .u8 (o.s 7), .int .u8 (o.s 8), .int .u8 (o.s 9), .int .u8 (o.s 10), .int .u8 (o.s 11), .int .u8 (o.s 12), .int .u8 (o.s 13), .int .u8 (o.s 14), .int .u8 (o.s 15)]) (by kernel_rfl) (by kernel_rfl) (Loads.ownL ho1 (n := 36) (by kernel_rfl) (by kernel_rfl) (by kernel_rfl)) ?_
  have hzs3 := hS.size
  have hzl2 := ho1.lt
  refine VL_call (d := 14) (f := 10) (by kernel_rfl) (by kernel_rfl) (by kernel_rfl) Try.call10 (CV.val (v' := .tuple #[.agg (iA .u8 (packV o)), .int .i64 0]) (pack_any o _) (by rw [packE_yes hr])) ?_
  rintro _ w3 ⟨rfl, hc2⟩
  replace hS := Step.trans hS hc2
  replace ho1 := ho1.no hc2
  refine VL_pure 5 [1, 15, 16] [(1, .int .u8 f), (15, .agg (iA .u8 (packV o))), (16, .int .i64 0)] (by kernel_rfl) rfl ?_
  have hzs4 := hS.size
  have hzl3 := ho1.lt
  have hzs5 := hS.size
  have hzl4 := ho1.lt
  refine VL_box (d := 5) (t := 26) (c := iA .u8 (List.replicate 48 0)) (by kernel_rfl) (by kernel_rfl) ?_
  intro b2 w4 hn2
  replace hS := Step.trans hS (hn2.step No)
  replace ho1 := ho1.no (hn2.step No)
  have ho2 := hn2.own
  have hzhn2 := hn2.size
  have hqhn2 := hn2.eqb
  refine VL_storeA (b := b2) (sz := 48) (k := .u8) (bs := packV o) (by kernel_rfl) (by kernel_rfl) (by first | exact packV_len _ | exact reL_len _ _ | exact (sealL_len _).trans (reL_len _ _) | simp) ho2 (iA_size.trans (by (try simp only [List.length_set, List.length_append, List.length_map, List.length_replicate, List.length_cons, List.length_nil, List.length_take, List.length_drop, List.length_range]) <;> omega)) ?_
  intro w5 hw1
  replace hS := Step.transNew hS hw1.step (fun _ _ _ => by omega)
  replace ho1 := ho1.step hw1.step (show ¬ b1 = b2 by omega)
  have ho3 := hw1.own
  have hzhw1 := hw1.same
  refine VL_pure 8 [1, 5, 6] [(1, .int .u8 f), (5, .pointer (some ⟨b2, 0, none⟩)), (6, .int .i64 0)] (by kernel_rfl) rfl ?_
  refine VL_end (by kernel_rfl) ?_
  refine VQ_next ?_
  refine VC_seq ?_
  refine VC_seq ?_
  refine VC_region ?_
  refine VL_pure 2 [1, 5, 18] [(1, .int .u8 f), (5, .pointer (some ⟨b2, 0, none⟩)), (18, .bool false)] (by kernel_rfl) rfl ?_
  refine VL_end (by kernel_rfl) ?_
  refine VQ_next ?_
  refine VC_false (by kernel_rfl) ?_
  refine VC_skip ?_
  refine VQ_next ?_
  refine VC_seq ?_
  refine VC_region ?_
  refine VL_pure 1 [1, 5, 19] [(1, .int .u8 f), (5, .pointer (some ⟨b2, 0, none⟩)), (19, .int .u8 f)] (by kernel_rfl) rfl ?_
  refine VL_index (d := 20) (b := b2) (o := 0) (len := 48) (sz := 1) (m := 0) (by kernel_rfl) (by kernel_rfl) 0 (by rfl) (by omega) 0 (by omega) ?_
  refine VL_store (b := b2) (o := 0) (vs := [.int .u8 f]) (by kernel_rfl) (by kernel_rfl) ho3 (by simp only [iA_size, List.length_singleton]; exact (by first | (rw [packV_len]; omega) | omega | (simp [packV_len, *]))) ?_
  intro w6 hw2
  replace hS := Step.transNew hS hw2.step (fun _ _ _ => by omega)
  replace ho1 := ho1.step hw2.step (show ¬ b1 = b2 by omega)
  have ho4 := Own.cast hw2.own (iA_set 0 f (by first | (rw [packV_len]; omega) | omega | (simp [packV_len, *])))
  have hzhw2 := hw2.same
  refine VL_end (by kernel_rfl) ?_
  refine VQ_next ?_
  refine VC_seq ?_
  replace ho4 : Own w6 b2 (iA .u8 (reL o f)) 26 := ho4
  refine VC_region ?_
  refine VL_load (d := 22) (t := 26) (a := ⟨b2, 0, none⟩) (v := .agg (iA .u8 (reL o f))) (by kernel_rfl) (by kernel_rfl) (Loads.arr (N := 48) ho4 (by kernel_rfl) (reL_len _ _)) ?_
  have hzs6 := hS.size
  have hzl5 := ho1.lt
  have hzl6 := ho4.lt
  refine VL_call (d := 23) (f := 18) (by kernel_rfl) (by kernel_rfl) (by kernel_rfl) Try.call18 (seal_any (reL o f) _ (by first | exact packV_len _ | exact reL_len _ _ | exact (sealL_len _).trans (reL_len _ _) | simp)) ?_
  rintro _ w7 ⟨rfl, hc3⟩
  replace hS := Step.trans hS hc3
  replace ho1 := ho1.no hc3
  replace ho4 := ho4.no hc3
  have hzs7 := hS.size
  have hzl7 := ho1.lt
  have hzl8 := ho4.lt
  refine VL_call (d := 24) (f := 12) (by kernel_rfl) (by kernel_rfl) (by kernel_rfl) Try.call12 (unpack_any (sealL (reL o f)) _ (by first | exact packV_len _ | exact reL_len _ _ | exact (sealL_len _).trans (reL_len _ _) | simp)) ?_
  rintro _ w8 ⟨rfl, hc4⟩
  replace hS := Step.trans hS hc4
  replace ho1 := ho1.no hc4
  replace ho4 := ho4.no hc4
  refine VL_pure 6 [1, 25, 26] [(1, .int .u8 f), (25, .agg #[.int .i64 ((unpV (sealL (reL o f))).k), .int .u8 ((unpV (sealL (reL o f))).d), .bool ((unpV (sealL (reL o f))).a), .int .u32 ((unpV (sealL (reL o f))).tg), .int .u8 (((unpV (sealL (reL o f))).p) 0), .int .u8 (((unpV (sealL (reL o f))).p) 1), .int .u8 (((unpV (sealL (reL o f))).p) 2), .int .u8 (((unpV (sealL (reL o f))).p) 3), .int .u8 (((unpV (sealL (reL o f))).p) 4), .int .u8 (((unpV (sealL (reL o f))).p) 5), .int .u8 (((unpV (sealL (reL o f))).p) 6), .int .u8 (((unpV (sealL (reL o f))).p) 7), .int .u8 (((unpV (sealL (reL o f))).p) 8), .int .u8 (((unpV (sealL (reL o f))).p) 9), .int .u8 (((unpV (sealL (reL o f))).p) 10), .int .u8 (((unpV (sealL (reL o f))).p) 11), .int .u8 (((unpV (sealL (reL o f))).p) 12), .int .u8 (((unpV (sealL (reL o f))).p) 13), .int .u8 (((unpV (sealL (reL o f))).p) 14), .int .u8 (((unpV (sealL (reL o f))).p) 15), .int .u8 (((unpV (sealL (reL o f))).s) 0), .int .u8 (((unpV (sealL (reL o f))).s) 1), .int .u8 (((unpV (sealL (reL o f))).s) 2), .int .u8 (((unpV (sealL (reL o f))).s) 3), .int .u8 (((unpV (sealL (reL o f))).s) 4), .int .u8 (((unpV (sealL (reL o f))).s) 5), .int .u8 (((unpV (sealL (reL o f))).s) 6), .int .u8 (((unpV (sealL (reL o f))).s) 7), .int .u8 (((unpV (sealL (reL o f))).s) 8), .int .u8 (((unpV (sealL (reL o f))).s) 9), .int .u8 (((unpV (sealL (reL o f))).s) 10), .int .u8 (((unpV (sealL (reL o f))).s) 11), .int .u8 (((unpV (sealL (reL o f))).s) 12), .int .u8 (((unpV (sealL (reL o f))).s) 13), .int .u8 (((unpV (sealL (reL o f))).s) 14), .int .u8 (((unpV (sealL (reL o f))).s) 15)]), (26, .int .i64 (unpE (sealL (reL o f))))] (by kernel_rfl) rfl ?_
  have hzs8 := hS.size
  have hzl9 := ho1.lt
  have hzl10 := ho4.lt
  refine VL_box (d := 7) (t := 31) (c := #[.int .i64 0, .int .u8 0, .bool false, .int .u32 0, .int .u8 0, .int .u8 0, .int .u8 0, .int .u8 0, .int .u8 0, .int .u8 0, .int .u8 0, .int .u8 0, .int .u8 0, .int .u8 0, .int .u8 0, .int .u8 0, .int .u8 0, .int .u8 0, .int .u8 0, .int .u8 0, .int .u8 0, .int .u8 0, .int .u8 0, .int .u8 0, .int .u8 0, .int .u8 0, .int .u8 0, .int .u8 0, .int .u8 0, .int .u8 0, .int .u8 0, .int .u8 0, .int .u8 0, .int .u8 0, .int .u8 0, .int .u8 0]) (by kernel_rfl) (by kernel_rfl) ?_
  intro b3 w9 hn3
  replace hS := Step.trans hS (hn3.step No)
  replace ho1 := ho1.no (hn3.step No)
  replace ho4 := ho4.no (hn3.step No)
  have ho5 := hn3.own
  have hzhn3 := hn3.size
  have hqhn3 := hn3.eqb
  refine VL_store (b := b3) (o := 0) (vs := [.int .i64 ((unpV (sealL (reL o f))).k), .int .u8 ((unpV (sealL (reL o f))).d), .bool ((unpV (sealL (reL o f))).a), .int .u32 ((unpV (sealL (reL o f))).tg), .int .u8 (((unpV (sealL (reL o f))).p) 0), .int .u8 (((unpV (sealL (reL o f))).p) 1), .int .u8 (((unpV (sealL (reL o f))).p) 2), .int .u8 (((unpV (sealL (reL o f))).p) 3), .int .u8 (((unpV (sealL (reL o f))).p) 4), .int .u8 (((unpV (sealL (reL o f))).p) 5), .int .u8 (((unpV (sealL (reL o f))).p) 6), .int .u8 (((unpV (sealL (reL o f))).p) 7), .int .u8 (((unpV (sealL (reL o f))).p) 8), .int .u8 (((unpV (sealL (reL o f))).p) 9), .int .u8 (((unpV (sealL (reL o f))).p) 10), .int .u8 (((unpV (sealL (reL o f))).p) 11), .int .u8 (((unpV (sealL (reL o f))).p) 12), .int .u8 (((unpV (sealL (reL o f))).p) 13), .int .u8 (((unpV (sealL (reL o f))).p) 14), .int .u8 (((unpV (sealL (reL o f))).p) 15), .int .u8 (((unpV (sealL (reL o f))).s) 0), .int .u8 (((unpV (sealL (reL o f))).s) 1), .int .u8 (((unpV (sealL (reL o f))).s) 2), .int .u8 (((unpV (sealL (reL o f))).s) 3), .int .u8 (((unpV (sealL (reL o f))).s) 4), .int .u8 (((unpV (sealL (reL o f))).s) 5), .int .u8 (((unpV (sealL (reL o f))).s) 6), .int .u8 (((unpV (sealL (reL o f))).s) 7), .int .u8 (((unpV (sealL (reL o f))).s) 8), .int .u8 (((unpV (sealL (reL o f))).s) 9), .int .u8 (((unpV (sealL (reL o f))).s) 10), .int .u8 (((unpV (sealL (reL o f))).s) 11), .int .u8 (((unpV (sealL (reL o f))).s) 12), .int .u8 (((unpV (sealL (reL o f))).s) 13), .int .u8 (((unpV (sealL (reL o f))).s) 14), .int .u8 (((unpV (sealL (reL o f))).s) 15)]) (by kernel_rfl) (by kernel_rfl) ho5 (Nat.le_of_ble_eq_true (by kernel_rfl)) ?_
  intro w10 hw3
  replace hS := Step.transNew hS hw3.step (fun _ _ _ => by omega)
  replace ho1 := ho1.step hw3.step (show ¬ b1 = b3 by omega)
  replace ho4 := ho4.step hw3.step (show ¬ b2 = b3 by omega)
  have ho6 : Own w10 b3 #[.int .i64 ((unpV (sealL (reL o f))).k), .int .u8 ((unpV (sealL (reL o f))).d), .bool ((unpV (sealL (reL o f))).a), .int .u32 ((unpV (sealL (reL o f))).tg), .int .u8 (((unpV (sealL (reL o f))).p) 0), .int .u8 (((unpV (sealL (reL o f))).p) 1), .int .u8 (((unpV (sealL (reL o f))).p) 2), .int .u8 (((unpV (sealL (reL o f))).p) 3), .int .u8 (((unpV (sealL (reL o f))).p) 4), .int .u8 (((unpV (sealL (reL o f))).p) 5), .int .u8 (((unpV (sealL (reL o f))).p) 6), .int .u8 (((unpV (sealL (reL o f))).p) 7), .int .u8 (((unpV (sealL (reL o f))).p) 8), .int .u8 (((unpV (sealL (reL o f))).p) 9), .int .u8 (((unpV (sealL (reL o f))).p) 10), .int .u8 (((unpV (sealL (reL o f))).p) 11), .int .u8 (((unpV (sealL (reL o f))).p) 12), .int .u8 (((unpV (sealL (reL o f))).p) 13), .int .u8 (((unpV (sealL (reL o f))).p) 14), .int .u8 (((unpV (sealL (reL o f))).p) 15), .int .u8 (((unpV (sealL (reL o f))).s) 0), .int .u8 (((unpV (sealL (reL o f))).s) 1), .int .u8 (((unpV (sealL (reL o f))).s) 2), .int .u8 (((unpV (sealL (reL o f))).s) 3), .int .u8 (((unpV (sealL (reL o f))).s) 4), .int .u8 (((unpV (sealL (reL o f))).s) 5), .int .u8 (((unpV (sealL (reL o f))).s) 6), .int .u8 (((unpV (sealL (reL o f))).s) 7), .int .u8 (((unpV (sealL (reL o f))).s) 8), .int .u8 (((unpV (sealL (reL o f))).s) 9), .int .u8 (((unpV (sealL (reL o f))).s) 10), .int .u8 (((unpV (sealL (reL o f))).s) 11), .int .u8 (((unpV (sealL (reL o f))).s) 12), .int .u8 (((unpV (sealL (reL o f))).s) 13), .int .u8 (((unpV (sealL (reL o f))).s) 14), .int .u8 (((unpV (sealL (reL o f))).s) 15)] 31 := Own.cast hw3.own (by kernel_rfl)
  have hzhw3 := hw3.same
  refine VL_pure 9 [1, 7, 8] [(1, .int .u8 f), (7, .pointer (some ⟨b3, 0, none⟩)), (8, .int .i64 (unpE (sealL (reL o f))))] (by kernel_rfl) rfl ?_
  refine VL_end (by kernel_rfl) ?_
  refine VQ_next ?_
  refine VC_seq ?_
  refine VC_region ?_
  refine VL_pure 3 [1, 7, 8, 29] [(1, .int .u8 f), (7, .pointer (some ⟨b3, 0, none⟩)), (8, .int .i64 (unpE (sealL (reL o f)))), (29, .bool (f == 16))] (by kernel_rfl) rfl ?_
  refine VL_beq f 16 (fun bV => [(1, .int .u8 f), (7, .pointer (some ⟨b3, 0, none⟩)), (8, .int .i64 (unpE (sealL (reL o f)))), (29, .bool bV)]) rfl (fun hg1 => ?_) (fun hg1 => ?_)
  · refine VL_pure 15 [1, 7, 8, 9] [(1, .int .u8 f), (7, .pointer (some ⟨b3, 0, none⟩)), (8, .int .i64 (unpE (sealL (reL o f)))), (9, .bool true)] (by kernel_rfl) rfl ?_
    refine VL_end (by kernel_rfl) ?_
    refine VQ_next ?_
    refine VC_seq ?_
    refine VC_region ?_
    refine VL_pure 6 [1, 7, 8, 46] [(1, .int .u8 f), (7, .pointer (some ⟨b3, 0, none⟩)), (8, .int .i64 (unpE (sealL (reL o f)))), (46, .bool (((unpE (sealL (reL o f))) == 12) == false))] (by kernel_rfl) rfl ?_
    refine VL_known (((unpE (sealL (reL o f))) == 12) == false) (fun bV => [(1, .int .u8 f), (7, .pointer (some ⟨b3, 0, none⟩)), (8, .int .i64 (unpE (sealL (reL o f)))), (46, .bool bV)]) true rfl (by rw [kind_12 ho hf]; first | (rw [kind_last ‹f ≠ 16› ‹f ≠ 17› ‹f ≠ 20›]; simp) | simp [kindF, *]) ?_
    refine VL_pure 9 [1, 7, 46, 49] [(1, .int .u8 f), (7, .pointer (some ⟨b3, 0, none⟩)), (46, .bool true), (49, .bool ((unpE (sealL (reL o f))) != 0))] (by kernel_rfl) rfl ?_
    refine VL_bne (unpE (sealL (reL o f))) 0 (fun bV => [(1, .int .u8 f), (7, .pointer (some ⟨b3, 0, none⟩)), (46, .bool true), (49, .bool bV)]) rfl (fun hg2 => ?_) (fun hg2 => ?_)
    · refine VL_pure 18 [4] [(4, .bool true)] (by kernel_rfl) rfl ?_
      refine VL_end (by kernel_rfl) ?_
      refine VQ_next ?_
      refine VC_ret ?_
      refine VQ_ret1 (.bool true) (.inr rfl) rfl rfl ?_
      exact ⟨by first | rfl | exact congrArg Value.bool (beq_iff_eq.2 (kind_k ho hf ‹_›)) | simp [kind_12 ho hf, kindF, *], hS⟩
    · refine VL_pure 10 [1, 46, 49, 50] [(1, .int .u8 f), (46, .bool true), (49, .bool false), (50, .pointer (some ⟨b3, 0, none⟩))] (by kernel_rfl) rfl ?_
      refine VL_load (d := 51) (t := 3) (a := ⟨b3, 0, none⟩) (v := .int .i64 ((unpV (sealL (reL o f))).k)) (by kernel_rfl) (by kernel_rfl) (Loads.own1 ho6 (by kernel_rfl) (by rfl)) ?_
      refine VL_pure 18 [4] [(4, .bool (((unpV (sealL (reL o f))).k) == (IntKind.wrap .i64 ((IntKind.wrap .i64 f) - 16))))] (by kernel_rfl) rfl ?_
      refine VL_end (by kernel_rfl) ?_
      refine VQ_next ?_
      refine VC_ret ?_
      refine VQ_ret1 (.bool (((unpV (sealL (reL o f))).k) == (IntKind.wrap .i64 ((IntKind.wrap .i64 f) - 16)))) (.inr rfl) rfl rfl ?_
      exact ⟨by first | rfl | exact congrArg Value.bool (beq_iff_eq.2 (kind_k ho hf ‹_›)) | simp [kind_12 ho hf, kindF, *], hS⟩
  · refine VL_pure 7 [1, 7, 8, 33] [(1, .int .u8 f), (7, .pointer (some ⟨b3, 0, none⟩)), (8, .int .i64 (unpE (sealL (reL o f)))), (33, .bool (f == 17))] (by kernel_rfl) rfl ?_
    refine VL_beq f 17 (fun bV => [(1, .int .u8 f), (7, .pointer (some ⟨b3, 0, none⟩)), (8, .int .i64 (unpE (sealL (reL o f)))), (33, .bool bV)]) rfl (fun hg3 => ?_) (fun hg3 => ?_)
    · refine VL_pure 15 [1, 7, 8, 9] [(1, .int .u8 f), (7, .pointer (some ⟨b3, 0, none⟩)), (8, .int .i64 (unpE (sealL (reL o f)))), (9, .bool true)] (by kernel_rfl) rfl ?_
      refine VL_end (by kernel_rfl) ?_
      refine VQ_next ?_
      refine VC_seq ?_
      refine VC_region ?_
      refine VL_pure 6 [1, 7, 8, 46] [(1, .int .u8 f), (7, .pointer (some ⟨b3, 0, none⟩)), (8, .int .i64 (unpE (sealL (reL o f)))), (46, .bool (((unpE (sealL (reL o f))) == 12) == false))] (by kernel_rfl) rfl ?_
      refine VL_known (((unpE (sealL (reL o f))) == 12) == false) (fun bV => [(1, .int .u8 f), (7, .pointer (some ⟨b3, 0, none⟩)), (8, .int .i64 (unpE (sealL (reL o f)))), (46, .bool bV)]) true rfl (by rw [kind_12 ho hf]; first | (rw [kind_last ‹f ≠ 16› ‹f ≠ 17› ‹f ≠ 20›]; simp) | simp [kindF, *]) ?_
      refine VL_pure 9 [1, 7, 46, 49] [(1, .int .u8 f), (7, .pointer (some ⟨b3, 0, none⟩)), (46, .bool true), (49, .bool ((unpE (sealL (reL o f))) != 0))] (by kernel_rfl) rfl ?_
      refine VL_bne (unpE (sealL (reL o f))) 0 (fun bV => [(1, .int .u8 f), (7, .pointer (some ⟨b3, 0, none⟩)), (46, .bool true), (49, .bool bV)]) rfl (fun hg4 => ?_) (fun hg4 => ?_)
      · refine VL_pure 18 [4] [(4, .bool true)] (by kernel_rfl) rfl ?_
        refine VL_end (by kernel_rfl) ?_
        refine VQ_next ?_
        refine VC_ret ?_
        refine VQ_ret1 (.bool true) (.inr rfl) rfl rfl ?_
        exact ⟨by first | rfl | exact congrArg Value.bool (beq_iff_eq.2 (kind_k ho hf ‹_›)) | simp [kind_12 ho hf, kindF, *], hS⟩
      · refine VL_pure 10 [1, 46, 49, 50] [(1, .int .u8 f), (46, .bool true), (49, .bool false), (50, .pointer (some ⟨b3, 0, none⟩))] (by kernel_rfl) rfl ?_
        refine VL_load (d := 51) (t := 3) (a := ⟨b3, 0, none⟩) (v := .int .i64 ((unpV (sealL (reL o f))).k)) (by kernel_rfl) (by kernel_rfl) (Loads.own1 ho6 (by kernel_rfl) (by rfl)) ?_
        refine VL_pure 18 [4] [(4, .bool (((unpV (sealL (reL o f))).k) == (IntKind.wrap .i64 ((IntKind.wrap .i64 f) - 16))))] (by kernel_rfl) rfl ?_
        refine VL_end (by kernel_rfl) ?_
        refine VQ_next ?_
        refine VC_ret ?_
        refine VQ_ret1 (.bool (((unpV (sealL (reL o f))).k) == (IntKind.wrap .i64 ((IntKind.wrap .i64 f) - 16)))) (.inr rfl) rfl rfl ?_
        exact ⟨by first | rfl | exact congrArg Value.bool (beq_iff_eq.2 (kind_k ho hf ‹_›)) | simp [kind_12 ho hf, kindF, *], hS⟩
    · refine VL_pure 11 [1, 7, 8, 37] [(1, .int .u8 f), (7, .pointer (some ⟨b3, 0, none⟩)), (8, .int .i64 (unpE (sealL (reL o f)))), (37, .bool (f == 20))] (by kernel_rfl) rfl ?_
      refine VL_beq f 20 (fun bV => [(1, .int .u8 f), (7, .pointer (some ⟨b3, 0, none⟩)), (8, .int .i64 (unpE (sealL (reL o f)))), (37, .bool bV)]) rfl (fun hg5 => ?_) (fun hg5 => ?_)
      · refine VL_pure 15 [1, 7, 8, 9] [(1, .int .u8 f), (7, .pointer (some ⟨b3, 0, none⟩)), (8, .int .i64 (unpE (sealL (reL o f)))), (9, .bool true)] (by kernel_rfl) rfl ?_
        refine VL_end (by kernel_rfl) ?_
        refine VQ_next ?_
        refine VC_seq ?_
        refine VC_region ?_
        refine VL_pure 6 [1, 7, 8, 46] [(1, .int .u8 f), (7, .pointer (some ⟨b3, 0, none⟩)), (8, .int .i64 (unpE (sealL (reL o f)))), (46, .bool (((unpE (sealL (reL o f))) == 12) == false))] (by kernel_rfl) rfl ?_
        refine VL_known (((unpE (sealL (reL o f))) == 12) == false) (fun bV => [(1, .int .u8 f), (7, .pointer (some ⟨b3, 0, none⟩)), (8, .int .i64 (unpE (sealL (reL o f)))), (46, .bool bV)]) true rfl (by rw [kind_12 ho hf]; first | (rw [kind_last ‹f ≠ 16› ‹f ≠ 17› ‹f ≠ 20›]; simp) | simp [kindF, *]) ?_
        refine VL_pure 9 [1, 7, 46, 49] [(1, .int .u8 f), (7, .pointer (some ⟨b3, 0, none⟩)), (46, .bool true), (49, .bool ((unpE (sealL (reL o f))) != 0))] (by kernel_rfl) rfl ?_
        refine VL_bne (unpE (sealL (reL o f))) 0 (fun bV => [(1, .int .u8 f), (7, .pointer (some ⟨b3, 0, none⟩)), (46, .bool true), (49, .bool bV)]) rfl (fun hg6 => ?_) (fun hg6 => ?_)
        · refine VL_pure 18 [4] [(4, .bool true)] (by kernel_rfl) rfl ?_
          refine VL_end (by kernel_rfl) ?_
          refine VQ_next ?_
          refine VC_ret ?_
          refine VQ_ret1 (.bool true) (.inr rfl) rfl rfl ?_
          exact ⟨by first | rfl | exact congrArg Value.bool (beq_iff_eq.2 (kind_k ho hf ‹_›)) | simp [kind_12 ho hf, kindF, *], hS⟩
        · refine VL_pure 10 [1, 46, 49, 50] [(1, .int .u8 f), (46, .bool true), (49, .bool false), (50, .pointer (some ⟨b3, 0, none⟩))] (by kernel_rfl) rfl ?_
          refine VL_load (d := 51) (t := 3) (a := ⟨b3, 0, none⟩) (v := .int .i64 ((unpV (sealL (reL o f))).k)) (by kernel_rfl) (by kernel_rfl) (Loads.own1 ho6 (by kernel_rfl) (by rfl)) ?_
          refine VL_pure 18 [4] [(4, .bool (((unpV (sealL (reL o f))).k) == (IntKind.wrap .i64 ((IntKind.wrap .i64 f) - 16))))] (by kernel_rfl) rfl ?_
          refine VL_end (by kernel_rfl) ?_
          refine VQ_next ?_
          refine VC_ret ?_
          refine VQ_ret1 (.bool (((unpV (sealL (reL o f))).k) == (IntKind.wrap .i64 ((IntKind.wrap .i64 f) - 16)))) (.inr rfl) rfl rfl ?_
          exact ⟨by first | rfl | exact congrArg Value.bool (beq_iff_eq.2 (kind_k ho hf ‹_›)) | simp [kind_12 ho hf, kindF, *], hS⟩
      · refine VL_pure 15 [1, 7, 8, 9] [(1, .int .u8 f), (7, .pointer (some ⟨b3, 0, none⟩)), (8, .int .i64 (unpE (sealL (reL o f)))), (9, .bool (f == 24))] (by kernel_rfl) rfl ?_
        refine VL_end (by kernel_rfl) ?_
        refine VQ_next ?_
        refine VC_seq ?_
        refine VC_region ?_
        refine VL_pure 6 [1, 7, 8, 46] [(1, .int .u8 f), (7, .pointer (some ⟨b3, 0, none⟩)), (8, .int .i64 (unpE (sealL (reL o f)))), (46, .bool (((unpE (sealL (reL o f))) == 12) == (!(f == 24))))] (by kernel_rfl) rfl ?_
        refine VL_known (((unpE (sealL (reL o f))) == 12) == (!(f == 24))) (fun bV => [(1, .int .u8 f), (7, .pointer (some ⟨b3, 0, none⟩)), (8, .int .i64 (unpE (sealL (reL o f)))), (46, .bool bV)]) true rfl (by rw [kind_12 ho hf]; first | (rw [kind_last ‹f ≠ 16› ‹f ≠ 17› ‹f ≠ 20›]; simp) | simp [kindF, *]) ?_
        refine VL_pure 9 [1, 7, 46, 49] [(1, .int .u8 f), (7, .pointer (some ⟨b3, 0, none⟩)), (46, .bool true), (49, .bool ((unpE (sealL (reL o f))) != 0))] (by kernel_rfl) rfl ?_
        refine VL_bne (unpE (sealL (reL o f))) 0 (fun bV => [(1, .int .u8 f), (7, .pointer (some ⟨b3, 0, none⟩)), (46, .bool true), (49, .bool bV)]) rfl (fun hg7 => ?_) (fun hg7 => ?_)
        · refine VL_pure 18 [4] [(4, .bool true)] (by kernel_rfl) rfl ?_
          refine VL_end (by kernel_rfl) ?_
          refine VQ_next ?_
          refine VC_ret ?_
          refine VQ_ret1 (.bool true) (.inr rfl) rfl rfl ?_
          exact ⟨by first | rfl | exact congrArg Value.bool (beq_iff_eq.2 (kind_k ho hf ‹_›)) | simp [kind_12 ho hf, kindF, *], hS⟩
        · refine VL_pure 10 [1, 46, 49, 50] [(1, .int .u8 f), (46, .bool true), (49, .bool false), (50, .pointer (some ⟨b3, 0, none⟩))] (by kernel_rfl) rfl ?_
          refine VL_load (d := 51) (t := 3) (a := ⟨b3, 0, none⟩) (v := .int .i64 ((unpV (sealL (reL o f))).k)) (by kernel_rfl) (by kernel_rfl) (Loads.own1 ho6 (by kernel_rfl) (by rfl)) ?_
          refine VL_pure 18 [4] [(4, .bool (((unpV (sealL (reL o f))).k) == (IntKind.wrap .i64 ((IntKind.wrap .i64 f) - 16))))] (by kernel_rfl) rfl ?_
          refine VL_end (by kernel_rfl) ?_
          refine VQ_next ?_
          refine VC_ret ?_
          refine VQ_ret1 (.bool (((unpV (sealL (reL o f))).k) == (IntKind.wrap .i64 ((IntKind.wrap .i64 f) - 16)))) (.inr rfl) rfl rfl ?_
          exact ⟨by first | rfl | exact congrArg Value.bool (beq_iff_eq.2 (kind_k ho hf ‹_›)) | simp [kind_12 ho hf, kindF, *], hS⟩

set_option maxRecDepth 100000 in
set_option maxHeartbeats 4000000 in
theorem kinds_no (o : Om) (f : Int) (w : World) (ho : OmOk o) (hf : 0 ≤ f ∧ f < 256) (hr : rightO o = false) :
    CV Try.prog 5 #[.agg #[.int .i64 o.k, .int .u8 o.d, .bool o.a, .int .u32 o.tg, .int .u8 (o.p 0), .int .u8 (o.p 1), .int .u8 (o.p 2), .int .u8 (o.p 3), .int .u8 (o.p 4), .int .u8 (o.p 5), .int .u8 (o.p 6), .int .u8 (o.p 7), .int .u8 (o.p 8), .int .u8 (o.p 9), .int .u8 (o.p 10), .int .u8 (o.p 11), .int .u8 (o.p 12), .int .u8 (o.p 13), .int .u8 (o.p 14), .int .u8 (o.p 15), .int .u8 (o.s 0), .int .u8 (o.s 1), .int .u8 (o.s 2), .int .u8 (o.s 3), .int .u8 (o.s 4), .int .u8 (o.s 5), .int .u8 (o.s 6), .int .u8 (o.s 7), .int .u8 (o.s 8), .int .u8 (o.s 9), .int .u8 (o.s 10), .int .u8 (o.s 11), .int .u8 (o.s 12), .int .u8 (o.s 13), .int .u8 (o.s 14), .int .u8 (o.s 15)], .int .u8 f] w (fun x w1 => x = .bool true ∧ Step No w w1) := by
  have hS : Step No w w := Step.refl _ _
  refine CV_enter Try.f5 _ 58 [(0, .agg #[.int .i64 o.k, .int .u8 o.d, .bool o.a, .int .u32 o.tg, .int .u8 (o.p 0), .int .u8 (o.p 1), .int .u8 (o.p 2), .int .u8 (o.p 3), .int .u8 (o.p 4), .int .u8 (o.p 5), .int .u8 (o.p 6), .int .u8 (o.p 7), .int .u8 (o.p 8), .int .u8 (o.p 9), .int .u8 (o.p 10), .int .u8 (o.p 11), .int .u8 (o.p 12), .int .u8 (o.p 13), .int .u8 (o.p 14), .int .u8 (o.p 15), .int .u8 (o.s 0), .int .u8 (o.s 1), .int .u8 (o.s 2), .int .u8 (o.s 3), .int .u8 (o.s 4), .int .u8 (o.s 5), .int .u8 (o.s 6), .int .u8 (o.s 7), .int .u8 (o.s 8), .int .u8 (o.s 9), .int .u8 (o.s 10), .int .u8 (o.s 11), .int .u8 (o.s 12), .int .u8 (o.s 13), .int .u8 (o.s 14), .int .u8 (o.s 15)]), (1, .int .u8 f)] Try.func5 rfl rfl (by kernel_rfl) rfl ?_
  refine VC_seq ?_
  refine VC_region ?_
  have hzs1 := hS.size
  refine VL_box (d := 2) (t := 25) (c := #[.int .i64 o.k, .int .u8 o.d, .bool o.a, .int .u32 o.tg, .int .u8 (o.p 0), .int .u8 (o.p 1), .int .u8 (o.p 2), .int .u8 (o.p 3), .int .u8 (o.p 4), .int .u8 (o.p 5), .int .u8 (o.p 6), .int .u8 (o.p 7), .int .u8 (o.p 8), .int .u8 (o.p 9), .int .u8 (o.p 10), .int .u8 (o.p 11), .int .u8 (o.p 12), .int .u8 (o.p 13), .int .u8 (o.p 14), .int .u8 (o.p 15), .int .u8 (o.s 0), .int .u8 (o.s 1), .int .u8 (o.s 2), .int .u8 (o.s 3), .int .u8 (o.s 4), .int .u8 (o.s 5), .int .u8 (o.s 6), .int .u8 (o.s 7), .int .u8 (o.s 8), .int .u8 (o.s 9), .int .u8 (o.s 10), .int .u8 (o.s 11), .int .u8 (o.s 12), .int .u8 (o.s 13), .int .u8 (o.s 14), .int .u8 (o.s 15)]) (by kernel_rfl) (by kernel_rfl) ?_
  intro b1 w1 hn1
  replace hS := Step.trans hS (hn1.step No)
  have ho1 := hn1.own
  have hzhn1 := hn1.size
  have hqhn1 := hn1.eqb
  refine VL_pure 2 [1, 2] [(1, .int .u8 f), (2, .pointer (some ⟨b1, 0, none⟩))] (by kernel_rfl) rfl ?_
  refine VL_end (by kernel_rfl) ?_
  refine VQ_next ?_
  refine VC_seq ?_
  refine VC_seq ?_
  refine VC_region ?_
  have hzs2 := hS.size
  have hzl1 := ho1.lt
  refine VL_call (d := 10) (f := 9) (args := #[]) (by kernel_rfl) (by kernel_rfl) (by kernel_rfl) Try.call9 (awake_any _) ?_
  rintro _ w2 ⟨rfl, hc1⟩
  replace hS := Step.trans hS hc1
  replace ho1 := ho1.no hc1
  refine VL_pure 2 [1, 2, 11] [(1, .int .u8 f), (2, .pointer (some ⟨b1, 0, none⟩)), (11, .bool false)] (by kernel_rfl) rfl ?_
  refine VL_end (by kernel_rfl) ?_
  refine VQ_next ?_
  refine VC_false (by kernel_rfl) ?_
  refine VC_skip ?_
  refine VQ_next ?_
  refine VC_seq ?_
  refine VC_region ?_
  refine VL_load (d := 13) (t := 25) (a := ⟨b1, 0, none⟩) (v := .agg #[.int .i64 o.k, .int .u8 o.d, .bool o.a, .int .u32 o.tg, .int .u8 (o.p 0), .int .u8 (o.p 1), .int .u8 (o.p 2), .int .u8 (o.p 3), .int .u8 (o.p 4), .int .u8 (o.p 5), .int .u8 (o.p 6), .int .u8 (o.p 7), .int .u8 (o.p 8), .int .u8 (o.p 9), .int .u8 (o.p 10), .int .u8 (o.p 11), .int .u8 (o.p 12), .int .u8 (o.p 13), .int .u8 (o.p 14), .int .u8 (o.p 15), .int .u8 (o.s 0), .int .u8 (o.s 1), .int .u8 (o.s 2), .int .u8 (o.s 3), .int .u8 (o.s 4), .int .u8 (o.s 5), .int .u8 (o.s 6), .int .u8 (o.s 7), .int .u8 (o.s 8), .int .u8 (o.s 9), .int .u8 (o.s 10), .int .u8 (o.s 11), .int .u8 (o.s 12), .int .u8 (o.s 13), .int .u8 (o.s 14), .int .u8 (o.s 15)]) (by kernel_rfl) (by kernel_rfl) (Loads.ownL ho1 (n := 36) (by kernel_rfl) (by kernel_rfl) (by kernel_rfl)) ?_
  have hzs3 := hS.size
  have hzl2 := ho1.lt
  refine VL_call (d := 14) (f := 10) (by kernel_rfl) (by kernel_rfl) (by kernel_rfl) Try.call10 (CV.val (v' := .tuple #[.agg (iA .u8 (List.replicate 48 0)), .int .i64 1]) (pack_any o _) (by rw [packE_no hr, packV_no hr])) ?_
  rintro _ w3 ⟨rfl, hc2⟩
  replace hS := Step.trans hS hc2
  replace ho1 := ho1.no hc2
  refine VL_pure 5 [1, 15, 16] [(1, .int .u8 f), (15, .agg (iA .u8 (List.replicate 48 0))), (16, .int .i64 1)] (by kernel_rfl) rfl ?_
  have hzs4 := hS.size
  have hzl3 := ho1.lt
  have hzs5 := hS.size
  have hzl4 := ho1.lt
  refine VL_box (d := 5) (t := 26) (c := iA .u8 (List.replicate 48 0)) (by kernel_rfl) (by kernel_rfl) ?_
  intro b2 w4 hn2
  replace hS := Step.trans hS (hn2.step No)
  replace ho1 := ho1.no (hn2.step No)
  have ho2 := hn2.own
  have hzhn2 := hn2.size
  have hqhn2 := hn2.eqb
  refine VL_storeA (b := b2) (sz := 48) (k := .u8) (bs := List.replicate 48 0) (by kernel_rfl) (by kernel_rfl) (by first | exact packV_len _ | exact reL_len _ _ | exact (sealL_len _).trans (reL_len _ _) | simp) ho2 (iA_size.trans (by (try simp only [List.length_set, List.length_append, List.length_map, List.length_replicate, List.length_cons, List.length_nil, List.length_take, List.length_drop, List.length_range]) <;> omega)) ?_
  intro w5 hw1
  replace hS := Step.transNew hS hw1.step (fun _ _ _ => by omega)
  replace ho1 := ho1.step hw1.step (show ¬ b1 = b2 by omega)
  have ho3 := hw1.own
  have hzhw1 := hw1.same
  refine VL_pure 8 [1, 5, 6] [(1, .int .u8 f), (5, .pointer (some ⟨b2, 0, none⟩)), (6, .int .i64 1)] (by kernel_rfl) rfl ?_
  refine VL_end (by kernel_rfl) ?_
  refine VQ_next ?_
  refine VC_seq ?_
  refine VC_seq ?_
  refine VC_region ?_
  refine VL_pure 2 [1, 5, 18] [(1, .int .u8 f), (5, .pointer (some ⟨b2, 0, none⟩)), (18, .bool true)] (by kernel_rfl) rfl ?_
  refine VL_end (by kernel_rfl) ?_
  refine VQ_next ?_
  refine VC_true (by kernel_rfl) ?_
  refine VC_seq ?_
  refine VC_region ?_
  refine VL_pure 1 [4] [(4, .bool true)] (by kernel_rfl) rfl ?_
  refine VL_end (by kernel_rfl) ?_
  refine VQ_next ?_
  refine VC_ret ?_
  refine VQ_then_ret ?_
  refine VQ_ret1 (.bool true) (.inr rfl) rfl rfl ?_
  exact ⟨by first | rfl | exact congrArg Value.bool (beq_iff_eq.2 (kind_k ho hf ‹_›)) | simp [kind_12 ho hf, kindF, *], hS⟩

end Go.Proofs.Yteipakmfiiccpaa
