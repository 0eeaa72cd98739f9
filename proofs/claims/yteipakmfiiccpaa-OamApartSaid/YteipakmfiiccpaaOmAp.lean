/- Layer 14: OamApart. -/
import Derived.Test.YteipakmfiiccpaaProg
import Derived.Test.YteipakmfiiccpaaOm8
import Derived.Test.YteipakmfiiccpaaOm13
set_option linter.unusedVariables false
set_option linter.unusedSimpArgs false
namespace Go.Proofs.Yteipakmfiiccpaa
open Go.Vc Go.RowKit

set_option maxRecDepth 100000 in
set_option maxHeartbeats 4000000 in
theorem apart_11 (o o2 : Om) (w : World) (hoA : OmOk o) (hoB : OmOk o2) (hr : rightO o = true) (hrB : rightO o2 = true) :
    CV Try.prog 6 #[.agg #[.int .i64 o.k, .int .u8 o.d, .bool o.a, .int .u32 o.tg, .int .u8 (o.p 0), .int .u8 (o.p 1), .int .u8 (o.p 2), .int .u8 (o.p 3), .int .u8 (o.p 4), .int .u8 (o.p 5), .int .u8 (o.p 6), .int .u8 (o.p 7), .int .u8 (o.p 8), .int .u8 (o.p 9), .int .u8 (o.p 10), .int .u8 (o.p 11), .int .u8 (o.p 12), .int .u8 (o.p 13), .int .u8 (o.p 14), .int .u8 (o.p 15), .int .u8 (o.s 0), .int .u8 (o.s 1), .int .u8 (o.s 2), .int .u8 (o.s 3), .int .u8 (o.s 4), .int .u8 (o.s 5), .int .u8 (o.s 6), .int .u8 (o.s 7), .int .u8 (o.s 8), .int .u8 (o.s 9), .int .u8 (o.s 10), .int .u8 (o.s 11), .int .u8 (o.s 12), .int .u8 (o.s 13), .int .u8 (o.s 14), .int .u8 (o.s 15)], .agg #[.int .i64 o2.k, .int .u8 o2.d, .bool o2.a, .int .u32 o2.tg, .int .u8 (o2.p 0), .int .u8 (o2.p 1), .int .u8 (o2.p 2), .int .u8 (o2.p 3), .int .u8 (o2.p 4), .int .u8 (o2.p 5), .int .u8 (o2.p 6), .int .u8 (o2.p 7), .int .u8 (o2.p 8), .int .u8 (o2.p 9), .int .u8 (o2.p 10), .int .u8 (o2.p 11), .int .u8 (o2.p 12), .int .u8 (o2.p 13), .int .u8 (o2.p 14), .int .u8 (o2.p 15), .int .u8 (o2.s 0), .int .u8 (o2.s 1), .int .u8 (o2.s 2), .int .u8 (o2.s 3), .int .u8 (o2.s 4), .int .u8 (o2.s 5), .int .u8 (o2.s 6), .int .u8 (o2.s 7), .int .u8 (o2.s 8), .int .u8 (o2.s 9), .int .u8 (o2.s 10), .int .u8 (o2.s 11), .int .u8 (o2.s 12), .int .u8 (o2.s 13), .int .u8 (o2.s 14), .int .u8 (o2.s 15)]] w (fun x w1 => x = .bool true ∧ Step No w w1) := by
  have hS : Step No w w := Step.refl _ _
  refine CV_enter Try.f6 _ 36 [(0, .agg #[.int .i64 o.k, .int .u8 o.d, .bool o.a, .int .u32 o.tg, .int .u8 (o.p 0), .int .u8 (o.p 1), .int .u8 (o.p 2), .int .u8 (o.p 3), .int .u8 (o.p 4), .int .u8 (o.p 5), .int .u8 (o.p 6), .int .u8 (o.p 7), .int .u8 (o.p 8), .int .u8 (o.p 9), .int .u8 (o.p 10), .int .u8 (o.p 11), .int .u8 (o.p 12), .int .u8 (o.p 13), .int .u8 (o.p 14), .int .u8 (o.p 15), .int .u8 (o.s 0), .int .u8 (o.s 1), .int .u8 (o.s 2), .int .u8 (o.s 3), .int .u8 (o.s 4), .int .u8 (o.s 5), .int .u8 (o.s 6), .int .u8 (o.s 7), .int .u8 (o.s 8), .int .u8 (o.s 9), .int .u8 (o.s 10), .int .u8 (o.s 11), .int .u8 (o.s 12), .int .u8 (o.s 13), .int .u8 (o.s 14), .int .u8 (o.s 15)]), (1, .agg #[.int .i64 o2.k, .int .u8 o2.d, .bool o2.a, .int .u32 o2.tg, .int .u8 (o2.p 0), .int .u8 (o2.p 1), .int .u8 (o2.p 2), .int .u8 (o2.p 3), .int .u8 (o2.p 4), .int .u8 (o2.p 5), .int .u8 (o2.p 6), .int .u8 (o2.p 7), .int .u8 (o2.p 8), .int .u8 (o2.p 9), .int .u8 (o2.p 10), .int .u8 (o2.p 11), .int .u8 (o2.p 12), .int .u8 (o2.p 13), .int .u8 (o2.p 14), .int .u8 (o2.p 15), .int .u8 (o2.s 0), .int .u8 (o2.s 1), .int .u8 (o2.s 2), .int .u8 (o2.s 3), .int .u8 (o2.s 4), .int .u8 (o2.s 5), .int .u8 (o2.s 6), .int .u8 (o2.s 7), .int .u8 (o2.s 8), .int .u8 (o2.s 9), .int .u8 (o2.s 10), .int .u8 (o2.s 11), .int .u8 (o2.s 12), .int .u8 (o2.s 13), .int .u8 (o2.s 14), .int .u8 (o2.s 15)])] Try.func6 rfl rfl (by kernel_rfl) rfl ?_
  refine VC_seq ?_
  refine VC_region ?_
  have hzs1 := hS.size
  refine VL_box (d := 2) (t := 25) (c := #[.int .i64 o.k, .int .u8 o.d, .bool o.a, .int .u32 o.tg, .int .u8 (o.p 0), .int .u8 (o.p 1), .int .u8 (o.p 2), .int .u8 (o.p 3), .int .u8 (o.p 4), .int .u8 (o.p 5), .int .u8 (o.p 6), .int .u8 (o.p 7), .int .u8 (o.p 8), .int .u8 (o.p 9), .int .u8 (o.p 10), .int .u8 (o.p 11), .int .u8 (o.p 12), .int .u8 (o.p 13), .int .u8 (o.p 14), .int .u8 (o.p 15), .int .u8 (o.s 0), .int .u8 (o.s 1), .int .u8 (o.s 2), .int .u8 (o.s 3), .int .u8 (o.s 4), .int .u8 (o.s 5), .int .u8 (o.s 6), .int .u8 (o.s 7), .int .u8 (o.s 8), .int .u8 (o.s 9), .int .u8 (o.s 10), .int .u8 (o.s 11), .int .u8 (o.s 12), .int .u8 (o.s 13), .int .u8 (o.s 14), .int .u8 (o.s 15)]) (by kernel_rfl) (by kernel_rfl) ?_
  intro b1 w1 hn1
  replace hS := Step.trans hS (hn1.step No)
  have ho1 := hn1.own
  have hzhn1 := hn1.size
  have hqhn1 := hn1.eqb
  have hzs2 := hS.size
  have hzl1 := ho1.lt
  refine VL_box (d := 3) (t := 25) (c := #[.int .i64 o2.k, .int .u8 o2.d, .bool o2.a, .int .u32 o2.tg, .int .u8 (o2.p 0), .int .u8 (o2.p 1), .int .u8 (o2.p 2), .int .u8 (o2.p 3), .int .u8 (o2.p 4), .int .u8 (o2.p 5), .int .u8 (o2.p 6), .int .u8 (o2.p 7), .int .u8 (o2.p 8), .int .u8 (o2.p 9), .int .u8 (o2.p 10), .int .u8 (o2.p 11), .int .u8 (o2.p 12), .int .u8 (o2.p 13), .int .u8 (o2.p 14), .int .u8 (o2.p 15), .int .u8 (o2.s 0), .int .u8 (o2.s 1), .int .u8 (o2.s 2), .int .u8 (o2.s 3), .int .u8 (o2.s 4), .int .u8 (o2.s 5), .int .u8 (o2.s 6), .int .u8 (o2.s 7), .int .u8 (o2.s 8), .int .u8 (o2.s 9), .int .u8 (o2.s 10), .int .u8 (o2.s 11), .int .u8 (o2.s 12), .int .u8 (o2.s 13), .int .u8 (o2.s 14), .int .u8 (o2.s 15)]) (by kernel_rfl) (by kernel_rfl) ?_
  intro b2 w2 hn2
  replace hS := Step.trans hS (hn2.step No)
  replace ho1 := ho1.no (hn2.step No)
  have ho2 := hn2.own
  have hzhn2 := hn2.size
  have hqhn2 := hn2.eqb
  refine VL_pure 3 [2, 3] [(2, .pointer (some ⟨b1, 0, none⟩)), (3, .pointer (some ⟨b2, 0, none⟩))] (by kernel_rfl) rfl ?_
  refine VL_end (by kernel_rfl) ?_
  refine VQ_next ?_
  refine VC_seq ?_
  refine VC_seq ?_
  refine VC_region ?_
  have hzs3 := hS.size
  have hzl2 := ho1.lt
  have hzl3 := ho2.lt
  refine VL_call (d := 9) (f := 9) (args := #[]) (by kernel_rfl) (by kernel_rfl) (by kernel_rfl) Try.call9 (awake_any _) ?_
  rintro _ w3 ⟨rfl, hc1⟩
  replace hS := Step.trans hS hc1
  replace ho1 := ho1.no hc1
  replace ho2 := ho2.no hc1
  refine VL_pure 2 [2, 3, 10] [(2, .pointer (some ⟨b1, 0, none⟩)), (3, .pointer (some ⟨b2, 0, none⟩)), (10, .bool false)] (by kernel_rfl) rfl ?_
  refine VL_end (by kernel_rfl) ?_
  refine VQ_next ?_
  refine VC_false (by kernel_rfl) ?_
  refine VC_skip ?_
  refine VQ_next ?_
  refine VC_seq ?_
  refine VC_region ?_
  refine VL_load (d := 12) (t := 25) (a := ⟨b1, 0, none⟩) (v := .agg #[.int .i64 o.k, .int .u8 o.d, .bool o.a, .int .u32 o.tg, .int .u8 (o.p 0), .int .u8 (o.p 1), .int .u8 (o.p 2), .int .u8 (o.p 3), .int .u8 (o.p 4), .int .u8 (o.p 5), .int .u8 (o.p 6), .int .u8 (o.p 7), .int .u8 (o.p 8), .int .u8 (o.p 9), .int .u8 (o.p 10), .int .u8 (o.p 11), .int .u8 (o.p 12), .int .u8 (o.p 13), .int .u8 (o.p 14), .int .u8 (o.p 15), .int .u8 (o.s 0), .int .u8 (o.s 1), .int .u8 (o.s 2), .int .u8 (o.s 3), .int .u8 (o.s 4), .int .u8 (o.s 5), .int .u8 (o.s 6), .int .u8 (o.s 7), .int .u8 (o.s 8), .int .u8 (o.s 9), .int .u8 (o.s 10), .int .u8 (o.s 11), .int .u8 (o.s 12), .int .u8 (o.s 13), .int .u8 (o.s 14), .int .u8 (o.s 15)]) (by kernel_rfl) (by kernel_rfl) (Loads.ownL ho1 (n := 36) (by kernel_rfl) (by kernel_rfl) (by kernel_rfl)) ?_
  have hzs4 := hS.size
  have hzl4 := ho1.lt
  have hzl5 := ho2.lt
  refine VL_call (d := 13) (f := 10) (by kernel_rfl) (by kernel_rfl) (by kernel_rfl) Try.call10 (CV.val (v' := .tuple #[.agg (iA .u8 (packV o)), .int .i64 0]) (pack_any o _) (by rw [packE_yes hr])) ?_
  rintro _ w4 ⟨rfl, hc2⟩
  replace hS := Step.trans hS hc2
  replace ho1 := ho1.no hc2
  replace ho2 := ho2.no hc2
  refine VL_pure 5 [2, 3, 14, 15] [(2, .pointer (some ⟨b1, 0, none⟩)), (3, .pointer (some ⟨b2, 0, none⟩)), (14, .agg (iA .u8 (packV o))), (15, .int .i64 0)] (by kernel_rfl) rfl ?_
  have hzs5 := hS.size
  have hzl6 := ho1.lt
  have hzl7 := ho2.lt
  have hzs6 := hS.size
  have hzl8 := ho1.lt
  have hzl9 := ho2.lt
  refine VL_box (d := 5) (t := 26) (c := iA .u8 (List.replicate 48 0)) (by kernel_rfl) (by kernel_rfl) ?_
  intro b3 w5 hn3
  replace hS := Step.trans hS (hn3.step No)
  replace ho1 := ho1.no (hn3.step No)
  replace ho2 := ho2.no (hn3.step No)
  have ho3 := hn3.own
  have hzhn3 := hn3.size
  have hqhn3 := hn3.eqb
  refine VL_storeA (b := b3) (sz := 48) (k := .u8) (bs := packV o) (by kernel_rfl) (by kernel_rfl) (by first | assumption | exact packV_len _ | exact (sealL_len _).trans (packV_len _) | simp [sealL_len, packV_len, *]) ho3 (iA_size.trans (by (try simp only [List.length_set, List.length_append, List.length_map, List.length_replicate, List.length_cons, List.length_nil, List.length_take, List.length_drop, List.length_range]) <;> omega)) ?_
  intro w6 hw1
  replace hS := Step.transNew hS hw1.step (fun _ _ _ => by omega)
  replace ho1 := ho1.step hw1.step (show ¬ b1 = b3 by omega)
  replace ho2 := ho2.step hw1.step (show ¬ b2 = b3 by omega)
  have ho4 := hw1.own
  have hzhw1 := hw1.same
  refine VL_pure 8 [2, 3, 5, 6] [(2, .pointer (some ⟨b1, 0, none⟩)), (3, .pointer (some ⟨b2, 0, none⟩)), (5, .pointer (some ⟨b3, 0, none⟩)), (6, .int .i64 0)] (by kernel_rfl) rfl ?_
  refine VL_end (by kernel_rfl) ?_
  refine VQ_next ?_
  refine VC_seq ?_
  refine VC_region ?_
  refine VL_load (d := 17) (t := 25) (a := ⟨b2, 0, none⟩) (v := .agg #[.int .i64 o2.k, .int .u8 o2.d, .bool o2.a, .int .u32 o2.tg, .int .u8 (o2.p 0), .int .u8 (o2.p 1), .int .u8 (o2.p 2), .int .u8 (o2.p 3), .int .u8 (o2.p 4), .int .u8 (o2.p 5), .int .u8 (o2.p 6), .int .u8 (o2.p 7), .int .u8 (o2.p 8), .int .u8 (o2.p 9), .int .u8 (o2.p 10), .int .u8 (o2.p 11), .int .u8 (o2.p 12), .int .u8 (o2.p 13), .int .u8 (o2.p 14), .int .u8 (o2.p 15), .int .u8 (o2.s 0), .int .u8 (o2.s 1), .int .u8 (o2.s 2), .int .u8 (o2.s 3), .int .u8 (o2.s 4), .int .u8 (o2.s 5), .int .u8 (o2.s 6), .int .u8 (o2.s 7), .int .u8 (o2.s 8), .int .u8 (o2.s 9), .int .u8 (o2.s 10), .int .u8 (o2.s 11), .int .u8 (o2.s 12), .int .u8 (o2.s 13), .int .u8 (o2.s 14), .int .u8 (o2.s 15)]) (by kernel_rfl) (by kernel_rfl) (Loads.ownL ho2 (n := 36) (by kernel_rfl) (by kernel_rfl) (by kernel_rfl)) ?_
  have hzs7 := hS.size
  have hzl10 := ho1.lt
  have hzl11 := ho2.lt
  have hzl12 := ho4.lt
  refine VL_call (d := 18) (f := 10) (by kernel_rfl) (by kernel_rfl) (by kernel_rfl) Try.call10 (CV.val (v' := .tuple #[.agg (iA .u8 (packV o2)), .int .i64 0]) (pack_any o2 _) (by rw [packE_yes hrB])) ?_
  rintro _ w7 ⟨rfl, hc3⟩
  replace hS := Step.trans hS hc3
  replace ho1 := ho1.no hc3
  replace ho2 := ho2.no hc3
  replace ho4 := ho4.no hc3
  refine VL_pure 5 [2, 3, 5, 6, 19, 20] [(2, .pointer (some ⟨b1, 0, none⟩)), (3, .pointer (some ⟨b2, 0, none⟩)), (5, .pointer (some ⟨b3, 0, none⟩)), (6, .int .i64 0), (19, .agg (iA .u8 (packV o2))), (20, .int .i64 0)] (by kernel_rfl) rfl ?_
  have hzs8 := hS.size
  have hzl13 := ho1.lt
  have hzl14 := ho2.lt
  have hzl15 := ho4.lt
  have hzs9 := hS.size
  have hzl16 := ho1.lt
  have hzl17 := ho2.lt
  have hzl18 := ho4.lt
  refine VL_box (d := 7) (t := 26) (c := iA .u8 (List.replicate 48 0)) (by kernel_rfl) (by kernel_rfl) ?_
  intro b4 w8 hn4
  replace hS := Step.trans hS (hn4.step No)
  replace ho1 := ho1.no (hn4.step No)
  replace ho2 := ho2.no (hn4.step No)
  replace ho4 := ho4.no (hn4.step No)
  have ho5 := hn4.own
  have hzhn4 := hn4.size
  have hqhn4 := hn4.eqb
  refine VL_storeA (b := b4) (sz := 48) (k := .u8) (bs := packV o2) (by kernel_rfl) (by kernel_rfl) (by first | assumption | exact packV_len _ | exact (sealL_len _).trans (packV_len _) | simp [sealL_len, packV_len, *]) ho5 (iA_size.trans (by (try simp only [List.length_set, List.length_append, List.length_map, List.length_replicate, List.length_cons, List.length_nil, List.length_take, List.length_drop, List.length_range]) <;> omega)) ?_
  intro w9 hw2
  replace hS := Step.transNew hS hw2.step (fun _ _ _ => by omega)
  replace ho1 := ho1.step hw2.step (show ¬ b1 = b4 by omega)
  replace ho2 := ho2.step hw2.step (show ¬ b2 = b4 by omega)
  replace ho4 := ho4.step hw2.step (show ¬ b3 = b4 by omega)
  have ho6 := hw2.own
  have hzhw2 := hw2.same
  refine VL_pure 8 [2, 3, 5, 6, 7, 8] [(2, .pointer (some ⟨b1, 0, none⟩)), (3, .pointer (some ⟨b2, 0, none⟩)), (5, .pointer (some ⟨b3, 0, none⟩)), (6, .int .i64 0), (7, .pointer (some ⟨b4, 0, none⟩)), (8, .int .i64 0)] (by kernel_rfl) rfl ?_
  refine VL_end (by kernel_rfl) ?_
  refine VQ_next ?_
  refine VC_seq ?_
  refine VC_det [[], [0], [0, 1], [0, 1, 2], [0, 1, 2, 3], [0, 1, 2, 3, 4], [0, 1, 2, 3, 4, 5], [0, 1, 2, 3, 4, 5, 6], [0, 1, 2, 3, 4, 5, 6], [0, 1, 2, 3, 4, 5, 6, 7, 8], [0, 1, 2, 3, 4, 5, 6], [0, 1, 2, 3, 4, 5, 6], [0, 1, 2, 3, 4, 5, 6, 10, 11], [0, 1, 2, 3, 4, 5, 6, 7, 8, 9, 10, 11, 12], [0, 1, 2, 3, 4, 5, 6, 7, 8, 9, 10, 11, 12, 13], [0, 1, 2, 3, 4, 5, 6, 7, 8, 9, 10, 11, 12, 13, 14]] 13 [.int .i64 0, .bool false, .bool false, .int .i64 0, .bool false, .bool false, .bool false, .agg (iA .u8 (packV o)), .agg (iA .u8 (packV o2)), .bool ((packV o) == (packV o2)), .agg #[.int .i64 o.k, .int .u8 o.d, .bool o.a, .int .u32 o.tg, .int .u8 (o.p 0), .int .u8 (o.p 1), .int .u8 (o.p 2), .int .u8 (o.p 3), .int .u8 (o.p 4), .int .u8 (o.p 5), .int .u8 (o.p 6), .int .u8 (o.p 7), .int .u8 (o.p 8), .int .u8 (o.p 9), .int .u8 (o.p 10), .int .u8 (o.p 11), .int .u8 (o.p 12), .int .u8 (o.p 13), .int .u8 (o.p 14), .int .u8 (o.p 15), .int .u8 (o.s 0), .int .u8 (o.s 1), .int .u8 (o.s 2), .int .u8 (o.s 3), .int .u8 (o.s 4), .int .u8 (o.s 5), .int .u8 (o.s 6), .int .u8 (o.s 7), .int .u8 (o.s 8), .int .u8 (o.s 9), .int .u8 (o.s 10), .int .u8 (o.s 11), .int .u8 (o.s 12), .int .u8 (o.s 13), .int .u8 (o.s 14), .int .u8 (o.s 15)], .agg #[.int .i64 o2.k, .int .u8 o2.d, .bool o2.a, .int .u32 o2.tg, .int .u8 (o2.p 0), .int .u8 (o2.p 1), .int .u8 (o2.p 2), .int .u8 (o2.p 3), .int .u8 (o2.p 4), .int .u8 (o2.p 5), .int .u8 (o2.p 6), .int .u8 (o2.p 7), .int .u8 (o2.p 8), .int .u8 (o2.p 9), .int .u8 (o2.p 10), .int .u8 (o2.p 11), .int .u8 (o2.p 12), .int .u8 (o2.p 13), .int .u8 (o2.p 14), .int .u8 (o2.p 15), .int .u8 (o2.s 0), .int .u8 (o2.s 1), .int .u8 (o2.s 2), .int .u8 (o2.s 3), .int .u8 (o2.s 4), .int .u8 (o2.s 5), .int .u8 (o2.s 6), .int .u8 (o2.s 7), .int .u8 (o2.s 8), .int .u8 (o2.s 9), .int .u8 (o2.s 10), .int .u8 (o2.s 11), .int .u8 (o2.s 12), .int .u8 (o2.s 13), .int .u8 (o2.s 14), .int .u8 (o2.s 15)], .bool (omEq o o2)] [0, 1, 2, 3, 4, 5, 6] [7, 8, 9, 10, 11, 12] (by kernel_rfl) (by kernel_rfl) (by kernel_rfl) (by kernel_rfl) ?_ ?_
  · intro w10 hs1
    replace hS := Step.trans hS hs1
    replace ho1 := ho1.no hs1
    replace ho2 := ho2.no hs1
    replace ho4 := ho4.no hs1
    replace ho6 := ho6.no hs1
    exact ⟨Det1_load (d := 28) (t := 26) (a := ⟨b3, 0, none⟩) (by kernel_rfl) (by kernel_rfl) (Loads.arr (N := 48) ho4 (by kernel_rfl) (by first | assumption | exact packV_len _ | exact (sealL_len _).trans (packV_len _) | simp [sealL_len, packV_len, *])), Det1_load (d := 29) (t := 26) (a := ⟨b4, 0, none⟩) (by kernel_rfl) (by kernel_rfl) (Loads.arr (N := 48) ho6 (by kernel_rfl) (by first | assumption | exact packV_len _ | exact (sealL_len _).trans (packV_len _) | simp [sealL_len, packV_len, *])), Det1_eq (d := 30) (dd := 9) (ls := (rep 48 [.int .u8])) (pos := true) (t := 26) (xs := (iA .u8 (packV o))) (ys := (iA .u8 (packV o2))) (by kernel_rfl) (by kernel_rfl) (by kernel_rfl) (by kernel_rfl) (iA_are (by first | assumption | exact packV_len _ | exact (sealL_len _).trans (packV_len _) | simp [sealL_len, packV_len, *])) (iA_are (by first | assumption | exact packV_len _ | exact (sealL_len _).trans (packV_len _) | simp [sealL_len, packV_len, *])) ((packV o) == (packV o2)) (iA_eq true), Det1_load (d := 31) (t := 25) (a := ⟨b1, 0, none⟩) (by kernel_rfl) (by kernel_rfl) (Loads.ownL ho1 (n := 36) (by kernel_rfl) (by kernel_rfl) (by kernel_rfl)), Det1_load (d := 32) (t := 25) (a := ⟨b2, 0, none⟩) (by kernel_rfl) (by kernel_rfl) (Loads.ownL ho2 (n := 36) (by kernel_rfl) (by kernel_rfl) (by kernel_rfl)), Det1_eq (d := 33) (dd := 9) (ls := ([.int .i64] ++ [.int .u8] ++ [.bool] ++ [.int .u32] ++ (rep 16 [.int .u8]) ++ (rep 16 [.int .u8]) ++ [])) (pos := true) (t := 25) (xs := #[.int .i64 o.k, .int .u8 o.d, .bool o.a, .int .u32 o.tg, .int .u8 (o.p 0), .int .u8 (o.p 1), .int .u8 (o.p 2), .int .u8 (o.p 3), .int .u8 (o.p 4), .int .u8 (o.p 5), .int .u8 (o.p 6), .int .u8 (o.p 7), .int .u8 (o.p 8), .int .u8 (o.p 9), .int .u8 (o.p 10), .int .u8 (o.p 11), .int .u8 (o.p 12), .int .u8 (o.p 13), .int .u8 (o.p 14), .int .u8 (o.p 15), .int .u8 (o.s 0), .int .u8 (o.s 1), .int .u8 (o.s 2), .int .u8 (o.s 3), .int .u8 (o.s 4), .int .u8 (o.s 5), .int .u8 (o.s 6), .int .u8 (o.s 7), .int .u8 (o.s 8), .int .u8 (o.s 9), .int .u8 (o.s 10), .int .u8 (o.s 11), .int .u8 (o.s 12), .int .u8 (o.s 13), .int .u8 (o.s 14), .int .u8 (o.s 15)]) (ys := #[.int .i64 o2.k, .int .u8 o2.d, .bool o2.a, .int .u32 o2.tg, .int .u8 (o2.p 0), .int .u8 (o2.p 1), .int .u8 (o2.p 2), .int .u8 (o2.p 3), .int .u8 (o2.p 4), .int .u8 (o2.p 5), .int .u8 (o2.p 6), .int .u8 (o2.p 7), .int .u8 (o2.p 8), .int .u8 (o2.p 9), .int .u8 (o2.p 10), .int .u8 (o2.p 11), .int .u8 (o2.p 12), .int .u8 (o2.p 13), .int .u8 (o2.p 14), .int .u8 (o2.p 15), .int .u8 (o2.s 0), .int .u8 (o2.s 1), .int .u8 (o2.s 2), .int .u8 (o2.s 3), .int .u8 (o2.s 4), .int .u8 (o2.s 5), .int .u8 (o2.s 6), .int .u8 (o2.s 7), .int .u8 (o2.s 8), .int .u8 (o2.s 9), .int .u8 (o2.s 10), .int .u8 (o2.s 11), .int .u8 (o2.s 12), .int .u8 (o2.s 13), .int .u8 (o2.s 14), .int .u8 (o2.s 15)]) (by kernel_rfl) (by kernel_rfl) (by kernel_rfl) (by kernel_rfl) (by first | exact ⟨⟨_, rfl⟩, ⟨_, rfl⟩, ⟨_, rfl⟩, ⟨_, rfl⟩, ⟨_, rfl⟩, ⟨_, rfl⟩, ⟨_, rfl⟩, ⟨_, rfl⟩, ⟨_, rfl⟩, ⟨_, rfl⟩, ⟨_, rfl⟩, ⟨_, rfl⟩, ⟨_, rfl⟩, ⟨_, rfl⟩, ⟨_, rfl⟩, ⟨_, rfl⟩, ⟨_, rfl⟩, ⟨_, rfl⟩, ⟨_, rfl⟩, ⟨_, rfl⟩, ⟨_, rfl⟩, ⟨_, rfl⟩, ⟨_, rfl⟩, ⟨_, rfl⟩, ⟨_, rfl⟩, ⟨_, rfl⟩, ⟨_, rfl⟩, ⟨_, rfl⟩, ⟨_, rfl⟩, ⟨_, rfl⟩, ⟨_, rfl⟩, ⟨_, rfl⟩, ⟨_, rfl⟩, ⟨_, rfl⟩, ⟨_, rfl⟩, ⟨_, rfl⟩, trivial⟩ | trivial) (by first | exact ⟨⟨_, rfl⟩, ⟨_, rfl⟩, ⟨_, rfl⟩, ⟨_, rfl⟩, ⟨_, rfl⟩, ⟨_, rfl⟩, ⟨_, rfl⟩, ⟨_, rfl⟩, ⟨_, rfl⟩, ⟨_, rfl⟩, ⟨_, rfl⟩, ⟨_, rfl⟩, ⟨_, rfl⟩, ⟨_, rfl⟩, ⟨_, rfl⟩, ⟨_, rfl⟩, ⟨_, rfl⟩, ⟨_, rfl⟩, ⟨_, rfl⟩, ⟨_, rfl⟩, ⟨_, rfl⟩, ⟨_, rfl⟩, ⟨_, rfl⟩, ⟨_, rfl⟩, ⟨_, rfl⟩, ⟨_, rfl⟩, ⟨_, rfl⟩, ⟨_, rfl⟩, ⟨_, rfl⟩, ⟨_, rfl⟩, ⟨_, rfl⟩, ⟨_, rfl⟩, ⟨_, rfl⟩, ⟨_, rfl⟩, ⟨_, rfl⟩, ⟨_, rfl⟩, trivial⟩ | trivial) (omEq o o2) (by rfl), trivial⟩
  intro w10 hs1
  replace hS := Step.trans hS hs1
  replace ho1 := ho1.no hs1
  replace ho2 := ho2.no hs1
  replace ho4 := ho4.no hs1
  replace ho6 := ho6.no hs1
  refine VL_keep [27, 30, 33] [(27, .bool false), (30, .bool ((packV o) == (packV o2))), (33, .bool (omEq o o2))] (by kernel_rfl) ?_
  refine VL_pure 16 [4] [(4, .bool (((packV o) == (packV o2)) == (omEq o o2)))] (by kernel_rfl) rfl ?_
  refine VL_end (by kernel_rfl) ?_
  refine VQ_next ?_
  refine VC_ret ?_
  refine VQ_ret1 (.bool (((packV o) == (packV o2)) == (omEq o o2))) (.inr rfl) rfl rfl ?_
  exact ⟨by first | rfl | exact congrArg Value.bool (apart_eq hoA hoB hr hrB) | simp [*], hS⟩

set_option maxRecDepth 100000 in
set_option maxHeartbeats 4000000 in
theorem apart_10 (o o2 : Om) (w : World) (hoA : OmOk o) (hoB : OmOk o2) (hr : rightO o = true) (hrB : rightO o2 = false) :
    CV Try.prog 6 #[.agg #[.int .i64 o.k, .int .u8 o.d, .bool o.a, .int .u32 o.tg, .int .u8 (o.p 0), .int .u8 (o.p 1), .int .u8 (o.p 2), .int .u8 (o.p 3), .int .u8 (o.p 4), .int .u8 (o.p 5), .int .u8 (o.p 6), .int .u8 (o.p 7), .int .u8 (o.p 8), .int .u8 (o.p 9), .int .u8 (o.p 10), .int .u8 (o.p 11), .int .u8 (o.p 12), .int .u8 (o.p 13), .int .u8 (o.p 14), .int .u8 (o.p 15), .int .u8 (o.s 0), .int .u8 (o.s 1), .int .u8 (o.s 2), .int .u8 (o.s 3), .int .u8 (o.s 4), .int .u8 (o.s 5), .int .u8 (o.s 6), .int .u8 (o.s 7), .int .u8 (o.s 8), .int .u8 (o.s 9), .int .u8 (o.s 10), .int .u8 (o.s 11), .int .u8 (o.s 12), .int .u8 (o.s 13), .int .u8 (o.s 14), .int .u8 (o.s 15)], .agg #[.int .i64 o2.k, .int .u8 o2.d, .bool o2.a, .int .u32 o2.tg, .int .u8 (o2.p 0), .int .u8 (o2.p 1), .int .u8 (o2.p 2), .int .u8 (o2.p 3), .int .u8 (o2.p 4), .int .u8 (o2.p 5), .int .u8 (o2.p 6), .int .u8 (o2.p 7), .int .u8 (o2.p 8), .int .u8 (o2.p 9), .int .u8 (o2.p 10), .int .u8 (o2.p 11), .int .u8 (o2.p 12), .int .u8 (o2.p 13), .int .u8 (o2.p 14), .int .u8 (o2.p 15), .int .u8 (o2.s 0), .int .u8 (o2.s 1), .int .u8 (o2.s 2), .int .u8 (o2.s 3), .int .u8 (o2.s 4), .int .u8 (o2.s 5), .int .u8 (o2.s 6), .int .u8 (o2.s 7), .int .u8 (o2.s 8), .int .u8 (o2.s 9), .int .u8 (o2.s 10), .int .u8 (o2.s 11), .int .u8 (o2.s 12), .int .u8 (o2.s 13), .int .u8 (o2.s 14), .int .u8 (o2.s 15)]] w (fun x w1 => x = .bool true ∧ Step No w w1) := by
  have hS : Step No w w := Step.refl _ _
  refine CV_enter Try.f6 _ 36 [(0, .agg #[.int .i64 o.k, .int .u8 o.d, .bool o.a, .int .u32 o.tg, .int .u8 (o.p 0), .int .u8 (o.p 1), .int .u8 (o.p 2), .int .u8 (o.p 3), .int .u8 (o.p 4), .int .u8 (o.p 5), .int .u8 (o.p 6), .int .u8 (o.p 7), .int .u8 (o.p 8), .int .u8 (o.p 9), .int .u8 (o.p 10), .int .u8 (o.p 11), .int .u8 (o.p 12), .int .u8 (o.p 13), .int .u8 (o.p 14), .int .u8 (o.p 15), .int .u8 (o.s 0), .int .u8 (o.s 1), .int .u8 (o.s 2), .int .u8 (o.s 3), .int .u8 (o.s 4), .int .u8 (o.s 5), .int .u8 (o.s 6), .int .u8 (o.s 7), .int .u8 (o.s 8), .int .u8 (o.s 9), .int .u8 (o.s 10), .int .u8 (o.s 11), .int .u8 (o.s 12), .int .u8 (o.s 13), .int .u8 (o.s 14), .int .u8 (o.s 15)]), (1, .agg #[.int .i64 o2.k, .int .u8 o2.d, .bool o2.a, .int .u32 o2.tg, .int .u8 (o2.p 0), .int .u8 (o2.p 1), .int .u8 (o2.p 2), .int .u8 (o2.p 3), .int .u8 (o2.p 4), .int .u8 (o2.p 5), .int .u8 (o2.p 6), .int .u8 (o2.p 7), .int .u8 (o2.p 8), .int .u8 (o2.p 9), .int .u8 (o2.p 10), .int .u8 (o2.p 11), .int .u8 (o2.p 12), .int .u8 (o2.p 13), .int .u8 (o2.p 14), .int .u8 (o2.p 15), .int .u8 (o2.s 0), .int .u8 (o2.s 1), .int .u8 (o2.s 2), .int .u8 (o2.s 3), .int .u8 (o2.s 4), .int .u8 (o2.s 5), .int .u8 (o2.s 6), .int .u8 (o2.s 7), .int .u8 (o2.s 8), .int .u8 (o2.s 9), .int .u8 (o2.s 10), .int .u8 (o2.s 11), .int .u8 (o2.s 12), .int .u8 (o2.s 13), .int .u8 (o2.s 14), .int .u8 (o2.s 15)])] Try.func6 rfl rfl (by kernel_rfl) rfl ?_
  refine VC_seq ?_
  refine VC_region ?_
  have hzs1 := hS.size
  refine VL_box (d := 2) (t := 25) (c := #[.int .i64 o.k, .int .u8 o.d, .bool o.a, .int .u32 o.tg, .int .u8 (o.p 0), .int .u8 (o.p 1), .int .u8 (o.p 2), .int .u8 (o.p 3), .int .u8 (o.p 4), .int .u8 (o.p 5), .int .u8 (o.p 6), .int .u8 (o.p 7), .int .u8 (o.p 8), .int .u8 (o.p 9), .int .u8 (o.p 10), .int .u8 (o.p 11), .int .u8 (o.p 12), .int .u8 (o.p 13), .int .u8 (o.p 14), .int .u8 (o.p 15), .int .u8 (o.s 0), .int .u8 (o.s 1), .int .u8 (o.s 2), .int .u8 (o.s 3), .int .u8 (o.s 4), .int .u8 (o.s 5), .int .u8 (o.s 6), .int .u8 (o.s 7), .int .u8 (o.s 8), .int .u8 (o.s 9), .int .u8 (o.s 10), .int .u8 (o.s 11), .int .u8 (o.s 12), .int .u8 (o.s 13), .int .u8 (o.s 14), .int .u8 (o.s 15)]) (by kernel_rfl) (by kernel_rfl) ?_
  intro b1 w1 hn1
  replace hS := Step.trans hS (hn1.step No)
  have ho1 := hn1.own
  have hzhn1 := hn1.size
  have hqhn1 := hn1.eqb
  have hzs2 := hS.size
  have hzl1 := ho1.lt
  refine VL_box (d := 3) (t := 25) (c := #[.int .i64 o2.k, .int .u8 o2.d, .bool o2.a, .int .u32 o2.tg, .int .u8 (o2.p 0), .int .u8 (o2.p 1), .int .u8 (o2.p 2), .int .u8 (o2.p 3), .int .u8 (o2.p 4), .int .u8 (o2.p 5), .int .u8 (o2.p 6), .int .u8 (o2.p 7), .int .u8 (o2.p 8), .int .u8 (o2.p 9), .int .u8 (o2.p 10), .int .u8 (o2.p 11), .int .u8 (o2.p 12), .int .u8 (o2.p 13), .int .u8 (o2.p 14), .int .u8 (o2.p 15), .int .u8 (o2.s 0), .int .u8 (o2.s 1), .int .u8 (o2.s 2), .int .u8 (o2.s 3), .int .u8 (o2.s 4), .int .u8 (o2.s 5), .int .u8 (o2.s 6), .int .u8 (o2.s 7), .int .u8 (o2.s 8), .int .u8 (o2.s 9), .int .u8 (o2.s 10), .int .u8 (o2.s 11), .int .u8 (o2.s 12), .int .u8 (o2.s 13), .int .u8 (o2.s 14), .int .u8 (o2.s 15)]) (by kernel_rfl) (by kernel_rfl) ?_
  intro b2 w2 hn2
  replace hS := Step.trans hS (hn2.step No)
  replace ho1 := ho1.no (hn2.step No)
  have ho2 := hn2.own
  have hzhn2 := hn2.size
  have hqhn2 := hn2.eqb
  refine VL_pure 3 [2, 3] [(2, .pointer (some ⟨b1, 0, none⟩)), (3, .pointer (some ⟨b2, 0, none⟩))] (by kernel_rfl) rfl ?_
  refine VL_end (by kernel_rfl) ?_
  refine VQ_next ?_
  refine VC_seq ?_
  refine VC_seq ?_
  refine VC_region ?_
  have hzs3 := hS.size
  have hzl2 := ho1.lt
  have hzl3 := ho2.lt
  refine VL_call (d := 9) (f := 9) (args := #[]) (by kernel_rfl) (by kernel_rfl) (by kernel_rfl) Try.call9 (awake_any _) ?_
  rintro _ w3 ⟨rfl, hc1⟩
  replace hS := Step.trans hS hc1
  replace ho1 := ho1.no hc1
  replace ho2 := ho2.no hc1
  refine VL_pure 2 [2, 3, 10] [(2, .pointer (some ⟨b1, 0, none⟩)), (3, .pointer (some ⟨b2, 0, none⟩)), (10, .bool false)] (by kernel_rfl) rfl ?_
  refine VL_end (by kernel_rfl) ?_
  refine VQ_next ?_
  refine VC_false (by kernel_rfl) ?_
  refine VC_skip ?_
  refine VQ_next ?_
  refine VC_seq ?_
  refine VC_region ?_
  refine VL_load (d := 12) (t := 25) (a := ⟨b1, 0, none⟩) (v := .agg #[.int .i64 o.k, .int .u8 o.d, .bool o.a, .int .u32 o.tg, .int .u8 (o.p 0), .int .u8 (o.p 1), .int .u8 (o.p 2), .int .u8 (o.p 3), .int .u8 (o.p 4), .int .u8 (o.p 5), .int .u8 (o.p 6), .int .u8 (o.p 7), .int .u8 (o.p 8), .int .u8 (o.p 9), .int .u8 (o.p 10), .int .u8 (o.p 11), .int .u8 (o.p 12), .int .u8 (o.p 13), .int .u8 (o.p 14), .int .u8 (o.p 15), .int .u8 (o.s 0), .int .u8 (o.s 1), .int .u8 (o.s 2), .int .u8 (o.s 3), .int .u8 (o.s 4), .int .u8 (o.s 5), .int .u8 (o.s 6), .int .u8 (o.s 7), .int .u8 (o.s 8), .int .u8 (o.s 9), .int .u8 (o.s 10), .int .u8 (o.s 11), .int .u8 (o.s 12), .int .u8 (o.s 13), .int .u8 (o.s 14), .int .u8 (o.s 15)]) (by kernel_rfl) (by kernel_rfl) (Loads.ownL ho1 (n := 36) (by kernel_rfl) (by kernel_rfl) (by kernel_rfl)) ?_
  have hzs4 := hS.size
  have hzl4 := ho1.lt
  have hzl5 := ho2.lt
  refine VL_call (d := 13) (f := 10) (by kernel_rfl) (by kernel_rfl) (by kernel_rfl) Try.call10 (CV.val (v' := .tuple #[.agg (iA .u8 (packV o)), .int .i64 0]) (pack_any o _) (by rw [packE_yes hr])) ?_
  rintro _ w4 ⟨rfl, hc2⟩
  replace hS := Step.trans hS hc2
  replace ho1 := ho1.no hc2
  replace ho2 := ho2.no hc2
  refine VL_pure 5 [2, 3, 14, 15] [(2, .pointer (some ⟨b1, 0, none⟩)), (3, .pointer (some ⟨b2, 0, none⟩)), (14, .agg (iA .u8 (packV o))), (15, .int .i64 0)] (by kernel_rfl) rfl ?_
  have hzs5 := hS.size
  have hzl6 := ho1.lt
  have hzl7 := ho2.lt
  have hzs6 := hS.size
  have hzl8 := ho1.lt
  have hzl9 := ho2.lt
  refine VL_box (d := 5) (t := 26) (c := iA .u8 (List.replicate 48 0)) (by kernel_rfl) (by kernel_rfl) ?_
  intro b3 w5 hn3
  replace hS := Step.trans hS (hn3.step No)
  replace ho1 := ho1.no (hn3.step No)
  replace ho2 := ho2.no (hn3.step No)
  have ho3 := hn3.own
  have hzhn3 := hn3.size
  have hqhn3 := hn3.eqb
  refine VL_storeA (b := b3) (sz := 48) (k := .u8) (bs := packV o) (by kernel_rfl) (by kernel_rfl) (by first | assumption | exact packV_len _ | exact (sealL_len _).trans (packV_len _) | simp [sealL_len, packV_len, *]) ho3 (iA_size.trans (by (try simp only [List.length_set, List.length_append, List.length_map, List.length_replicate, List.length_cons, List.length_nil, List.length_take, List.length_drop, List.length_range]) <;> omega)) ?_
  intro w6 hw1
  replace hS := Step.transNew hS hw1.step (fun _ _ _ => by omega)
  replace ho1 := ho1.step hw1.step (show ¬ b1 = b3 by omega)
  replace ho2 := ho2.step hw1.step (show ¬ b2 = b3 by omega)
  have ho4 := hw1.own
  have hzhw1 := hw1.same
  refine VL_pure 8 [2, 3, 5, 6] [(2, .pointer (some ⟨b1, 0, none⟩)), (3, .pointer (some ⟨b2, 0, none⟩)), (5, .pointer (some ⟨b3, 0, none⟩)), (6, .int .i64 0)] (by kernel_rfl) rfl ?_
  refine VL_end (by kernel_rfl) ?_
  refine VQ_next ?_
  refine VC_seq ?_
  refine VC_region ?_
  refine VL_load (d := 17) (t := 25) (a := ⟨b2, 0, none⟩) (v := .agg #[.int .i64 o2.k, .int .u8 o2.d, .bool o2.a, .int .u32 o2.tg, .int .u8 (o2.p 0), .int .u8 (o2.p 1), .int .u8 (o2.p 2), .int .u8 (o2.p 3), .int .u8 (o2.p 4), .int .u8 (o2.p 5), .int .u8 (o2.p 6), .int .u8 (o2.p 7), .int .u8 (o2.p 8), .int .u8 (o2.p 9), .int .u8 (o2.p 10), .int .u8 (o2.p 11), .int .u8 (o2.p 12), .int .u8 (o2.p 13), .int .u8 (o2.p 14), .int .u8 (o2.p 15), .int .u8 (o2.s 0), .int .u8 (o2.s 1), .int .u8 (o2.s 2), .int .u8 (o2.s 3), .int .u8 (o2.s 4), .int .u8 (o2.s 5), .int .u8 (o2.s 6), .int .u8 (o2.s 7), .int .u8 (o2.s 8), .int .u8 (o2.s 9), .int .u8 (o2.s 10), .int .u8 (o2.s 11), .int .u8 (o2.s 12), .int .u8 (o2.s 13), .int .u8 (o2.s 14), .int .u8 (o2.s 15)]) (by kernel_rfl) (by kernel_rfl) (Loads.ownL ho2 (n := 36) (by kernel_rfl) (by kernel_rfl) (by kernel_rfl)) ?_
  have hzs7 := hS.size
  have hzl10 := ho1.lt
  have hzl11 := ho2.lt
  have hzl12 := ho4.lt
  refine VL_call (d := 18) (f := 10) (by kernel_rfl) (by kernel_rfl) (by kernel_rfl) Try.call10 (CV.val (v' := .tuple #[.agg (iA .u8 (List.replicate 48 0)), .int .i64 1]) (pack_any o2 _) (by rw [packE_no hrB, packV_no hrB])) ?_
  rintro _ w7 ⟨rfl, hc3⟩
  replace hS := Step.trans hS hc3
  replace ho1 := ho1.no hc3
  replace ho2 := ho2.no hc3
  replace ho4 := ho4.no hc3
  refine VL_pure 5 [2, 3, 5, 6, 19, 20] [(2, .pointer (some ⟨b1, 0, none⟩)), (3, .pointer (some ⟨b2, 0, none⟩)), (5, .pointer (some ⟨b3, 0, none⟩)), (6, .int .i64 0), (19, .agg (iA .u8 (List.replicate 48 0))), (20, .int .i64 1)] (by kernel_rfl) rfl ?_
  have hzs8 := hS.size
  have hzl13 := ho1.lt
  have hzl14 := ho2.lt
  have hzl15 := ho4.lt
  have hzs9 := hS.size
  have hzl16 := ho1.lt
  have hzl17 := ho2.lt
  have hzl18 := ho4.lt
  refine VL_box (d := 7) (t := 26) (c := iA .u8 (List.replicate 48 0)) (by kernel_rfl) (by kernel_rfl) ?_
  intro b4 w8 hn4
  replace hS := Step.trans hS (hn4.step No)
  replace ho1 := ho1.no (hn4.step No)
  replace ho2 := ho2.no (hn4.step No)
  replace ho4 := ho4.no (hn4.step No)
  have ho5 := hn4.own
  have hzhn4 := hn4.size
  have hqhn4 := hn4.eqb
  refine VL_storeA (b := b4) (sz := 48) (k := .u8) (bs := List.replicate 48 0) (by kernel_rfl) (by kernel_rfl) (by first | assumption | exact packV_len _ | exact (sealL_len _).trans (packV_len _) | simp [sealL_len, packV_len, *]) ho5 (iA_size.trans (by (try simp only [List.length_set, List.length_append, List.length_map, List.length_replicate, List.length_cons, List.length_nil, List.length_take, List.length_drop, List.length_range]) <;> omega)) ?_
  intro w9 hw2
  replace hS := Step.transNew hS hw2.step (fun _ _ _ => by omega)
  replace ho1 := ho1.step hw2.step (show ¬ b1 = b4 by omega)
  replace ho2 := ho2.step hw2.step (show ¬ b2 = b4 by omega)
  replace ho4 := ho4.step hw2.step (show ¬ b3 = b4 by omega)
  have ho6 := hw2.own
  have hzhw2 := hw2.same
  refine VL_pure 8 [2, 3, 5, 6, 7, 8] [(2, .pointer (some ⟨b1, 0, none⟩)), (3, .pointer (some ⟨b2, 0, none⟩)), (5, .pointer (some ⟨b3, 0, none⟩)), (6, .int .i64 0), (7, .pointer (some ⟨b4, 0, none⟩)), (8, .int .i64 1)] (by kernel_rfl) rfl ?_
  refine VL_end (by kernel_rfl) ?_
  refine VQ_next ?_
  refine VC_seq ?_
  refine VC_det [[], [0], [0, 1], [0, 1, 2], [0, 1, 2, 3], [0, 1, 2, 3, 4], [0, 1, 2, 3, 4, 5], [0, 1, 2, 3, 4, 5, 6], [0, 1, 2, 3, 4, 5, 6], [0, 1, 2, 3, 4, 5, 6, 7, 8], [0, 1, 2, 3, 4, 5, 6], [0, 1, 2, 3, 4, 5, 6], [0, 1, 2, 3, 4, 5, 6, 10, 11], [0, 1, 2, 3, 4, 5, 6, 7, 8, 9, 10, 11, 12], [0, 1, 2, 3, 4, 5, 6, 7, 8, 9, 10, 11, 12, 13], [0, 1, 2, 3, 4, 5, 6, 7, 8, 9, 10, 11, 12, 13, 14]] 13 [.int .i64 0, .bool false, .bool false, .int .i64 1, .bool true, .bool true, .bool true, undef, undef, undef, undef, undef, undef] [0, 1, 2, 3, 4, 5, 6, 7, 8, 9, 10, 11, 12] [] (by kernel_rfl) (by kernel_rfl) (by kernel_rfl) (by kernel_rfl) ?_ ?_
  · exact fun _ _ => trivial
  intro w10 hs1
  replace hS := Step.trans hS hs1
  replace ho1 := ho1.no hs1
  replace ho2 := ho2.no hs1
  replace ho4 := ho4.no hs1
  replace ho6 := ho6.no hs1
  refine VL_keep [27, 30, 33] [(27, .bool true), (30, undef), (33, undef)] (by kernel_rfl) ?_
  refine VL_pure 16 [4] [(4, .bool true)] (by kernel_rfl) rfl ?_
  refine VL_end (by kernel_rfl) ?_
  refine VQ_next ?_
  refine VC_ret ?_
  refine VQ_ret1 (.bool true) (.inr rfl) rfl rfl ?_
  exact ⟨by first | rfl | exact congrArg Value.bool (apart_eq hoA hoB hr hrB) | simp [*], hS⟩

set_option maxRecDepth 100000 in
set_option maxHeartbeats 4000000 in
theorem apart_01 (o o2 : Om) (w : World) (hoA : OmOk o) (hoB : OmOk o2) (hr : rightO o = false) (hrB : rightO o2 = true) :
    CV Try.prog 6 #[.agg #[.int .i64 o.k, .int .u8 o.d, .bool o.a, .int .u32 o.tg, .int .u8 (o.p 0), .int .u8 (o.p 1), .int .u8 (o.p 2), .int .u8 (o.p 3), .int .u8 (o.p 4), .int .u8 (o.p 5), .int .u8 (o.p 6), .int .u8 (o.p 7), .int .u8 (o.p 8), .int .u8 (o.p 9), .int .u8 (o.p 10), .int .u8 (o.p 11), .int .u8 (o.p 12), .int .u8 (o.p 13), .int .u8 (o.p 14), .int .u8 (o.p 15), .int .u8 (o.s 0), .int .u8 (o.s 1), .int .u8 (o.s 2), .int .u8 (o.s 3), .int .u8 (o.s 4), .int .u8 (o.s 5), .int .u8 (o.s 6), .int .u8 (o.s 7), .int .u8 (o.s 8), .int .u8 (o.s 9), .int .u8 (o.s 10), .int .u8 (o.s 11), .int .u8 (o.s 12), .int .u8 (o.s 13), .int .u8 (o.s 14), .int .u8 (o.s 15)], .agg #[.int .i64 o2.k, .int .u8 o2.d, .bool o2.a, .int .u32 o2.tg, .int .u8 (o2.p 0), .int .u8 (o2.p 1), .int .u8 (o2.p 2), .int .u8 (o2.p 3), .int .u8 (o2.p 4), .int .u8 (o2.p 5), .int .u8 (o2.p 6), .int .u8 (o2.p 7), .int .u8 (o2.p 8), .int .u8 (o2.p 9), .int .u8 (o2.p 10), .int .u8 (o2.p 11), .int .u8 (o2.p 12), .int .u8 (o2.p 13), .int .u8 (o2.p 14), .int .u8 (o2.p 15), .int .u8 (o2.s 0), .int .u8 (o2.s 1), .int .u8 (o2.s 2), .int .u8 (o2.s 3), .int .u8 (o2.s 4), .int .u8 (o2.s 5), .int .u8 (o2.s 6), .int .u8 (o2.s 7), .int .u8 (o2.s 8), .int .u8 (o2.s 9), .int .u8 (o2.s 10), .int .u8 (o2.s 11), .int .u8 (o2.s 12), .int .u8 (o2.s 13), .int .u8 (o2.s 14), .int .u8 (o2.s 15)]] w (fun x w1 => x = .bool true ∧ Step No w w1) := by
  have hS : Step No w w := Step.refl _ _
  refine CV_enter Try.f6 _ 36 [(0, .agg #[.int .i64 o.k, .int .u8 o.d, .bool o.a, .int .u32 o.tg, .int .u8 (o.p 0), .int .u8 (o.p 1), .int .u8 (o.p 2), .int .u8 (o.p 3), .int .u8 (o.p 4), .int .u8 (o.p 5), .int .u8 (o.p 6), .int .u8 (o.p 7), .int .u8 (o.p 8), .int .u8 (o.p 9), .int .u8 (o.p 10), .int .u8 (o.p 11), .int .u8 (o.p 12), .int .u8 (o.p 13), .int .u8 (o.p 14), .int .u8 (o.p 15), .int .u8 (o.s 0), .int .u8 (o.s 1), .int .u8 (o.s 2), .int .u8 (o.s 3), .int .u8 (o.s 4), .int .u8 (o.s 5), .int .u8 (o.s 6), .int .u8 (o.s 7), .int .u8 (o.s 8), .int .u8 (o.s 9), .int .u8 (o.s 10), .int .u8 (o.s 11), .int .u8 (o.s 12), .int .u8 (o.s 13), .int .u8 (o.s 14), .int .u8 (o.s 15)]), (1, .agg #[.int .i64 o2.k, .int .u8 o2.d, .bool o2.a, .int .u32 o2.tg, .int .u8 (o2.p 0), .int .u8 (o2.p 1), .int .u8 (o2.p 2), .int .u8 (o2.p 3), .int .u8 (o2.p 4), .int .u8 (o2.p 5), .int .u8 (o2.p 6), .int .u8 (o2.p 7), .int .u8 (o2.p 8), .int .u8 (o2.p 9), .int .u8 (o2.p 10), .int .u8 (o2.p 11), .int .u8 (o2.p 12), .int .u8 (o2.p 13), .int .u8 (o2.p 14), .int .u8 (o2.p 15), .int .u8 (o2.s 0), .int .u8 (o2.s 1), .int .u8 (o2.s 2), .int .u8 (o2.s 3), .int .u8 (o2.s 4), .int .u8 (o2.s 5), .int .u8 (o2.s 6), .int .u8 (o2.s 7), .int .u8 (o2.s 8), .int .u8 (o2.s 9), .int .u8 (o2.s 10), .int .u8 (o2.s 11), .int .u8 (o2.s 12), .int .u8 (o2.s 13), .int .u8 (o2.s 14), .int .u8 (o2.s 15)])] Try.func6 rfl rfl (by kernel_rfl) rfl ?_
  refine VC_seq ?_
  refine VC_region ?_
  have hzs1 := hS.size
  refine VL_box (d := 2) (t := 25) (c := #[.int .i64 o.k, .int .u8 o.d, .bool o.a, .int .u32 o.tg, .int .u8 (o.p 0), .int .u8 (o.p 1), .int .u8 (o.p 2), .int .u8 (o.p 3), .int .u8 (o.p 4), .int .u8 (o.p 5), .int .u8 (o.p 6), .int .u8 (o.p 7), .int .u8 (o.p 8), .int .u8 (o.p 9), .int .u8 (o.p 10), .int .u8 (o.p 11), .int .u8 (o.p 12), .int .u8 (o.p 13), .int .u8 (o.p 14), .int .u8 (o.p 15), .int .u8 (o.s 0), .int .u8 (o.s 1), .int .u8 (o.s 2), .int .u8 (o.s 3), .int .u8 (o.s 4), .int .u8 (o.s 5), .int .u8 (o.s 6), .int .u8 (o.s 7), .int .u8 (o.s 8), .int .u8 (o.s 9), .int .u8 (o.s 10), .int .u8 (o.s 11), .int .u8 (o.s 12), .int .u8 (o.s 13), .int .u8 (o.s 14), .int .u8 (o.s 15)]) (by kernel_rfl) (by kernel_rfl) ?_
  intro b1 w1 hn1
  replace hS := Step.trans hS (hn1.step No)
  have ho1 := hn1.own
  have hzhn1 := hn1.size
  have hqhn1 := hn1.eqb
  have hzs2 := hS.size
  have hzl1 := ho1.lt
  refine VL_box (d := 3) (t := 25) (c := #[.int .i64 o2.k, .int .u8 o2.d, .bool o2.a, .int .u32 o2.tg, .int .u8 (o2.p 0), .int .u8 (o2.p 1), .int .u8 (o2.p 2), .int .u8 (o2.p 3), .int .u8 (o2.p 4), .int .u8 (o2.p 5), .int .u8 (o2.p 6), .int .u8 (o2.p 7), .int .u8 (o2.p 8), .int .u8 (o2.p 9), .int .u8 (o2.p 10), .int .u8 (o2.p 11), .int .u8 (o2.p 12), .int .u8 (o2.p 13), .int .u8 (o2.p 14), .int .u8 (o2.p 15), .int .u8 (o2.s 0), .int .u8 (o2.s 1), .int .u8 (o2.s 2), .int .u8 (o2.s 3), .int .u8 (o2.s 4), .int .u8 (o2.s 5), .int .u8 (o2.s 6), .int .u8 (o2.s 7), .int .u8 (o2.s 8), .int .u8 (o2.s 9), .int .u8 (o2.s 10), .int .u8 (o2.s 11), .int .u8 (o2.s 12), .int .u8 (o2.s 13), .int .u8 (o2.s 14), .int .u8 (o2.s 15)]) (by kernel_rfl) (by kernel_rfl) ?_
  intro b2 w2 hn2
  replace hS := Step.trans hS (hn2.step No)
  replace ho1 := ho1.no (hn2.step No)
  have ho2 := hn2.own
  have hzhn2 := hn2.size
  have hqhn2 := hn2.eqb
  refine VL_pure 3 [2, 3] [(2, .pointer (some ⟨b1, 0, none⟩)), (3, .pointer (some ⟨b2, 0, none⟩))] (by kernel_rfl) rfl ?_
  refine VL_end (by kernel_rfl) ?_
  refine VQ_next ?_
  refine VC_seq ?_
  refine VC_seq ?_
  refine VC_region ?_
  have hzs3 := hS.size
  have hzl2 := ho1.lt
  have hzl3 := ho2.lt
  refine VL_call (d := 9) (f := 9) (args := #[]) (by kernel_rfl) (by kernel_rfl) (by kernel_rfl) Try.call9 (awake_any _) ?_
  rintro _ w3 ⟨rfl, hc1⟩
  replace hS := Step.trans hS hc1
  replace ho1 := ho1.no hc1
  replace ho2 := ho2.no hc1
  refine VL_pure 2 [2, 3, 10] [(2, .pointer (some ⟨b1, 0, none⟩)), (3, .pointer (some ⟨b2, 0, none⟩)), (10, .bool false)] (by kernel_rfl) rfl ?_
  refine VL_end (by kernel_rfl) ?_
  refine VQ_next ?_
  refine VC_false (by kernel_rfl) ?_
  refine VC_skip ?_
  refine VQ_next ?_
  refine VC_seq ?_
  refine VC_region ?_
  refine VL_load (d := 12) (t := 25) (a := ⟨b1, 0, none⟩) (v := .agg #[.int .i64 o.k, .int .u8 o.d, .bool o.a, .int .u32 o.tg, .int .u8 (o.p 0), .int .u8 (o.p 1), .int .u8 (o.p 2), .int .u8 (o.p 3), .int .u8 (o.p 4), .int .u8 (o.p 5), .int .u8 (o.p 6), .int .u8 (o.p 7), .int .u8 (o.p 8), .int .u8 (o.p 9), .int .u8 (o.p 10), .int .u8 (o.p 11), .int .u8 (o.p 12), .int .u8 (o.p 13), .int .u8 (o.p 14), .int .u8 (o.p 15), .int .u8 (o.s 0), .int .u8 (o.s 1), .int .u8 (o.s 2), .int .u8 (o.s 3), .int .u8 (o.s 4), .int .u8 (o.s 5), .int .u8 (o.s 6), .int .u8 (o.s 7), .int .u8 (o.s 8), .int .u8 (o.s 9), .int .u8 (o.s 10), .int .u8 (o.s 11), .int .u8 (o.s 12), .int .u8 (o.s 13), .int .u8 (o.s 14), .int .u8 (o.s 15)]) (by kernel_rfl) (by kernel_rfl) (Loads.ownL ho1 (n := 36) (by kernel_rfl) (by kernel_rfl) (by kernel_rfl)) ?_
  have hzs4 := hS.size
  have hzl4 := ho1.lt
  have hzl5 := ho2.lt
  refine VL_call (d := 13) (f := 10) (by kernel_rfl) (by kernel_rfl) (by kernel_rfl) Try.call10 (CV.val (v' := .tuple #[.agg (iA .u8 (List.replicate 48 0)), .int .i64 1]) (pack_any o _) (by rw [packE_no hr, packV_no hr])) ?_
  rintro _ w4 ⟨rfl, hc2⟩
  replace hS := Step.trans hS hc2
  replace ho1 := ho1.no hc2
  replace ho2 := ho2.no hc2
  refine VL_pure 5 [2, 3, 14, 15] [(2, .pointer (some ⟨b1, 0, none⟩)), (3, .pointer (some ⟨b2, 0, none⟩)), (14, .agg (iA .u8 (List.replicate 48 0))), (15, .int .i64 1)] (by kernel_rfl) rfl ?_
  have hzs5 := hS.size
  have hzl6 := ho1.lt
  have hzl7 := ho2.lt
  have hzs6 := hS.size
  have hzl8 := ho1.lt
  have hzl9 := ho2.lt
  refine VL_box (d := 5) (t := 26) (c := iA .u8 (List.replicate 48 0)) (by kernel_rfl) (by kernel_rfl) ?_
  intro b3 w5 hn3
  replace hS := Step.trans hS (hn3.step No)
  replace ho1 := ho1.no (hn3.step No)
  replace ho2 := ho2.no (hn3.step No)
  have ho3 := hn3.own
  have hzhn3 := hn3.size
  have hqhn3 := hn3.eqb
  refine VL_storeA (b := b3) (sz := 48) (k := .u8) (bs := List.replicate 48 0) (by kernel_rfl) (by kernel_rfl) (by first | assumption | exact packV_len _ | exact (sealL_len _).trans (packV_len _) | simp [sealL_len, packV_len, *]) ho3 (iA_size.trans (by (try simp only [List.length_set, List.length_append, List.length_map, List.length_replicate, List.length_cons, List.length_nil, List.length_take, List.length_drop, List.length_range]) <;> omega)) ?_
  intro w6 hw1
  replace hS := Step.transNew hS hw1.step (fun _ _ _ => by omega)
  replace ho1 := ho1.step hw1.step (show ¬ b1 = b3 by omega)
  replace ho2 := ho2.step hw1.step (show ¬ b2 = b3 by omega)
  have ho4 := hw1.own
  have hzhw1 := hw1.same
  refine VL_pure 8 [2, 3, 5, 6] [(2, .pointer (some ⟨b1, 0, none⟩)), (3, .pointer (some ⟨b2, 0, none⟩)), (5, .pointer (some ⟨b3, 0, none⟩)), (6, .int .i64 1)] (by kernel_rfl) rfl ?_
  refine VL_end (by kernel_rfl) ?_
  refine VQ_next ?_
  refine VC_seq ?_
  refine VC_region ?_
  refine VL_load (d := 17) (t := 25) (a := ⟨b2, 0, none⟩) (v := .agg #[.int .i64 o2.k, .int .u8 o2.d, .bool o2.a, .int .u32 o2.tg, .int .u8 (o2.p 0), .int .u8 (o2.p 1), .int .u8 (o2.p 2), .int .u8 (o2.p 3), .int .u8 (o2.p 4), .int .u8 (o2.p 5), .int .u8 (o2.p 6), .int .u8 (o2.p 7), .int .u8 (o2.p 8), .int .u8 (o2.p 9), .int .u8 (o2.p 10), .int .u8 (o2.p 11), .int .u8 (o2.p 12), .int .u8 (o2.p 13), .int .u8 (o2.p 14), .int .u8 (o2.p 15), .int .u8 (o2.s 0), .int .u8 (o2.s 1), .int .u8 (o2.s 2), .int .u8 (o2.s 3), .int .u8 (o2.s 4), .int .u8 (o2.s 5), .int .u8 (o2.s 6), .int .u8 (o2.s 7), .int .u8 (o2.s 8), .int .u8 (o2.s 9), .int .u8 (o2.s 10), .int .u8 (o2.s 11), .int .u8 (o2.s 12), .int .u8 (o2.s 13), .int .u8 (o2.s 14), .int .u8 (o2.s 15)]) (by kernel_rfl) (by kernel_rfl) (Loads.ownL ho2 (n := 36) (by kernel_rfl) (by kernel_rfl) (by kernel_rfl)) ?_
  have hzs7 := hS.size
  have hzl10 := ho1.lt
  have hzl11 := ho2.lt
  have hzl12 := ho4.lt
  refine VL_call (d := 18) (f := 10) (by kernel_rfl) (by kernel_rfl) (by kernel_rfl) Try.call10 (CV.val (v' := .tuple #[.agg (iA .u8 (packV o2)), .int .i64 0]) (pack_any o2 _) (by rw [packE_yes hrB])) ?_
  rintro _ w7 ⟨rfl, hc3⟩
  replace hS := Step.trans hS hc3
  replace ho1 := ho1.no hc3
  replace ho2 := ho2.no hc3
  replace ho4 := ho4.no hc3
  refine VL_pure 5 [2, 3, 5, 6, 19, 20] [(2, .pointer (some ⟨b1, 0, none⟩)), (3, .pointer (some ⟨b2, 0, none⟩)), (5, .pointer (some ⟨b3, 0, none⟩)), (6, .int .i64 1), (19, .agg (iA .u8 (packV o2))), (20, .int .i64 0)] (by kernel_rfl) rfl ?_
  have hzs8 := hS.size
  have hzl13 := ho1.lt
  have hzl14 := ho2.lt
  have hzl15 := ho4.lt
  have hzs9 := hS.size
  have hzl16 := ho1.lt
  have hzl17 := ho2.lt
  have hzl18 := ho4.lt
  refine VL_box (d := 7) (t := 26) (c := iA .u8 (List.replicate 48 0)) (by kernel_rfl) (by kernel_rfl) ?_
  intro b4 w8 hn4
  replace hS := Step.trans hS (hn4.step No)
  replace ho1 := ho1.no (hn4.step No)
  replace ho2 := ho2.no (hn4.step No)
  replace ho4 := ho4.no (hn4.step No)
  have ho5 := hn4.own
  have hzhn4 := hn4.size
  have hqhn4 := hn4.eqb
  refine VL_storeA (b := b4) (sz := 48) (k := .u8) (bs := packV o2) (by kernel_rfl) (by kernel_rfl) (by first | assumption | exact packV_len _ | exact (sealL_len _).trans (packV_len _) | simp [sealL_len, packV_len, *]) ho5 (iA_size.trans (by (try simp only [List.length_set, List.length_append, List.length_map, List.length_replicate, List.length_cons, List.length_nil, List.length_take, List.length_drop, List.length_range]) <;> omega)) ?_
  intro w9 hw2
  replace hS := Step.transNew hS hw2.step (fun _ _ _ => by omega)
  replace ho1 := ho1.step hw2.step (show ¬ b1 = b4 by omega)
  replace ho2 := ho2.step hw2.step (show ¬ b2 = b4 by omega)
  replace ho4 := ho4.step hw2.step (show ¬ b3 = b4 by omega)
  have ho6 := hw2.own
  have hzhw2 := hw2.same
  refine VL_pure 8 [2, 3, 5, 6, 7, 8] [(2, .pointer (some ⟨b1, 0, none⟩)), (3, .pointer (some ⟨b2, 0, none⟩)), (5, .pointer (some ⟨b3, 0, none⟩)), (6, .int .i64 1), (7, .pointer (some ⟨b4, 0, none⟩)), (8, .int .i64 0)] (by kernel_rfl) rfl ?_
  refine VL_end (by kernel_rfl) ?_
  refine VQ_next ?_
  refine VC_seq ?_
  refine VC_det [[], [0], [0, 1], [0, 1, 2], [0, 1, 2, 3], [0, 1, 2, 3, 4], [0, 1, 2, 3, 4, 5], [0, 1, 2, 3, 4, 5, 6], [0, 1, 2, 3, 4, 5, 6], [0, 1, 2, 3, 4, 5, 6, 7, 8], [0, 1, 2, 3, 4, 5, 6], [0, 1, 2, 3, 4, 5, 6], [0, 1, 2, 3, 4, 5, 6, 10, 11], [0, 1, 2, 3, 4, 5, 6, 7, 8, 9, 10, 11, 12], [0, 1, 2, 3, 4, 5, 6, 7, 8, 9, 10, 11, 12, 13], [0, 1, 2, 3, 4, 5, 6, 7, 8, 9, 10, 11, 12, 13, 14]] 13 [.int .i64 1, .bool true, .bool true, undef, undef, .bool true, .bool true, undef, undef, undef, undef, undef, undef] [0, 1, 2, 3, 4, 5, 6, 7, 8, 9, 10, 11, 12] [] (by kernel_rfl) (by kernel_rfl) (by kernel_rfl) (by kernel_rfl) ?_ ?_
  · exact fun _ _ => trivial
  intro w10 hs1
  replace hS := Step.trans hS hs1
  replace ho1 := ho1.no hs1
  replace ho2 := ho2.no hs1
  replace ho4 := ho4.no hs1
  replace ho6 := ho6.no hs1
  refine VL_keep [27, 30, 33] [(27, .bool true), (30, undef), (33, undef)] (by kernel_rfl) ?_
  refine VL_pure 16 [4] [(4, .bool true)] (by kernel_rfl) rfl ?_
  refine VL_end (by kernel_rfl) ?_
  refine VQ_next ?_
  refine VC_ret ?_
  refine VQ_ret1 (.bool true) (.inr rfl) rfl rfl ?_
  exact ⟨by first | rfl | exact congrArg Value.bool (apart_eq hoA hoB hr hrB) | simp [*], hS⟩

set_option maxRecDepth 100000 in
set_option maxHeartbeats 4000000 in
theorem apart_00 (o o2 : Om) (w : World) (hoA : OmOk o) (hoB : OmOk o2) (hr : rightO o = false) (hrB : rightO o2 = false) :
    CV Try.prog 6 #[.agg #[.int .i64 o.k, .int .u8 o.d, .bool o.a, .int .u32 o.tg, .int .u8 (o.p 0), .int .u8 (o.p 1), .int .u8 (o.p 2), .int .u8 (o.p 3), .int .u8 (o.p 4), .int .u8 (o.p 5), .int .u8 (o.p 6), .int .u8 (o.p 7), .int .u8 (o.p 8), .int .u8 (o.p 9), .int .u8 (o.p 10), .int .u8 (o.p 11), .int .u8 (o.p 12), .int .u8 (o.p 13), .int .u8 (o.p 14), .int .u8 (o.p 15), .int .u8 (o.s 0), .int .u8 (o.s 1), .int .u8 (o.s 2), .int .u8 (o.s 3), .int .u8 (o.s 4), .int .u8 (o.s 5), .int .u8 (o.s 6), .int .u8 (o.s 7), .int .u8 (o.s 8), .int .u8 (o.s 9), .int .u8 (o.s 10), .int .u8 (o.s 11), .int .u8 (o.s 12), .int .u8 (o.s 13), .int .u8 (o.s 14), .int .u8 (o.s 15)], .agg #[.int .i64 o2.k, .int .u8 o2.d, .bool o2.a, .int .u32 o2.tg, .int .u8 (o2.p 0), .int .u8 (o2.p 1), .int .u8 (o2.p 2), .int .u8 (o2.p 3), .int .u8 (o2.p 4), .int .u8 (o2.p 5), .int .u8 (o2.p 6), .int .u8 (o2.p 7), .int .u8 (o2.p 8), .int .u8 (o2.p 9), .int .u8 (o2.p 10), .int .u8 (o2.p 11), .int .u8 (o2.p 12), .int .u8 (o2.p 13), .int .u8 (o2.p 14), .int .u8 (o2.p 15), .int .u8 (o2.s 0), .int .u8 (o2.s 1), .int .u8 (o2.s 2), .int .u8 (o2.s 3), .int .u8 (o2.s 4), .int .u8 (o2.s 5), .int .u8 (o2.s 6), .int .u8 (o2.s 7), .int .u8 (o2.s 8), .int .u8 (o2.s 9), .int .u8 (o2.s 10), .int .u8 (o2.s 11), .int .u8 (o2.s 12), .int .u8 (o2.s 13), .int .u8 (o2.s 14), .int .u8 (o2.s 15)]] w (fun x w1 => x = .bool true ∧ Step No w w1) := by
  have hS : Step No w w := Step.refl _ _
  refine CV_enter Try.f6 _ 36 [(0, .agg #[.int .i64 o.k, .int .u8 o.d, .bool o.a, .int .u32 o.tg, .int .u8 (o.p 0), .int .u8 (o.p 1), .int .u8 (o.p 2), .int .u8 (o.p 3), .int .u8 (o.p 4), .int .u8 (o.p 5), .int .u8 (o.p 6), .int .u8 (o.p 7), .int .u8 (o.p 8), .int .u8 (o.p 9), .int .u8 (o.p 10), .int .u8 (o.p 11), .int .u8 (o.p 12), .int .u8 (o.p 13), .int .u8 (o.p 14), .int .u8 (o.p 15), .int .u8 (o.s 0), .int .u8 (o.s 1), .int .u8 (o.s 2), .int .u8 (o.s 3), .int .u8 (o.s 4), .int .u8 (o.s 5), .int .u8 (o.s 6), .int .u8 (o.s 7), .int .u8 (o.s 8), .int .u8 (o.s 9), .int .u8 (o.s 10), .int .u8 (o.s 11), .int .u8 (o.s 12), .int .u8 (o.s 13), .int .u8 (o.s 14), .int .u8 (o.s 15)]), (1, .agg #[.int .i64 o2.k, .int .u8 o2.d, .bool o2.a, .int .u32 o2.tg, .int .u8 (o2.p 0), .int .u8 (o2.p 1), .int .u8 (o2.p 2), .int .u8 (o2.p 3), .int .u8 (o2.p 4), .int .u8 (o2.p 5), .int .u8 (o2.p 6), .int .u8 (o2.p 7), .int .u8 (o2.p 8), .int .u8 (o2.p 9), .int .u8 (o2.p 10), .int .u8 (o2.p 11), .int .u8 (o2.p 12), .int .u8 (o2.p 13), .int .u8 (o2.p 14), .int .u8 (o2.p 15), .int .u8 (o2.s 0), .int .u8 (o2.s 1), .int .u8 (o2.s 2), .int .u8 (o2.s 3), .int .u8 (o2.s 4), .int .u8 (o2.s 5), .int .u8 (o2.s 6), .int .u8 (o2.s 7), .int .u8 (o2.s 8), .int .u8 (o2.s 9), .int .u8 (o2.s 10), .int .u8 (o2.s 11), .int .u8 (o2.s 12), .int .u8 (o2.s 13), .int .u8 (o2.s 14), .int .u8 (o2.s 15)])] Try.func6 rfl rfl (by kernel_rfl) rfl ?_
  refine VC_seq ?_
  refine VC_region ?_
  have hzs1 := hS.size
  refine VL_box (d := 2) (t := 25) (c := #[.int .i64 o.k, .int .u8 o.d, .bool o.a, .int .u32 o.tg, .int .u8 (o.p 0), .int .u8 (o.p 1), .int .u8 (o.p 2), .int .u8 (o.p 3), .int .u8 (o.p 4), .int .u8 (o.p 5), .int .u8 (o.p 6), .int .u8 (o.p 7), .int .u8 (o.p 8), .int .u8 (o.p 9), .int .u8 (o.p 10), .int .u8 (o.p 11), .int .u8 (o.p 12), .int .u8 (o.p 13), .int .u8 (o.p 14), .int .u8 (o.p 15), .int .u8 (o.s 0), .int .u8 (o.s 1), .int .u8 (o.s 2), .int .u8 (o.s 3), .int .u8 (o.s 4), .int .u8 (o.s 5), .int .u8 (o.s 6), .int .u8 (o.s 7), .int .u8 (o.s 8), .int .u8 (o.s 9), .int .u8 (o.s 10), .int .u8 (o.s 11), .int .u8 (o.s 12), .int .u8 (o.s 13), .int .u8 (o.s 14), .int .u8 (o.s 15)]) (by kernel_rfl) (by kernel_rfl) ?_
  intro b1 w1 hn1
  replace hS := Step.trans hS (hn1.step No)
  have ho1 := hn1.own
  have hzhn1 := hn1.size
  have hqhn1 := hn1.eqb
  have hzs2 := hS.size
  have hzl1 := ho1.lt
  refine VL_box (d := 3) (t := 25) (c := #[.int .i64 o2.k, .int .u8 o2.d, .bool o2.a, .int .u32 o2.tg, .int .u8 (o2.p 0), .int .u8 (o2.p 1), .int .u8 (o2.p 2), .int .u8 (o2.p 3), .int .u8 (o2.p 4), .int .u8 (o2.p 5), .int .u8 (o2.p 6), .int .u8 (o2.p 7), .int .u8 (o2.p 8), .int .u8 (o2.p 9), .int .u8 (o2.p 10), .int .u8 (o2.p 11), .int .u8 (o2.p 12), .int .u8 (o2.p 13), .int .u8 (o2.p 14), .int .u8 (o2.p 15), .int .u8 (o2.s 0), .int .u8 (o2.s 1), .int .u8 (o2.s 2), .int .u8 (o2.s 3), .int .u8 (o2.s 4), .int .u8 (o2.s 5), .int .u8 (o2.s 6), .int .u8 (o2.s 7), .int .u8 (o2.s 8), .int .u8 (o2.s 9), .int .u8 (o2.s 10), .int .u8 (o2.s 11), .int .u8 (o2.s 12), .int .u8 (o2.s 13), .int .u8 (o2.s 14), .int .u8 (o2.s 15)]) (by kernel_rfl) (by kernel_rfl) ?_
  intro b2 w2 hn2
  replace hS := Step.trans hS (hn2.step No)
  replace ho1 := ho1.no (hn2.step No)
  have ho2 := hn2.own
  have hzhn2 := hn2.size
  have hqhn2 := hn2.eqb
  refine VL_pure 3 [2, 3] [(2, .pointer (some ⟨b1, 0, none⟩)), (3, .pointer (some ⟨b2, 0, none⟩))] (by kernel_rfl) rfl ?_
  refine VL_end (by kernel_rfl) ?_
  refine VQ_next ?_
  refine VC_seq ?_
  refine VC_seq ?_
  refine VC_region ?_
  have hzs3 := hS.size
  have hzl2 := ho1.lt
  have hzl3 := ho2.lt
  refine VL_call (d := 9) (f := 9) (args := #[]) (by kernel_rfl) (by kernel_rfl) (by kernel_rfl) Try.call9 (awake_any _) ?_
  rintro _ w3 ⟨rfl, hc1⟩
  replace hS := Step.trans hS hc1
  replace ho1 := ho1.no hc1
  replace ho2 := ho2.no hc1
  refine VL_pure 2 [2, 3, 10] [(2, .pointer (some ⟨b1, 0, none⟩)), (3, .pointer (some ⟨b2, 0, none⟩)), (10, .bool false)] (by kernel_rfl) rfl ?_
  refine VL_end (by kernel_rfl) ?_
  refine VQ_next ?_
  refine VC_false (by kernel_rfl) ?_
  refine VC_skip ?_
  refine VQ_next ?_
  refine VC_seq ?_
  refine VC_region ?_
  refine VL_load (d := 12) (t := 25) (a := ⟨b1, 0, none⟩) (v := .agg #[.int .i64 o.k, .int .u8 o.d, .bool o.a, .int .u32 o.tg, .int .u8 (o.p 0), .int .u8 (o.p 1), .int .u8 (o.p 2), .int .u8 (o.p 3), .int .u8 (o.p 4), .int .u8 (o.p 5), .int .u8 (o.p 6), .int .u8 (o.p 7), .int .u8 (o.p 8), .int .u8 (o.p 9), .int .u8 (o.p 10), .int .u8 (o.p 11), .int .u8 (o.p 12), .int .u8 (o.p 13), .int .u8 (o.p 14), .int .u8 (o.p 15), .int .u8 (o.s 0), .int .u8 (o.s 1), .int .u8 (o.s 2), .int .u8 (o.s 3), .int .u8 (o.s 4), .int .u8 (o.s 5), .int .u8 (o.s 6), .int .u8 (o.s 7), .int .u8 (o.s 8), .int .u8 (o.s 9), .int .u8 (o.s 10), .int .u8 (o.s 11), .int .u8 (o.s 12), .int .u8 (o.s 13), .int .u8 (o.s 14), .int .u8 (o.s 15)]) (by kernel_rfl) (by kernel_rfl) (Loads.ownL ho1 (n := 36) (by kernel_rfl) (by kernel_rfl) (by kernel_rfl)) ?_
  have hzs4 := hS.size
  have hzl4 := ho1.lt
  have hzl5 := ho2.lt
  refine VL_call (d := 13) (f := 10) (by kernel_rfl) (by kernel_rfl) (by kernel_rfl) Try.call10 (CV.val (v' := .tuple #[.agg (iA .u8 (List.replicate 48 0)), .int .i64 1]) (pack_any o _) (by rw [packE_no hr, packV_no hr])) ?_
  rintro _ w4 ⟨rfl, hc2⟩
  replace hS := Step.trans hS hc2
  replace ho1 := ho1.no hc2
  replace ho2 := ho2.no hc2
  refine VL_pure 5 [2, 3, 14, 15] [(2, .pointer (some ⟨b1, 0, none⟩)), (3, .pointer (some ⟨b2, 0, none⟩)), (14, .agg (iA .u8 (List.replicate 48 0))), (15, .int .i64 1)] (by kernel_rfl) rfl ?_
  have hzs5 := hS.size
  have hzl6 := ho1.lt
  have hzl7 := ho2.lt
  have hzs6 := hS.size
  have hzl8 := ho1.lt
  have hzl9 := ho2.lt
  refine VL_box (d := 5) (t := 26) (c := iA .u8 (List.replicate 48 0)) (by kernel_rfl) (by kernel_rfl) ?_
  intro b3 w5 hn3
  replace hS := Step.trans hS (hn3.step No)
  replace ho1 := ho1.no (hn3.step No)
  replace ho2 := ho2.no (hn3.step No)
  have ho3 := hn3.own
  have hzhn3 := hn3.size
  have hqhn3 := hn3.eqb
  refine VL_storeA (b := b3) (sz := 48) (k := .u8) (bs := List.replicate 48 0) (by kernel_rfl) (by kernel_rfl) (by first | assumption | exact packV_len _ | exact (sealL_len _).trans (packV_len _) | simp [sealL_len, packV_len, *]) ho3 (iA_size.trans (by (try simp only [List.length_set, List.length_append, List.length_map, List.length_replicate, List.length_cons, List.length_nil, List.length_take, List.length_drop, List.length_range]) <;> omega)) ?_
  intro w6 hw1
  replace hS := Step.transNew hS hw1.step (fun _ _ _ => by omega)
  replace ho1 := ho1.step hw1.step (show ¬ b1 = b3 by omega)
  replace ho2 := ho2.step hw1.step (show ¬ b2 = b3 by omega)
  have ho4 := hw1.own
  have hzhw1 := hw1.same
  refine VL_pure 8 [2, 3, 5, 6] [(2, .pointer (some ⟨b1, 0, none⟩)), (3, .pointer (some ⟨b2, 0, none⟩)), (5, .pointer (some ⟨b3, 0, none⟩)), (6, .int .i64 1)] (by kernel_rfl) rfl ?_
  refine VL_end (by kernel_rfl) ?_
  refine VQ_next ?_
  refine VC_seq ?_
  refine VC_region ?_
  refine VL_load (d := 17) (t := 25) (a := ⟨b2, 0, none⟩) (v := .agg #[.int .i64 o2.k, .int .u8 o2.d, .bool o2.a, .int .u32 o2.tg, .int .u8 (o2.p 0), .int .u8 (o2.p 1), .int .u8 (o2.p 2), .int .u8 (o2.p 3), .int .u8 (o2.p 4), .int .u8 (o2.p 5), .int .u8 (o2.p 6), .int .u8 (o2.p 7), .int .u8 (o2.p 8), .int .u8 (o2.p 9), .int .u8 (o2.p 10), .int .u8 (o2.p 11), .int .u8 (o2.p 12), .int .u8 (o2.p 13), .int .u8 (o2.p 14), .int .u8 (o2.p 15), .int .u8 (o2.s 0), .int .u8 (o2.s 1), .int .u8 (o2.s 2), .int .u8 (o2.s 3), .int .u8 (o2.s 4), .int .u8 (o2.s 5), .int .u8 (o2.s 6), .int .u8 (o2.s 7), .int .u8 (o2.s 8), .int .u8 (o2.s 9), .int .u8 (o2.s 10), .int .u8 (o2.s 11), .int .u8 (o2.s 12), .int .u8 (o2.s 13), .int .u8 (o2.s 14), .int .u8 (o2.s 15)]) (by kernel_rfl) (by kernel_rfl) (Loads.ownL ho2 (n := 36) (by kernel_rfl) (by kernel_rfl) (by kernel_rfl)) ?_
  have hzs7 := hS.size
  have hzl10 := ho1.lt
  have hzl11 := ho2.lt
  have hzl12 := ho4.lt
  refine VL_call (d := 18) (f := 10) (by kernel_rfl) (by kernel_rfl) (by kernel_rfl) Try.call10 (CV.val (v' := .tuple #[.agg (iA .u8 (List.replicate 48 0)), .int .i64 1]) (pack_any o2 _) (by rw [packE_no hrB, packV_no hrB])) ?_
  rintro _ w7 ⟨rfl, hc3⟩
  replace hS := Step.trans hS hc3
  replace ho1 := ho1.no hc3
  replace ho2 := ho2.no hc3
  replace ho4 := ho4.no hc3
  refine VL_pure 5 [2, 3, 5, 6, 19, 20] [(2, .pointer (some ⟨b1, 0, none⟩)), (3, .pointer (some ⟨b2, 0, none⟩)), (5, .pointer (some ⟨b3, 0, none⟩)), (6, .int .i64 1), (19, .agg (iA .u8 (List.replicate 48 0))), (20, .int .i64 1)] (by kernel_rfl) rfl ?_
  have hzs8 := hS.size
  have hzl13 := ho1.lt
  have hzl14 := ho2.lt
  have hzl15 := ho4.lt
  have hzs9 := hS.size
  have hzl16 := ho1.lt
  have hzl17 := ho2.lt
  have hzl18 := ho4.lt
  refine VL_box (d := 7) (t := 26) (c := iA .u8 (List.replicate 48 0)) (by kernel_rfl) (by kernel_rfl) ?_
  intro b4 w8 hn4
  replace hS := Step.trans hS (hn4.step No)
  replace ho1 := ho1.no (hn4.step No)
  replace ho2 := ho2.no (hn4.step No)
  replace ho4 := ho4.no (hn4.step No)
  have ho5 := hn4.own
  have hzhn4 := hn4.size
  have hqhn4 := hn4.eqb
  refine VL_storeA (b := b4) (sz := 48) (k := .u8) (bs := List.replicate 48 0) (by kernel_rfl) (by kernel_rfl) (by first | assumption | exact packV_len _ | exact (sealL_len _).trans (packV_len _) | simp [sealL_len, packV_len, *]) ho5 (iA_size.trans (by (try simp only [List.length_set, List.length_append, List.length_map, List.length_replicate, List.length_cons, List.length_nil, List.length_take, List.length_drop, List.length_range]) <;> omega)) ?_
  intro w9 hw2
  replace hS := Step.transNew hS hw2.step (fun _ _ _ => by omega)
  replace ho1 := ho1.step hw2.step (show ¬ b1 = b4 by omega)
  replace ho2 := ho2.step hw2.step (show ¬ b2 = b4 by omega)
  replace ho4 := ho4.step hw2.step (show ¬ b3 = b4 by omega)
  have ho6 := hw2.own
  have hzhw2 := hw2.same
  refine VL_pure 8 [2, 3, 5, 6, 7, 8] [(2, .pointer (some ⟨b1, 0, none⟩)), (3, .pointer (some ⟨b2, 0, none⟩)), (5, .pointer (some ⟨b3, 0, none⟩)), (6, .int .i64 1), (7, .pointer (some ⟨b4, 0, none⟩)), (8, .int .i64 1)] (by kernel_rfl) rfl ?_
  refine VL_end (by kernel_rfl) ?_
  refine VQ_next ?_
  refine VC_seq ?_
  refine VC_det [[], [0], [0, 1], [0, 1, 2], [0, 1, 2, 3], [0, 1, 2, 3, 4], [0, 1, 2, 3, 4, 5], [0, 1, 2, 3, 4, 5, 6], [0, 1, 2, 3, 4, 5, 6], [0, 1, 2, 3, 4, 5, 6, 7, 8], [0, 1, 2, 3, 4, 5, 6], [0, 1, 2, 3, 4, 5, 6], [0, 1, 2, 3, 4, 5, 6, 10, 11], [0, 1, 2, 3, 4, 5, 6, 7, 8, 9, 10, 11, 12], [0, 1, 2, 3, 4, 5, 6, 7, 8, 9, 10, 11, 12, 13], [0, 1, 2, 3, 4, 5, 6, 7, 8, 9, 10, 11, 12, 13, 14]] 13 [.int .i64 1, .bool true, .bool true, undef, undef, .bool true, .bool true, undef, undef, undef, undef, undef, undef] [0, 1, 2, 3, 4, 5, 6, 7, 8, 9, 10, 11, 12] [] (by kernel_rfl) (by kernel_rfl) (by kernel_rfl) (by kernel_rfl) ?_ ?_
  · exact fun _ _ => trivial
  intro w10 hs1
  replace hS := Step.trans hS hs1
  replace ho1 := ho1.no hs1
  replace ho2 := ho2.no hs1
  replace ho4 := ho4.no hs1
  replace ho6 := ho6.no hs1
  refine VL_keep [27, 30, 33] [(27, .bool true), (30, undef), (33, undef)] (by kernel_rfl) ?_
  refine VL_pure 16 [4] [(4, .bool true)] (by kernel_rfl) rfl ?_
  refine VL_end (by kernel_rfl) ?_
  refine VQ_next ?_
  refine VC_ret ?_
  refine VQ_ret1 (.bool true) (.inr rfl) rfl rfl ?_
  exact ⟨by first | rfl | exact congrArg Value.bool (apart_eq hoA hoB hr hrB) | simp [*], hS⟩

end Go.Proofs.Yteipakmfiiccpaa
