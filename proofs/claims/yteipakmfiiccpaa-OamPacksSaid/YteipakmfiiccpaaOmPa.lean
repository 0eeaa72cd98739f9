/- Layer 14: OamPacks. -/
import Derived.Test.YteipakmfiiccpaaProg
import Derived.Test.YteipakmfiiccpaaOm8
import Derived.Test.YteipakmfiiccpaaOm9
set_option linter.unusedVariables false
set_option linter.unusedSimpArgs false
namespace Go.Proofs.Yteipakmfiiccpaa
open Go.Vc Go.RowKit

set_option maxRecDepth 100000 in
set_option maxHeartbeats 4000000 in
theorem packs_yes (o : Om) (bs : List Int) (w : World) (ho : OmOk o) (hn : bs.length = 48) (hb : Bytes bs) (hr : rightO o = true) :
    CV Try.prog 3 #[.agg #[.int .i64 o.k, .int .u8 o.d, .bool o.a, .int .u32 o.tg, .int .u8 (o.p 0), .int .u8 (o.p 1), .int .u8 (o.p 2), .int .u8 (o.p 3), .int .u8 (o.p 4), .int .u8 (o.p 5), .int .u8 (o.p 6), .int .u8 (o.p 7), .int .u8 (o.p 8), .int .u8 (o.p 9), .int .u8 (o.p 10), .int .u8 (o.p 11), .int .u8 (o.p 12), .int .u8 (o.p 13), .int .u8 (o.p 14), .int .u8 (o.p 15), .int .u8 (o.s 0), .int .u8 (o.s 1), .int .u8 (o.s 2), .int .u8 (o.s 3), .int .u8 (o.s 4), .int .u8 (o.s 5), .int .u8 (o.s 6), .int .u8 (o.s 7), .int .u8 (o.s 8), .int .u8 (o.s 9), .int .u8 (o.s 10), .int .u8 (o.s 11), .int .u8 (o.s 12), .int .u8 (o.s 13), .int .u8 (o.s 14), .int .u8 (o.s 15)], .agg (iA .u8 bs)] w (fun x w1 => x = .bool true ∧ Step No w w1) := by
  have hS : Step No w w := Step.refl _ _
  refine CV_enter Try.f3 _ 73 [(0, .agg #[.int .i64 o.k, .int .u8 o.d, .bool o.a, .int .u32 o.tg, .int .u8 (o.p 0), .int .u8 (o.p 1), .int .u8 (o.p 2), .int .u8 (o.p 3), .int .u8 (o.p 4), .int .u8 (o.p 5), .int .u8 (o.p 6), .int .u8 (o.p 7), .int .u8 (o.p 8), .int .u8 (o.p 9), .int .u8 (o.p 10), .int .u8 (o.p 11), .int .u8 (o.p 12), .int .u8 (o.p 13), .int .u8 (o.p 14), .int .u8 (o.p 15), .int .u8 (o.s 0), .int .u8 (o.s 1), .int .u8 (o.s 2), .int .u8 (o.s 3), .int .u8 (o.s 4), .int .u8 (o.s 5), .int .u8 (o.s 6), .int .u8 (o.s 7), .int .u8 (o.s 8), .int .u8 (o.s 9), .int .u8 (o.s 10), .int .u8 (o.s 11), .int .u8 (o.s 12), .int .u8 (o.s 13), .int .u8 (o.s 14), .int .u8 (o.s 15)]), (1, .agg (iA .u8 bs))] Try.func3 rfl rfl (by kernel_rfl) rfl ?_
  refine VC_seq ?_
  refine VC_region ?_
  have hzs1 := hS.size
  refine VL_box (d := 2) (t := 25) (c := #[.int .i64 o.k, .int .u8 o.d, .bool o.a, .int .u32 o.tg, .int .u8 (o.p 0), .int .u8 (o.p 1), .int .u8 (o.p 2), .int .u8 (o.p 3), .int .u8 (o.p 4), .int .u8 (o.p 5), .int .u8 (o.p 6), .int .u8 (o.p 7), .int .u8 (o.p 8), .int .u8 (o.p 9), .int .u8 (o.p 10), .int .u8 (o.p 11), .int .u8 (o.p 12), .int .u8 (o.p 13), .int .u8 (o.p 14), .int .u8 (o.p 15), .int .u8 (o.s 0), .int .u8 (o.s 1), .int .u8 (o.s 2), .int .u8 (o.s 3), .int .u8 (o.s 4), .int .u8 (o.s 5), .int .u8 (o.s 6), .int .u8 (o.s 7), .int .u8 (o.s 8), .int .u8 (o.s 9), .int .u8 (o.s 10), .int .u8 (o.s 11), .int .u8 (o.s 12), .int .u8 (o.s 13), .int .u8 (o.s 14), .int .u8 (o.s 15)]) (by kernel_rfl) (by kernel_rfl) ?_
  intro b1 w1 hn1
  replace hS := Step.trans hS (hn1.step No)
  have ho1 := hn1.own
  have hzhn1 := hn1.size
  have hqhn1 := hn1.eqb
  have hzs2 := hS.size
  have hzl1 := ho1.lt
  have hzs3 := hS.size
  have hzl2 := ho1.lt
  refine VL_box (d := 3) (t := 26) (c := iA .u8 bs) (by kernel_rfl) (by kernel_rfl) ?_
  intro b2 w2 hn2
  replace hS := Step.trans hS (hn2.step No)
  replace ho1 := ho1.no (hn2.step No)
  have ho2 := hn2.own
  have hzhn2 := hn2.size
  have hqhn2 := hn2.eqb
  refine VL_pure 3 [2, 3] [(2, .pointer (some ⟨b1, 0, none⟩)), (3, .pointer (some ⟨b2, 0, none⟩))] (by kernel_rfl) rfl ?_
  refine VL_end (by kernel_rfl) ?_
  refine VQ_next ?_
  refine VC_seq ?_
  refine VC_seq ?_
  refine VC_region ?_
  have hzs4 := hS.size
  have hzl3 := ho1.lt
  have hzl4 := ho2.lt
  refine VL_call (d := 12) (f := 9) (args := #[]) (by kernel_rfl) (by kernel_rfl) (by kernel_rfl) Try.call9 (awake_any _) ?_
  rintro _ w3 ⟨rfl, hc1⟩
  replace hS := Step.trans hS hc1
  replace ho1 := ho1.no hc1
  replace ho2 := ho2.no hc1
  refine VL_pure 2 [2, 3, 13] [(2, .pointer (some ⟨b1, 0, none⟩)), (3, .pointer (some ⟨b2, 0, none⟩)), (13, .bool false)] (by kernel_rfl) rfl ?_
  refine VL_end (by kernel_rfl) ?_
  refine VQ_next ?_
  refine VC_false (by kernel_rfl) ?_
  refine VC_skip ?_
  refine VQ_next ?_
  refine VC_seq ?_
  refine VC_region ?_
  refine VL_load (d := 15) (t := 25) (a := ⟨b1, 0, none⟩) (v := .agg #[.int .i64 o.k, .int .u8 o.d, .bool o.a, .int .u32 o.tg, .int .u8 (o.p 0), .int .u8 (o.p 1), .int .u8 (o.p 2), .int .u8 (o.p 3), .int .u8 (o.p 4), .int .u8 (o.p 5), .int .u8 (o.p 6), .int .u8 (o.p 7), .int .u8 (o.p 8), .int .u8 (o.p 9), .int .u8 (o.p 10), .int .u8 (o.p 11), .int .u8 (o.p 12), .int .u8 (o.p 13), .int .u8 (o.p 14), .int .u8 (o.p 15), .int .u8 (o.s 0), .int .u8 (o.s 1), .int .u8 (o.s 2), .int .u8 (o.s 3), .int .u8 (o.s 4), .int .u8 (o.s 5), .int .u8 (o.s 6), .int .u8 (o.s 7), .int .u8 (o.s 8), .int .u8 (o.s 9), .int .u8 (o.s 10), .int .u8 (o.s 11), .int .u8 (o.s 12), .int .u8 (o.s 13), .int .u8 (o.s 14), .int .u8 (o.s 15)]) (by kernel_rfl) (by kernel_rfl) (Loads.ownL ho1 (n := 36) (by kernel_rfl) (by kernel_rfl) (by kernel_rfl)) ?_
  have hzs5 := hS.size
  have hzl5 := ho1.lt
  have hzl6 := ho2.lt
  refine VL_call (d := 16) (f := 10) (by kernel_rfl) (by kernel_rfl) (by kernel_rfl) Try.call10 (CV.val (v' := .tuple #[.agg (iA .u8 (packV o)), .int .i64 0]) (pack_any o _) (by rw [packE_yes hr])) ?_
  rintro _ w4 ⟨rfl, hc2⟩
  replace hS := Step.trans hS hc2
  replace ho1 := ho1.no hc2
  replace ho2 := ho2.no hc2
  refine VL_pure 5 [2, 3, 17, 18] [(2, .pointer (some ⟨b1, 0, none⟩)), (3, .pointer (some ⟨b2, 0, none⟩)), (17, .agg (iA .u8 (packV o))), (18, .int .i64 0)] (by kernel_rfl) rfl ?_
  have hzs6 := hS.size
  have hzl7 := ho1.lt
  have hzl8 := ho2.lt
  have hzs7 := hS.size
  have hzl9 := ho1.lt
  have hzl10 := ho2.lt
  refine VL_box (d := 5) (t := 26) (c := iA .u8 (List.replicate 48 0)) (by kernel_rfl) (by kernel_rfl) ?_
  intro b3 w5 hn3
  replace hS := Step.trans hS (hn3.step No)
  replace ho1 := ho1.no (hn3.step No)
  replace ho2 := ho2.no (hn3.step No)
  have ho3 := hn3.own
  have hzhn3 := hn3.size
  have hqhn3 := hn3.eqb
  refine VL_storeA (b := b3) (sz := 48) (k := .u8) (bs := packV o) (by kernel_rfl) (by kernel_rfl) (by first | assumption | exact packV_len _ | exact (sealL_len _).trans (packV_len _) | simp [sealL_len, packV_len, *]) ho3 (iA_size.trans (by (try simp only [List.length_set, List.length_append, List.length_map, List.length_replicate, List.length_cons, List.length_nil, List.length_take, List.length_drop, List.length_range]) <;> omega)) ?_
  intro w6 hw1
  replace hS := Step.transNew hS hw1.step (fun _ _ _ => by omega)
  replace ho1 := ho1.step hw1.step (show ¬ b1 = b3 by omega)
  replace ho2 := ho2.step hw1.step (show ¬ b2 = b3 by omega)
  have ho4 := hw1.own
  have hzhw1 := hw1.same
  refine VL_pure 8 [2, 3, 5, 6] [(2, .pointer (some ⟨b1, 0, none⟩)), (3, .pointer (some ⟨b2, 0, none⟩)), (5, .pointer (some ⟨b3, 0, none⟩)), (6, .int .i64 0)] (by kernel_rfl) rfl ?_
  refine VL_end (by kernel_rfl) ?_
  refine VQ_next ?_
  refine VC_seq ?_
  refine VC_region ?_
  refine VL_load (d := 19) (t := 25) (a := ⟨b1, 0, none⟩) (v := .agg #[.int .i64 o.k, .int .u8 o.d, .bool o.a, .int .u32 o.tg, .int .u8 (o.p 0), .int .u8 (o.p 1), .int .u8 (o.p 2), .int .u8 (o.p 3), .int .u8 (o.p 4), .int .u8 (o.p 5), .int .u8 (o.p 6), .int .u8 (o.p 7), .int .u8 (o.p 8), .int .u8 (o.p 9), .int .u8 (o.p 10), .int .u8 (o.p 11), .int .u8 (o.p 12), .int .u8 (o.p 13), .int .u8 (o.p 14), .int .u8 (o.p 15), .int .u8 (o.s 0), .int .u8 (o.s 1), .int .u8 (o.s 2), .int .u8 (o.s 3), .int .u8 (o.s 4), .int .u8 (o.s 5), .int .u8 (o.s 6), .int .u8 (o.s 7), .int .u8 (o.s 8), .int .u8 (o.s 9), .int .u8 (o.s 10), .int .u8 (o.s 11), .int .u8 (o.s 12), .int .u8 (o.s 13), .int .u8 (o.s 14), .int .u8 (o.s 15)]) (by kernel_rfl) (by kernel_rfl) (Loads.ownL ho1 (n := 36) (by kernel_rfl) (by kernel_rfl) (by kernel_rfl)) ?_
  have hzs8 := hS.size
  have hzl11 := ho1.lt
  have hzl12 := ho2.lt
  have hzl13 := ho4.lt
  refine VL_call (d := 20) (f := 11) (by kernel_rfl) (by kernel_rfl) (by kernel_rfl) Try.call11 (rpack_yes o _ hr) ?_
  rintro _ w7 ⟨g1, c1, rfl, hggg1, hr1, hc3⟩
  replace hS := Step.trans hS hc3
  replace ho1 := ho1.no hc3
  replace ho2 := ho2.no hc3
  replace ho4 := ho4.no hc3
  obtain ⟨base1, hbase1E⟩ : ∃ x, x = w6.heap.size := ⟨_, rfl⟩
  rw [← hbase1E] at hr1 hggg1
  have hbase1 : base1 ≤ w7.heap.size := by rw [hbase1E]; exact hc3.size
  have hglg1 : g1 < w7.heap.size := (Rw.openG hr1).choose_spec.2.1
  refine VL_pure 3 [2, 3, 5, 6, 7] [(2, .pointer (some ⟨b1, 0, none⟩)), (3, .pointer (some ⟨b2, 0, none⟩)), (5, .pointer (some ⟨b3, 0, none⟩)), (6, .int .i64 0), (7, .slice (some ⟨g1, 0, none⟩) 48 c1)] (by kernel_rfl) rfl ?_
  refine VL_end (by kernel_rfl) ?_
  refine VQ_next ?_
  refine VC_seq ?_
  refine VC_region ?_
  refine VL_load (d := 22) (t := 26) (a := ⟨b2, 0, none⟩) (v := .agg (iA .u8 bs)) (by kernel_rfl) (by kernel_rfl) (Loads.arr (N := 48) ho2 (by kernel_rfl) (by (try simp only [List.length_set, List.length_append, List.length_map, List.length_replicate, List.length_cons, List.length_nil, List.length_take, List.length_drop, List.length_range]) <;> omega)) ?_
  have hzs9 := hS.size
  have hzl14 := ho1.lt
  have hzl15 := ho2.lt
  have hzl16 := ho4.lt
  refine VL_call (d := 23) (f := 12) (by kernel_rfl) (by kernel_rfl) (by kernel_rfl) Try.call12 (unpack_any bs _ (by first | assumption | exact packV_len _ | exact (sealL_len _).trans (packV_len _) | simp [sealL_len, packV_len, *])) ?_
  rintro _ w8 ⟨rfl, hc4⟩
  replace hS := Step.trans hS hc4
  replace ho1 := ho1.no hc4
  replace ho2 := ho2.no hc4
  replace ho4 := ho4.no hc4
  replace hbase1 := Nat.le_trans hbase1 (hc4).size
  replace hglg1 := Nat.lt_of_lt_of_le hglg1 (hc4).size
  replace hr1 := hr1.no hc4
  refine VL_pure 5 [2, 3, 5, 6, 7, 24, 25] [(2, .pointer (some ⟨b1, 0, none⟩)), (3, .pointer (some ⟨b2, 0, none⟩)), (5, .pointer (some ⟨b3, 0, none⟩)), (6, .int .i64 0), (7, .slice (some ⟨g1, 0, none⟩) 48 c1), (24, .agg #[.int .i64 ((unpV bs).k), .int .u8 ((unpV bs).d), .bool ((unpV bs).a), .int .u32 ((unpV bs).tg), .int .u8 (((unpV bs).p) 0), .int .u8 (((unpV bs).p) 1), .int .u8 (((unpV bs).p) 2), .int .u8 (((unpV bs).p) 3), .int .u8 (((unpV bs).p) 4), .int .u8 (((unpV bs).p) 5), .int .u8 (((unpV bs).p) 6), .int .u8 (((unpV bs).p) 7), .int .u8 (((unpV bs).p) 8), .int .u8 (((unpV bs).p) 9), .int .u8 (((unpV bs).p) 10), .int .u8 (((unpV bs).p) 11), .int .u8 (((unpV bs).p) 12), .int .u8 (((unpV bs).p) 13), .int .u8 (((unpV bs).p) 14), .int .u8 (((unpV bs).p) 15), .int .u8 (((unpV bs).s) 0), .int .u8 (((unpV bs).s) 1), .int .u8 (((unpV bs).s) 2), .int .u8 (((unpV bs).s) 3), .int .u8 (((unpV bs).s) 4), .int .u8 (((unpV bs).s) 5), .int .u8 (((unpV bs).s) 6), .int .u8 (((unpV bs).s) 7), .int .u8 (((unpV bs).s) 8), .int .u8 (((unpV bs).s) 9), .int .u8 (((unpV bs).s) 10), .int .u8 (((unpV bs).s) 11), .int .u8 (((unpV bs).s) 12), .int .u8 (((unpV bs).s) 13), .int .u8 (((unpV bs).s) 14), .int .u8 (((unpV bs).s) 15)]), (25, .int .i64 (unpE bs))] (by kernel_rfl) rfl ?_
  have hzs10 := hS.size
  have hzl17 := ho1.lt
  have hzl18 := ho2.lt
  have hzl19 := ho4.lt
  have hzk1 := hbase1
  have hzk2 := hglg1
  refine VL_box (d := 8) (t := 31) (c := #[.int .i64 0, .int .u8 0, .bool false, .int .u32 0, .int .u8 0, .int .u8 0, .int .u8 0, .int .u8 0, .int .u8 0, .int .u8 0, .int .u8 0, .int .u8 0, .int .u8 0, .int .u8 0, .int .u8 0, .int .u8 0, .int .u8 0, .int .u8 0, .int .u8 0, .int .u8 0, .int .u8 0, .int .u8 0, .int .u8 0, .int .u8 0, .int .u8 0, .int .u8 0, .int .u8 0, .int .u8 0, .int .u8 0, .int .u8 0, .int .u8 0, .int .u8 0, .int .u8 0, .int .u8 0, .int .u8 0, .int .u8 0]) (by kernel_rfl) (by kernel_rfl) ?_
  intro b4 w9 hn4
  replace hS := Step.trans hS (hn4.step No)
  replace ho1 := ho1.no (hn4.step No)
  replace ho2 := ho2.no (hn4.step No)
  replace ho4 := ho4.no (hn4.step No)
  replace hbase1 := Nat.le_trans hbase1 (hn4.step No).size
  replace hglg1 := Nat.lt_of_lt_of_le hglg1 (hn4.step No).size
  replace hr1 := hr1.no (hn4.step No)
  have ho5 := hn4.own
  have hzhn4 := hn4.size
  have hqhn4 := hn4.eqb
  refine VL_store (b := b4) (o := 0) (vs := [.int .i64 ((unpV bs).k), .int .u8 ((unpV bs).d), .bool ((unpV bs).a), .int .u32 ((unpV bs).tg), .int .u8 (((unpV bs).p) 0), .int .u8 (((unpV bs).p) 1), .int .u8 (((unpV bs).p) 2), .int .u8 (((unpV bs).p) 3), .int .u8 (((unpV bs).p) 4), .int .u8 (((unpV bs).p) 5), .int .u8 (((unpV bs).p) 6), .int .u8 (((unpV bs).p) 7), .int .u8 (((unpV bs).p) 8), .int .u8 (((unpV bs).p) 9), .int .u8 (((unpV bs).p) 10), .int .u8 (((unpV bs).p) 11), .int .u8 (((unpV bs).p) 12), .int .u8 (((unpV bs).p) 13), .int .u8 (((unpV bs).p) 14), .int .u8 (((unpV bs).p) 15), .int .u8 (((unpV bs).s) 0), .int .u8 (((unpV bs).s) 1), .int .u8 (((unpV bs).s) 2), .int .u8 (((unpV bs).s) 3), .int .u8 (((unpV bs).s) 4), .int .u8 (((unpV bs).s) 5), .int .u8 (((unpV bs).s) 6), .int .u8 (((unpV bs).s) 7), .int .u8 (((unpV bs).s) 8), .int .u8 (((unpV bs).s) 9), .int .u8 (((unpV bs).s) 10), .int .u8 (((unpV bs).s) 11), .int .u8 (((unpV bs).s) 12), .int .u8 (((unpV bs).s) 13), .int .u8 (((unpV bs).s) 14), .int .u8 (((unpV bs).s) 15)]) (by kernel_rfl) (by kernel_rfl) ho5 (Nat.le_of_ble_eq_true (by kernel_rfl)) ?_
  intro w10 hw2
  replace hS := Step.transNew hS hw2.step (fun _ _ _ => by omega)
  replace ho1 := ho1.step hw2.step (show ¬ b1 = b4 by omega)
  replace ho2 := ho2.step hw2.step (show ¬ b2 = b4 by omega)
  replace ho4 := ho4.step hw2.step (show ¬ b3 = b4 by omega)
  replace hbase1 := Nat.le_trans hbase1 (hw2.step).size
  replace hglg1 := Nat.lt_of_lt_of_le hglg1 (hw2.step).size
  replace hr1 := hr1.keepG hw2.step (show ¬ g1 = b4 by omega)
  have ho6 : Own w10 b4 #[.int .i64 ((unpV bs).k), .int .u8 ((unpV bs).d), .bool ((unpV bs).a), .int .u32 ((unpV bs).tg), .int .u8 (((unpV bs).p) 0), .int .u8 (((unpV bs).p) 1), .int .u8 (((unpV bs).p) 2), .int .u8 (((unpV bs).p) 3), .int .u8 (((unpV bs).p) 4), .int .u8 (((unpV bs).p) 5), .int .u8 (((unpV bs).p) 6), .int .u8 (((unpV bs).p) 7), .int .u8 (((unpV bs).p) 8), .int .u8 (((unpV bs).p) 9), .int .u8 (((unpV bs).p) 10), .int .u8 (((unpV bs).p) 11), .int .u8 (((unpV bs).p) 12), .int .u8 (((unpV bs).p) 13), .int .u8 (((unpV bs).p) 14), .int .u8 (((unpV bs).p) 15), .int .u8 (((unpV bs).s) 0), .int .u8 (((unpV bs).s) 1), .int .u8 (((unpV bs).s) 2), .int .u8 (((unpV bs).s) 3), .int .u8 (((unpV bs).s) 4), .int .u8 (((unpV bs).s) 5), .int .u8 (((unpV bs).s) 6), .int .u8 (((unpV bs).s) 7), .int .u8 (((unpV bs).s) 8), .int .u8 (((unpV bs).s) 9), .int .u8 (((unpV bs).s) 10), .int .u8 (((unpV bs).s) 11), .int .u8 (((unpV bs).s) 12), .int .u8 (((unpV bs).s) 13), .int .u8 (((unpV bs).s) 14), .int .u8 (((unpV bs).s) 15)] 31 := Own.cast hw2.own (by kernel_rfl)
  have hzhw2 := hw2.same
  refine VL_pure 8 [2, 3, 5, 6, 7, 8, 9] [(2, .pointer (some ⟨b1, 0, none⟩)), (3, .pointer (some ⟨b2, 0, none⟩)), (5, .pointer (some ⟨b3, 0, none⟩)), (6, .int .i64 0), (7, .slice (some ⟨g1, 0, none⟩) 48 c1), (8, .pointer (some ⟨b4, 0, none⟩)), (9, .int .i64 (unpE bs))] (by kernel_rfl) rfl ?_
  refine VL_end (by kernel_rfl) ?_
  refine VQ_next ?_
  refine VC_seq ?_
  refine VC_region ?_
  refine VL_pure 1 [2, 5, 6, 7, 8, 9, 27] [(2, .pointer (some ⟨b1, 0, none⟩)), (5, .pointer (some ⟨b3, 0, none⟩)), (6, .int .i64 0), (7, .slice (some ⟨g1, 0, none⟩) 48 c1), (8, .pointer (some ⟨b4, 0, none⟩)), (9, .int .i64 (unpE bs)), (27, .slice (some ⟨b2, 0, none⟩) 48 48)] (by kernel_rfl) rfl ?_
  have hzs11 := hS.size
  have hzl20 := ho1.lt
  have hzl21 := ho2.lt
  have hzl22 := ho4.lt
  have hzl23 := ho6.lt
  refine VL_call (d := 28) (f := 13) (by kernel_rfl) (by kernel_rfl) (by kernel_rfl) Try.call13 (CV.val (v' := .tuple #[.agg (omL (unpV bs)).toArray, .int .i64 (unpE bs)]) (runpack48_any (some ⟨b2, 0, none⟩) 48 _ bs _ (by (try simp only [List.length_set, List.length_append, List.length_map, List.length_replicate, List.length_cons, List.length_nil, List.length_take, List.length_drop, List.length_range]) <;> omega) (Own.slI ho2 ho2.lt) (by first | exact Nat.le_refl _ | omega) (by omega)) (by rw [(unp_eq hb (by first | assumption | exact packV_len _ | exact (sealL_len _).trans (packV_len _) | simp [sealL_len, packV_len, *])).1, (unp_eq hb (by first | assumption | exact packV_len _ | exact (sealL_len _).trans (packV_len _) | simp [sealL_len, packV_len, *])).2])) ?_
  rintro _ w11 ⟨rfl, hc5⟩
  replace hS := Step.trans hS hc5
  replace ho1 := ho1.no hc5
  replace ho2 := ho2.no hc5
  replace ho4 := ho4.no hc5
  replace hbase1 := Nat.le_trans hbase1 (hc5).size
  replace hglg1 := Nat.lt_of_lt_of_le hglg1 (hc5).size
  replace hr1 := hr1.no hc5
  replace ho6 := ho6.no hc5
  refine VL_pure 5 [2, 5, 6, 7, 8, 9, 29, 30] [(2, .pointer (some ⟨b1, 0, none⟩)), (5, .pointer (some ⟨b3, 0, none⟩)), (6, .int .i64 0), (7, .slice (some ⟨g1, 0, none⟩) 48 c1), (8, .pointer (some ⟨b4, 0, none⟩)), (9, .int .i64 (unpE bs)), (29, .agg #[.int .i64 ((unpV bs).k), .int .u8 ((unpV bs).d), .bool ((unpV bs).a), .int .u32 ((unpV bs).tg), .int .u8 (((unpV bs).p) 0), .int .u8 (((unpV bs).p) 1), .int .u8 (((unpV bs).p) 2), .int .u8 (((unpV bs).p) 3), .int .u8 (((unpV bs).p) 4), .int .u8 (((unpV bs).p) 5), .int .u8 (((unpV bs).p) 6), .int .u8 (((unpV bs).p) 7), .int .u8 (((unpV bs).p) 8), .int .u8 (((unpV bs).p) 9), .int .u8 (((unpV bs).p) 10), .int .u8 (((unpV bs).p) 11), .int .u8 (((unpV bs).p) 12), .int .u8 (((unpV bs).p) 13), .int .u8 (((unpV bs).p) 14), .int .u8 (((unpV bs).p) 15), .int .u8 (((unpV bs).s) 0), .int .u8 (((unpV bs).s) 1), .int .u8 (((unpV bs).s) 2), .int .u8 (((unpV bs).s) 3), .int .u8 (((unpV bs).s) 4), .int .u8 (((unpV bs).s) 5), .int .u8 (((unpV bs).s) 6), .int .u8 (((unpV bs).s) 7), .int .u8 (((unpV bs).s) 8), .int .u8 (((unpV bs).s) 9), .int .u8 (((unpV bs).s) 10), .int .u8 (((unpV bs).s) 11), .int .u8 (((unpV bs).s) 12), .int .u8 (((unpV bs).s) 13), .int .u8 (((unpV bs).s) 14), .int .u8 (((unpV bs).s) 15)]), (30, .int .i64 (unpE bs))] (by kernel_rfl) rfl ?_
  have hzs12 := hS.size
  have hzl24 := ho1.lt
  have hzl25 := ho2.lt
  have hzl26 := ho4.lt
  have hzk3 := hbase1
  have hzk4 := hglg1
  have hzl27 := ho6.lt
  refine VL_box (d := 10) (t := 25) (c := #[.int .i64 0, .int .u8 0, .bool false, .int .u32 0, .int .u8 0, .int .u8 0, .int .u8 0, .int .u8 0, .int .u8 0, .int .u8 0, .int .u8 0, .int .u8 0, .int .u8 0, .int .u8 0, .int .u8 0, .int .u8 0, .int .u8 0, .int .u8 0, .int .u8 0, .int .u8 0, .int .u8 0, .int .u8 0, .int .u8 0, .int .u8 0, .int .u8 0, .int .u8 0, .int .u8 0, .int .u8 0, .int .u8 0, .int .u8 0, .int .u8 0, .int .u8 0, .int .u8 0, .int .u8 0, .int .u8 0, .int .u8 0]) (by kernel_rfl) (by kernel_rfl) ?_
  intro b5 w12 hn5
  replace hS := Step.trans hS (hn5.step No)
  replace ho1 := ho1.no (hn5.step No)
  replace ho2 := ho2.no (hn5.step No)
  replace ho4 := ho4.no (hn5.step No)
  replace hbase1 := Nat.le_trans hbase1 (hn5.step No).size
  replace hglg1 := Nat.lt_of_lt_of_le hglg1 (hn5.step No).size
  replace hr1 := hr1.no (hn5.step No)
  replace ho6 := ho6.no (hn5.step No)
  have ho7 := hn5.own
  have hzhn5 := hn5.size
  have hqhn5 := hn5.eqb
  refine VL_store (b := b5) (o := 0) (vs := [.int .i64 ((unpV bs).k), .int .u8 ((unpV bs).d), .bool ((unpV bs).a), .int .u32 ((unpV bs).tg), .int .u8 (((unpV bs).p) 0), .int .u8 (((unpV bs).p) 1), .int .u8 (((unpV bs).p) 2), .int .u8 (((unpV bs).p) 3), .int .u8 (((unpV bs).p) 4), .int .u8 (((unpV bs).p) 5), .int .u8 (((unpV bs).p) 6), .int .u8 (((unpV bs).p) 7), .int .u8 (((unpV bs).p) 8), .int .u8 (((unpV bs).p) 9), .int .u8 (((unpV bs).p) 10), .int .u8 (((unpV bs).p) 11), .int .u8 (((unpV bs).p) 12), .int .u8 (((unpV bs).p) 13), .int .u8 (((unpV bs).p) 14), .int .u8 (((unpV bs).p) 15), .int .u8 (((unpV bs).s) 0), .int .u8 (((unpV bs).s) 1), .int .u8 (((unpV bs).s) 2), .int .u8 (((unpV bs).s) 3), .int .u8 (((unpV bs).s) 4), .int .u8 (((unpV bs).s) 5), .int .u8 (((unpV bs).s) 6), .int .u8 (((unpV bs).s) 7), .int .u8 (((unpV bs).s) 8), .int .u8 (((unpV bs).s) 9), .int .u8 (((unpV bs).s) 10), .int .u8 (((unpV bs).s) 11), .int .u8 (((unpV bs).s) 12), .int .u8 (((unpV bs).s) 13), .int .u8 (((unpV bs).s) 14), .int .u8 (((unpV bs).s) 15)]) (by kernel_rfl) (by kernel_rfl) ho7 (Nat.le_of_ble_eq_true (by kernel_rfl)) ?_
  intro w13 hw3
  replace hS := Step.transNew hS hw3.step (fun _ _ _ => by omega)
  replace ho1 := ho1.step hw3.step (show ¬ b1 = b5 by omega)
  replace ho2 := ho2.step hw3.step (show ¬ b2 = b5 by omega)
  replace ho4 := ho4.step hw3.step (show ¬ b3 = b5 by omega)
  replace hbase1 := Nat.le_trans hbase1 (hw3.step).size
  replace hglg1 := Nat.lt_of_lt_of_le hglg1 (hw3.step).size
  replace hr1 := hr1.keepG hw3.step (show ¬ g1 = b5 by omega)
  replace ho6 := ho6.step hw3.step (show ¬ b4 = b5 by omega)
  have ho8 : Own w13 b5 #[.int .i64 ((unpV bs).k), .int .u8 ((unpV bs).d), .bool ((unpV bs).a), .int .u32 ((unpV bs).tg), .int .u8 (((unpV bs).p) 0), .int .u8 (((unpV bs).p) 1), .int .u8 (((unpV bs).p) 2), .int .u8 (((unpV bs).p) 3), .int .u8 (((unpV bs).p) 4), .int .u8 (((unpV bs).p) 5), .int .u8 (((unpV bs).p) 6), .int .u8 (((unpV bs).p) 7), .int .u8 (((unpV bs).p) 8), .int .u8 (((unpV bs).p) 9), .int .u8 (((unpV bs).p) 10), .int .u8 (((unpV bs).p) 11), .int .u8 (((unpV bs).p) 12), .int .u8 (((unpV bs).p) 13), .int .u8 (((unpV bs).p) 14), .int .u8 (((unpV bs).p) 15), .int .u8 (((unpV bs).s) 0), .int .u8 (((unpV bs).s) 1), .int .u8 (((unpV bs).s) 2), .int .u8 (((unpV bs).s) 3), .int .u8 (((unpV bs).s) 4), .int .u8 (((unpV bs).s) 5), .int .u8 (((unpV bs).s) 6), .int .u8 (((unpV bs).s) 7), .int .u8 (((unpV bs).s) 8), .int .u8 (((unpV bs).s) 9), .int .u8 (((unpV bs).s) 10), .int .u8 (((unpV bs).s) 11), .int .u8 (((unpV bs).s) 12), .int .u8 (((unpV bs).s) 13), .int .u8 (((unpV bs).s) 14), .int .u8 (((unpV bs).s) 15)] 25 := Own.cast hw3.own (by kernel_rfl)
  have hzhw3 := hw3.same
  refine VL_pure 8 [2, 5, 6, 7, 8, 9, 10, 11] [(2, .pointer (some ⟨b1, 0, none⟩)), (5, .pointer (some ⟨b3, 0, none⟩)), (6, .int .i64 0), (7, .slice (some ⟨g1, 0, none⟩) 48 c1), (8, .pointer (some ⟨b4, 0, none⟩)), (9, .int .i64 (unpE bs)), (10, .pointer (some ⟨b5, 0, none⟩)), (11, .int .i64 (unpE bs))] (by kernel_rfl) rfl ?_
  refine VL_end (by kernel_rfl) ?_
  refine VQ_next ?_
  refine VC_seq ?_
  refine VC_seq ?_
  refine VC_region ?_
  refine VL_load (d := 31) (t := 25) (a := ⟨b1, 0, none⟩) (v := .agg #[.int .i64 o.k, .int .u8 o.d, .bool o.a, .int .u32 o.tg, .int .u8 (o.p 0), .int .u8 (o.p 1), .int .u8 (o.p 2), .int .u8 (o.p 3), .int .u8 (o.p 4), .int .u8 (o.p 5), .int .u8 (o.p 6), .int .u8 (o.p 7), .int .u8 (o.p 8), .int .u8 (o.p 9), .int .u8 (o.p 10), .int .u8 (o.p 11), .int .u8 (o.p 12), .int .u8 (o.p 13), .int .u8 (o.p 14), .int .u8 (o.p 15), .int .u8 (o.s 0), .int .u8 (o.s 1), .int .u8 (o.s 2), .int .u8 (o.s 3), .int .u8 (o.s 4), .int .u8 (o.s 5), .int .u8 (o.s 6), .int .u8 (o.s 7), .int .u8 (o.s 8), .int .u8 (o.s 9), .int .u8 (o.s 10), .int .u8 (o.s 11), .int .u8 (o.s 12), .int .u8 (o.s 13), .int .u8 (o.s 14), .int .u8 (o.s 15)]) (by kernel_rfl) (by kernel_rfl) (Loads.ownL ho1 (n := 36) (by kernel_rfl) (by kernel_rfl) (by kernel_rfl)) ?_
  have hzs13 := hS.size
  have hzl28 := ho1.lt
  have hzl29 := ho2.lt
  have hzl30 := ho4.lt
  have hzl31 := ho6.lt
  have hzl32 := ho8.lt
  refine VL_call (d := 32) (f := 14) (by kernel_rfl) (by kernel_rfl) (by kernel_rfl) Try.call14 (CV.val (v' := .bool true) (right_any o _) (by rw [hr])) ?_
  rintro _ w14 ⟨rfl, hc6⟩
  replace hS := Step.trans hS hc6
  replace ho1 := ho1.no hc6
  replace ho2 := ho2.no hc6
  replace ho4 := ho4.no hc6
  replace hbase1 := Nat.le_trans hbase1 (hc6).size
  replace hglg1 := Nat.lt_of_lt_of_le hglg1 (hc6).size
  replace hr1 := hr1.no hc6
  replace ho6 := ho6.no hc6
  replace ho8 := ho8.no hc6
  refine VL_pure 25 [5, 7, 8, 9, 10, 11, 55] [(5, .pointer (some ⟨b3, 0, none⟩)), (7, .slice (some ⟨g1, 0, none⟩) 48 c1), (8, .pointer (some ⟨b4, 0, none⟩)), (9, .int .i64 (unpE bs)), (10, .pointer (some ⟨b5, 0, none⟩)), (11, .int .i64 (unpE bs)), (55, .bool false)] (by kernel_rfl) rfl ?_
  refine VL_end (by kernel_rfl) ?_
  refine VQ_next ?_
  refine VC_false (by kernel_rfl) ?_
  refine VC_skip ?_
  refine VQ_next ?_
  refine VC_seq ?_
  refine VC_region ?_
  refine VL_pure 5 [8, 9, 10, 11, 58, 59, 60] [(8, .pointer (some ⟨b4, 0, none⟩)), (9, .int .i64 (unpE bs)), (10, .pointer (some ⟨b5, 0, none⟩)), (11, .int .i64 (unpE bs)), (58, .bool false), (59, .slice (some ⟨b3, 0, none⟩) 48 48), (60, .slice (some ⟨g1, 0, none⟩) 48 c1)] (by kernel_rfl) rfl ?_
  have hzs14 := hS.size
  have hzl33 := ho1.lt
  have hzl34 := ho2.lt
  have hzl35 := ho4.lt
  have hzl36 := ho6.lt
  have hzl37 := ho8.lt
  refine VL_call (d := 61) (f := 15) (args := #[.slice (some ⟨b3, 0, none⟩) 48 48, .slice (some ⟨g1, 0, none⟩) 48 c1]) (by kernel_rfl) (by kernel_rfl) (by kernel_rfl) Try.call15 (same_any (some ⟨b3, 0, none⟩) 48 48 _ (packV o) (some ⟨g1, 0, none⟩) 48 c1 _ (rpackV o) _ (by first | assumption | exact packV_len _ | exact (sealL_len _).trans (packV_len _) | simp [sealL_len, packV_len, *]) (Own.slI ho4 ho4.lt) (Rw.lenI hr1) (Rw.slI hr1) (by omega) (by omega) (by first | exact Nat.le_refl _ | omega) (by first | exact Nat.le_refl _ | omega)) ?_
  rintro _ w15 ⟨rfl, hc7⟩
  replace hS := Step.trans hS hc7
  replace ho1 := ho1.no hc7
  replace ho2 := ho2.no hc7
  replace ho4 := ho4.no hc7
  replace hbase1 := Nat.le_trans hbase1 (hc7).size
  replace hglg1 := Nat.lt_of_lt_of_le hglg1 (hc7).size
  replace hr1 := hr1.no hc7
  replace ho6 := ho6.no hc7
  replace ho8 := ho8.no hc7
  refine VL_pure 8 [8, 9, 10, 11, 63] [(8, .pointer (some ⟨b4, 0, none⟩)), (9, .int .i64 (unpE bs)), (10, .pointer (some ⟨b5, 0, none⟩)), (11, .int .i64 (unpE bs)), (63, .bool ((packV o) == (rpackV o)))] (by kernel_rfl) rfl ?_
  refine VL_known ((packV o) == (rpackV o)) (fun bV => [(8, .pointer (some ⟨b4, 0, none⟩)), (9, .int .i64 (unpE bs)), (10, .pointer (some ⟨b5, 0, none⟩)), (11, .int .i64 (unpE bs)), (63, .bool bV)]) true rfl (by simp [pack_eq ho hr]) ?_
  refine VL_load (d := 64) (t := 31) (a := ⟨b4, 0, none⟩) (v := .agg #[.int .i64 ((unpV bs).k), .int .u8 ((unpV bs).d), .bool ((unpV bs).a), .int .u32 ((unpV bs).tg), .int .u8 (((unpV bs).p) 0), .int .u8 (((unpV bs).p) 1), .int .u8 (((unpV bs).p) 2), .int .u8 (((unpV bs).p) 3), .int .u8 (((unpV bs).p) 4), .int .u8 (((unpV bs).p) 5), .int .u8 (((unpV bs).p) 6), .int .u8 (((unpV bs).p) 7), .int .u8 (((unpV bs).p) 8), .int .u8 (((unpV bs).p) 9), .int .u8 (((unpV bs).p) 10), .int .u8 (((unpV bs).p) 11), .int .u8 (((unpV bs).p) 12), .int .u8 (((unpV bs).p) 13), .int .u8 (((unpV bs).p) 14), .int .u8 (((unpV bs).p) 15), .int .u8 (((unpV bs).s) 0), .int .u8 (((unpV bs).s) 1), .int .u8 (((unpV bs).s) 2), .int .u8 (((unpV bs).s) 3), .int .u8 (((unpV bs).s) 4), .int .u8 (((unpV bs).s) 5), .int .u8 (((unpV bs).s) 6), .int .u8 (((unpV bs).s) 7), .int .u8 (((unpV bs).s) 8), .int .u8 (((unpV bs).s) 9), .int .u8 (((unpV bs).s) 10), .int .u8 (((unpV bs).s) 11), .int .u8 (((unpV bs).s) 12), .int .u8 (((unpV bs).s) 13), .int .u8 (((unpV bs).s) 14), .int .u8 (((unpV bs).s) 15)]) (by kernel_rfl) (by kernel_rfl) (Loads.ownL ho6 (n := 36) (by kernel_rfl) (by kernel_rfl) (by kernel_rfl)) ?_
  refine VL_load (d := 65) (t := 25) (a := ⟨b5, 0, none⟩) (v := .agg #[.int .i64 ((unpV bs).k), .int .u8 ((unpV bs).d), .bool ((unpV bs).a), .int .u32 ((unpV bs).tg), .int .u8 (((unpV bs).p) 0), .int .u8 (((unpV bs).p) 1), .int .u8 (((unpV bs).p) 2), .int .u8 (((unpV bs).p) 3), .int .u8 (((unpV bs).p) 4), .int .u8 (((unpV bs).p) 5), .int .u8 (((unpV bs).p) 6), .int .u8 (((unpV bs).p) 7), .int .u8 (((unpV bs).p) 8), .int .u8 (((unpV bs).p) 9), .int .u8 (((unpV bs).p) 10), .int .u8 (((unpV bs).p) 11), .int .u8 (((unpV bs).p) 12), .int .u8 (((unpV bs).p) 13), .int .u8 (((unpV bs).p) 14), .int .u8 (((unpV bs).p) 15), .int .u8 (((unpV bs).s) 0), .int .u8 (((unpV bs).s) 1), .int .u8 (((unpV bs).s) 2), .int .u8 (((unpV bs).s) 3), .int .u8 (((unpV bs).s) 4), .int .u8 (((unpV bs).s) 5), .int .u8 (((unpV bs).s) 6), .int .u8 (((unpV bs).s) 7), .int .u8 (((unpV bs).s) 8), .int .u8 (((unpV bs).s) 9), .int .u8 (((unpV bs).s) 10), .int .u8 (((unpV bs).s) 11), .int .u8 (((unpV bs).s) 12), .int .u8 (((unpV bs).s) 13), .int .u8 (((unpV bs).s) 14), .int .u8 (((unpV bs).s) 15)]) (by kernel_rfl) (by kernel_rfl) (Loads.ownL ho8 (n := 36) (by kernel_rfl) (by kernel_rfl) (by kernel_rfl)) ?_
  refine VL_agEq (d := 66) (dd := 9) (ls := ([.int .i64] ++ [.int .u8] ++ [.bool] ++ [.int .u32] ++ (rep 16 [.int .u8]) ++ (rep 16 [.int .u8]) ++ [])) (pos := true) (t := 25) (xs := #[.int .i64 ((unpV bs).k), .int .u8 ((unpV bs).d), .bool ((unpV bs).a), .int .u32 ((unpV bs).tg), .int .u8 (((unpV bs).p) 0), .int .u8 (((unpV bs).p) 1), .int .u8 (((unpV bs).p) 2), .int .u8 (((unpV bs).p) 3), .int .u8 (((unpV bs).p) 4), .int .u8 (((unpV bs).p) 5), .int .u8 (((unpV bs).p) 6), .int .u8 (((unpV bs).p) 7), .int .u8 (((unpV bs).p) 8), .int .u8 (((unpV bs).p) 9), .int .u8 (((unpV bs).p) 10), .int .u8 (((unpV bs).p) 11), .int .u8 (((unpV bs).p) 12), .int .u8 (((unpV bs).p) 13), .int .u8 (((unpV bs).p) 14), .int .u8 (((unpV bs).p) 15), .int .u8 (((unpV bs).s) 0), .int .u8 (((unpV bs).s) 1), .int .u8 (((unpV bs).s) 2), .int .u8 (((unpV bs).s) 3), .int .u8 (((unpV bs).s) 4), .int .u8 (((unpV bs).s) 5), .int .u8 (((unpV bs).s) 6), .int .u8 (((unpV bs).s) 7), .int .u8 (((unpV bs).s) 8), .int .u8 (((unpV bs).s) 9), .int .u8 (((unpV bs).s) 10), .int .u8 (((unpV bs).s) 11), .int .u8 (((unpV bs).s) 12), .int .u8 (((unpV bs).s) 13), .int .u8 (((unpV bs).s) 14), .int .u8 (((unpV bs).s) 15)]) (ys := #[.int .i64 ((unpV bs).k), .int .u8 ((unpV bs).d), .bool ((unpV bs).a), .int .u32 ((unpV bs).tg), .int .u8 (((unpV bs).p) 0), .int .u8 (((unpV bs).p) 1), .int .u8 (((unpV bs).p) 2), .int .u8 (((unpV bs).p) 3), .int .u8 (((unpV bs).p) 4), .int .u8 (((unpV bs).p) 5), .int .u8 (((unpV bs).p) 6), .int .u8 (((unpV bs).p) 7), .int .u8 (((unpV bs).p) 8), .int .u8 (((unpV bs).p) 9), .int .u8 (((unpV bs).p) 10), .int .u8 (((unpV bs).p) 11), .int .u8 (((unpV bs).p) 12), .int .u8 (((unpV bs).p) 13), .int .u8 (((unpV bs).p) 14), .int .u8 (((unpV bs).p) 15), .int .u8 (((unpV bs).s) 0), .int .u8 (((unpV bs).s) 1), .int .u8 (((unpV bs).s) 2), .int .u8 (((unpV bs).s) 3), .int .u8 (((unpV bs).s) 4), .int .u8 (((unpV bs).s) 5), .int .u8 (((unpV bs).s) 6), .int .u8 (((unpV bs).s) 7), .int .u8 (((unpV bs).s) 8), .int .u8 (((unpV bs).s) 9), .int .u8 (((unpV bs).s) 10), .int .u8 (((unpV bs).s) 11), .int .u8 (((unpV bs).s) 12), .int .u8 (((unpV bs).s) 13), .int .u8 (((unpV bs).s) 14), .int .u8 (((unpV bs).s) 15)]) (by kernel_rfl) (by kernel_rfl) (by kernel_rfl) (by kernel_rfl) (by first | exact ⟨⟨_, rfl⟩, ⟨_, rfl⟩, ⟨_, rfl⟩, ⟨_, rfl⟩, ⟨_, rfl⟩, ⟨_, rfl⟩, ⟨_, rfl⟩, ⟨_, rfl⟩, ⟨_, rfl⟩, ⟨_, rfl⟩, ⟨_, rfl⟩, ⟨_, rfl⟩, ⟨_, rfl⟩, ⟨_, rfl⟩, ⟨_, rfl⟩, ⟨_, rfl⟩, ⟨_, rfl⟩, ⟨_, rfl⟩, ⟨_, rfl⟩, ⟨_, rfl⟩, ⟨_, rfl⟩, ⟨_, rfl⟩, ⟨_, rfl⟩, ⟨_, rfl⟩, ⟨_, rfl⟩, ⟨_, rfl⟩, ⟨_, rfl⟩, ⟨_, rfl⟩, ⟨_, rfl⟩, ⟨_, rfl⟩, ⟨_, rfl⟩, ⟨_, rfl⟩, ⟨_, rfl⟩, ⟨_, rfl⟩, ⟨_, rfl⟩, ⟨_, rfl⟩, trivial⟩ | trivial) (by first | exact ⟨⟨_, rfl⟩, ⟨_, rfl⟩, ⟨_, rfl⟩, ⟨_, rfl⟩, ⟨_, rfl⟩, ⟨_, rfl⟩, ⟨_, rfl⟩, ⟨_, rfl⟩, ⟨_, rfl⟩, ⟨_, rfl⟩, ⟨_, rfl⟩, ⟨_, rfl⟩, ⟨_, rfl⟩, ⟨_, rfl⟩, ⟨_, rfl⟩, ⟨_, rfl⟩, ⟨_, rfl⟩, ⟨_, rfl⟩, ⟨_, rfl⟩, ⟨_, rfl⟩, ⟨_, rfl⟩, ⟨_, rfl⟩, ⟨_, rfl⟩, ⟨_, rfl⟩, ⟨_, rfl⟩, ⟨_, rfl⟩, ⟨_, rfl⟩, ⟨_, rfl⟩, ⟨_, rfl⟩, ⟨_, rfl⟩, ⟨_, rfl⟩, ⟨_, rfl⟩, ⟨_, rfl⟩, ⟨_, rfl⟩, ⟨_, rfl⟩, ⟨_, rfl⟩, trivial⟩ | trivial) true (by first | exact (omEq_iff _ _).2 rfl | (show (!_) = false; rw [show cellsEq _ _ = true from (omEq_iff _ _).2 rfl]; rfl)) ?_
  refine VL_pure 18 [4] [(4, .bool ((unpE bs) == (unpE bs)))] (by kernel_rfl) rfl ?_
  refine VL_end (by kernel_rfl) ?_
  refine VQ_next ?_
  refine VC_ret ?_
  refine VQ_ret1 (.bool ((unpE bs) == (unpE bs))) (.inr rfl) rfl rfl ?_
  exact ⟨by first | rfl | simp [*], hS⟩

set_option maxRecDepth 100000 in
set_option maxHeartbeats 4000000 in
theorem packs_no (o : Om) (bs : List Int) (w : World) (ho : OmOk o) (hn : bs.length = 48) (hb : Bytes bs) (hr : rightO o = false) :
    CV Try.prog 3 #[.agg #[.int .i64 o.k, .int .u8 o.d, .bool o.a, .int .u32 o.tg, .int .u8 (o.p 0), .int .u8 (o.p 1), .int .u8 (o.p 2), .int .u8 (o.p 3), .int .u8 (o.p 4), .int .u8 (o.p 5), .int .u8 (o.p 6), .int .u8 (o.p 7), .int .u8 (o.p 8), .int .u8 (o.p 9), .int .u8 (o.p 10), .int .u8 (o.p 11), .int .u8 (o.p 12), .int .u8 (o.p 13), .int .u8 (o.p 14), .int .u8 (o.p 15), .int .u8 (o.s 0), .int .u8 (o.s 1), .int .u8 (o.s 2), .int .u8 (o.s 3), .int .u8 (o.s 4), .int .u8 (o.s 5), .int .u8 (o.s 6), .int .u8 (o.s 7), .int .u8 (o.s 8), .int .u8 (o.s 9), .int .u8 (o.s 10), .int .u8 (o.s 11), .int .u8 (o.s 12), .int .u8 (o.s 13), .int .u8 (o.s 14), .int .u8 (o.s 15)], .agg (iA .u8 bs)] w (fun x w1 => x = .bool true ∧ Step No w w1) := by
  have hS : Step No w w := Step.refl _ _
  refine CV_enter Try.f3 _ 73 [(0, .agg #[.int .i64 o.k, .int .u8 o.d, .bool o.a, .int .u32 o.tg, .int .u8 (o.p 0), .int .u8 (o.p 1), .int .u8 (o.p 2), .int .u8 (o.p 3), .int .u8 (o.p 4), .int .u8 (o.p 5), .int .u8 (o.p 6), .int .u8 (o.p 7), .int .u8 (o.p 8), .int .u8 (o.p 9), .int .u8 (o.p 10), .int .u8 (o.p 11), .int .u8 (o.p 12), .int .u8 (o.p 13), .int .u8 (o.p 14), .int .u8 (o.p 15), .int .u8 (o.s 0), .int .u8 (o.s 1), .int .u8 (o.s 2), .int .u8 (o.s 3), .int .u8 (o.s 4), .int .u8 (o.s 5), .int .u8 (o.s 6), .int .u8 (o.s 7), .int .u8 (o.s 8), .int .u8 (o.s 9), .int .u8 (o.s 10), .int .u8 (o.s 11), .int .u8 (o.s 12), .int .u8 (o.s 13), .int .u8 (o.s 14), .int .u8 (o.s 15)]), (1, .agg (iA .u8 bs))] Try.func3 rfl rfl (by kernel_rfl) rfl ?_
  refine VC_seq ?_
  refine VC_region ?_
  have hzs1 := hS.size
  refine VL_box (d := 2) (t := 25) (c := #[.int .i64 o.k, .int .u8 o.d, .bool o.a, .int .u32 o.tg, .int .u8 (o.p 0), .int .u8 (o.p 1), .int .u8 (o.p 2), .int .u8 (o.p 3), .int .u8 (o.p 4), .int .u8 (o.p 5), .int .u8 (o.p 6), .int .u8 (o.p 7), .int .u8 (o.p 8), .int .u8 (o.p 9), .int .u8 (o.p 10), .int .u8 (o.p 11), .int .u8 (o.p 12), .int .u8 (o.p 13), .int .u8 (o.p 14), .int .u8 (o.p 15), .int .u8 (o.s 0), .int .u8 (o.s 1), .int .u8 (o.s 2), .int .u8 (o.s 3), .int .u8 (o.s 4), .int .u8 (o.s 5), .int .u8 (o.s 6), .int .u8 (o.s 7), .int .u8 (o.s 8), .int .u8 (o.s 9), .int .u8 (o.s 10), .int .u8 (o.s 11), .int .u8 (o.s 12), .int .u8 (o.s 13), .int .u8 (o.s 14), .int .u8 (o.s 15)]) (by kernel_rfl) (by kernel_rfl) ?_
  intro b1 w1 hn1
  replace hS := Step.trans hS (hn1.step No)
  have ho1 := hn1.own
  have hzhn1 := hn1.size
  have hqhn1 := hn1.eqb
  have hzs2 := hS.size
  have hzl1 := ho1.lt
  have hzs3 := hS.size
  have hzl2 := ho1.lt
  refine VL_box (d := 3) (t := 26) (c := iA .u8 bs) (by kernel_rfl) (by kernel_rfl) ?_
  intro b2 w2 hn2
  replace hS := Step.trans hS (hn2.step No)
  replace ho1 := ho1.no (hn2.step No)
  have ho2 := hn2.own
  have hzhn2 := hn2.size
  have hqhn2 := hn2.eqb
  refine VL_pure 3 [2, 3] [(2, .pointer (some ⟨b1, 0, none⟩)), (3, .pointer (some ⟨b2, 0, none⟩))] (by kernel_rfl) rfl ?_
  refine VL_end (by kernel_rfl) ?_
  refine VQ_next ?_
  refine VC_seq ?_
  refine VC_seq ?_
  refine VC_region ?_
  have hzs4 := hS.size
  have hzl3 := ho1.lt
  have hzl4 := ho2.lt
  refine VL_call (d := 12) (f := 9) (args := #[]) (by kernel_rfl) (by kernel_rfl) (by kernel_rfl) Try.call9 (awake_any _) ?_
  rintro _ w3 ⟨rfl, hc1⟩
  replace hS := Step.trans hS hc1
  replace ho1 := ho1.no hc1
  replace ho2 := ho2.no hc1
  refine VL_pure 2 [2, 3, 13] [(2, .pointer (some ⟨b1, 0, none⟩)), (3, .pointer (some ⟨b2, 0, none⟩)), (13, .bool false)] (by kernel_rfl) rfl ?_
  refine VL_end (by kernel_rfl) ?_
  refine VQ_next ?_
  refine VC_false (by kernel_rfl) ?_
  refine VC_skip ?_
  refine VQ_next ?_
  refine VC_seq ?_
  refine VC_region ?_
  refine VL_load (d := 15) (t := 25) (a := ⟨b1, 0, none⟩) (v := .agg #[.int .i64 o.k, .int .u8 o.d, .bool o.a, .int .u32 o.tg, .int .u8 (o.p 0), .int .u8 (o.p 1), .int .u8 (o.p 2), .int .u8 (o.p 3), .int .u8 (o.p 4), .int .u8 (o.p 5), .int .u8 (o.p 6), .int .u8 (o.p 7), .int .u8 (o.p 8), .int .u8 (o.p 9), .int .u8 (o.p 10), .int .u8 (o.p 11), .int .u8 (o.p 12), .int .u8 (o.p 13), .int .u8 (o.p 14), .int .u8 (o.p 15), .int .u8 (o.s 0), .int .u8 (o.s 1), .int .u8 (o.s 2), .int .u8 (o.s 3), .int .u8 (o.s 4), .int .u8 (o.s 5), .int .u8 (o.s 6), .int .u8 (o.s 7), .int .u8 (o.s 8), .int .u8 (o.s 9), .int .u8 (o.s 10), .int .u8 (o.s 11), .int .u8 (o.s 12), .int .u8 (o.s 13), .int .u8 (o.s 14), .int .u8 (o.s 15)]) (by kernel_rfl) (by kernel_rfl) (Loads.ownL ho1 (n := 36) (by kernel_rfl) (by kernel_rfl) (by kernel_rfl)) ?_
  have hzs5 := hS.size
  have hzl5 := ho1.lt
  have hzl6 := ho2.lt
  refine VL_call (d := 16) (f := 10) (by kernel_rfl) (by kernel_rfl) (by kernel_rfl) Try.call10 (CV.val (v' := .tuple #[.agg (iA .u8 (List.replicate 48 0)), .int .i64 1]) (pack_any o _) (by rw [packE_no hr, packV_no hr])) ?_
  rintro _ w4 ⟨rfl, hc2⟩
  replace hS := Step.trans hS hc2
  replace ho1 := ho1.no hc2
  replace ho2 := ho2.no hc2
  refine VL_pure 5 [2, 3, 17, 18] [(2, .pointer (some ⟨b1, 0, none⟩)), (3, .pointer (some ⟨b2, 0, none⟩)), (17, .agg (iA .u8 (List.replicate 48 0))), (18, .int .i64 1)] (by kernel_rfl) rfl ?_
  have hzs6 := hS.size
  have hzl7 := ho1.lt
  have hzl8 := ho2.lt
  have hzs7 := hS.size
  have hzl9 := ho1.lt
  have hzl10 := ho2.lt
  refine VL_box (d := 5) (t := 26) (c := iA .u8 (List.replicate 48 0)) (by kernel_rfl) (by kernel_rfl) ?_
  intro b3 w5 hn3
  replace hS := Step.trans hS (hn3.step No)
  replace ho1 := ho1.no (hn3.step No)
  replace ho2 := ho2.no (hn3.step No)
  have ho3 := hn3.own
  have hzhn3 := hn3.size
  have hqhn3 := hn3.eqb
  refine VL_storeA (b := b3) (sz := 48) (k := .u8) (bs := List.replicate 48 0) (by kernel_rfl) (by kernel_rfl) (by first | assumption | exact packV_len _ | exact (sealL_len _).trans (packV_len _) | simp [sealL_len, packV_len, *]) ho3 (iA_size.trans (by (try simp only [List.length_set, List.length_append, List.length_map, List.length_replicate, List.length_cons, List.length_nil, List.length_take, List.length_drop, List.length_range]) <;> omega)) ?_
  intro w6 hw1
  replace hS := Step.transNew hS hw1.step (fun _ _ _ => by omega)
  replace ho1 := ho1.step hw1.step (show ¬ b1 = b3 by omega)
  replace ho2 := ho2.step hw1.step (show ¬ b2 = b3 by omega)
  have ho4 := hw1.own
  have hzhw1 := hw1.same
  refine VL_pure 8 [2, 3, 5, 6] [(2, .pointer (some ⟨b1, 0, none⟩)), (3, .pointer (some ⟨b2, 0, none⟩)), (5, .pointer (some ⟨b3, 0, none⟩)), (6, .int .i64 1)] (by kernel_rfl) rfl ?_
  refine VL_end (by kernel_rfl) ?_
  refine VQ_next ?_
  refine VC_seq ?_
  refine VC_region ?_
  refine VL_load (d := 19) (t := 25) (a := ⟨b1, 0, none⟩) (v := .agg #[.int .i64 o.k, .int .u8 o.d, .bool o.a, .int .u32 o.tg, .int .u8 (o.p 0), .int .u8 (o.p 1), .int .u8 (o.p 2), .int .u8 (o.p 3), .int .u8 (o.p 4), .int .u8 (o.p 5), .int .u8 (o.p 6), .int .u8 (o.p 7), .int .u8 (o.p 8), .int .u8 (o.p 9), .int .u8 (o.p 10), .int .u8 (o.p 11), .int .u8 (o.p 12), .int .u8 (o.p 13), .int .u8 (o.p 14), .int .u8 (o.p 15), .int .u8 (o.s 0), .int .u8 (o.s 1), .int .u8 (o.s 2), .int .u8 (o.s 3), .int .u8 (o.s 4), .int .u8 (o.s 5), .int .u8 (o.s 6), .int .u8 (o.s 7), .int .u8 (o.s 8), .int .u8 (o.s 9), .int .u8 (o.s 10), .int .u8 (o.s 11), .int .u8 (o.s 12), .int .u8 (o.s 13), .int .u8 (o.s 14), .int .u8 (o.s 15)]) (by kernel_rfl) (by kernel_rfl) (Loads.ownL ho1 (n := 36) (by kernel_rfl) (by kernel_rfl) (by kernel_rfl)) ?_
  have hzs8 := hS.size
  have hzl11 := ho1.lt
  have hzl12 := ho2.lt
  have hzl13 := ho4.lt
  refine VL_call (d := 20) (f := 11) (by kernel_rfl) (by kernel_rfl) (by kernel_rfl) Try.call11 (rpack_no o _ hr) ?_
  rintro _ w7 ⟨rfl, hc3⟩
  replace hS := Step.trans hS hc3
  replace ho1 := ho1.no hc3
  replace ho2 := ho2.no hc3
  replace ho4 := ho4.no hc3
  refine VL_pure 3 [2, 3, 5, 6, 7] [(2, .pointer (some ⟨b1, 0, none⟩)), (3, .pointer (some ⟨b2, 0, none⟩)), (5, .pointer (some ⟨b3, 0, none⟩)), (6, .int .i64 1), (7, .slice none 0 0)] (by kernel_rfl) rfl ?_
  refine VL_end (by kernel_rfl) ?_
  refine VQ_next ?_
  refine VC_seq ?_
  refine VC_region ?_
  refine VL_load (d := 22) (t := 26) (a := ⟨b2, 0, none⟩) (v := .agg (iA .u8 bs)) (by kernel_rfl) (by kernel_rfl) (Loads.arr (N := 48) ho2 (by kernel_rfl) (by (try simp only [List.length_set, List.length_append, List.length_map, List.length_replicate, List.length_cons, List.length_nil, List.length_take, List.length_drop, List.length_range]) <;> omega)) ?_
  have hzs9 := hS.size
  have hzl14 := ho1.lt
  have hzl15 := ho2.lt
  have hzl16 := ho4.lt
  refine VL_call (d := 23) (f := 12) (by kernel_rfl) (by kernel_rfl) (by kernel_rfl) Try.call12 (unpack_any bs _ (by first | assumption | exact packV_len _ | exact (sealL_len _).trans (packV_len _) | simp [sealL_len, packV_len, *])) ?_
  rintro _ w8 ⟨rfl, hc4⟩
  replace hS := Step.trans hS hc4
  replace ho1 := ho1.no hc4
  replace ho2 := ho2.no hc4
  replace ho4 := ho4.no hc4
  refine VL_pure 5 [2, 3, 5, 6, 7, 24, 25] [(2, .pointer (some ⟨b1, 0, none⟩)), (3, .pointer (some ⟨b2, 0, none⟩)), (5, .pointer (some ⟨b3, 0, none⟩)), (6, .int .i64 1), (7, .slice none 0 0), (24, .agg #[.int .i64 ((unpV bs).k), .int .u8 ((unpV bs).d), .bool ((unpV bs).a), .int .u32 ((unpV bs).tg), .int .u8 (((unpV bs).p) 0), .int .u8 (((unpV bs).p) 1), .int .u8 (((unpV bs).p) 2), .int .u8 (((unpV bs).p) 3), .int .u8 (((unpV bs).p) 4), .int .u8 (((unpV bs).p) 5), .int .u8 (((unpV bs).p) 6), .int .u8 (((unpV bs).p) 7), .int .u8 (((unpV bs).p) 8), .int .u8 (((unpV bs).p) 9), .int .u8 (((unpV bs).p) 10), .int .u8 (((unpV bs).p) 11), .int .u8 (((unpV bs).p) 12), .int .u8 (((unpV bs).p) 13), .int .u8 (((unpV bs).p) 14), .int .u8 (((unpV bs).p) 15), .int .u8 (((unpV bs).s) 0), .int .u8 (((unpV bs).s) 1), .int .u8 (((unpV bs).s) 2), .int .u8 (((unpV bs).s) 3), .int .u8 (((unpV bs).s) 4), .int .u8 (((unpV bs).s) 5), .int .u8 (((unpV bs).s) 6), .int .u8 (((unpV bs).s) 7), .int .u8 (((unpV bs).s) 8), .int .u8 (((unpV bs).s) 9), .int .u8 (((unpV bs).s) 10), .int .u8 (((unpV bs).s) 11), .int .u8 (((unpV bs).s) 12), .int .u8 (((unpV bs).s) 13), .int .u8 (((unpV bs).s) 14), .int .u8 (((unpV bs).s) 15)]), (25, .int .i64 (unpE bs))] (by kernel_rfl) rfl ?_
  have hzs10 := hS.size
  have hzl17 := ho1.lt
  have hzl18 := ho2.lt
  have hzl19 := ho4.lt
  refine VL_box (d := 8) (t := 31) (c := #[.int .i64 0, .int .u8 0, .bool false, .int .u32 0, .int .u8 0, .int .u8 0, .int .u8 0, .int .u8 0, .int .u8 0, .int .u8 0, .int .u8 0, .int .u8 0, .int .u8 0, .int .u8 0, .int .u8 0, .int .u8 0, .int .u8 0, .int .u8 0, .int .u8 0, .int .u8 0, .int .u8 0, .int .u8 0, .int .u8 0, .int .u8 0, .int .u8 0, .int .u8 0, .int .u8 0, .int .u8 0, .int .u8 0, .int .u8 0, .int .u8 0, .int .u8 0, .int .u8 0, .int .u8 0, .int .u8 0, .int .u8 0]) (by kernel_rfl) (by kernel_rfl) ?_
  intro b4 w9 hn4
  replace hS := Step.trans hS (hn4.step No)
  replace ho1 := ho1.no (hn4.step No)
  replace ho2 := ho2.no (hn4.step No)
  replace ho4 := ho4.no (hn4.step No)
  have ho5 := hn4.own
  have hzhn4 := hn4.size
  have hqhn4 := hn4.eqb
  refine VL_store (b := b4) (o := 0) (vs := [.int .i64 ((unpV bs).k), .int .u8 ((unpV bs).d), .bool ((unpV bs).a), .int .u32 ((unpV bs).tg), .int .u8 (((unpV bs).p) 0), .int .u8 (((unpV bs).p) 1), .int .u8 (((unpV bs).p) 2), .int .u8 (((unpV bs).p) 3), .int .u8 (((unpV bs).p) 4), .int .u8 (((unpV bs).p) 5), .int .u8 (((unpV bs).p) 6), .int .u8 (((unpV bs).p) 7), .int .u8 (((unpV bs).p) 8), .int .u8 (((unpV bs).p) 9), .int .u8 (((unpV bs).p) 10), .int .u8 (((unpV bs).p) 11), .int .u8 (((unpV bs).p) 12), .int .u8 (((unpV bs).p) 13), .int .u8 (((unpV bs).p) 14), .int .u8 (((unpV bs).p) 15), .int .u8 (((unpV bs).s) 0), .int .u8 (((unpV bs).s) 1), .int .u8 (((unpV bs).s) 2), .int .u8 (((unpV bs).s) 3), .int .u8 (((unpV bs).s) 4), .int .u8 (((unpV bs).s) 5), .int .u8 (((unpV bs).s) 6), .int .u8 (((unpV bs).s) 7), .int .u8 (((unpV bs).s) 8), .int .u8 (((unpV bs).s) 9), .int .u8 (((unpV bs).s) 10), .int .u8 (((unpV bs).s) 11), .int .u8 (((unpV bs).s) 12), .int .u8 (((unpV bs).s) 13), .int .u8 (((unpV bs).s) 14), .int .u8 (((unpV bs).s) 15)]) (by kernel_rfl) (by kernel_rfl) ho5 (Nat.le_of_ble_eq_true (by kernel_rfl)) ?_
  intro w10 hw2
  replace hS := Step.transNew hS hw2.step (fun _ _ _ => by omega)
  replace ho1 := ho1.step hw2.step (show ¬ b1 = b4 by omega)
  replace ho2 := ho2.step hw2.step (show ¬ b2 = b4 by omega)
  replace ho4 := ho4.step hw2.step (show ¬ b3 = b4 by omega)
  have ho6 : Own w10 b4 #[.int .i64 ((unpV bs).k), .int .u8 ((unpV bs).d), .bool ((unpV bs).a), .int .u32 ((unpV bs).tg), .int .u8 (((unpV bs).p) 0), .int .u8 (((unpV bs).p) 1), .int .u8 (((unpV bs).p) 2), .int .u8 (((unpV bs).p) 3), .int .u8 (((unpV bs).p) 4), .int .u8 (((unpV bs).p) 5), .int .u8 (((unpV bs).p) 6), .int .u8 (((unpV bs).p) 7), .int .u8 (((unpV bs).p) 8), .int .u8 (((unpV bs).p) 9), .int .u8 (((unpV bs).p) 10), .int .u8 (((unpV bs).p) 11), .int .u8 (((unpV bs).p) 12), .int .u8 (((unpV bs).p) 13), .int .u8 (((unpV bs).p) 14), .int .u8 (((unpV bs).p) 15), .int .u8 (((unpV bs).s) 0), .int .u8 (((unpV bs).s) 1), .int .u8 (((unpV bs).s) 2), .int .u8 (((unpV bs).s) 3), .int .u8 (((unpV bs).s) 4), .int .u8 (((unpV bs).s) 5), .int .u8 (((unpV bs).s) 6), .int .u8 (((unpV bs).s) 7), .int .u8 (((unpV bs).s) 8), .int .u8 (((unpV bs).s) 9), .int .u8 (((unpV bs).s) 10), .int .u8 (((unpV bs).s) 11), .int .u8 (((unpV bs).s) 12), .int .u8 (((unpV bs).s) 13), .int .u8 (((unpV bs).s) 14), .int .u8 (((unpV bs).s) 15)] 31 := Own.cast hw2.own (by kernel_rfl)
  have hzhw2 := hw2.same
  refine VL_pure 8 [2, 3, 5, 6, 7, 8, 9] [(2, .pointer (some ⟨b1, 0, none⟩)), (3, .pointer (some ⟨b2, 0, none⟩)), (5, .pointer (some ⟨b3, 0, none⟩)), (6, .int .i64 1), (7, .slice none 0 0), (8, .pointer (some ⟨b4, 0, none⟩)), (9, .int .i64 (unpE bs))] (by kernel_rfl) rfl ?_
  refine VL_end (by kernel_rfl) ?_
  refine VQ_next ?_
  refine VC_seq ?_
  refine VC_region ?_
  refine VL_pure 1 [2, 5, 6, 7, 8, 9, 27] [(2, .pointer (some ⟨b1, 0, none⟩)), (5, .pointer (some ⟨b3, 0, none⟩)), (6, .int .i64 1), (7, .slice none 0 0), (8, .pointer (some ⟨b4, 0, none⟩)), (9, .int .i64 (unpE bs)), (27, .slice (some ⟨b2, 0, none⟩) 48 48)] (by kernel_rfl) rfl ?_
  have hzs11 := hS.size
  have hzl20 := ho1.lt
  have hzl21 := ho2.lt
  have hzl22 := ho4.lt
  have hzl23 := ho6.lt
  refine VL_call (d := 28) (f := 13) (by kernel_rfl) (by kernel_rfl) (by kernel_rfl) Try.call13 (CV.val (v' := .tuple #[.agg (omL (unpV bs)).toArray, .int .i64 (unpE bs)]) (runpack48_any (some ⟨b2, 0, none⟩) 48 _ bs _ (by (try simp only [List.length_set, List.length_append, List.length_map, List.length_replicate, List.length_cons, List.length_nil, List.length_take, List.length_drop, List.length_range]) <;> omega) (Own.slI ho2 ho2.lt) (by first | exact Nat.le_refl _ | omega) (by omega)) (by rw [(unp_eq hb (by first | assumption | exact packV_len _ | exact (sealL_len _).trans (packV_len _) | simp [sealL_len, packV_len, *])).1, (unp_eq hb (by first | assumption | exact packV_len _ | exact (sealL_len _).trans (packV_len _) | simp [sealL_len, packV_len, *])).2])) ?_
  rintro _ w11 ⟨rfl, hc5⟩
  replace hS := Step.trans hS hc5
  replace ho1 := ho1.no hc5
  replace ho2 := ho2.no hc5
  replace ho4 := ho4.no hc5
  replace ho6 := ho6.no hc5
  refine VL_pure 5 [2, 5, 6, 7, 8, 9, 29, 30] [(2, .pointer (some ⟨b1, 0, none⟩)), (5, .pointer (some ⟨b3, 0, none⟩)), (6, .int .i64 1), (7, .slice none 0 0), (8, .pointer (some ⟨b4, 0, none⟩)), (9, .int .i64 (unpE bs)), (29, .agg #[.int .i64 ((unpV bs).k), .int .u8 ((unpV bs).d), .bool ((unpV bs).a), .int .u32 ((unpV bs).tg), .int .u8 (((unpV bs).p) 0), .int .u8 (((unpV bs).p) 1), .int .u8 (((unpV bs).p) 2), .int .u8 (((unpV bs).p) 3), .int .u8 (((unpV bs).p) 4), .int .u8 (((unpV bs).p) 5), .int .u8 (((unpV bs).p) 6), .int .u8 (((unpV bs).p) 7), .int .u8 (((unpV bs).p) 8), .int .u8 (((unpV bs).p) 9), .int .u8 (((unpV bs).p) 10), .int .u8 (((unpV bs).p) 11), .int .u8 (((unpV bs).p) 12), .int .u8 (((unpV bs).p) 13), .int .u8 (((unpV bs).p) 14), .int .u8 (((unpV bs).p) 15), .int .u8 (((unpV bs).s) 0), .int .u8 (((unpV bs).s) 1), .int .u8 (((unpV bs).s) 2), .int .u8 (((unpV bs).s) 3), .int .u8 (((unpV bs).s) 4), .int .u8 (((unpV bs).s) 5), .int .u8 (((unpV bs).s) 6), .int .u8 (((unpV bs).s) 7), .int .u8 (((unpV bs).s) 8), .int .u8 (((unpV bs).s) 9), .int .u8 (((unpV bs).s) 10), .int .u8 (((unpV bs).s) 11), .int .u8 (((unpV bs).s) 12), .int .u8 (((unpV bs).s) 13), .int .u8 (((unpV bs).s) 14), .int .u8 (((unpV bs).s) 15)]), (30, .int .i64 (unpE bs))] (by kernel_rfl) rfl ?_
  have hzs12 := hS.size
  have hzl24 := ho1.lt
  have hzl25 := ho2.lt
  have hzl26 := ho4.lt
  have hzl27 := ho6.lt
  refine VL_box (d := 10) (t := 25) (c := #[.int .i64 0, .int .u8 0, .bool false, .int .u32 0, .int .u8 0, .int .u8 0, .int .u8 0, .int .u8 0, .int .u8 0, .int .u8 0, .int .u8 0, .int .u8 0, .int .u8 0, .int .u8 0, .int .u8 0, .int .u8 0, .int .u8 0, .int .u8 0, .int .u8 0, .int .u8 0, .int .u8 0, .int .u8 0, .int .u8 0, .int .u8 0, .int .u8 0, .int .u8 0, .int .u8 0, .int .u8 0, .int .u8 0, .int .u8 0, .int .u8 0, .int .u8 0, .int .u8 0, .int .u8 0, .int .u8 0, .int .u8 0]) (by kernel_rfl) (by kernel_rfl) ?_
  intro b5 w12 hn5
  replace hS := Step.trans hS (hn5.step No)
  replace ho1 := ho1.no (hn5.step No)
  replace ho2 := ho2.no (hn5.step No)
  replace ho4 := ho4.no (hn5.step No)
  replace ho6 := ho6.no (hn5.step No)
  have ho7 := hn5.own
  have hzhn5 := hn5.size
  have hqhn5 := hn5.eqb
  refine VL_store (b := b5) (o := 0) (vs := [.int .i64 ((unpV bs).k), .int .u8 ((unpV bs).d), .bool ((unpV bs).a), .int .u32 ((unpV bs).tg), .int .u8 (((unpV bs).p) 0), .int .u8 (((unpV bs).p) 1), .int .u8 (((unpV bs).p) 2), .int .u8 (((unpV bs).p) 3), .int .u8 (((unpV bs).p) 4), .int .u8 (((unpV bs).p) 5), .int .u8 (((unpV bs).p) 6), .int .u8 (((unpV bs).p) 7), .int .u8 (((unpV bs).p) 8), .int .u8 (((unpV bs).p) 9), .int .u8 (((unpV bs).p) 10), .int .u8 (((unpV bs).p) 11), .int .u8 (((unpV bs).p) 12), .int .u8 (((unpV bs).p) 13), .int .u8 (((unpV bs).p) 14), .int .u8 (((unpV bs).p) 15), .int .u8 (((unpV bs).s) 0), .int .u8 (((unpV bs).s) 1), .int .u8 (((unpV bs).s) 2), .int .u8 (((unpV bs).s) 3), .int .u8 (((unpV bs).s) 4), .int .u8 (((unpV bs).s) 5), .int .u8 (((unpV bs).s) 6), .int .u8 (((unpV bs).s) 7), .int .u8 (((unpV bs).s) 8), .int .u8 (((unpV bs).s) 9), .int .u8 (((unpV bs).s) 10), .int .u8 (((unpV bs).s) 11), .int .u8 (((unpV bs).s) 12), .int .u8 (((unpV bs).s) 13), .int .u8 (((unpV bs).s) 14), .int .u8 (((unpV bs).s) 15)]) (by kernel_rfl) (by kernel_rfl) ho7 (Nat.le_of_ble_eq_true (by kernel_rfl)) ?_
  intro w13 hw3
  replace hS := Step.transNew hS hw3.step (fun _ _ _ => by omega)
  replace ho1 := ho1.step hw3.step (show ¬ b1 = b5 by omega)
  replace ho2 := ho2.step hw3.step (show ¬ b2 = b5 by omega)
  replace ho4 := ho4.step hw3.step (show ¬ b3 = b5 by omega)
  replace ho6 := ho6.step hw3.step (show ¬ b4 = b5 by omega)
  have ho8 : Own w13 b5 #[.int .i64 ((unpV bs).k), .int .u8 ((unpV bs).d), .bool ((unpV bs).a), .int .u32 ((unpV bs).tg), .int .u8 (((unpV bs).p) 0), .int .u8 (((unpV bs).p) 1), .int .u8 (((unpV bs).p) 2), .int .u8 (((unpV bs).p) 3), .int .u8 (((unpV bs).p) 4), .int .u8 (((unpV bs).p) 5), .int .u8 (((unpV bs).p) 6), .int .u8 (((unpV bs).p) 7), .int .u8 (((unpV bs).p) 8), .int .u8 (((unpV bs).p) 9), .int .u8 (((unpV bs).p) 10), .int .u8 (((unpV bs).p) 11), .int .u8 (((unpV bs).p) 12), .int .u8 (((unpV bs).p) 13), .int .u8 (((unpV bs).p) 14), .int .u8 (((unpV bs).p) 15), .int .u8 (((unpV bs).s) 0), .int .u8 (((unpV bs).s) 1), .int .u8 (((unpV bs).s) 2), .int .u8 (((unpV bs).s) 3), .int .u8 (((unpV bs).s) 4), .int .u8 (((unpV bs).s) 5), .int .u8 (((unpV bs).s) 6), .int .u8 (((unpV bs).s) 7), .int .u8 (((unpV bs).s) 8), .int .u8 (((unpV bs).s) 9), .int .u8 (((unpV bs).s) 10), .int .u8 (((unpV bs).s) 11), .int .u8 (((unpV bs).s) 12), .int .u8 (((unpV bs).s) 13), .int .u8 (((unpV bs).s) 14), .int .u8 (((unpV bs).s) 15)] 25 := Own.cast hw3.own (by kernel_rfl)
  have hzhw3 := hw3.same
  refine VL_pure 8 [2, 5, 6, 7, 8, 9, 10, 11] [(2, .pointer (some ⟨b1, 0, none⟩)), (5, .pointer (some ⟨b3, 0, none⟩)), (6, .int .i64 1), (7, .slice none 0 0), (8, .pointer (some ⟨b4, 0, none⟩)), (9, .int .i64 (unpE bs)), (10, .pointer (some ⟨b5, 0, none⟩)), (11, .int .i64 (unpE bs))] (by kernel_rfl) rfl ?_
  refine VL_end (by kernel_rfl) ?_
  refine VQ_next ?_
  refine VC_seq ?_
  refine VC_seq ?_
  refine VC_region ?_
  refine VL_load (d := 31) (t := 25) (a := ⟨b1, 0, none⟩) (v := .agg #[.int .i64 o.k, .int .u8 o.d, .bool o.a, .int .u32 o.tg, .int .u8 (o.p 0), .int .u8 (o.p 1), .int .u8 (o.p 2), .int .u8 (o.p 3), .int .u8 (o.p 4), .int .u8 (o.p 5), .int .u8 (o.p 6), .int .u8 (o.p 7), .int .u8 (o.p 8), .int .u8 (o.p 9), .int .u8 (o.p 10), .int .u8 (o.p 11), .int .u8 (o.p 12), .int .u8 (o.p 13), .int .u8 (o.p 14), .int .u8 (o.p 15), .int .u8 (o.s 0), .int .u8 (o.s 1), .int .u8 (o.s 2), .int .u8 (o.s 3), .int .u8 (o.s 4), .int .u8 (o.s 5), .int .u8 (o.s 6), .int .u8 (o.s 7), .int .u8 (o.s 8), .int .u8 (o.s 9), .int .u8 (o.s 10), .int .u8 (o.s 11), .int .u8 (o.s 12), .int .u8 (o.s 13), .int .u8 (o.s 14), .int .u8 (o.s 15)]) (by kernel_rfl) (by kernel_rfl) (Loads.ownL ho1 (n := 36) (by kernel_rfl) (by kernel_rfl) (by kernel_rfl)) ?_
  have hzs13 := hS.size
  have hzl28 := ho1.lt
  have hzl29 := ho2.lt
  have hzl30 := ho4.lt
  have hzl31 := ho6.lt
  have hzl32 := ho8.lt
  refine VL_call (d := 32) (f := 14) (by kernel_rfl) (by kernel_rfl) (by kernel_rfl) Try.call14 (CV.val (v' := .bool false) (right_any o _) (by rw [hr])) ?_
  rintro _ w14 ⟨rfl, hc6⟩
  replace hS := Step.trans hS hc6
  replace ho1 := ho1.no hc6
  replace ho2 := ho2.no hc6
  replace ho4 := ho4.no hc6
  replace ho6 := ho6.no hc6
  replace ho8 := ho8.no hc6
  refine VL_pure 19 [5, 7, 8, 9, 10, 11, 43, 46, 49] [(5, .pointer (some ⟨b3, 0, none⟩)), (7, .slice none 0 0), (8, .pointer (some ⟨b4, 0, none⟩)), (9, .int .i64 (unpE bs)), (10, .pointer (some ⟨b5, 0, none⟩)), (11, .int .i64 (unpE bs)), (43, .bool false), (46, .bool true), (49, .bool false)] (by kernel_rfl) rfl ?_
  refine VL_load (d := 50) (t := 26) (a := ⟨b3, 0, none⟩) (v := .agg (iA .u8 (List.replicate 48 0))) (by kernel_rfl) (by kernel_rfl) (Loads.arr (N := 48) ho4 (by kernel_rfl) (by first | assumption | exact packV_len _ | exact (sealL_len _).trans (packV_len _) | simp [sealL_len, packV_len, *])) ?_
  refine VL_pure 21 [5, 7, 8, 9, 10, 11, 43, 46, 49, 50, 51] [(5, .pointer (some ⟨b3, 0, none⟩)), (7, .slice none 0 0), (8, .pointer (some ⟨b4, 0, none⟩)), (9, .int .i64 (unpE bs)), (10, .pointer (some ⟨b5, 0, none⟩)), (11, .int .i64 (unpE bs)), (43, .bool false), (46, .bool true), (49, .bool false), (50, .agg (iA .u8 (List.replicate 48 0))), (51, .agg #[.int .u8 0, .int .u8 0, .int .u8 0, .int .u8 0, .int .u8 0, .int .u8 0, .int .u8 0, .int .u8 0, .int .u8 0, .int .u8 0, .int .u8 0, .int .u8 0, .int .u8 0, .int .u8 0, .int .u8 0, .int .u8 0, .int .u8 0, .int .u8 0, .int .u8 0, .int .u8 0, .int .u8 0, .int .u8 0, .int .u8 0, .int .u8 0, .int .u8 0, .int .u8 0, .int .u8 0, .int .u8 0, .int .u8 0, .int .u8 0, .int .u8 0, .int .u8 0, .int .u8 0, .int .u8 0, .int .u8 0, .int .u8 0, .int .u8 0, .int .u8 0, .int .u8 0, .int .u8 0, .int .u8 0, .int .u8 0, .int .u8 0, .int .u8 0, .int .u8 0, .int .u8 0, .int .u8 0, .int .u8 0])] (by kernel_rfl) rfl ?_
  refine VL_agEq (d := 52) (dd := 9) (ls := (rep 48 [.int .u8])) (pos := false) (t := 26) (xs := (iA .u8 (List.replicate 48 0))) (ys := (iA .u8 (List.replicate 48 0))) (by kernel_rfl) (by kernel_rfl) (by kernel_rfl) (by kernel_rfl) (iA_are (by first | assumption | exact packV_len _ | exact (sealL_len _).trans (packV_len _) | simp [sealL_len, packV_len, *])) (iA_are (by first | assumption | exact packV_len _ | exact (sealL_len _).trans (packV_len _) | simp [sealL_len, packV_len, *])) (!((List.replicate 48 0) == (List.replicate 48 0))) (iA_eq false) ?_
  refine VL_pure 25 [5, 7, 8, 9, 10, 11, 55] [(5, .pointer (some ⟨b3, 0, none⟩)), (7, .slice none 0 0), (8, .pointer (some ⟨b4, 0, none⟩)), (9, .int .i64 (unpE bs)), (10, .pointer (some ⟨b5, 0, none⟩)), (11, .int .i64 (unpE bs)), (55, .bool (!((List.replicate 48 0) == (List.replicate 48 0))))] (by kernel_rfl) rfl ?_
  refine VL_end (by kernel_rfl) ?_
  refine VQ_next ?_
  refine VC_is (b := !((List.replicate 48 0) == (List.replicate 48 0))) false (by kernel_rfl) (by simp) ?_
  refine VC_ite_false ?_
  refine VC_skip ?_
  refine VQ_next ?_
  refine VC_seq ?_
  refine VC_region ?_
  refine VL_pure 8 [8, 9, 10, 11, 63] [(8, .pointer (some ⟨b4, 0, none⟩)), (9, .int .i64 (unpE bs)), (10, .pointer (some ⟨b5, 0, none⟩)), (11, .int .i64 (unpE bs)), (63, .bool true)] (by kernel_rfl) rfl ?_
  refine VL_load (d := 64) (t := 31) (a := ⟨b4, 0, none⟩) (v := .agg #[.int .i64 ((unpV bs).k), .int .u8 ((unpV bs).d), .bool ((unpV bs).a), .int .u32 ((unpV bs).tg), .int .u8 (((unpV bs).p) 0), .int .u8 (((unpV bs).p) 1), .int .u8 (((unpV bs).p) 2), .int .u8 (((unpV bs).p) 3), .int .u8 (((unpV bs).p) 4), .int .u8 (((unpV bs).p) 5), .int .u8 (((unpV bs).p) 6), .int .u8 (((unpV bs).p) 7), .int .u8 (((unpV bs).p) 8), .int .u8 (((unpV bs).p) 9), .int .u8 (((unpV bs).p) 10), .int .u8 (((unpV bs).p) 11), .int .u8 (((unpV bs).p) 12), .int .u8 (((unpV bs).p) 13), .int .u8 (((unpV bs).p) 14), .int .u8 (((unpV bs).p) 15), .int .u8 (((unpV bs).s) 0), .int .u8 (((unpV bs).s) 1), .int .u8 (((unpV bs).s) 2), .int .u8 (((unpV bs).s) 3), .int .u8 (((unpV bs).s) 4), .int .u8 (((unpV bs).s) 5), .int .u8 (((unpV bs).s) 6), .int .u8 (((unpV bs).s) 7), .int .u8 (((unpV bs).s) 8), .int .u8 (((unpV bs).s) 9), .int .u8 (((unpV bs).s) 10), .int .u8 (((unpV bs).s) 11), .int .u8 (((unpV bs).s) 12), .int .u8 (((unpV bs).s) 13), .int .u8 (((unpV bs).s) 14), .int .u8 (((unpV bs).s) 15)]) (by kernel_rfl) (by kernel_rfl) (Loads.ownL ho6 (n := 36) (by kernel_rfl) (by kernel_rfl) (by kernel_rfl)) ?_
  refine VL_load (d := 65) (t := 25) (a := ⟨b5, 0, none⟩) (v := .agg #[.int .i64 ((unpV bs).k), .int .u8 ((unpV bs).d), .bool ((unpV bs).a), .int .u32 ((unpV bs).tg), .int .u8 (((unpV bs).p) 0), .int .u8 (((unpV bs).p) 1), .int .u8 (((unpV bs).p) 2), .int .u8 (((unpV bs).p) 3), .int .u8 (((unpV bs).p) 4), .int .u8 (((unpV bs).p) 5), .int .u8 (((unpV bs).p) 6), .int .u8 (((unpV bs).p) 7), .int .u8 (((unpV bs).p) 8), .int .u8 (((unpV bs).p) 9), .int .u8 (((unpV bs).p) 10), .int .u8 (((unpV bs).p) 11), .int .u8 (((unpV bs).p) 12), .int .u8 (((unpV bs).p) 13), .int .u8 (((unpV bs).p) 14), .int .u8 (((unpV bs).p) 15), .int .u8 (((unpV bs).s) 0), .int .u8 (((unpV bs).s) 1), .int .u8 (((unpV bs).s) 2), .int .u8 (((unpV bs).s) 3), .int .u8 (((unpV bs).s) 4), .int .u8 (((unpV bs).s) 5), .int .u8 (((unpV bs).s) 6), .int .u8 (((unpV bs).s) 7), .int .u8 (((unpV bs).s) 8), .int .u8 (((unpV bs).s) 9), .int .u8 (((unpV bs).s) 10), .int .u8 (((unpV bs).s) 11), .int .u8 (((unpV bs).s) 12), .int .u8 (((unpV bs).s) 13), .int .u8 (((unpV bs).s) 14), .int .u8 (((unpV bs).s) 15)]) (by kernel_rfl) (by kernel_rfl) (Loads.ownL ho8 (n := 36) (by kernel_rfl) (by kernel_rfl) (by kernel_rfl)) ?_
  refine VL_agEq (d := 66) (dd := 9) (ls := ([.int .i64] ++ [.int .u8] ++ [.bool] ++ [.int .u32] ++ (rep 16 [.int .u8]) ++ (rep 16 [.int .u8]) ++ [])) (pos := true) (t := 25) (xs := #[.int .i64 ((unpV bs).k), .int .u8 ((unpV bs).d), .bool ((unpV bs).a), .int .u32 ((unpV bs).tg), .int .u8 (((unpV bs).p) 0), .int .u8 (((unpV bs).p) 1), .int .u8 (((unpV bs).p) 2), .int .u8 (((unpV bs).p) 3), .int .u8 (((unpV bs).p) 4), .int .u8 (((unpV bs).p) 5), .int .u8 (((unpV bs).p) 6), .int .u8 (((unpV bs).p) 7), .int .u8 (((unpV bs).p) 8), .int .u8 (((unpV bs).p) 9), .int .u8 (((unpV bs).p) 10), .int .u8 (((unpV bs).p) 11), .int .u8 (((unpV bs).p) 12), .int .u8 (((unpV bs).p) 13), .int .u8 (((unpV bs).p) 14), .int .u8 (((unpV bs).p) 15), .int .u8 (((unpV bs).s) 0), .int .u8 (((unpV bs).s) 1), .int .u8 (((unpV bs).s) 2), .int .u8 (((unpV bs).s) 3), .int .u8 (((unpV bs).s) 4), .int .u8 (((unpV bs).s) 5), .int .u8 (((unpV bs).s) 6), .int .u8 (((unpV bs).s) 7), .int .u8 (((unpV bs).s) 8), .int .u8 (((unpV bs).s) 9), .int .u8 (((unpV bs).s) 10), .int .u8 (((unpV bs).s) 11), .int .u8 (((unpV bs).s) 12), .int .u8 (((unpV bs).s) 13), .int .u8 (((unpV bs).s) 14), .int .u8 (((unpV bs).s) 15)]) (ys := #[.int .i64 ((unpV bs).k), .int .u8 ((unpV bs).d), .bool ((unpV bs).a), .int .u32 ((unpV bs).tg), .int .u8 (((unpV bs).p) 0), .int .u8 (((unpV bs).p) 1), .int .u8 (((unpV bs).p) 2), .int .u8 (((unpV bs).p) 3), .int .u8 (((unpV bs).p) 4), .int .u8 (((unpV bs).p) 5), .int .u8 (((unpV bs).p) 6), .int .u8 (((unpV bs).p) 7), .int .u8 (((unpV bs).p) 8), .int .u8 (((unpV bs).p) 9), .int .u8 (((unpV bs).p) 10), .int .u8 (((unpV bs).p) 11), .int .u8 (((unpV bs).p) 12), .int .u8 (((unpV bs).p) 13), .int .u8 (((unpV bs).p) 14), .int .u8 (((unpV bs).p) 15), .int .u8 (((unpV bs).s) 0), .int .u8 (((unpV bs).s) 1), .int .u8 (((unpV bs).s) 2), .int .u8 (((unpV bs).s) 3), .int .u8 (((unpV bs).s) 4), .int .u8 (((unpV bs).s) 5), .int .u8 (((unpV bs).s) 6), .int .u8 (((unpV bs).s) 7), .int .u8 (((unpV bs).s) 8), .int .u8 (((unpV bs).s) 9), .int .u8 (((unpV bs).s) 10), .int .u8 (((unpV bs).s) 11), .int .u8 (((unpV bs).s) 12), .int .u8 (((unpV bs).s) 13), .int .u8 (((unpV bs).s) 14), .int .u8 (((unpV bs).s) 15)]) (by kernel_rfl) (by kernel_rfl) (by kernel_rfl) (by kernel_rfl) (by first | exact ⟨⟨_, rfl⟩, ⟨_, rfl⟩, ⟨_, rfl⟩, ⟨_, rfl⟩, ⟨_, rfl⟩, ⟨_, rfl⟩, ⟨_, rfl⟩, ⟨_, rfl⟩, ⟨_, rfl⟩, ⟨_, rfl⟩, ⟨_, rfl⟩, ⟨_, rfl⟩, ⟨_, rfl⟩, ⟨_, rfl⟩, ⟨_, rfl⟩, ⟨_, rfl⟩, ⟨_, rfl⟩, ⟨_, rfl⟩, ⟨_, rfl⟩, ⟨_, rfl⟩, ⟨_, rfl⟩, ⟨_, rfl⟩, ⟨_, rfl⟩, ⟨_, rfl⟩, ⟨_, rfl⟩, ⟨_, rfl⟩, ⟨_, rfl⟩, ⟨_, rfl⟩, ⟨_, rfl⟩, ⟨_, rfl⟩, ⟨_, rfl⟩, ⟨_, rfl⟩, ⟨_, rfl⟩, ⟨_, rfl⟩, ⟨_, rfl⟩, ⟨_, rfl⟩, trivial⟩ | trivial) (by first | exact ⟨⟨_, rfl⟩, ⟨_, rfl⟩, ⟨_, rfl⟩, ⟨_, rfl⟩, ⟨_, rfl⟩, ⟨_, rfl⟩, ⟨_, rfl⟩, ⟨_, rfl⟩, ⟨_, rfl⟩, ⟨_, rfl⟩, ⟨_, rfl⟩, ⟨_, rfl⟩, ⟨_, rfl⟩, ⟨_, rfl⟩, ⟨_, rfl⟩, ⟨_, rfl⟩, ⟨_, rfl⟩, ⟨_, rfl⟩, ⟨_, rfl⟩, ⟨_, rfl⟩, ⟨_, rfl⟩, ⟨_, rfl⟩, ⟨_, rfl⟩, ⟨_, rfl⟩, ⟨_, rfl⟩, ⟨_, rfl⟩, ⟨_, rfl⟩, ⟨_, rfl⟩, ⟨_, rfl⟩, ⟨_, rfl⟩, ⟨_, rfl⟩, ⟨_, rfl⟩, ⟨_, rfl⟩, ⟨_, rfl⟩, ⟨_, rfl⟩, ⟨_, rfl⟩, trivial⟩ | trivial) true (by first | exact (omEq_iff _ _).2 rfl | (show (!_) = false; rw [show cellsEq _ _ = true from (omEq_iff _ _).2 rfl]; rfl)) ?_
  refine VL_pure 18 [4] [(4, .bool ((unpE bs) == (unpE bs)))] (by kernel_rfl) rfl ?_
  refine VL_end (by kernel_rfl) ?_
  refine VQ_next ?_
  refine VC_ret ?_
  refine VQ_ret1 (.bool ((unpE bs) == (unpE bs))) (.inr rfl) rfl rfl ?_
  exact ⟨by first | rfl | simp [*], hS⟩

end Go.Proofs.Yteipakmfiiccpaa
