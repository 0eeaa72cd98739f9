/- Layer 14: OamBack. -/
import Derived.Test.YteipakmfiiccpaaProg
import Derived.Test.YteipakmfiiccpaaOm8
import Derived.Test.YteipakmfiiccpaaOm13
import Derived.Test.YteipakmfiiccpaaFl1
set_option linter.unusedVariables false
set_option linter.unusedSimpArgs false
namespace Go.Proofs.Yteipakmfiiccpaa
open Go.Vc Go.RowKit

set_option maxRecDepth 100000 in
set_option maxHeartbeats 4000000 in
theorem back_yes (o : Om) (bs : List Int) (bt : Nat) (w : World) (ho : OmOk o) (hn : bs.length = 48) (hb : Bytes bs) (hbt : bt < 65536) (hr : rightO o = true) :
    CV Try.prog 4 #[.agg #[.int .i64 o.k, .int .u8 o.d, .bool o.a, .int .u32 o.tg, .int .u8 (o.p 0), .int .u8 (o.p 1), .int .u8 (o.p 2), .int .u8 (o.p 3), .int .u8 (o.p 4), .int .u8 (o.p 5), .int .u8 (o.p 6), .int .u8 (o.p 7), .int .u8 (o.p 8), .int .u8 (o.p 9), .int .u8 (o.p 10), .int .u8 (o.p 11), .int .u8 (o.p 12), .int .u8 (o.p 13), .int .u8 (o.p 14), .int .u8 (o.p 15), .int .u8 (o.s 0), .int .u8 (o.s 1), .int .u8 (o.s 2), .int .u8 (o.s 3), .int .u8 (o.s 4), .int .u8 (o.s 5), .int .u8 (o.s 6), .int .u8 (o.s 7), .int .u8 (o.s 8), .int .u8 (o.s 9), .int .u8 (o.s 10), .int .u8 (o.s 11), .int .u8 (o.s 12), .int .u8 (o.s 13), .int .u8 (o.s 14), .int .u8 (o.s 15)], .agg (iA .u8 bs), .int .u16 ((bt : Nat) : Int)] w (fun x w1 => x = .bool true ∧ Step No w w1) := by
  have hS : Step No w w := Step.refl _ _
  refine CV_enter Try.f4 _ 86 [(0, .agg #[.int .i64 o.k, .int .u8 o.d, .bool o.a, .int .u32 o.tg, .int .u8 (o.p 0), .int .u8 (o.p 1), .int .u8 (o.p 2), .int .u8 (o.p 3), .int .u8 (o.p 4), .int .u8 (o.p 5), .int .u8 (o.p 6), .int .u8 (o.p 7), .int .u8 (o.p 8), .int .u8 (o.p 9), .int .u8 (o.p 10), .int .u8 (o.p 11), .int .u8 (o.p 12), .int .u8 (o.p 13), .int .u8 (o.p 14), .int .u8 (o.p 15), .int .u8 (o.s 0), .int .u8 (o.s 1), .int .u8 (o.s 2), .int .u8 (o.s 3), .int .u8 (o.s 4), .int .u8 (o.s 5), .int .u8 (o.s 6), .int .u8 (o.s 7), .int .u8 (o.s 8), .int .u8 (o.s 9), .int .u8 (o.s 10), .int .u8 (o.s 11), .int .u8 (o.s 12), .int .u8 (o.s 13), .int .u8 (o.s 14), .int .u8 (o.s 15)]), (1, .agg (iA .u8 bs)), (2, .int .u16 ((bt : Nat) : Int))] Try.func4 rfl rfl (by kernel_rfl) rfl ?_
  refine VC_seq ?_
  refine VC_region ?_
  have hzs1 := hS.size
  refine VL_box (d := 3) (t := 25) (c := #[.int .i64 o.k, .int .u8 o.d, .bool o.a, .int .u32 o.tg, .int .u8 (o.p 0), .int .u8 (o.p 1), .int .u8 (o.p 2), .int .u8 (o.p 3), .int .u8 (o.p 4), .int .u8 (o.p 5), .int .u8 (o.p 6), .int .u8 (o.p 7), .int .u8 (o.p 8), .int .u8 (o.p 9), .int .u8 (o.p 10), .int .u8 (o.p 11), .int .u8 (o.p 12), .int .u8 (o.p 13), .int .u8 (o.p 14), .int .u8 (o.p 15), .int .u8 (o.s 0), .int .u8 (o.s 1), .int .u8 (o.s 2), .int .u8 (o.s 3), .int .u8 (o.s 4), .int .u8 (o.s 5), .int .u8 (o.s 6), .int .u8 (o.s 7), .int .u8 (o.s 8), .int .u8 (o.s 9), .int .u8 (o.s 10), .int .u8 (o.s 11), .int .u8 (o.s 12), .int .u8 (o.s 13), .int .u8 (o.s 14), .int .u8 (o.s 15)]) (by kernel_rfl) (by kernel_rfl) ?_
  intro b1 w1 hn1
  replace hS := Step.trans hS (hn1.step No)
  have ho1 := hn1.own
  have hzhn1 := hn1.size
  have hqhn1 := hn1.eqb
  have hzs2 := hS.size
  have hzl1 := ho1.lt
  have hzs3 := hS.size
  have hzl2 := ho1.lt
  refine VL_box (d := 4) (t := 26) (c := iA .u8 bs) (by kernel_rfl) (by kernel_rfl) ?_
  intro b2 w2 hn2
  replace hS := Step.trans hS (hn2.step No)
  replace ho1 := ho1.no (hn2.step No)
  have ho2 := hn2.own
  have hzhn2 := hn2.size
  have hqhn2 := hn2.eqb
  refine VL_pure 3 [2, 3, 4] [(2, .int .u16 ((bt : Nat) : Int)), (3, .pointer (some ⟨b1, 0, none⟩)), (4, .pointer (some ⟨b2, 0, none⟩))] (by kernel_rfl) rfl ?_
  refine VL_end (by kernel_rfl) ?_
  refine VQ_next ?_
  refine VC_seq ?_
  refine VC_seq ?_
  refine VC_region ?_
  have hzs4 := hS.size
  have hzl3 := ho1.lt
  have hzl4 := ho2.lt
  refine VL_call (d := 18) (f := 9) (args := #[]) (by kernel_rfl) (by kernel_rfl) (by kernel_rfl) Try.call9 (awake_any _) ?_
  rintro _ w3 ⟨rfl, hc1⟩
  replace hS := Step.trans hS hc1
  replace ho1 := ho1.no hc1
  replace ho2 := ho2.no hc1
  refine VL_pure 2 [2, 3, 4, 19] [(2, .int .u16 ((bt : Nat) : Int)), (3, .pointer (some ⟨b1, 0, none⟩)), (4, .pointer (some ⟨b2, 0, none⟩)), (19, .bool false)] (by kernel_rfl) rfl ?_
  refine VL_end (by kernel_rfl) ?_
  refine VQ_next ?_
  refine VC_false (by kernel_rfl) ?_
  refine VC_skip ?_
  refine VQ_next ?_
  refine VC_seq ?_
  refine VC_region ?_
  refine VL_load (d := 20) (t := 25) (a := ⟨b1, 0, none⟩) (v := .agg #[.int .i64 o.k, .int .u8 o.d, .bool o.a, .int .u32 o.tg, .int .u8 (o.p 0), .int .u8 (o.p 1), .int .u8 (o.p 2), .int .u8 (o.p 3), .int .u8 (o.p 4), .int .u8 (o.p 5), .int .u8 (o.p 6), .int .u8 (o.p 7), .int .u8 (o.p 8), .int .u8 (o.p 9), .int .u8 (o.p 10), .int .u8 (o.p 11), .int .u8 (o.p 12), .int .u8 (o.p 13), .int .u8 (o.p 14), .int .u8 (o.p 15), .int .u8 (o.s 0), .int .u8 (o.s 1), .int .u8 (o.s 2), .int .u8 (o.s 3), .int .u8 (o.s 4), .int .u8 (o.s 5), .int .u8 (o.s 6), .int .u8 (o.s 7), .int .u8 (o.s 8), .int .u8 (o.s 9), .int .u8 (o.s 10), .int .u8 (o.s 11), .int .u8 (o.s 12), .int .u8 (o.s 13), .int .u8 (o.s 14), .int .u8 (o.s 15)]) (by kernel_rfl) (by kernel_rfl) (Loads.ownL ho1 (n := 36) (by kernel_rfl) (by kernel_rfl) (by kernel_rfl)) ?_
  have hzs5 := hS.size
  have hzl5 := ho1.lt
  have hzl6 := ho2.lt
  refine VL_box (d := 7) (t := 31) (c := #[.int .i64 0, .int .u8 0, .bool false, .int .u32 0, .int .u8 0, .int .u8 0, .int .u8 0, .int .u8 0, .int .u8 0, .int .u8 0, .int .u8 0, .int .u8 0, .int .u8 0, .int .u8 0, .int .u8 0, .int .u8 0, .int .u8 0, .int .u8 0, .int .u8 0, .int .u8 0, .int .u8 0, .int .u8 0, .int .u8 0, .int .u8 0, .int .u8 0, .int .u8 0, .int .u8 0, .int .u8 0, .int .u8 0, .int .u8 0, .int .u8 0, .int .u8 0, .int .u8 0, .int .u8 0, .int .u8 0, .int .u8 0]) (by kernel_rfl) (by kernel_rfl) ?_
  intro b3 w4 hn3
  replace hS := Step.trans hS (hn3.step No)
  replace ho1 := ho1.no (hn3.step No)
  replace ho2 := ho2.no (hn3.step No)
  have ho3 := hn3.own
  have hzhn3 := hn3.size
  have hqhn3 := hn3.eqb
  refine VL_store (b := b3) (o := 0) (vs := [.int .i64 o.k, .int .u8 o.d, .bool o.a, .int .u32 o.tg, .int .u8 (o.p 0), .int .u8 (o.p 1), .int .u8 (o.p 2), .int .u8 (o.p 3), .int .u8 (o.p 4), .int .u8 (o.p 5), .int .u8 (o.p 6), .int .u8 (o.p 7), .int .u8 (o.p 8), .int .u8 (o.p 9), .int .u8 (o.p 10), .int .u8 (o.p 11), .int .u8 (o.p 12), .int .u8 (o.p 13), .int .u8 (o.p 14), .int .u8 (o.p 15), .int .u8 (o.s 0), .int .u8 (o.s 1), .int .u8 (o.s 2), .int .u8 (o.s 3), .int .u8 (o.s 4), .int .u8 (o.s 5), .int .u8 (o.s 6), .int .u8 (o.s 7), .int .u8 (o.s 8), .int .u8 (o.s 9), .int .u8 (o.s 10), .int .u8 (o.s 11), .int .u8 (o.s 12), .int .u8 (o.s 13), .int .u8 (o.s 14), .int .u8 (o.s 15)]) (by kernel_rfl) (by kernel_rfl) ho3 (Nat.le_of_ble_eq_true (by kernel_rfl)) ?_
  intro w5 hw1
  replace hS := Step.transNew hS hw1.step (fun _ _ _ => by omega)
  replace ho1 := ho1.step hw1.step (show ¬ b1 = b3 by omega)
  replace ho2 := ho2.step hw1.step (show ¬ b2 = b3 by omega)
  have ho4 : Own w5 b3 #[.int .i64 o.k, .int .u8 o.d, .bool o.a, .int .u32 o.tg, .int .u8 (o.p 0), .int .u8 (o.p 1), .int .u8 (o.p 2), .int .u8 (o.p 3), .int .u8 (o.p 4), .int .u8 (o.p 5), .int .u8 (o.p 6), .int .u8 (o.p 7), .int .u8 (o.p 8), .int .u8 (o.p 9), .int .u8 (o.p 10), .int .u8 (o.p 11), .int .u8 (o.p 12), .int .u8 (o.p 13), .int .u8 (o.p 14), .int .u8 (o.p 15), .int .u8 (o.s 0), .int .u8 (o.s 1), .int .u8 (o.s 2), .int .u8 (o.s 3), .int .u8 (o.s 4), .int .u8 (o.s 5), .int .u8 (o.s 6), .int .u8 (o.s 7), .int .u8 (o.s 8), .int .u8 (o.s 9), .int .u8 (o.s 10), .int .u8 (o.s 11), .int .u8 (o.s 12), .int .u8 (o.s 13), .int .u8 (o.s 14), .int .u8 (o.s 15)] 31 := Own.cast hw1.own (by kernel_rfl)
  have hzhw1 := hw1.same
  refine VL_end (by kernel_rfl) ?_
  refine VQ_next ?_
  refine VC_seq ?_
  refine VC_region ?_
  refine VL_load (d := 22) (t := 31) (a := ⟨b3, 0, none⟩) (v := .agg #[.int .i64 o.k, .int .u8 o.d, .bool o.a, .int .u32 o.tg, .int .u8 (o.p 0), .int .u8 (o.p 1), .int .u8 (o.p 2), .int .u8 (o.p 3), .int .u8 (o.p 4), .int .u8 (o.p 5), .int .u8 (o.p 6), .int .u8 (o.p 7), .int .u8 (o.p 8), .int .u8 (o.p 9), .int .u8 (o.p 10), .int .u8 (o.p 11), .int .u8 (o.p 12), .int .u8 (o.p 13), .int .u8 (o.p 14), .int .u8 (o.p 15), .int .u8 (o.s 0), .int .u8 (o.s 1), .int .u8 (o.s 2), .int .u8 (o.s 3), .int .u8 (o.s 4), .int .u8 (o.s 5), .int .u8 (o.s 6), .int .u8 (o.s 7), .int .u8 (o.s 8), .int .u8 (o.s 9), .int .u8 (o.s 10), .int .u8 (o.s 11), .int .u8 (o.s 12), .int .u8 (o.s 13), .int .u8 (o.s 14), .int .u8 (o.s 15)]) (by kernel_rfl) (by kernel_rfl) (Loads.ownL ho4 (n := 36) (by kernel_rfl) (by kernel_rfl) (by kernel_rfl)) ?_
  have hzs6 := hS.size
  have hzl7 := ho1.lt
  have hzl8 := ho2.lt
  have hzl9 := ho4.lt
  refine VL_call (d := 23) (f := 10) (by kernel_rfl) (by kernel_rfl) (by kernel_rfl) Try.call10 (CV.val (v' := .tuple #[.agg (iA .u8 (packV o)), .int .i64 0]) (pack_any o _) (by rw [packE_yes hr])) ?_
  rintro _ w6 ⟨rfl, hc2⟩
  replace hS := Step.trans hS hc2
  replace ho1 := ho1.no hc2
  replace ho2 := ho2.no hc2
  replace ho4 := ho4.no hc2
  refine VL_pure 5 [2, 4, 7, 24, 25] [(2, .int .u16 ((bt : Nat) : Int)), (4, .pointer (some ⟨b2, 0, none⟩)), (7, .pointer (some ⟨b3, 0, none⟩)), (24, .agg (iA .u8 (packV o))), (25, .int .i64 0)] (by kernel_rfl) rfl ?_
  have hzs7 := hS.size
  have hzl10 := ho1.lt
  have hzl11 := ho2.lt
  have hzl12 := ho4.lt
  have hzs8 := hS.size
  have hzl13 := ho1.lt
  have hzl14 := ho2.lt
  have hzl15 := ho4.lt
  refine VL_box (d := 8) (t := 26) (c := iA .u8 (List.replicate 48 0)) (by kernel_rfl) (by kernel_rfl) ?_
  intro b4 w7 hn4
  replace hS := Step.trans hS (hn4.step No)
  replace ho1 := ho1.no (hn4.step No)
  replace ho2 := ho2.no (hn4.step No)
  replace ho4 := ho4.no (hn4.step No)
  have ho5 := hn4.own
  have hzhn4 := hn4.size
  have hqhn4 := hn4.eqb
  refine VL_storeA (b := b4) (sz := 48) (k := .u8) (bs := packV o) (by kernel_rfl) (by kernel_rfl) (by first | assumption | exact packV_len _ | exact (flipL_len _ _).trans (packV_len _) | simp) ho5 (iA_size.trans (by (try simp only [List.length_set, List.length_append, List.length_map, List.length_replicate, List.length_cons, List.length_nil, List.length_take, List.length_drop, List.length_range]) <;> omega)) ?_
  intro w8 hw2
  replace hS := Step.transNew hS hw2.step (fun _ _ _ => by omega)
  replace ho1 := ho1.step hw2.step (show ¬ b1 = b4 by omega)
  replace ho2 := ho2.step hw2.step (show ¬ b2 = b4 by omega)
  replace ho4 := ho4.step hw2.step (show ¬ b3 = b4 by omega)
  have ho6 := hw2.own
  have hzhw2 := hw2.same
  refine VL_pure 8 [2, 4, 7, 8, 9] [(2, .int .u16 ((bt : Nat) : Int)), (4, .pointer (some ⟨b2, 0, none⟩)), (7, .pointer (some ⟨b3, 0, none⟩)), (8, .pointer (some ⟨b4, 0, none⟩)), (9, .int .i64 0)] (by kernel_rfl) rfl ?_
  refine VL_end (by kernel_rfl) ?_
  refine VQ_next ?_
  refine VC_seq ?_
  refine VC_seq ?_
  refine VC_region ?_
  refine VL_pure 2 [2, 4, 7, 8, 27] [(2, .int .u16 ((bt : Nat) : Int)), (4, .pointer (some ⟨b2, 0, none⟩)), (7, .pointer (some ⟨b3, 0, none⟩)), (8, .pointer (some ⟨b4, 0, none⟩)), (27, .bool true)] (by kernel_rfl) rfl ?_
  refine VL_end (by kernel_rfl) ?_
  refine VQ_next ?_
  refine VC_true (by kernel_rfl) ?_
  refine VC_seq ?_
  refine VC_region ?_
  refine VL_load (d := 29) (t := 26) (a := ⟨b4, 0, none⟩) (v := .agg (iA .u8 (packV o))) (by kernel_rfl) (by kernel_rfl) (Loads.arr (N := 48) ho6 (by kernel_rfl) (by first | assumption | exact packV_len _ | exact (flipL_len _ _).trans (packV_len _) | simp)) ?_
  have hzs9 := hS.size
  have hzl16 := ho1.lt
  have hzl17 := ho2.lt
  have hzl18 := ho4.lt
  have hzl19 := ho6.lt
  refine VL_call (d := 30) (f := 12) (by kernel_rfl) (by kernel_rfl) (by kernel_rfl) Try.call12 (CV.val (v' := .tuple #[.agg (omL o).toArray, .int .i64 0]) (unpack_any (packV o) _ (by first | assumption | exact packV_len _ | exact (flipL_len _ _).trans (packV_len _) | simp)) (by rw [(unp_back ho hr).1, (unp_back ho hr).2])) ?_
  rintro _ w9 ⟨rfl, hc3⟩
  replace hS := Step.trans hS hc3
  replace ho1 := ho1.no hc3
  replace ho2 := ho2.no hc3
  replace ho4 := ho4.no hc3
  replace ho6 := ho6.no hc3
  refine VL_pure 5 [2, 4, 7, 8, 31, 32] [(2, .int .u16 ((bt : Nat) : Int)), (4, .pointer (some ⟨b2, 0, none⟩)), (7, .pointer (some ⟨b3, 0, none⟩)), (8, .pointer (some ⟨b4, 0, none⟩)), (31, .agg #[.int .i64 o.k, .int .u8 o.d, .bool o.a, .int .u32 o.tg, .int .u8 (o.p 0), .int .u8 (o.p 1), .int .u8 (o.p 2), .int .u8 (o.p 3), .int .u8 (o.p 4), .int .u8 (o.p 5), .int .u8 (o.p 6), .int .u8 (o.p 7), .int .u8 (o.p 8), .int .u8 (o.p 9), .int .u8 (o.p 10), .int .u8 (o.p 11), .int .u8 (o.p 12), .int .u8 (o.p 13), .int .u8 (o.p 14), .int .u8 (o.p 15), .int .u8 (o.s 0), .int .u8 (o.s 1), .int .u8 (o.s 2), .int .u8 (o.s 3), .int .u8 (o.s 4), .int .u8 (o.s 5), .int .u8 (o.s 6), .int .u8 (o.s 7), .int .u8 (o.s 8), .int .u8 (o.s 9), .int .u8 (o.s 10), .int .u8 (o.s 11), .int .u8 (o.s 12), .int .u8 (o.s 13), .int .u8 (o.s 14), .int .u8 (o.s 15)]), (32, .int .i64 0)] (by kernel_rfl) rfl ?_
  have hzs10 := hS.size
  have hzl20 := ho1.lt
  have hzl21 := ho2.lt
  have hzl22 := ho4.lt
  have hzl23 := ho6.lt
  refine VL_box (d := 10) (t := 31) (c := #[.int .i64 0, .int .u8 0, .bool false, .int .u32 0, .int .u8 0, .int .u8 0, .int .u8 0, .int .u8 0, .int .u8 0, .int .u8 0, .int .u8 0, .int .u8 0, .int .u8 0, .int .u8 0, .int .u8 0, .int .u8 0, .int .u8 0, .int .u8 0, .int .u8 0, .int .u8 0, .int .u8 0, .int .u8 0, .int .u8 0, .int .u8 0, .int .u8 0, .int .u8 0, .int .u8 0, .int .u8 0, .int .u8 0, .int .u8 0, .int .u8 0, .int .u8 0, .int .u8 0, .int .u8 0, .int .u8 0, .int .u8 0]) (by kernel_rfl) (by kernel_rfl) ?_
  intro b5 w10 hn5
  replace hS := Step.trans hS (hn5.step No)
  replace ho1 := ho1.no (hn5.step No)
  replace ho2 := ho2.no (hn5.step No)
  replace ho4 := ho4.no (hn5.step No)
  replace ho6 := ho6.no (hn5.step No)
  have ho7 := hn5.own
  have hzhn5 := hn5.size
  have hqhn5 := hn5.eqb
  refine VL_store (b := b5) (o := 0) (vs := [.int .i64 o.k, .int .u8 o.d, .bool o.a, .int .u32 o.tg, .int .u8 (o.p 0), .int .u8 (o.p 1), .int .u8 (o.p 2), .int .u8 (o.p 3), .int .u8 (o.p 4), .int .u8 (o.p 5), .int .u8 (o.p 6), .int .u8 (o.p 7), .int .u8 (o.p 8), .int .u8 (o.p 9), .int .u8 (o.p 10), .int .u8 (o.p 11), .int .u8 (o.p 12), .int .u8 (o.p 13), .int .u8 (o.p 14), .int .u8 (o.p 15), .int .u8 (o.s 0), .int .u8 (o.s 1), .int .u8 (o.s 2), .int .u8 (o.s 3), .int .u8 (o.s 4), .int .u8 (o.s 5), .int .u8 (o.s 6), .int .u8 (o.s 7), .int .u8 (o.s 8), .int .u8 (o.s 9), .int .u8 (o.s 10), .int .u8 (o.s 11), .int .u8 (o.s 12), .int .u8 (o.s 13), .int .u8 (o.s 14), .int .u8 (o.s 15)]) (by kernel_rfl) (by kernel_rfl) ho7 (Nat.le_of_ble_eq_true (by kernel_rfl)) ?_
  intro w11 hw3
  replace hS := Step.transNew hS hw3.step (fun _ _ _ => by omega)
  replace ho1 := ho1.step hw3.step (show ¬ b1 = b5 by omega)
  replace ho2 := ho2.step hw3.step (show ¬ b2 = b5 by omega)
  replace ho4 := ho4.step hw3.step (show ¬ b3 = b5 by omega)
  replace ho6 := ho6.step hw3.step (show ¬ b4 = b5 by omega)
  have ho8 : Own w11 b5 #[.int .i64 o.k, .int .u8 o.d, .bool o.a, .int .u32 o.tg, .int .u8 (o.p 0), .int .u8 (o.p 1), .int .u8 (o.p 2), .int .u8 (o.p 3), .int .u8 (o.p 4), .int .u8 (o.p 5), .int .u8 (o.p 6), .int .u8 (o.p 7), .int .u8 (o.p 8), .int .u8 (o.p 9), .int .u8 (o.p 10), .int .u8 (o.p 11), .int .u8 (o.p 12), .int .u8 (o.p 13), .int .u8 (o.p 14), .int .u8 (o.p 15), .int .u8 (o.s 0), .int .u8 (o.s 1), .int .u8 (o.s 2), .int .u8 (o.s 3), .int .u8 (o.s 4), .int .u8 (o.s 5), .int .u8 (o.s 6), .int .u8 (o.s 7), .int .u8 (o.s 8), .int .u8 (o.s 9), .int .u8 (o.s 10), .int .u8 (o.s 11), .int .u8 (o.s 12), .int .u8 (o.s 13), .int .u8 (o.s 14), .int .u8 (o.s 15)] 31 := Own.cast hw3.own (by kernel_rfl)
  have hzhw3 := hw3.same
  refine VL_pure 8 [2, 4, 7, 8, 10, 11] [(2, .int .u16 ((bt : Nat) : Int)), (4, .pointer (some ⟨b2, 0, none⟩)), (7, .pointer (some ⟨b3, 0, none⟩)), (8, .pointer (some ⟨b4, 0, none⟩)), (10, .pointer (some ⟨b5, 0, none⟩)), (11, .int .i64 0)] (by kernel_rfl) rfl ?_
  refine VL_end (by kernel_rfl) ?_
  refine VQ_next ?_
  refine VC_seq ?_
  refine VC_region ?_
  refine VL_pure 3 [4, 7, 8, 10, 11, 34, 36] [(4, .pointer (some ⟨b2, 0, none⟩)), (7, .pointer (some ⟨b3, 0, none⟩)), (8, .pointer (some ⟨b4, 0, none⟩)), (10, .pointer (some ⟨b5, 0, none⟩)), (11, .int .i64 0), (34, .slice (some ⟨b4, 0, none⟩) 48 48), (36, .int .i64 (IntKind.wrap .i64 ((bt : Nat) : Int)))] (by kernel_rfl) rfl ?_
  have he1 : IntKind.wrap .i64 ((bt : Nat) : Int) = ((bt : Nat) : Int) := (by rw [wrap_i64 _ (by omega) (by omega)])
  refine VL_eq [(4, .pointer (some ⟨b2, 0, none⟩)), (7, .pointer (some ⟨b3, 0, none⟩)), (8, .pointer (some ⟨b4, 0, none⟩)), (10, .pointer (some ⟨b5, 0, none⟩)), (11, .int .i64 0), (34, .slice (some ⟨b4, 0, none⟩) 48 48), (36, .int .i64 ((bt : Nat) : Int))] (by rw [he1]) ?_
  refine VL_pure 4 [4, 7, 8, 10, 11, 34, 37] [(4, .pointer (some ⟨b2, 0, none⟩)), (7, .pointer (some ⟨b3, 0, none⟩)), (8, .pointer (some ⟨b4, 0, none⟩)), (10, .pointer (some ⟨b5, 0, none⟩)), (11, .int .i64 0), (34, .slice (some ⟨b4, 0, none⟩) 48 48), (37, .int .i64 (((bt : Nat) : Int).tmod 384))] (by kernel_rfl) rfl ?_
  have he2 : ((bt : Nat) : Int).tmod 384 = ((bt % 384 : Nat) : Int) := (tmod_nat bt 384)
  refine VL_eq [(4, .pointer (some ⟨b2, 0, none⟩)), (7, .pointer (some ⟨b3, 0, none⟩)), (8, .pointer (some ⟨b4, 0, none⟩)), (10, .pointer (some ⟨b5, 0, none⟩)), (11, .int .i64 0), (34, .slice (some ⟨b4, 0, none⟩) 48 48), (37, .int .i64 ((bt % 384 : Nat) : Int))] (by rw [he2]) ?_
  have hzs11 := hS.size
  have hzl24 := ho1.lt
  have hzl25 := ho2.lt
  have hzl26 := ho4.lt
  have hzl27 := ho6.lt
  have hzl28 := ho8.lt
  refine VL_call (d := 38) (f := 16) (by kernel_rfl) (by kernel_rfl) (by kernel_rfl) Try.call16 (flip_any (some ⟨b4, 0, none⟩) 48 48 _ (packV o) _ (by first | assumption | exact packV_len _ | exact (flipL_len _ _).trans (packV_len _) | simp) (Own.slI ho6 ho6.lt) (by first | exact Nat.le_refl _ | omega) (bt % 384) (by omega) (by omega)) ?_
  rintro _ w12 ⟨g1, c1, rfl, hggg1, hr1, hc4⟩
  replace hS := Step.trans hS hc4
  replace ho1 := ho1.no hc4
  replace ho2 := ho2.no hc4
  replace ho4 := ho4.no hc4
  replace ho6 := ho6.no hc4
  replace ho8 := ho8.no hc4
  obtain ⟨base1, hbase1E⟩ : ∃ x, x = w11.heap.size := ⟨_, rfl⟩
  rw [← hbase1E] at hr1 hggg1
  have hbase1 : base1 ≤ w12.heap.size := by rw [hbase1E]; exact hc4.size
  have hglg1 : g1 < w12.heap.size := (Rw.openG hr1).choose_spec.2.1
  refine VL_pure 6 [4, 7, 8, 10, 11, 39] [(4, .pointer (some ⟨b2, 0, none⟩)), (7, .pointer (some ⟨b3, 0, none⟩)), (8, .pointer (some ⟨b4, 0, none⟩)), (10, .pointer (some ⟨b5, 0, none⟩)), (11, .int .i64 0), (39, .pointer (some ⟨g1, 0, none⟩))] (by kernel_rfl) rfl ?_
  refine VL_load (d := 40) (t := 26) (a := ⟨g1, 0, none⟩) (v := .agg (iA .u8 (flipL (packV o) (bt % 384)))) (by kernel_rfl) (by kernel_rfl) (Loads.row hr1 (by kernel_rfl)) ?_
  have hzs12 := hS.size
  have hzl29 := ho1.lt
  have hzl30 := ho2.lt
  have hzl31 := ho4.lt
  have hzl32 := ho6.lt
  have hzl33 := ho8.lt
  refine VL_call (d := 41) (f := 12) (by kernel_rfl) (by kernel_rfl) (by kernel_rfl) Try.call12 (CV.val (v' := .tuple #[.agg (omL zeroO).toArray, .int .i64 4]) (unpack_any (flipL (packV o) (bt % 384)) _ (by first | assumption | exact packV_len _ | exact (flipL_len _ _).trans (packV_len _) | simp)) (by rw [(flip_4 ho hr _).1, (flip_4 ho hr _).2])) ?_
  rintro _ w13 ⟨rfl, hc5⟩
  replace hS := Step.trans hS hc5
  replace ho1 := ho1.no hc5
  replace ho2 := ho2.no hc5
  replace ho4 := ho4.no hc5
  replace ho6 := ho6.no hc5
  replace ho8 := ho8.no hc5
  replace hbase1 := Nat.le_trans hbase1 (hc5).size
  replace hglg1 := Nat.lt_of_lt_of_le hglg1 (hc5).size
  replace hr1 := hr1.no hc5
  refine VL_pure 11 [4, 7, 8, 10, 11, 42, 43] [(4, .pointer (some ⟨b2, 0, none⟩)), (7, .pointer (some ⟨b3, 0, none⟩)), (8, .pointer (some ⟨b4, 0, none⟩)), (10, .pointer (some ⟨b5, 0, none⟩)), (11, .int .i64 0), (42, .agg #[.int .i64 zeroO.k, .int .u8 zeroO.d, .bool zeroO.a, .int .u32 zeroO.tg, .int .u8 (zeroO.p 0), .int .u8 (zeroO.p 1), .int .u8 (zeroO.p 2), .int .u8 (zeroO.p 3), .int .u8 (zeroO.p 4), .int .u8 (zeroO.p 5), .int .u8 (zeroO.p 6), .int .u8 (zeroO.p 7), .int .u8 (zeroO.p 8), .int .u8 (zeroO.p 9), .int .u8 (zeroO.p 10), .int .u8 (zeroO.p 11), .int .u8 (zeroO.p 12), .int .u8 (zeroO.p 13), .int .u8 (zeroO.p 14), .int .u8 (zeroO.p 15), .int .u8 (zeroO.s 0), .int .u8 (zeroO.s 1), .int .u8 (zeroO.s 2), .int .u8 (zeroO.s 3), .int .u8 (zeroO.s 4), .int .u8 (zeroO.s 5), .int .u8 (zeroO.s 6), .int .u8 (zeroO.s 7), .int .u8 (zeroO.s 8), .int .u8 (zeroO.s 9), .int .u8 (zeroO.s 10), .int .u8 (zeroO.s 11), .int .u8 (zeroO.s 12), .int .u8 (zeroO.s 13), .int .u8 (zeroO.s 14), .int .u8 (zeroO.s 15)]), (43, .int .i64 4)] (by kernel_rfl) rfl ?_
  have hzs13 := hS.size
  have hzl34 := ho1.lt
  have hzl35 := ho2.lt
  have hzl36 := ho4.lt
  have hzl37 := ho6.lt
  have hzl38 := ho8.lt
  have hzk1 := hbase1
  have hzk2 := hglg1
  refine VL_box (d := 12) (t := 31) (c := #[.int .i64 0, .int .u8 0, .bool false, .int .u32 0, .int .u8 0, .int .u8 0, .int .u8 0, .int .u8 0, .int .u8 0, .int .u8 0, .int .u8 0, .int .u8 0, .int .u8 0, .int .u8 0, .int .u8 0, .int .u8 0, .int .u8 0, .int .u8 0, .int .u8 0, .int .u8 0, .int .u8 0, .int .u8 0, .int .u8 0, .int .u8 0, .int .u8 0, .int .u8 0, .int .u8 0, .int .u8 0, .int .u8 0, .int .u8 0, .int .u8 0, .int .u8 0, .int .u8 0, .int .u8 0, .int .u8 0, .int .u8 0]) (by kernel_rfl) (by kernel_rfl) ?_
  intro b6 w14 hn6
  replace hS := Step.trans hS (hn6.step No)
  replace ho1 := ho1.no (hn6.step No)
  replace ho2 := ho2.no (hn6.step No)
  replace ho4 := ho4.no (hn6.step No)
  replace ho6 := ho6.no (hn6.step No)
  replace ho8 := ho8.no (hn6.step No)
  replace hbase1 := Nat.le_trans hbase1 (hn6.step No).size
  replace hglg1 := Nat.lt_of_lt_of_le hglg1 (hn6.step No).size
  replace hr1 := hr1.no (hn6.step No)
  have ho9 := hn6.own
  have hzhn6 := hn6.size
  have hqhn6 := hn6.eqb
  refine VL_store (b := b6) (o := 0) (vs := [.int .i64 zeroO.k, .int .u8 zeroO.d, .bool zeroO.a, .int .u32 zeroO.tg, .int .u8 (zeroO.p 0), .int .u8 (zeroO.p 1), .int .u8 (zeroO.p 2), .int .u8 (zeroO.p 3), .int .u8 (zeroO.p 4), .int .u8 (zeroO.p 5), .int .u8 (zeroO.p 6), .int .u8 (zeroO.p 7), .int .u8 (zeroO.p 8), .int .u8 (zeroO.p 9), .int .u8 (zeroO.p 10), .int .u8 (zeroO.p 11), .int .u8 (zeroO.p 12), .int .u8 (zeroO.p 13), .int .u8 (zeroO.p 14), .int .u8 (zeroO.p 15), .int .u8 (zeroO.s 0), .int .u8 (zeroO.s 1), .int .u8 (zeroO.s 2), .int .u8 (zeroO.s 3), .int .u8 (zeroO.s 4), .int .u8 (zeroO.s 5), .int .u8 (zeroO.s 6), .int .u8 (zeroO.s 7), .int .u8 (zeroO.s 8), .int .u8 (zeroO.s 9), .int .u8 (zeroO.s 10), .int .u8 (zeroO.s 11), .int .u8 (zeroO.s 12), .int .u8 (zeroO.s 13), .int .u8 (zeroO.s 14), .int .u8 (zeroO.s 15)]) (by kernel_rfl) (by kernel_rfl) ho9 (Nat.le_of_ble_eq_true (by kernel_rfl)) ?_
  intro w15 hw4
  replace hS := Step.transNew hS hw4.step (fun _ _ _ => by omega)
  replace ho1 := ho1.step hw4.step (show ¬ b1 = b6 by omega)
  replace ho2 := ho2.step hw4.step (show ¬ b2 = b6 by omega)
  replace ho4 := ho4.step hw4.step (show ¬ b3 = b6 by omega)
  replace ho6 := ho6.step hw4.step (show ¬ b4 = b6 by omega)
  replace ho8 := ho8.step hw4.step (show ¬ b5 = b6 by omega)
  replace hbase1 := Nat.le_trans hbase1 (hw4.step).size
  replace hglg1 := Nat.lt_of_lt_of_le hglg1 (hw4.step).size
  have ho10 : Own w15 b6 #[.int .i64 zeroO.k, .int .u8 zeroO.d, .bool zeroO.a, .int .u32 zeroO.tg, .int .u8 (zeroO.p 0), .int .u8 (zeroO.p 1), .int .u8 (zeroO.p 2), .int .u8 (zeroO.p 3), .int .u8 (zeroO.p 4), .int .u8 (zeroO.p 5), .int .u8 (zeroO.p 6), .int .u8 (zeroO.p 7), .int .u8 (zeroO.p 8), .int .u8 (zeroO.p 9), .int .u8 (zeroO.p 10), .int .u8 (zeroO.p 11), .int .u8 (zeroO.p 12), .int .u8 (zeroO.p 13), .int .u8 (zeroO.p 14), .int .u8 (zeroO.p 15), .int .u8 (zeroO.s 0), .int .u8 (zeroO.s 1), .int .u8 (zeroO.s 2), .int .u8 (zeroO.s 3), .int .u8 (zeroO.s 4), .int .u8 (zeroO.s 5), .int .u8 (zeroO.s 6), .int .u8 (zeroO.s 7), .int .u8 (zeroO.s 8), .int .u8 (zeroO.s 9), .int .u8 (zeroO.s 10), .int .u8 (zeroO.s 11), .int .u8 (zeroO.s 12), .int .u8 (zeroO.s 13), .int .u8 (zeroO.s 14), .int .u8 (zeroO.s 15)] 31 := Own.cast hw4.own (by kernel_rfl)
  have hzhw4 := hw4.same
  refine VL_pure 14 [4, 7, 8, 10, 11, 13] [(4, .pointer (some ⟨b2, 0, none⟩)), (7, .pointer (some ⟨b3, 0, none⟩)), (8, .pointer (some ⟨b4, 0, none⟩)), (10, .pointer (some ⟨b5, 0, none⟩)), (11, .int .i64 0), (13, .int .i64 4)] (by kernel_rfl) rfl ?_
  refine VL_end (by kernel_rfl) ?_
  refine VQ_next ?_
  refine VC_seq ?_
  refine VC_region ?_
  refine VL_pure 3 [4, 7, 8, 10, 13, 46] [(4, .pointer (some ⟨b2, 0, none⟩)), (7, .pointer (some ⟨b3, 0, none⟩)), (8, .pointer (some ⟨b4, 0, none⟩)), (10, .pointer (some ⟨b5, 0, none⟩)), (13, .int .i64 4), (46, .bool false)] (by kernel_rfl) rfl ?_
  refine VL_load (d := 47) (t := 31) (a := ⟨b5, 0, none⟩) (v := .agg #[.int .i64 o.k, .int .u8 o.d, .bool o.a, .int .u32 o.tg, .int .u8 (o.p 0), .int .u8 (o.p 1), .int .u8 (o.p 2), .int .u8 (o.p 3), .int .u8 (o.p 4), .int .u8 (o.p 5), .int .u8 (o.p 6), .int .u8 (o.p 7), .int .u8 (o.p 8), .int .u8 (o.p 9), .int .u8 (o.p 10), .int .u8 (o.p 11), .int .u8 (o.p 12), .int .u8 (o.p 13), .int .u8 (o.p 14), .int .u8 (o.p 15), .int .u8 (o.s 0), .int .u8 (o.s 1), .int .u8 (o.s 2), .int .u8 (o.s 3), .int .u8 (o.s 4), .int .u8 (o.s 5), .int .u8 (o.s 6), .int .u8 (o.s 7), .int .u8 (o.s 8), .int .u8 (o.s 9), .int .u8 (o.s 10), .int .u8 (o.s 11), .int .u8 (o.s 12), .int .u8 (o.s 13), .int .u8 (o.s 14), .int .u8 (o.s 15)]) (by kernel_rfl) (by kernel_rfl) (Loads.ownL ho8 (n := 36) (by kernel_rfl) (by kernel_rfl) (by kernel_rfl)) ?_
  refine VL_load (d := 48) (t := 31) (a := ⟨b3, 0, none⟩) (v := .agg #[.int .i64 o.k, .int .u8 o.d, .bool o.a, .int .u32 o.tg, .int .u8 (o.p 0), .int .u8 (o.p 1), .int .u8 (o.p 2), .int .u8 (o.p 3), .int .u8 (o.p 4), .int .u8 (o.p 5), .int .u8 (o.p 6), .int .u8 (o.p 7), .int .u8 (o.p 8), .int .u8 (o.p 9), .int .u8 (o.p 10), .int .u8 (o.p 11), .int .u8 (o.p 12), .int .u8 (o.p 13), .int .u8 (o.p 14), .int .u8 (o.p 15), .int .u8 (o.s 0), .int .u8 (o.s 1), .int .u8 (o.s 2), .int .u8 (o.s 3), .int .u8 (o.s 4), .int .u8 (o.s 5), .int .u8 (o.s 6), .int .u8 (o.s 7), .int .u8 (o.s 8), .int .u8 (o.s 9), .int .u8 (o.s 10), .int .u8 (o.s 11), .int .u8 (o.s 12), .int .u8 (o.s 13), .int .u8 (o.s 14), .int .u8 (o.s 15)]) (by kernel_rfl) (by kernel_rfl) (Loads.ownL ho4 (n := 36) (by kernel_rfl) (by kernel_rfl) (by kernel_rfl)) ?_
  refine VL_agEq (d := 49) (dd := 9) (ls := ([.int .i64] ++ [.int .u8] ++ [.bool] ++ [.int .u32] ++ (rep 16 [.int .u8]) ++ (rep 16 [.int .u8]) ++ [])) (pos := false) (t := 31) (xs := #[.int .i64 o.k, .int .u8 o.d, .bool o.a, .int .u32 o.tg, .int .u8 (o.p 0), .int .u8 (o.p 1), .int .u8 (o.p 2), .int .u8 (o.p 3), .int .u8 (o.p 4), .int .u8 (o.p 5), .int .u8 (o.p 6), .int .u8 (o.p 7), .int .u8 (o.p 8), .int .u8 (o.p 9), .int .u8 (o.p 10), .int .u8 (o.p 11), .int .u8 (o.p 12), .int .u8 (o.p 13), .int .u8 (o.p 14), .int .u8 (o.p 15), .int .u8 (o.s 0), .int .u8 (o.s 1), .int .u8 (o.s 2), .int .u8 (o.s 3), .int .u8 (o.s 4), .int .u8 (o.s 5), .int .u8 (o.s 6), .int .u8 (o.s 7), .int .u8 (o.s 8), .int .u8 (o.s 9), .int .u8 (o.s 10), .int .u8 (o.s 11), .int .u8 (o.s 12), .int .u8 (o.s 13), .int .u8 (o.s 14), .int .u8 (o.s 15)]) (ys := #[.int .i64 o.k, .int .u8 o.d, .bool o.a, .int .u32 o.tg, .int .u8 (o.p 0), .int .u8 (o.p 1), .int .u8 (o.p 2), .int .u8 (o.p 3), .int .u8 (o.p 4), .int .u8 (o.p 5), .int .u8 (o.p 6), .int .u8 (o.p 7), .int .u8 (o.p 8), .int .u8 (o.p 9), .int .u8 (o.p 10), .int .u8 (o.p 11), .int .u8 (o.p 12), .int .u8 (o.p 13), .int .u8 (o.p 14), .int .u8 (o.p 15), .int .u8 (o.s 0), .int .u8 (o.s 1), .int .u8 (o.s 2), .int .u8 (o.s 3), .int .u8 (o.s 4), .int .u8 (o.s 5), .int .u8 (o.s 6), .int .u8 (o.s 7), .int .u8 (o.s 8), .int .u8 (o.s 9), .int .u8 (o.s 10), .int .u8 (o.s 11), .int .u8 (o.s 12), .int .u8 (o.s 13), .int .u8 (o.s 14), .int .u8 (o.s 15)]) (by kernel_rfl) (by kernel_rfl) (by kernel_rfl) (by kernel_rfl) (by first | exact ⟨⟨_, rfl⟩, ⟨_, rfl⟩, ⟨_, rfl⟩, ⟨_, rfl⟩, ⟨_, rfl⟩, ⟨_, rfl⟩, ⟨_, rfl⟩, ⟨_, rfl⟩, ⟨_, rfl⟩, ⟨_, rfl⟩, ⟨_, rfl⟩, ⟨_, rfl⟩, ⟨_, rfl⟩, ⟨_, rfl⟩, ⟨_, rfl⟩, ⟨_, rfl⟩, ⟨_, rfl⟩, ⟨_, rfl⟩, ⟨_, rfl⟩, ⟨_, rfl⟩, ⟨_, rfl⟩, ⟨_, rfl⟩, ⟨_, rfl⟩, ⟨_, rfl⟩, ⟨_, rfl⟩, ⟨_, rfl⟩, ⟨_, rfl⟩, ⟨_, rfl⟩, ⟨_, rfl⟩, ⟨_, rfl⟩, ⟨_, rfl⟩, ⟨_, rfl⟩, ⟨_, rfl⟩, ⟨_, rfl⟩, ⟨_, rfl⟩, ⟨_, rfl⟩, trivial⟩ | trivial) (by first | exact ⟨⟨_, rfl⟩, ⟨_, rfl⟩, ⟨_, rfl⟩, ⟨_, rfl⟩, ⟨_, rfl⟩, ⟨_, rfl⟩, ⟨_, rfl⟩, ⟨_, rfl⟩, ⟨_, rfl⟩, ⟨_, rfl⟩, ⟨_, rfl⟩, ⟨_, rfl⟩, ⟨_, rfl⟩, ⟨_, rfl⟩, ⟨_, rfl⟩, ⟨_, rfl⟩, ⟨_, rfl⟩, ⟨_, rfl⟩, ⟨_, rfl⟩, ⟨_, rfl⟩, ⟨_, rfl⟩, ⟨_, rfl⟩, ⟨_, rfl⟩, ⟨_, rfl⟩, ⟨_, rfl⟩, ⟨_, rfl⟩, ⟨_, rfl⟩, ⟨_, rfl⟩, ⟨_, rfl⟩, ⟨_, rfl⟩, ⟨_, rfl⟩, ⟨_, rfl⟩, ⟨_, rfl⟩, ⟨_, rfl⟩, ⟨_, rfl⟩, ⟨_, rfl⟩, trivial⟩ | trivial) false (by exact om_nself o) ?_
  refine VL_pure 12 [4, 8, 55] [(4, .pointer (some ⟨b2, 0, none⟩)), (8, .pointer (some ⟨b4, 0, none⟩)), (55, .bool false)] (by kernel_rfl) rfl ?_
  refine VL_load (d := 56) (t := 26) (a := ⟨b4, 0, none⟩) (v := .agg (iA .u8 (packV o))) (by kernel_rfl) (by kernel_rfl) (Loads.arr (N := 48) ho6 (by kernel_rfl) (by first | assumption | exact packV_len _ | exact (flipL_len _ _).trans (packV_len _) | simp)) ?_
  have hzs14 := hS.size
  have hzl39 := ho1.lt
  have hzl40 := ho2.lt
  have hzl41 := ho4.lt
  have hzl42 := ho6.lt
  have hzl43 := ho8.lt
  have hzl44 := ho10.lt
  refine VL_call (d := 57) (f := 17) (by kernel_rfl) (by kernel_rfl) (by kernel_rfl) Try.call17 (sealed_any (packV o) _ (by first | assumption | exact packV_len _ | exact (flipL_len _ _).trans (packV_len _) | simp)) ?_
  rintro _ w16 ⟨rfl, hc6⟩
  replace hS := Step.trans hS hc6
  replace ho1 := ho1.no hc6
  replace ho2 := ho2.no hc6
  replace ho4 := ho4.no hc6
  replace ho6 := ho6.no hc6
  replace ho8 := ho8.no hc6
  replace hbase1 := Nat.le_trans hbase1 (hc6).size
  replace hglg1 := Nat.lt_of_lt_of_le hglg1 (hc6).size
  replace ho10 := ho10.no hc6
  refine VL_pure 16 [4, 59] [(4, .pointer (some ⟨b2, 0, none⟩)), (59, .bool (!(sealL (packV o) == (packV o))))] (by kernel_rfl) rfl ?_
  refine VL_end (by kernel_rfl) ?_
  refine VQ_next ?_
  refine VC_is (b := !(sealL (packV o) == (packV o))) false (by kernel_rfl) (by simp [pack_sealed ho hr]) ?_
  refine VC_ite_false ?_
  refine VC_skip ?_
  refine VQ_next ?_
  refine VC_seq ?_
  refine VC_region ?_
  refine VL_load (d := 61) (t := 26) (a := ⟨b2, 0, none⟩) (v := .agg (iA .u8 bs)) (by kernel_rfl) (by kernel_rfl) (Loads.arr (N := 48) ho2 (by kernel_rfl) (by (try simp only [List.length_set, List.length_append, List.length_map, List.length_replicate, List.length_cons, List.length_nil, List.length_take, List.length_drop, List.length_range]) <;> omega)) ?_
  have hzs15 := hS.size
  have hzl45 := ho1.lt
  have hzl46 := ho2.lt
  have hzl47 := ho4.lt
  have hzl48 := ho6.lt
  have hzl49 := ho8.lt
  have hzl50 := ho10.lt
  refine VL_call (d := 62) (f := 12) (by kernel_rfl) (by kernel_rfl) (by kernel_rfl) Try.call12 (unpack_any bs _ (by first | assumption | exact packV_len _ | exact (flipL_len _ _).trans (packV_len _) | simp)) ?_
  rintro _ w17 ⟨rfl, hc7⟩
  replace hS := Step.trans hS hc7
  replace ho1 := ho1.no hc7
  replace ho2 := ho2.no hc7
  replace ho4 := ho4.no hc7
  replace ho6 := ho6.no hc7
  replace ho8 := ho8.no hc7
  replace hbase1 := Nat.le_trans hbase1 (hc7).size
  replace hglg1 := Nat.lt_of_lt_of_le hglg1 (hc7).size
  replace ho10 := ho10.no hc7
  refine VL_pure 5 [4, 63, 64] [(4, .pointer (some ⟨b2, 0, none⟩)), (63, .agg #[.int .i64 ((unpV bs).k), .int .u8 ((unpV bs).d), .bool ((unpV bs).a), .int .u32 ((unpV bs).tg), .int .u8 (((unpV bs).p) 0), .int .u8 (((unpV bs).p) 1), .int .u8 (((unpV bs).p) 2), .int .u8 (((unpV bs).p) 3), .int .u8 (((unpV bs).p) 4), .int .u8 (((unpV bs).p) 5), .int .u8 (((unpV bs).p) 6), .int .u8 (((unpV bs).p) 7), .int .u8 (((unpV bs).p) 8), .int .u8 (((unpV bs).p) 9), .int .u8 (((unpV bs).p) 10), .int .u8 (((unpV bs).p) 11), .int .u8 (((unpV bs).p) 12), .int .u8 (((unpV bs).p) 13), .int .u8 (((unpV bs).p) 14), .int .u8 (((unpV bs).p) 15), .int .u8 (((unpV bs).s) 0), .int .u8 (((unpV bs).s) 1), .int .u8 (((unpV bs).s) 2), .int .u8 (((unpV bs).s) 3), .int .u8 (((unpV bs).s) 4), .int .u8 (((unpV bs).s) 5), .int .u8 (((unpV bs).s) 6), .int .u8 (((unpV bs).s) 7), .int .u8 (((unpV bs).s) 8), .int .u8 (((unpV bs).s) 9), .int .u8 (((unpV bs).s) 10), .int .u8 (((unpV bs).s) 11), .int .u8 (((unpV bs).s) 12), .int .u8 (((unpV bs).s) 13), .int .u8 (((unpV bs).s) 14), .int .u8 (((unpV bs).s) 15)]), (64, .int .i64 (unpE bs))] (by kernel_rfl) rfl ?_
  have hzs16 := hS.size
  have hzl51 := ho1.lt
  have hzl52 := ho2.lt
  have hzl53 := ho4.lt
  have hzl54 := ho6.lt
  have hzl55 := ho8.lt
  have hzk3 := hbase1
  have hzk4 := hglg1
  have hzl56 := ho10.lt
  refine VL_box (d := 14) (t := 31) (c := #[.int .i64 0, .int .u8 0, .bool false, .int .u32 0, .int .u8 0, .int .u8 0, .int .u8 0, .int .u8 0, .int .u8 0, .int .u8 0, .int .u8 0, .int .u8 0, .int .u8 0, .int .u8 0, .int .u8 0, .int .u8 0, .int .u8 0, .int .u8 0, .int .u8 0, .int .u8 0, .int .u8 0, .int .u8 0, .int .u8 0, .int .u8 0, .int .u8 0, .int .u8 0, .int .u8 0, .int .u8 0, .int .u8 0, .int .u8 0, .int .u8 0, .int .u8 0, .int .u8 0, .int .u8 0, .int .u8 0, .int .u8 0]) (by kernel_rfl) (by kernel_rfl) ?_
  intro b7 w18 hn7
  replace hS := Step.trans hS (hn7.step No)
  replace ho1 := ho1.no (hn7.step No)
  replace ho2 := ho2.no (hn7.step No)
  replace ho4 := ho4.no (hn7.step No)
  replace ho6 := ho6.no (hn7.step No)
  replace ho8 := ho8.no (hn7.step No)
  replace hbase1 := Nat.le_trans hbase1 (hn7.step No).size
  replace hglg1 := Nat.lt_of_lt_of_le hglg1 (hn7.step No).size
  replace ho10 := ho10.no (hn7.step No)
  have ho11 := hn7.own
  have hzhn7 := hn7.size
  have hqhn7 := hn7.eqb
  refine VL_store (b := b7) (o := 0) (vs := [.int .i64 ((unpV bs).k), .int .u8 ((unpV bs).d), .bool ((unpV bs).a), .int .u32 ((unpV bs).tg), .int .u8 (((unpV bs).p) 0), .int .u8 (((unpV bs).p) 1), .int .u8 (((unpV bs).p) 2), .int .u8 (((unpV bs).p) 3), .int .u8 (((unpV bs).p) 4), .int .u8 (((unpV bs).p) 5), .int .u8 (((unpV bs).p) 6), .int .u8 (((unpV bs).p) 7), .int .u8 (((unpV bs).p) 8), .int .u8 (((unpV bs).p) 9), .int .u8 (((unpV bs).p) 10), .int .u8 (((unpV bs).p) 11), .int .u8 (((unpV bs).p) 12), .int .u8 (((unpV bs).p) 13), .int .u8 (((unpV bs).p) 14), .int .u8 (((unpV bs).p) 15), .int .u8 (((unpV bs).s) 0), .int .u8 (((unpV bs).s) 1), .int .u8 (((unpV bs).s) 2), .int .u8 (((unpV bs).s) 3), .int .u8 (((unpV bs).s) 4), .int .u8 (((unpV bs).s) 5), .int .u8 (((unpV bs).s) 6), .int .u8 (((unpV bs).s) 7), .int .u8 (((unpV bs).s) 8), .int .u8 (((unpV bs).s) 9), .int .u8 (((unpV bs).s) 10), .int .u8 (((unpV bs).s) 11), .int .u8 (((unpV bs).s) 12), .int .u8 (((unpV bs).s) 13), .int .u8 (((unpV bs).s) 14), .int .u8 (((unpV bs).s) 15)]) (by kernel_rfl) (by kernel_rfl) ho11 (Nat.le_of_ble_eq_true (by kernel_rfl)) ?_
  intro w19 hw5
  replace hS := Step.transNew hS hw5.step (fun _ _ _ => by omega)
  replace ho1 := ho1.step hw5.step (show ¬ b1 = b7 by omega)
  replace ho2 := ho2.step hw5.step (show ¬ b2 = b7 by omega)
  replace ho4 := ho4.step hw5.step (show ¬ b3 = b7 by omega)
  replace ho6 := ho6.step hw5.step (show ¬ b4 = b7 by omega)
  replace ho8 := ho8.step hw5.step (show ¬ b5 = b7 by omega)
  replace hbase1 := Nat.le_trans hbase1 (hw5.step).size
  replace hglg1 := Nat.lt_of_lt_of_le hglg1 (hw5.step).size
  replace ho10 := ho10.step hw5.step (show ¬ b6 = b7 by omega)
  have ho12 : Own w19 b7 #[.int .i64 ((unpV bs).k), .int .u8 ((unpV bs).d), .bool ((unpV bs).a), .int .u32 ((unpV bs).tg), .int .u8 (((unpV bs).p) 0), .int .u8 (((unpV bs).p) 1), .int .u8 (((unpV bs).p) 2), .int .u8 (((unpV bs).p) 3), .int .u8 (((unpV bs).p) 4), .int .u8 (((unpV bs).p) 5), .int .u8 (((unpV bs).p) 6), .int .u8 (((unpV bs).p) 7), .int .u8 (((unpV bs).p) 8), .int .u8 (((unpV bs).p) 9), .int .u8 (((unpV bs).p) 10), .int .u8 (((unpV bs).p) 11), .int .u8 (((unpV bs).p) 12), .int .u8 (((unpV bs).p) 13), .int .u8 (((unpV bs).p) 14), .int .u8 (((unpV bs).p) 15), .int .u8 (((unpV bs).s) 0), .int .u8 (((unpV bs).s) 1), .int .u8 (((unpV bs).s) 2), .int .u8 (((unpV bs).s) 3), .int .u8 (((unpV bs).s) 4), .int .u8 (((unpV bs).s) 5), .int .u8 (((unpV bs).s) 6), .int .u8 (((unpV bs).s) 7), .int .u8 (((unpV bs).s) 8), .int .u8 (((unpV bs).s) 9), .int .u8 (((unpV bs).s) 10), .int .u8 (((unpV bs).s) 11), .int .u8 (((unpV bs).s) 12), .int .u8 (((unpV bs).s) 13), .int .u8 (((unpV bs).s) 14), .int .u8 (((unpV bs).s) 15)] 31 := Own.cast hw5.own (by kernel_rfl)
  have hzhw5 := hw5.same
  refine VL_pure 8 [4, 14, 15] [(4, .pointer (some ⟨b2, 0, none⟩)), (14, .pointer (some ⟨b7, 0, none⟩)), (15, .int .i64 (unpE bs))] (by kernel_rfl) rfl ?_
  refine VL_end (by kernel_rfl) ?_
  refine VQ_next ?_
  refine VC_seq ?_
  refine VC_seq ?_
  refine VC_region ?_
  refine VL_pure 2 [4, 14, 66] [(4, .pointer (some ⟨b2, 0, none⟩)), (14, .pointer (some ⟨b7, 0, none⟩)), (66, .bool ((unpE bs) != 0))] (by kernel_rfl) rfl ?_
  refine VL_end (by kernel_rfl) ?_
  refine VQ_next ?_
  refine VC_ne (unpE bs) 0 (by kernel_rfl) (fun h1 => ?_) (fun h1 => ?_)
  · refine VC_seq ?_
    refine VC_region ?_
    refine VL_load (d := 67) (t := 31) (a := ⟨b7, 0, none⟩) (v := .agg #[.int .i64 ((unpV bs).k), .int .u8 ((unpV bs).d), .bool ((unpV bs).a), .int .u32 ((unpV bs).tg), .int .u8 (((unpV bs).p) 0), .int .u8 (((unpV bs).p) 1), .int .u8 (((unpV bs).p) 2), .int .u8 (((unpV bs).p) 3), .int .u8 (((unpV bs).p) 4), .int .u8 (((unpV bs).p) 5), .int .u8 (((unpV bs).p) 6), .int .u8 (((unpV bs).p) 7), .int .u8 (((unpV bs).p) 8), .int .u8 (((unpV bs).p) 9), .int .u8 (((unpV bs).p) 10), .int .u8 (((unpV bs).p) 11), .int .u8 (((unpV bs).p) 12), .int .u8 (((unpV bs).p) 13), .int .u8 (((unpV bs).p) 14), .int .u8 (((unpV bs).p) 15), .int .u8 (((unpV bs).s) 0), .int .u8 (((unpV bs).s) 1), .int .u8 (((unpV bs).s) 2), .int .u8 (((unpV bs).s) 3), .int .u8 (((unpV bs).s) 4), .int .u8 (((unpV bs).s) 5), .int .u8 (((unpV bs).s) 6), .int .u8 (((unpV bs).s) 7), .int .u8 (((unpV bs).s) 8), .int .u8 (((unpV bs).s) 9), .int .u8 (((unpV bs).s) 10), .int .u8 (((unpV bs).s) 11), .int .u8 (((unpV bs).s) 12), .int .u8 (((unpV bs).s) 13), .int .u8 (((unpV bs).s) 14), .int .u8 (((unpV bs).s) 15)]) (by kernel_rfl) (by kernel_rfl) (Loads.ownL ho12 (n := 36) (by kernel_rfl) (by kernel_rfl) (by kernel_rfl)) ?_
    refine VL_pure 2 [67, 68] [(67, .agg #[.int .i64 ((unpV bs).k), .int .u8 ((unpV bs).d), .bool ((unpV bs).a), .int .u32 ((unpV bs).tg), .int .u8 (((unpV bs).p) 0), .int .u8 (((unpV bs).p) 1), .int .u8 (((unpV bs).p) 2), .int .u8 (((unpV bs).p) 3), .int .u8 (((unpV bs).p) 4), .int .u8 (((unpV bs).p) 5), .int .u8 (((unpV bs).p) 6), .int .u8 (((unpV bs).p) 7), .int .u8 (((unpV bs).p) 8), .int .u8 (((unpV bs).p) 9), .int .u8 (((unpV bs).p) 10), .int .u8 (((unpV bs).p) 11), .int .u8 (((unpV bs).p) 12), .int .u8 (((unpV bs).p) 13), .int .u8 (((unpV bs).p) 14), .int .u8 (((unpV bs).p) 15), .int .u8 (((unpV bs).s) 0), .int .u8 (((unpV bs).s) 1), .int .u8 (((unpV bs).s) 2), .int .u8 (((unpV bs).s) 3), .int .u8 (((unpV bs).s) 4), .int .u8 (((unpV bs).s) 5), .int .u8 (((unpV bs).s) 6), .int .u8 (((unpV bs).s) 7), .int .u8 (((unpV bs).s) 8), .int .u8 (((unpV bs).s) 9), .int .u8 (((unpV bs).s) 10), .int .u8 (((unpV bs).s) 11), .int .u8 (((unpV bs).s) 12), .int .u8 (((unpV bs).s) 13), .int .u8 (((unpV bs).s) 14), .int .u8 (((unpV bs).s) 15)]), (68, .agg #[.int .i64 0, .int .u8 0, .bool false, .int .u32 0, .int .u8 0, .int .u8 0, .int .u8 0, .int .u8 0, .int .u8 0, .int .u8 0, .int .u8 0, .int .u8 0, .int .u8 0, .int .u8 0, .int .u8 0, .int .u8 0, .int .u8 0, .int .u8 0, .int .u8 0, .int .u8 0, .int .u8 0, .int .u8 0, .int .u8 0, .int .u8 0, .int .u8 0, .int .u8 0, .int .u8 0, .int .u8 0, .int .u8 0, .int .u8 0, .int .u8 0, .int .u8 0, .int .u8 0, .int .u8 0, .int .u8 0, .int .u8 0])] (by kernel_rfl) rfl ?_
    refine VL_agEq (d := 69) (dd := 9) (ls := ([.int .i64] ++ [.int .u8] ++ [.bool] ++ [.int .u32] ++ (rep 16 [.int .u8]) ++ (rep 16 [.int .u8]) ++ [])) (pos := true) (t := 31) (xs := #[.int .i64 ((unpV bs).k), .int .u8 ((unpV bs).d), .bool ((unpV bs).a), .int .u32 ((unpV bs).tg), .int .u8 (((unpV bs).p) 0), .int .u8 (((unpV bs).p) 1), .int .u8 (((unpV bs).p) 2), .int .u8 (((unpV bs).p) 3), .int .u8 (((unpV bs).p) 4), .int .u8 (((unpV bs).p) 5), .int .u8 (((unpV bs).p) 6), .int .u8 (((unpV bs).p) 7), .int .u8 (((unpV bs).p) 8), .int .u8 (((unpV bs).p) 9), .int .u8 (((unpV bs).p) 10), .int .u8 (((unpV bs).p) 11), .int .u8 (((unpV bs).p) 12), .int .u8 (((unpV bs).p) 13), .int .u8 (((unpV bs).p) 14), .int .u8 (((unpV bs).p) 15), .int .u8 (((unpV bs).s) 0), .int .u8 (((unpV bs).s) 1), .int .u8 (((unpV bs).s) 2), .int .u8 (((unpV bs).s) 3), .int .u8 (((unpV bs).s) 4), .int .u8 (((unpV bs).s) 5), .int .u8 (((unpV bs).s) 6), .int .u8 (((unpV bs).s) 7), .int .u8 (((unpV bs).s) 8), .int .u8 (((unpV bs).s) 9), .int .u8 (((unpV bs).s) 10), .int .u8 (((unpV bs).s) 11), .int .u8 (((unpV bs).s) 12), .int .u8 (((unpV bs).s) 13), .int .u8 (((unpV bs).s) 14), .int .u8 (((unpV bs).s) 15)]) (ys := #[.int .i64 0, .int .u8 0, .bool false, .int .u32 0, .int .u8 0, .int .u8 0, .int .u8 0, .int .u8 0, .int .u8 0, .int .u8 0, .int .u8 0, .int .u8 0, .int .u8 0, .int .u8 0, .int .u8 0, .int .u8 0, .int .u8 0, .int .u8 0, .int .u8 0, .int .u8 0, .int .u8 0, .int .u8 0, .int .u8 0, .int .u8 0, .int .u8 0, .int .u8 0, .int .u8 0, .int .u8 0, .int .u8 0, .int .u8 0, .int .u8 0, .int .u8 0, .int .u8 0, .int .u8 0, .int .u8 0, .int .u8 0]) (by kernel_rfl) (by kernel_rfl) (by kernel_rfl) (by kernel_rfl) (by first | exact ⟨⟨_, rfl⟩, ⟨_, rfl⟩, ⟨_, rfl⟩, ⟨_, rfl⟩, ⟨_, rfl⟩, ⟨_, rfl⟩, ⟨_, rfl⟩, ⟨_, rfl⟩, ⟨_, rfl⟩, ⟨_, rfl⟩, ⟨_, rfl⟩, ⟨_, rfl⟩, ⟨_, rfl⟩, ⟨_, rfl⟩, ⟨_, rfl⟩, ⟨_, rfl⟩, ⟨_, rfl⟩, ⟨_, rfl⟩, ⟨_, rfl⟩, ⟨_, rfl⟩, ⟨_, rfl⟩, ⟨_, rfl⟩, ⟨_, rfl⟩, ⟨_, rfl⟩, ⟨_, rfl⟩, ⟨_, rfl⟩, ⟨_, rfl⟩, ⟨_, rfl⟩, ⟨_, rfl⟩, ⟨_, rfl⟩, ⟨_, rfl⟩, ⟨_, rfl⟩, ⟨_, rfl⟩, ⟨_, rfl⟩, ⟨_, rfl⟩, ⟨_, rfl⟩, trivial⟩ | trivial) (by first | exact ⟨⟨_, rfl⟩, ⟨_, rfl⟩, ⟨_, rfl⟩, ⟨_, rfl⟩, ⟨_, rfl⟩, ⟨_, rfl⟩, ⟨_, rfl⟩, ⟨_, rfl⟩, ⟨_, rfl⟩, ⟨_, rfl⟩, ⟨_, rfl⟩, ⟨_, rfl⟩, ⟨_, rfl⟩, ⟨_, rfl⟩, ⟨_, rfl⟩, ⟨_, rfl⟩, ⟨_, rfl⟩, ⟨_, rfl⟩, ⟨_, rfl⟩, ⟨_, rfl⟩, ⟨_, rfl⟩, ⟨_, rfl⟩, ⟨_, rfl⟩, ⟨_, rfl⟩, ⟨_, rfl⟩, ⟨_, rfl⟩, ⟨_, rfl⟩, ⟨_, rfl⟩, ⟨_, rfl⟩, ⟨_, rfl⟩, ⟨_, rfl⟩, ⟨_, rfl⟩, ⟨_, rfl⟩, ⟨_, rfl⟩, ⟨_, rfl⟩, ⟨_, rfl⟩, trivial⟩ | trivial) (omEq (unpV bs) (⟨0, 0, false, 0, zp, zp⟩ : Om)) (by rfl) ?_
    refine VL_pure 4 [6] [(6, .bool (omEq (unpV bs) (⟨0, 0, false, 0, zp, zp⟩ : Om)))] (by kernel_rfl) rfl ?_
    refine VL_end (by kernel_rfl) ?_
    refine VQ_next ?_
    refine VC_ret ?_
    refine VQ_then_ret ?_
    refine VQ_ret1 (.bool (omEq (unpV bs) (⟨0, 0, false, 0, zp, zp⟩ : Om))) (.inr rfl) rfl rfl ?_
    exact ⟨congrArg Value.bool (zero_eq ‹_›), hS⟩
  · refine VC_skip ?_
    refine VQ_next ?_
    refine VC_seq ?_
    refine VC_region ?_
    refine VL_load (d := 71) (t := 31) (a := ⟨b7, 0, none⟩) (v := .agg #[.int .i64 ((unpV bs).k), .int .u8 ((unpV bs).d), .bool ((unpV bs).a), .int .u32 ((unpV bs).tg), .int .u8 (((unpV bs).p) 0), .int .u8 (((unpV bs).p) 1), .int .u8 (((unpV bs).p) 2), .int .u8 (((unpV bs).p) 3), .int .u8 (((unpV bs).p) 4), .int .u8 (((unpV bs).p) 5), .int .u8 (((unpV bs).p) 6), .int .u8 (((unpV bs).p) 7), .int .u8 (((unpV bs).p) 8), .int .u8 (((unpV bs).p) 9), .int .u8 (((unpV bs).p) 10), .int .u8 (((unpV bs).p) 11), .int .u8 (((unpV bs).p) 12), .int .u8 (((unpV bs).p) 13), .int .u8 (((unpV bs).p) 14), .int .u8 (((unpV bs).p) 15), .int .u8 (((unpV bs).s) 0), .int .u8 (((unpV bs).s) 1), .int .u8 (((unpV bs).s) 2), .int .u8 (((unpV bs).s) 3), .int .u8 (((unpV bs).s) 4), .int .u8 (((unpV bs).s) 5), .int .u8 (((unpV bs).s) 6), .int .u8 (((unpV bs).s) 7), .int .u8 (((unpV bs).s) 8), .int .u8 (((unpV bs).s) 9), .int .u8 (((unpV bs).s) 10), .int .u8 (((unpV bs).s) 11), .int .u8 (((unpV bs).s) 12), .int .u8 (((unpV bs).s) 13), .int .u8 (((unpV bs).s) 14), .int .u8 (((unpV bs).s) 15)]) (by kernel_rfl) (by kernel_rfl) (Loads.ownL ho12 (n := 36) (by kernel_rfl) (by kernel_rfl) (by kernel_rfl)) ?_
    have hzs17 := hS.size
    have hzl57 := ho1.lt
    have hzl58 := ho2.lt
    have hzl59 := ho4.lt
    have hzl60 := ho6.lt
    have hzl61 := ho8.lt
    have hzl62 := ho10.lt
    have hzl63 := ho12.lt
    refine VL_call (d := 72) (f := 10) (by kernel_rfl) (by kernel_rfl) (by kernel_rfl) Try.call10 (CV.val (v' := .tuple #[.agg (iA .u8 (packV (unpV bs))), .int .i64 0]) (pack_any (unpV bs) _) (by rw [packE_yes (unp_ok_pack ‹unpE bs = 0›).2.2])) ?_
    rintro _ w20 ⟨rfl, hc8⟩
    replace hS := Step.trans hS hc8
    replace ho1 := ho1.no hc8
    replace ho2 := ho2.no hc8
    replace ho4 := ho4.no hc8
    replace ho6 := ho6.no hc8
    replace ho8 := ho8.no hc8
    replace hbase1 := Nat.le_trans hbase1 (hc8).size
    replace hglg1 := Nat.lt_of_lt_of_le hglg1 (hc8).size
    replace ho10 := ho10.no hc8
    replace ho12 := ho12.no hc8
    refine VL_pure 5 [4, 14, 73, 74] [(4, .pointer (some ⟨b2, 0, none⟩)), (14, .pointer (some ⟨b7, 0, none⟩)), (73, .agg (iA .u8 (packV (unpV bs)))), (74, .int .i64 0)] (by kernel_rfl) rfl ?_
    have hzs18 := hS.size
    have hzl64 := ho1.lt
    have hzl65 := ho2.lt
    have hzl66 := ho4.lt
    have hzl67 := ho6.lt
    have hzl68 := ho8.lt
    have hzk5 := hbase1
    have hzk6 := hglg1
    have hzl69 := ho10.lt
    have hzl70 := ho12.lt
    have hzs19 := hS.size
    have hzl71 := ho1.lt
    have hzl72 := ho2.lt
    have hzl73 := ho4.lt
    have hzl74 := ho6.lt
    have hzl75 := ho8.lt
    have hzk7 := hbase1
    have hzk8 := hglg1
    have hzl76 := ho10.lt
    have hzl77 := ho12.lt
    refine VL_box (d := 16) (t := 26) (c := iA .u8 (List.replicate 48 0)) (by kernel_rfl) (by kernel_rfl) ?_
    intro b8 w21 hn8
    replace hS := Step.trans hS (hn8.step No)
    replace ho1 := ho1.no (hn8.step No)
    replace ho2 := ho2.no (hn8.step No)
    replace ho4 := ho4.no (hn8.step No)
    replace ho6 := ho6.no (hn8.step No)
    replace ho8 := ho8.no (hn8.step No)
    replace hbase1 := Nat.le_trans hbase1 (hn8.step No).size
    replace hglg1 := Nat.lt_of_lt_of_le hglg1 (hn8.step No).size
    replace ho10 := ho10.no (hn8.step No)
    replace ho12 := ho12.no (hn8.step No)
    have ho13 := hn8.own
    have hzhn8 := hn8.size
    have hqhn8 := hn8.eqb
    refine VL_storeA (b := b8) (sz := 48) (k := .u8) (bs := packV (unpV bs)) (by kernel_rfl) (by kernel_rfl) (by first | assumption | exact packV_len _ | exact (flipL_len _ _).trans (packV_len _) | simp) ho13 (iA_size.trans (by (try simp only [List.length_set, List.length_append, List.length_map, List.length_replicate, List.length_cons, List.length_nil, List.length_take, List.length_drop, List.length_range]) <;> omega)) ?_
    intro w22 hw6
    replace hS := Step.transNew hS hw6.step (fun _ _ _ => by omega)
    replace ho1 := ho1.step hw6.step (show ¬ b1 = b8 by omega)
    replace ho2 := ho2.step hw6.step (show ¬ b2 = b8 by omega)
    replace ho4 := ho4.step hw6.step (show ¬ b3 = b8 by omega)
    replace ho6 := ho6.step hw6.step (show ¬ b4 = b8 by omega)
    replace ho8 := ho8.step hw6.step (show ¬ b5 = b8 by omega)
    replace hbase1 := Nat.le_trans hbase1 (hw6.step).size
    replace hglg1 := Nat.lt_of_lt_of_le hglg1 (hw6.step).size
    replace ho10 := ho10.step hw6.step (show ¬ b6 = b8 by omega)
    replace ho12 := ho12.step hw6.step (show ¬ b7 = b8 by omega)
    have ho14 := hw6.own
    have hzhw6 := hw6.same
    refine VL_pure 8 [4, 14, 16, 17] [(4, .pointer (some ⟨b2, 0, none⟩)), (14, .pointer (some ⟨b7, 0, none⟩)), (16, .pointer (some ⟨b8, 0, none⟩)), (17, .int .i64 0)] (by kernel_rfl) rfl ?_
    refine VL_end (by kernel_rfl) ?_
    refine VQ_next ?_
    refine VC_seq ?_
    refine VC_region ?_
    refine VL_pure 3 [4, 14, 16, 77] [(4, .pointer (some ⟨b2, 0, none⟩)), (14, .pointer (some ⟨b7, 0, none⟩)), (16, .pointer (some ⟨b8, 0, none⟩)), (77, .bool true)] (by kernel_rfl) rfl ?_
    refine VL_load (d := 78) (t := 26) (a := ⟨b8, 0, none⟩) (v := .agg (iA .u8 (packV (unpV bs)))) (by kernel_rfl) (by kernel_rfl) (Loads.arr (N := 48) ho14 (by kernel_rfl) (by first | assumption | exact packV_len _ | exact (flipL_len _ _).trans (packV_len _) | simp)) ?_
    refine VL_load (d := 79) (t := 26) (a := ⟨b2, 0, none⟩) (v := .agg (iA .u8 bs)) (by kernel_rfl) (by kernel_rfl) (Loads.arr (N := 48) ho2 (by kernel_rfl) (by (try simp only [List.length_set, List.length_append, List.length_map, List.length_replicate, List.length_cons, List.length_nil, List.length_take, List.length_drop, List.length_range]) <;> omega)) ?_
    refine VL_agEq (d := 80) (dd := 9) (ls := (rep 48 [.int .u8])) (pos := true) (t := 26) (xs := (iA .u8 (packV (unpV bs)))) (ys := (iA .u8 bs)) (by kernel_rfl) (by kernel_rfl) (by kernel_rfl) (by kernel_rfl) (iA_are (by first | assumption | exact packV_len _ | exact (flipL_len _ _).trans (packV_len _) | simp)) (iA_are (by first | assumption | exact packV_len _ | exact (flipL_len _ _).trans (packV_len _) | simp)) ((packV (unpV bs)) == bs) (iA_eq true) ?_
    refine VL_pure 8 [14, 82] [(14, .pointer (some ⟨b7, 0, none⟩)), (82, .bool ((packV (unpV bs)) == bs))] (by kernel_rfl) rfl ?_
    refine VL_known ((packV (unpV bs)) == bs) (fun bV => [(14, .pointer (some ⟨b7, 0, none⟩)), (82, .bool bV)]) true rfl (by simp [(unp_ok_pack ‹unpE bs = 0›).2.1]) ?_
    refine VL_load (d := 83) (t := 31) (a := ⟨b7, 0, none⟩) (v := .agg #[.int .i64 ((unpV bs).k), .int .u8 ((unpV bs).d), .bool ((unpV bs).a), .int .u32 ((unpV bs).tg), .int .u8 (((unpV bs).p) 0), .int .u8 (((unpV bs).p) 1), .int .u8 (((unpV bs).p) 2), .int .u8 (((unpV bs).p) 3), .int .u8 (((unpV bs).p) 4), .int .u8 (((unpV bs).p) 5), .int .u8 (((unpV bs).p) 6), .int .u8 (((unpV bs).p) 7), .int .u8 (((unpV bs).p) 8), .int .u8 (((unpV bs).p) 9), .int .u8 (((unpV bs).p) 10), .int .u8 (((unpV bs).p) 11), .int .u8 (((unpV bs).p) 12), .int .u8 (((unpV bs).p) 13), .int .u8 (((unpV bs).p) 14), .int .u8 (((unpV bs).p) 15), .int .u8 (((unpV bs).s) 0), .int .u8 (((unpV bs).s) 1), .int .u8 (((unpV bs).s) 2), .int .u8 (((unpV bs).s) 3), .int .u8 (((unpV bs).s) 4), .int .u8 (((unpV bs).s) 5), .int .u8 (((unpV bs).s) 6), .int .u8 (((unpV bs).s) 7), .int .u8 (((unpV bs).s) 8), .int .u8 (((unpV bs).s) 9), .int .u8 (((unpV bs).s) 10), .int .u8 (((unpV bs).s) 11), .int .u8 (((unpV bs).s) 12), .int .u8 (((unpV bs).s) 13), .int .u8 (((unpV bs).s) 14), .int .u8 (((unpV bs).s) 15)]) (by kernel_rfl) (by kernel_rfl) (Loads.ownL ho12 (n := 36) (by kernel_rfl) (by kernel_rfl) (by kernel_rfl)) ?_
    have hzs20 := hS.size
    have hzl78 := ho1.lt
    have hzl79 := ho2.lt
    have hzl80 := ho4.lt
    have hzl81 := ho6.lt
    have hzl82 := ho8.lt
    have hzl83 := ho10.lt
    have hzl84 := ho12.lt
    have hzl85 := ho14.lt
    refine VL_call (d := 84) (f := 14) (by kernel_rfl) (by kernel_rfl) (by kernel_rfl) Try.call14 (CV.val (v' := .bool true) (right_any (unpV bs) _) (by rw [(unp_ok_pack ‹unpE bs = 0›).2.2])) ?_
    rintro _ w23 ⟨rfl, hc9⟩
    replace hS := Step.trans hS hc9
    replace ho1 := ho1.no hc9
    replace ho2 := ho2.no hc9
    replace ho4 := ho4.no hc9
    replace ho6 := ho6.no hc9
    replace ho8 := ho8.no hc9
    replace hbase1 := Nat.le_trans hbase1 (hc9).size
    replace hglg1 := Nat.lt_of_lt_of_le hglg1 (hc9).size
    replace ho10 := ho10.no hc9
    replace ho12 := ho12.no hc9
    replace ho14 := ho14.no hc9
    refine VL_pure 12 [6] [(6, .bool true)] (by kernel_rfl) rfl ?_
    refine VL_end (by kernel_rfl) ?_
    refine VQ_next ?_
    refine VC_ret ?_
    refine VQ_ret1 (.bool true) (.inr rfl) rfl rfl ?_
    exact ⟨by first | rfl | simp [*, (unp_ok_pack ‹unpE bs = 0›).2.1], hS⟩

set_option maxRecDepth 100000 in
set_option maxHeartbeats 4000000 in
theorem back_no (o : Om) (bs : List Int) (bt : Nat) (w : World) (ho : OmOk o) (hn : bs.length = 48) (hb : Bytes bs) (hbt : bt < 65536) (hr : rightO o = false) :
    CV Try.prog 4 #[.agg #[.int .i64 o.k, .int .u8 o.d, .bool o.a, .int .u32 o.tg, .int .u8 (o.p 0), .int .u8 (o.p 1), .int .u8 (o.p 2), .int .u8 (o.p 3), .int .u8 (o.p 4), .int .u8 (o.p 5), .int .u8 (o.p 6), .int .u8 (o.p 7), .int .u8 (o.p 8), .int .u8 (o.p 9), .int .u8 (o.p 10), .int .u8 (o.p 11), .int .u8 (o.p 12), .int .u8 (o.p 13), .int .u8 (o.p 14), .int .u8 (o.p 15), .int .u8 (o.s 0), .int .u8 (o.s 1), .int .u8 (o.s 2), .int .u8 (o.s 3), .int .u8 (o.s 4), .int .u8 (o.s 5), .int .u8 (o.s 6), .int .u8 (o.s 7), .int .u8 (o.s 8), .int .u8 (o.s 9), .int .u8 (o.s 10), .int .u8 (o.s 11), .int .u8 (o.s 12), .int .u8 (o.s 13), .int .u8 (o.s 14), .int .u8 (o.s 15)], .agg (iA .u8 bs), .int .u16 ((bt : Nat) : Int)] w (fun x w1 => x = .bool true ∧ Step No w w1) := by
  have hS : Step No w w := Step.refl _ _
  refine CV_enter Try.f4 _ 86 [(0, .agg #[.int .i64 o.k, .int .u8 o.d, .bool o.a, .int .u32 o.tg, .int .u8 (o.p 0), .int .u8 (o.p 1), .int .u8 (o.p 2), .int .u8 (o.p 3), .int .u8 (o.p 4), .int .u8 (o.p 5), .int .u8 (o.p 6), .int .u8 (o.p 7), .int .u8 (o.p 8), .int .u8 (o.p 9), .int .u8 (o.p 10), .int .u8 (o.p 11), .int .u8 (o.p 12), .int .u8 (o.p 13), .int .u8 (o.p 14), .int .u8 (o.p 15), .int .u8 (o.s 0), .int .u8 (o.s 1), .int .u8 (o.s 2), .int .u8 (o.s 3), .int .u8 (o.s 4), .int .u8 (o.s 5), .int .u8 (o.s 6), .int .u8 (o.s 7), .int .u8 (o.s 8), .int .u8 (o.s 9), .int .u8 (o.s 10), .int .u8 (o.s 11), .int .u8 (o.s 12), .int .u8 (o.s 13), .int .u8 (o.s 14), .int .u8 (o.s 15)]), (1, .agg (iA .u8 bs)), (2, .int .u16 ((bt : Nat) : Int))] Try.func4 rfl rfl (by kernel_rfl) rfl ?_
  refine VC_seq ?_
  refine VC_region ?_
  have hzs1 := hS.size
  refine VL_box (d := 3) (t := 25) (c := #[.int .i64 o.k, .int .u8 o.d, .bool o.a, .int .u32 o.tg, .int .u8 (o.p 0), .int .u8 (o.p 1), .int .u8 (o.p 2), .int .u8 (o.p 3), .int .u8 (o.p 4), .int .u8 (o.p 5), .int .u8 (o.p 6), .int .u8 (o.p 7), .int .u8 (o.p 8), .int .u8 (o.p 9), .int .u8 (o.p 10), .int .u8 (o.p 11), .int .u8 (o.p 12), .int .u8 (o.p 13), .int .u8 (o.p 14), .int .u8 (o.p 15), .int .u8 (o.s 0), .int .u8 (o.s 1), .int .u8 (o.s 2), .int .u8 (o.s 3), .int .u8 (o.s 4), .int .u8 (o.s 5), .int .u8 (o.s 6), .int .u8 (o.s 7), .int .u8 (o.s 8), .int .u8 (o.s 9), .int .u8 (o.s 10), .int .u8 (o.s 11), .int .u8 (o.s 12), .int .u8 (o.s 13), .int .u8 (o.s 14), .int .u8 (o.s 15)]) (by kernel_rfl) (by kernel_rfl) ?_
  intro b1 w1 hn1
  replace hS := Step.trans hS (hn1.step No)
  have ho1 := hn1.own
  have hzhn1 := hn1.size
  have hqhn1 := hn1.eqb
  have hzs2 := hS.size
  have hzl1 := ho1.lt
  have hzs3 := hS.size
  have hzl2 := ho1.lt
  refine VL_box (d := 4) (t := 26) (c := iA .u8 bs) (by kernel_rfl) (by kernel_rfl) ?_
  intro b2 w2 hn2
  replace hS := Step.trans hS (hn2.step No)
  replace ho1 := ho1.no (hn2.step No)
  have ho2 := hn2.own
  have hzhn2 := hn2.size
  have hqhn2 := hn2.eqb
  refine VL_pure 3 [2, 3, 4] [(2, .int .u16 ((bt : Nat) : Int)), (3, .pointer (some ⟨b1, 0, none⟩)), (4, .pointer (some ⟨b2, 0, none⟩))] (by kernel_rfl) rfl ?_
  refine VL_end (by kernel_rfl) ?_
  refine VQ_next ?_
  refine VC_seq ?_
  refine VC_seq ?_
  refine VC_region ?_
  have hzs4 := hS.size
  have hzl3 := ho1.lt
  have hzl4 := ho2.lt
  refine VL_call (d := 18) (f := 9) (args := #[]) (by kernel_rfl) (by kernel_rfl) (by kernel_rfl) Try.call9 (awake_any _) ?_
  rintro _ w3 ⟨rfl, hc1⟩
  replace hS := Step.trans hS hc1
  replace ho1 := ho1.no hc1
  replace ho2 := ho2.no hc1
  refine VL_pure 2 [2, 3, 4, 19] [(2, .int .u16 ((bt : Nat) : Int)), (3, .pointer (some ⟨b1, 0, none⟩)), (4, .pointer (some ⟨b2, 0, none⟩)), (19, .bool false)] (by kernel_rfl) rfl ?_
  refine VL_end (by kernel_rfl) ?_
  refine VQ_next ?_
  refine VC_false (by kernel_rfl) ?_
  refine VC_skip ?_
  refine VQ_next ?_
  refine VC_seq ?_
  refine VC_region ?_
  refine VL_load (d := 20) (t := 25) (a := ⟨b1, 0, none⟩) (v := .agg #[.int .i64 o.k, .int .u8 o.d, .bool o.a, .int .u32 o.tg, .int .u8 (o.p 0), .int .u8 (o.p 1), .int .u8 (o.p 2), .int .u8 (o.p 3), .int .u8 (o.p 4), .int .u8 (o.p 5), .int .u8 (o.p 6), .int .u8 (o.p 7), .int .u8 (o.p 8), .int .u8 (o.p 9), .int .u8 (o.p 10), .int .u8 (o.p 11), .int .u8 (o.p 12), .int .u8 (o.p 13), .int .u8 (o.p 14), .int .u8 (o.p 15), .int .u8 (o.s 0), .int .u8 (o.s 1), .int .u8 (o.s 2), .int .u8 (o.s 3), .int .u8 (o.s 4), .int .u8 (o.s 5), .int .u8 (o.s 6), .int .u8 (o.s 7), .int .u8 (o.s 8), .int .u8 (o.s 9), .int .u8 (o.s 10), .int .u8 (o.s 11), .int .u8 (o.s 12), .int .u8 (o.s 13), .int .u8 (o.s 14), .int .u8 (o.s 15)]) (by kernel_rfl) (by kernel_rfl) (Loads.ownL ho1 (n := 36) (by kernel_rfl) (by kernel_rfl) (by kernel_rfl)) ?_
  have hzs5 := hS.size
  have hzl5 := ho1.lt
  have hzl6 := ho2.lt
  refine VL_box (d := 7) (t := 31) (c := #[.int .i64 0, .int .u8 0, .bool false, .int .u32 0, .int .u8 0, .int .u8 0, .int .u8 0, .int .u8 0, .int .u8 0, .int .u8 0, .int .u8 0, .int .u8 0, .int .u8 0, .int .u8 0, .int .u8 0, .int .u8 0, .int .u8 0, .int .u8 0, .int .u8 0, .int .u8 0, .int .u8 0, .int .u8 0, .int .u8 0, .int .u8 0, .int .u8 0, .int .u8 0, .int .u8 0, .int .u8 0, .int .u8 0, .int .u8 0, .int .u8 0, .int .u8 0, .int .u8 0, .int .u8 0, .int .u8 0, .int .u8 0]) (by kernel_rfl) (by kernel_rfl) ?_
  intro b3 w4 hn3
  replace hS := Step.trans hS (hn3.step No)
  replace ho1 := ho1.no (hn3.step No)
  replace ho2 := ho2.no (hn3.step No)
  have ho3 := hn3.own
  have hzhn3 := hn3.size
  have hqhn3 := hn3.eqb
  refine VL_store (b := b3) (o := 0) (vs := [.int .i64 o.k, .int .u8 o.d, .bool o.a, .int .u32 o.tg, .int .u8 (o.p 0), .int .u8 (o.p 1), .int .u8 (o.p 2), .int .u8 (o.p 3), .int .u8 (o.p 4), .int .u8 (o.p 5), .int .u8 (o.p 6), .int .u8 (o.p 7), .int .u8 (o.p 8), .int .u8 (o.p 9), .int .u8 (o.p 10), .int .u8 (o.p 11), .int .u8 (o.p 12), .int .u8 (o.p 13), .int .u8 (o.p 14), .int .u8 (o.p 15), .int .u8 (o.s 0), .int .u8 (o.s 1), .int .u8 (o.s 2), .int .u8 (o.s 3), .int .u8 (o.s 4), .int .u8 (o.s 5), .int .u8 (o.s 6), .int .u8 (o.s 7), .int .u8 (o.s 8), .int .u8 (o.s 9), .int .u8 (o.s 10), .int .u8 (o.s 11), .int .u8 (o.s 12), .int .u8 (o.s 13), .int .u8 (o.s 14), .int .u8 (o.s 15)]) (by kernel_rfl) (by kernel_rfl) ho3 (Nat.le_of_ble_eq_true (by kernel_rfl)) ?_
  intro w5 hw1
  replace hS := Step.transNew hS hw1.step (fun _ _ _ => by omega)
  replace ho1 := ho1.step hw1.step (show ¬ b1 = b3 by omega)
  replace ho2 := ho2.step hw1.step (show ¬ b2 = b3 by omega)
  have ho4 : Own w5 b3 #[.int .i64 o.k, .int .u8 o.d, .bool o.a, .int .u32 o.tg, .int .u8 (o.p 0), .int .u8 (o.p 1), .int .u8 (o.p 2), .int .u8 (o.p 3), .int .u8 (o.p 4), .int .u8 (o.p 5), .int .u8 (o.p 6), .int .u8 (o.p 7), .int .u8 (o.p 8), .int .u8 (o.p 9), .int .u8 (o.p 10), .int .u8 (o.p 11), .int .u8 (o.p 12), .int .u8 (o.p 13), .int .u8 (o.p 14), .int .u8 (o.p 15), .int .u8 (o.s 0), .int .u8 (o.s 1), .int .u8 (o.s 2), .int .u8 (o.s 3), .int .u8 (o.s 4), .int .u8 (o.s 5), .int .u8 (o.s 6), .int .u8 (o.s 7), .int .u8 (o.s 8), .int .u8 (o.s 9), .int .u8 (o.s 10), .int .u8 (o.s 11), .int .u8 (o.s 12), .int .u8 (o.s 13), .int .u8 (o.s 14), .int .u8 (o.s 15)] 31 := Own.cast hw1.own (by kernel_rfl)
  have hzhw1 := hw1.same
  refine VL_end (by kernel_rfl) ?_
  refine VQ_next ?_
  refine VC_seq ?_
  refine VC_region ?_
  refine VL_load (d := 22) (t := 31) (a := ⟨b3, 0, none⟩) (v := .agg #[.int .i64 o.k, .int .u8 o.d, .bool o.a, .int .u32 o.tg, .int .u8 (o.p 0), .int .u8 (o.p 1), .int .u8 (o.p 2), .int .u8 (o.p 3), .int .u8 (o.p 4), .int .u8 (o.p 5), .int .u8 (o.p 6), .int .u8 (o.p 7), .int .u8 (o.p 8), .int .u8 (o.p 9), .int .u8 (o.p 10), .int .u8 (o.p 11), .int .u8 (o.p 12), .int .u8 (o.p 13), .int .u8 (o.p 14), .int .u8 (o.p 15), .int .u8 (o.s 0), .int .u8 (o.s 1), .int .u8 (o.s 2), .int .u8 (o.s 3), .int .u8 (o.s 4), .int .u8 (o.s 5), .int .u8 (o.s 6), .int .u8 (o.s 7), .int .u8 (o.s 8), .int .u8 (o.s 9), .int .u8 (o.s 10), .int .u8 (o.s 11), .int .u8 (o.s 12), .int .u8 (o.s 13), .int .u8 (o.s 14), .int .u8 (o.s 15)]) (by kernel_rfl) (by kernel_rfl) (Loads.ownL ho4 (n := 36) (by kernel_rfl) (by kernel_rfl) (by kernel_rfl)) ?_
  have hzs6 := hS.size
  have hzl7 := ho1.lt
  have hzl8 := ho2.lt
  have hzl9 := ho4.lt
  refine VL_call (d := 23) (f := 10) (by kernel_rfl) (by kernel_rfl) (by kernel_rfl) Try.call10 (CV.val (v' := .tuple #[.agg (iA .u8 (List.replicate 48 0)), .int .i64 1]) (pack_any o _) (by rw [packE_no hr, packV_no hr])) ?_
  rintro _ w6 ⟨rfl, hc2⟩
  replace hS := Step.trans hS hc2
  replace ho1 := ho1.no hc2
  replace ho2 := ho2.no hc2
  replace ho4 := ho4.no hc2
  refine VL_pure 5 [2, 4, 7, 24, 25] [(2, .int .u16 ((bt : Nat) : Int)), (4, .pointer (some ⟨b2, 0, none⟩)), (7, .pointer (some ⟨b3, 0, none⟩)), (24, .agg (iA .u8 (List.replicate 48 0))), (25, .int .i64 1)] (by kernel_rfl) rfl ?_
  have hzs7 := hS.size
  have hzl10 := ho1.lt
  have hzl11 := ho2.lt
  have hzl12 := ho4.lt
  have hzs8 := hS.size
  have hzl13 := ho1.lt
  have hzl14 := ho2.lt
  have hzl15 := ho4.lt
  refine VL_box (d := 8) (t := 26) (c := iA .u8 (List.replicate 48 0)) (by kernel_rfl) (by kernel_rfl) ?_
  intro b4 w7 hn4
  replace hS := Step.trans hS (hn4.step No)
  replace ho1 := ho1.no (hn4.step No)
  replace ho2 := ho2.no (hn4.step No)
  replace ho4 := ho4.no (hn4.step No)
  have ho5 := hn4.own
  have hzhn4 := hn4.size
  have hqhn4 := hn4.eqb
  refine VL_storeA (b := b4) (sz := 48) (k := .u8) (bs := List.replicate 48 0) (by kernel_rfl) (by kernel_rfl) (by first | assumption | exact packV_len _ | exact (flipL_len _ _).trans (packV_len _) | simp) ho5 (iA_size.trans (by (try simp only [List.length_set, List.length_append, List.length_map, List.length_replicate, List.length_cons, List.length_nil, List.length_take, List.length_drop, List.length_range]) <;> omega)) ?_
  intro w8 hw2
  replace hS := Step.transNew hS hw2.step (fun _ _ _ => by omega)
  replace ho1 := ho1.step hw2.step (show ¬ b1 = b4 by omega)
  replace ho2 := ho2.step hw2.step (show ¬ b2 = b4 by omega)
  replace ho4 := ho4.step hw2.step (show ¬ b3 = b4 by omega)
  have ho6 := hw2.own
  have hzhw2 := hw2.same
  refine VL_pure 8 [2, 4, 7, 8, 9] [(2, .int .u16 ((bt : Nat) : Int)), (4, .pointer (some ⟨b2, 0, none⟩)), (7, .pointer (some ⟨b3, 0, none⟩)), (8, .pointer (some ⟨b4, 0, none⟩)), (9, .int .i64 1)] (by kernel_rfl) rfl ?_
  refine VL_end (by kernel_rfl) ?_
  refine VQ_next ?_
  refine VC_seq ?_
  refine VC_seq ?_
  refine VC_region ?_
  refine VL_pure 2 [2, 4, 7, 8, 27] [(2, .int .u16 ((bt : Nat) : Int)), (4, .pointer (some ⟨b2, 0, none⟩)), (7, .pointer (some ⟨b3, 0, none⟩)), (8, .pointer (some ⟨b4, 0, none⟩)), (27, .bool false)] (by kernel_rfl) rfl ?_
  refine VL_end (by kernel_rfl) ?_
  refine VQ_next ?_
  refine VC_false (by kernel_rfl) ?_
  refine VC_skip ?_
  refine VQ_next ?_
  refine VC_seq ?_
  refine VC_region ?_
  refine VL_load (d := 61) (t := 26) (a := ⟨b2, 0, none⟩) (v := .agg (iA .u8 bs)) (by kernel_rfl) (by kernel_rfl) (Loads.arr (N := 48) ho2 (by kernel_rfl) (by (try simp only [List.length_set, List.length_append, List.length_map, List.length_replicate, List.length_cons, List.length_nil, List.length_take, List.length_drop, List.length_range]) <;> omega)) ?_
  have hzs9 := hS.size
  have hzl16 := ho1.lt
  have hzl17 := ho2.lt
  have hzl18 := ho4.lt
  have hzl19 := ho6.lt
  refine VL_call (d := 62) (f := 12) (by kernel_rfl) (by kernel_rfl) (by kernel_rfl) Try.call12 (unpack_any bs _ (by first | assumption | exact packV_len _ | exact (flipL_len _ _).trans (packV_len _) | simp)) ?_
  rintro _ w9 ⟨rfl, hc3⟩
  replace hS := Step.trans hS hc3
  replace ho1 := ho1.no hc3
  replace ho2 := ho2.no hc3
  replace ho4 := ho4.no hc3
  replace ho6 := ho6.no hc3
  refine VL_pure 5 [4, 63, 64] [(4, .pointer (some ⟨b2, 0, none⟩)), (63, .agg #[.int .i64 ((unpV bs).k), .int .u8 ((unpV bs).d), .bool ((unpV bs).a), .int .u32 ((unpV bs).tg), .int .u8 (((unpV bs).p) 0), .int .u8 (((unpV bs).p) 1), .int .u8 (((unpV bs).p) 2), .int .u8 (((unpV bs).p) 3), .int .u8 (((unpV bs).p) 4), .int .u8 (((unpV bs).p) 5), .int .u8 (((unpV bs).p) 6), .int .u8 (((unpV bs).p) 7), .int .u8 (((unpV bs).p) 8), .int .u8 (((unpV bs).p) 9), .int .u8 (((unpV bs).p) 10), .int .u8 (((unpV bs).p) 11), .int .u8 (((unpV bs).p) 12), .int .u8 (((unpV bs).p) 13), .int .u8 (((unpV bs).p) 14), .int .u8 (((unpV bs).p) 15), .int .u8 (((unpV bs).s) 0), .int .u8 (((unpV bs).s) 1), .int .u8 (((unpV bs).s) 2), .int .u8 (((unpV bs).s) 3), .int .u8 (((unpV bs).s) 4), .int .u8 (((unpV bs).s) 5), .int .u8 (((unpV bs).s) 6), .int .u8 (((unpV bs).s) 7), .int .u8 (((unpV bs).s) 8), .int .u8 (((unpV bs).s) 9), .int .u8 (((unpV bs).s) 10), .int .u8 (((unpV bs).s) 11), .int .u8 (((unpV bs).s) 12), .int .u8 (((unpV bs).s) 13), .int .u8 (((unpV bs).s) 14), .int .u8 (((unpV bs).s) 15)]), (64, .int .i64 (unpE bs))] (by kernel_rfl) rfl ?_
  have hzs10 := hS.size
  have hzl20 := ho1.lt
  have hzl21 := ho2.lt
  have hzl22 := ho4.lt
  have hzl23 := ho6.lt
  refine VL_box (d := 14) (t := 31) (c := #[.int .i64 0, .int .u8 0, .bool false, .int .u32 0, .int .u8 0, .int .u8 0, .int .u8 0, .int .u8 0, .int .u8 0, .int .u8 0, .int .u8 0, .int .u8 0, .int .u8 0, .int .u8 0, .int .u8 0, .int .u8 0, .int .u8 0, .int .u8 0, .int .u8 0, .int .u8 0, .int .u8 0, .int .u8 0, .int .u8 0, .int .u8 0, .int .u8 0, .int .u8 0, .int .u8 0, .int .u8 0, .int .u8 0, .int .u8 0, .int .u8 0, .int .u8 0, .int .u8 0, .int .u8 0, .int .u8 0, .int .u8 0]) (by kernel_rfl) (by kernel_rfl) ?_
  intro b5 w10 hn5
  replace hS := Step.trans hS (hn5.step No)
  replace ho1 := ho1.no (hn5.step No)
  replace ho2 := ho2.no (hn5.step No)
  replace ho4 := ho4.no (hn5.step No)
  replace ho6 := ho6.no (hn5.step No)
  have ho7 := hn5.own
  have hzhn5 := hn5.size
  have hqhn5 := hn5.eqb
  refine VL_store (b := b5) (o := 0) (vs := [.int .i64 ((unpV bs).k), .int .u8 ((unpV bs).d), .bool ((unpV bs).a), .int .u32 ((unpV bs).tg), .int .u8 (((unpV bs).p) 0), .int .u8 (((unpV bs).p) 1), .int .u8 (((unpV bs).p) 2), .int .u8 (((unpV bs).p) 3), .int .u8 (((unpV bs).p) 4), .int .u8 (((unpV bs).p) 5), .int .u8 (((unpV bs).p) 6), .int .u8 (((unpV bs).p) 7), .int .u8 (((unpV bs).p) 8), .int .u8 (((unpV bs).p) 9), .int .u8 (((unpV bs).p) 10), .int .u8 (((unpV bs).p) 11), .int .u8 (((unpV bs).p) 12), .int .u8 (((unpV bs).p) 13), .int .u8 (((unpV bs).p) 14), .int .u8 (((unpV bs).p) 15), .int .u8 (((unpV bs).s) 0), .int .u8 (((unpV bs).s) 1), .int .u8 (((unpV bs).s) 2), .int .u8 (((unpV bs).s) 3), .int .u8 (((unpV bs).s) 4), .int .u8 (((unpV bs).s) 5), .int .u8 (((unpV bs).s) 6), .int .u8 (((unpV bs).s) 7), .int .u8 (((unpV bs).s) 8), .int .u8 (((unpV bs).s) 9), .int .u8 (((unpV bs).s) 10), .int .u8 (((unpV bs).s) 11), .int .u8 (((unpV bs).s) 12), .int .u8 (((unpV bs).s) 13), .int .u8 (((unpV bs).s) 14), .int .u8 (((unpV bs).s) 15)]) (by kernel_rfl) (by kernel_rfl) ho7 (Nat.le_of_ble_eq_true (by kernel_rfl)) ?_
  intro w11 hw3
  replace hS := Step.transNew hS hw3.step (fun _ _ _ => by omega)
  replace ho1 := ho1.step hw3.step (show ¬ b1 = b5 by omega)
  replace ho2 := ho2.step hw3.step (show ¬ b2 = b5 by omega)
  replace ho4 := ho4.step hw3.step (show ¬ b3 = b5 by omega)
  replace ho6 := ho6.step hw3.step (show ¬ b4 = b5 by omega)
  have ho8 : Own w11 b5 #[.int .i64 ((unpV bs).k), .int .u8 ((unpV bs).d), .bool ((unpV bs).a), .int .u32 ((unpV bs).tg), .int .u8 (((unpV bs).p) 0), .int .u8 (((unpV bs).p) 1), .int .u8 (((unpV bs).p) 2), .int .u8 (((unpV bs).p) 3), .int .u8 (((unpV bs).p) 4), .int .u8 (((unpV bs).p) 5), .int .u8 (((unpV bs).p) 6), .int .u8 (((unpV bs).p) 7), .int .u8 (((unpV bs).p) 8), .int .u8 (((unpV bs).p) 9), .int .u8 (((unpV bs).p) 10), .int .u8 (((unpV bs).p) 11), .int .u8 (((unpV bs).p) 12), .int .u8 (((unpV bs).p) 13), .int .u8 (((unpV bs).p) 14), .int .u8 (((unpV bs).p) 15), .int .u8 (((unpV bs).s) 0), .int .u8 (((unpV bs).s) 1), .int .u8 (((unpV bs).s) 2), .int .u8 (((unpV bs).s) 3), .int .u8 (((unpV bs).s) 4), .int .u8 (((unpV bs).s) 5), .int .u8 (((unpV bs).s) 6), .int .u8 (((unpV bs).s) 7), .int .u8 (((unpV bs).s) 8), .int .u8 (((unpV bs).s) 9), .int .u8 (((unpV bs).s) 10), .int .u8 (((unpV bs).s) 11), .int .u8 (((unpV bs).s) 12), .int .u8 (((unpV bs).s) 13), .int .u8 (((unpV bs).s) 14), .int .u8 (((unpV bs).s) 15)] 31 := Own.cast hw3.own (by kernel_rfl)
  have hzhw3 := hw3.same
  refine VL_pure 8 [4, 14, 15] [(4, .pointer (some ⟨b2, 0, none⟩)), (14, .pointer (some ⟨b5, 0, none⟩)), (15, .int .i64 (unpE bs))] (by kernel_rfl) rfl ?_
  refine VL_end (by kernel_rfl) ?_
  refine VQ_next ?_
  refine VC_seq ?_
  refine VC_seq ?_
  refine VC_region ?_
  refine VL_pure 2 [4, 14, 66] [(4, .pointer (some ⟨b2, 0, none⟩)), (14, .pointer (some ⟨b5, 0, none⟩)), (66, .bool ((unpE bs) != 0))] (by kernel_rfl) rfl ?_
  refine VL_end (by kernel_rfl) ?_
  refine VQ_next ?_
  refine VC_ne (unpE bs) 0 (by kernel_rfl) (fun h1 => ?_) (fun h1 => ?_)
  · refine VC_seq ?_
    refine VC_region ?_
    refine VL_load (d := 67) (t := 31) (a := ⟨b5, 0, none⟩) (v := .agg #[.int .i64 ((unpV bs).k), .int .u8 ((unpV bs).d), .bool ((unpV bs).a), .int .u32 ((unpV bs).tg), .int .u8 (((unpV bs).p) 0), .int .u8 (((unpV bs).p) 1), .int .u8 (((unpV bs).p) 2), .int .u8 (((unpV bs).p) 3), .int .u8 (((unpV bs).p) 4), .int .u8 (((unpV bs).p) 5), .int .u8 (((unpV bs).p) 6), .int .u8 (((unpV bs).p) 7), .int .u8 (((unpV bs).p) 8), .int .u8 (((unpV bs).p) 9), .int .u8 (((unpV bs).p) 10), .int .u8 (((unpV bs).p) 11), .int .u8 (((unpV bs).p) 12), .int .u8 (((unpV bs).p) 13), .int .u8 (((unpV bs).p) 14), .int .u8 (((unpV bs).p) 15), .int .u8 (((unpV bs).s) 0), .int .u8 (((unpV bs).s) 1), .int .u8 (((unpV bs).s) 2), .int .u8 (((unpV bs).s) 3), .int .u8 (((unpV bs).s) 4), .int .u8 (((unpV bs).s) 5), .int .u8 (((unpV bs).s) 6), .int .u8 (((unpV bs).s) 7), .int .u8 (((unpV bs).s) 8), .int .u8 (((unpV bs).s) 9), .int .u8 (((unpV bs).s) 10), .int .u8 (((unpV bs).s) 11), .int .u8 (((unpV bs).s) 12), .int .u8 (((unpV bs).s) 13), .int .u8 (((unpV bs).s) 14), .int .u8 (((unpV bs).s) 15)]) (by kernel_rfl) (by kernel_rfl) (Loads.ownL ho8 (n := 36) (by kernel_rfl) (by kernel_rfl) (by kernel_rfl)) ?_
    refine VL_pure 2 [67, 68] [(67, .agg #[.int .i64 ((unpV bs).k), .int .u8 ((unpV bs).d), .bool ((unpV bs).a), .int .u32 ((unpV bs).tg), .int .u8 (((unpV bs).p) 0), .int .u8 (((unpV bs).p) 1), .int .u8 (((unpV bs).p) 2), .int .u8 (((unpV bs).p) 3), .int .u8 (((unpV bs).p) 4), .int .u8 (((unpV bs).p) 5), .int .u8 (((unpV bs).p) 6), .int .u8 (((unpV bs).p) 7), .int .u8 (((unpV bs).p) 8), .int .u8 (((unpV bs).p) 9), .int .u8 (((unpV bs).p) 10), .int .u8 (((unpV bs).p) 11), .int .u8 (((unpV bs).p) 12), .int .u8 (((unpV bs).p) 13), .int .u8 (((unpV bs).p) 14), .int .u8 (((unpV bs).p) 15), .int .u8 (((unpV bs).s) 0), .int .u8 (((unpV bs).s) 1), .int .u8 (((unpV bs).s) 2), .int .u8 (((unpV bs).s) 3), .int .u8 (((unpV bs).s) 4), .int .u8 (((unpV bs).s) 5), .int .u8 (((unpV bs).s) 6), .int .u8 (((unpV bs).s) 7), .int .u8 (((unpV bs).s) 8), .int .u8 (((unpV bs).s) 9), .int .u8 (((unpV bs).s) 10), .int .u8 (((unpV bs).s) 11), .int .u8 (((unpV bs).s) 12), .int .u8 (((unpV bs).s) 13), .int .u8 (((unpV bs).s) 14), .int .u8 (((unpV bs).s) 15)]), (68, .agg #[.int .i64 0, .int .u8 0, .bool false, .int .u32 0, .int .u8 0, .int .u8 0, .int .u8 0, .int .u8 0, .int .u8 0, .int .u8 0, .int .u8 0, .int .u8 0, .int .u8 0, .int .u8 0, .int .u8 0, .int .u8 0, .int .u8 0, .int .u8 0, .int .u8 0, .int .u8 0, .int .u8 0, .int .u8 0, .int .u8 0, .int .u8 0, .int .u8 0, .int .u8 0, .int .u8 0, .int .u8 0, .int .u8 0, .int .u8 0, .int .u8 0, .int .u8 0, .int .u8 0, .int .u8 0, .int .u8 0, .int .u8 0])] (by kernel_rfl) rfl ?_
    refine VL_agEq (d := 69) (dd := 9) (ls := ([.int .i64] ++ [.int .u8] ++ [.bool] ++ [.int .u32] ++ (rep 16 [.int .u8]) ++ (rep 16 [.int .u8]) ++ [])) (pos := true) (t := 31) (xs := #[.int .i64 ((unpV bs).k), .int .u8 ((unpV bs).d), .bool ((unpV bs).a), .int .u32 ((unpV bs).tg), .int .u8 (((unpV bs).p) 0), .int .u8 (((unpV bs).p) 1), .int .u8 (((unpV bs).p) 2), .int .u8 (((unpV bs).p) 3), .int .u8 (((unpV bs).p) 4), .int .u8 (((unpV bs).p) 5), .int .u8 (((unpV bs).p) 6), .int .u8 (((unpV bs).p) 7), .int .u8 (((unpV bs).p) 8), .int .u8 (((unpV bs).p) 9), .int .u8 (((unpV bs).p) 10), .int .u8 (((unpV bs).p) 11), .int .u8 (((unpV bs).p) 12), .int .u8 (((unpV bs).p) 13), .int .u8 (((unpV bs).p) 14), .int .u8 (((unpV bs).p) 15), .int .u8 (((unpV bs).s) 0), .int .u8 (((unpV bs).s) 1), .int .u8 (((unpV bs).s) 2), .int .u8 (((unpV bs).s) 3), .int .u8 (((unpV bs).s) 4), .int .u8 (((unpV bs).s) 5), .int .u8 (((unpV bs).s) 6), .int .u8 (((unpV bs).s) 7), .int .u8 (((unpV bs).s) 8), .int .u8 (((unpV bs).s) 9), .int .u8 (((unpV bs).s) 10), .int .u8 (((unpV bs).s) 11), .int .u8 (((unpV bs).s) 12), .int .u8 (((unpV bs).s) 13), .int .u8 (((unpV bs).s) 14), .int .u8 (((unpV bs).s) 15)]) (ys := #[.int .i64 0, .int .u8 0, .bool false, .int .u32 0, .int .u8 0, .int .u8 0, .int .u8 0, .int .u8 0, .int .u8 0, .int .u8 0, .int .u8 0, .int .u8 0, .int .u8 0, .int .u8 0, .int .u8 0, .int .u8 0, .int .u8 0, .int .u8 0, .int .u8 0, .int .u8 0, .int .u8 0, .int .u8 0, .int .u8 0, .int .u8 0, .int .u8 0, .int .u8 0, .int .u8 0, .int .u8 0, .int .u8 0, .int .u8 0, .int .u8 0, .int .u8 0, .int .u8 0, .int .u8 0, .int .u8 0, .int .u8 0]) (by kernel_rfl) (by kernel_rfl) (by kernel_rfl) (by kernel_rfl) (by first | exact ⟨⟨_, rfl⟩, ⟨_, rfl⟩, ⟨_, rfl⟩, ⟨_, rfl⟩, ⟨_, rfl⟩, ⟨_, rfl⟩, ⟨_, rfl⟩, ⟨_, rfl⟩, ⟨_, rfl⟩, ⟨_, rfl⟩, ⟨_, rfl⟩, ⟨_, rfl⟩, ⟨_, rfl⟩, ⟨_, rfl⟩, ⟨_, rfl⟩, ⟨_, rfl⟩, ⟨_, rfl⟩, ⟨_, rfl⟩, ⟨_, rfl⟩, ⟨_, rfl⟩, ⟨_, rfl⟩, ⟨_, rfl⟩, ⟨_, rfl⟩, ⟨_, rfl⟩, ⟨_, rfl⟩, ⟨_, rfl⟩, ⟨_, rfl⟩, ⟨_, rfl⟩, ⟨_, rfl⟩, ⟨_, rfl⟩, ⟨_, rfl⟩, ⟨_, rfl⟩, ⟨_, rfl⟩, ⟨_, rfl⟩, ⟨_, rfl⟩, ⟨_, rfl⟩, trivial⟩ | trivial) (by first | exact ⟨⟨_, rfl⟩, ⟨_, rfl⟩, ⟨_, rfl⟩, ⟨_, rfl⟩, ⟨_, rfl⟩, ⟨_, rfl⟩, ⟨_, rfl⟩, ⟨_, rfl⟩, ⟨_, rfl⟩, ⟨_, rfl⟩, ⟨_, rfl⟩, ⟨_, rfl⟩, ⟨_, rfl⟩, ⟨_, rfl⟩, ⟨_, rfl⟩, ⟨_, rfl⟩, ⟨_, rfl⟩, ⟨_, rfl⟩, ⟨_, rfl⟩, ⟨_, rfl⟩, ⟨_, rfl⟩, ⟨_, rfl⟩, ⟨_, rfl⟩, ⟨_, rfl⟩, ⟨_, rfl⟩, ⟨_, rfl⟩, ⟨_, rfl⟩, ⟨_, rfl⟩, ⟨_, rfl⟩, ⟨_, rfl⟩, ⟨_, rfl⟩, ⟨_, rfl⟩, ⟨_, rfl⟩, ⟨_, rfl⟩, ⟨_, rfl⟩, ⟨_, rfl⟩, trivial⟩ | trivial) (omEq (unpV bs) (⟨0, 0, false, 0, zp, zp⟩ : Om)) (by rfl) ?_
    refine VL_pure 4 [6] [(6, .bool (omEq (unpV bs) (⟨0, 0, false, 0, zp, zp⟩ : Om)))] (by kernel_rfl) rfl ?_
    refine VL_end (by kernel_rfl) ?_
    refine VQ_next ?_
    refine VC_ret ?_
    refine VQ_then_ret ?_
    refine VQ_ret1 (.bool (omEq (unpV bs) (⟨0, 0, false, 0, zp, zp⟩ : Om))) (.inr rfl) rfl rfl ?_
    exact ⟨congrArg Value.bool (zero_eq ‹_›), hS⟩
  · refine VC_skip ?_
    refine VQ_next ?_
    refine VC_seq ?_
    refine VC_region ?_
    refine VL_load (d := 71) (t := 31) (a := ⟨b5, 0, none⟩) (v := .agg #[.int .i64 ((unpV bs).k), .int .u8 ((unpV bs).d), .bool ((unpV bs).a), .int .u32 ((unpV bs).tg), .int .u8 (((unpV bs).p) 0), .int .u8 (((unpV bs).p) 1), .int .u8 (((unpV bs).p) 2), .int .u8 (((unpV bs).p) 3), .int .u8 (((unpV bs).p) 4), .int .u8 (((unpV bs).p) 5), .int .u8 (((unpV bs).p) 6), .int .u8 (((unpV bs).p) 7), .int .u8 (((unpV bs).p) 8), .int .u8 (((unpV bs).p) 9), .int .u8 (((unpV bs).p) 10), .int .u8 (((unpV bs).p) 11), .int .u8 (((unpV bs).p) 12), .int .u8 (((unpV bs).p) 13), .int .u8 (((unpV bs).p) 14), .int .u8 (((unpV bs).p) 15), .int .u8 (((unpV bs).s) 0), .int .u8 (((unpV bs).s) 1), .int .u8 (((unpV bs).s) 2), .int .u8 (((unpV bs).s) 3), .int .u8 (((unpV bs).s) 4), .int .u8 (((unpV bs).s) 5), .int .u8 (((unpV bs).s) 6), .int .u8 (((unpV bs).s) 7), .int .u8 (((unpV bs).s) 8), .int .u8 (((unpV bs).s) 9), .int .u8 (((unpV bs).s) 10), .int .u8 (((unpV bs).s) 11), .int .u8 (((unpV bs).s) 12), .int .u8 (((unpV bs).s) 13), .int .u8 (((unpV bs).s) 14), .int .u8 (((unpV bs).s) 15)]) (by kernel_rfl) (by kernel_rfl) (Loads.ownL ho8 (n := 36) (by kernel_rfl) (by kernel_rfl) (by kernel_rfl)) ?_
    have hzs11 := hS.size
    have hzl24 := ho1.lt
    have hzl25 := ho2.lt
    have hzl26 := ho4.lt
    have hzl27 := ho6.lt
    have hzl28 := ho8.lt
    refine VL_call (d := 72) (f := 10) (by kernel_rfl) (by kernel_rfl) (by kernel_rfl) Try.call10 (CV.val (v' := .tuple #[.agg (iA .u8 (packV (unpV bs))), .int .i64 0]) (pack_any (unpV bs) _) (by rw [packE_yes (unp_ok_pack ‹unpE bs = 0›).2.2])) ?_
    rintro _ w12 ⟨rfl, hc4⟩
    replace hS := Step.trans hS hc4
    replace ho1 := ho1.no hc4
    replace ho2 := ho2.no hc4
    replace ho4 := ho4.no hc4
    replace ho6 := ho6.no hc4
    replace ho8 := ho8.no hc4
    refine VL_pure 5 [4, 14, 73, 74] [(4, .pointer (some ⟨b2, 0, none⟩)), (14, .pointer (some ⟨b5, 0, none⟩)), (73, .agg (iA .u8 (packV (unpV bs)))), (74, .int .i64 0)] (by kernel_rfl) rfl ?_
    have hzs12 := hS.size
    have hzl29 := ho1.lt
    have hzl30 := ho2.lt
    have hzl31 := ho4.lt
    have hzl32 := ho6.lt
    have hzl33 := ho8.lt
    have hzs13 := hS.size
    have hzl34 := ho1.lt
    have hzl35 := ho2.lt
    have hzl36 := ho4.lt
    have hzl37 := ho6.lt
    have hzl38 := ho8.lt
    refine VL_box (d := 16) (t := 26) (c := iA .u8 (List.replicate 48 0)) (by kernel_rfl) (by kernel_rfl) ?_
    intro b6 w13 hn6
    replace hS := Step.trans hS (hn6.step No)
    replace ho1 := ho1.no (hn6.step No)
    replace ho2 := ho2.no (hn6.step No)
    replace ho4 := ho4.no (hn6.step No)
    replace ho6 := ho6.no (hn6.step No)
    replace ho8 := ho8.no (hn6.step No)
    have ho9 := hn6.own
    have hzhn6 := hn6.size
    have hqhn6 := hn6.eqb
    refine VL_storeA (b := b6) (sz := 48) (k := .u8) (bs := packV (unpV bs)) (by kernel_rfl) (by kernel_rfl) (by first | assumption | exact packV_len _ | exact (flipL_len _ _).trans (packV_len _) | simp) ho9 (iA_size.trans (by (try simp only [List.length_set, List.length_append, List.length_map, List.length_replicate, List.length_cons, List.length_nil, List.length_take, List.length_drop, List.length_range]) <;> omega)) ?_
    intro w14 hw4
    replace hS := Step.transNew hS hw4.step (fun _ _ _ => by omega)
    replace ho1 := ho1.step hw4.step (show ¬ b1 = b6 by omega)
    replace ho2 := ho2.step hw4.step (show ¬ b2 = b6 by omega)
    replace ho4 := ho4.step hw4.step (show ¬ b3 = b6 by omega)
    replace ho6 := ho6.step hw4.step (show ¬ b4 = b6 by omega)
    replace ho8 := ho8.step hw4.step (show ¬ b5 = b6 by omega)
    have ho10 := hw4.own
    have hzhw4 := hw4.same
    refine VL_pure 8 [4, 14, 16, 17] [(4, .pointer (some ⟨b2, 0, none⟩)), (14, .pointer (some ⟨b5, 0, none⟩)), (16, .pointer (some ⟨b6, 0, none⟩)), (17, .int .i64 0)] (by kernel_rfl) rfl ?_
    refine VL_end (by kernel_rfl) ?_
    refine VQ_next ?_
    refine VC_seq ?_
    refine VC_region ?_
    refine VL_pure 3 [4, 14, 16, 77] [(4, .pointer (some ⟨b2, 0, none⟩)), (14, .pointer (some ⟨b5, 0, none⟩)), (16, .pointer (some ⟨b6, 0, none⟩)), (77, .bool true)] (by kernel_rfl) rfl ?_
    refine VL_load (d := 78) (t := 26) (a := ⟨b6, 0, none⟩) (v := .agg (iA .u8 (packV (unpV bs)))) (by kernel_rfl) (by kernel_rfl) (Loads.arr (N := 48) ho10 (by kernel_rfl) (by first | assumption | exact packV_len _ | exact (flipL_len _ _).trans (packV_len _) | simp)) ?_
    refine VL_load (d := 79) (t := 26) (a := ⟨b2, 0, none⟩) (v := .agg (iA .u8 bs)) (by kernel_rfl) (by kernel_rfl) (Loads.arr (N := 48) ho2 (by kernel_rfl) (by (try simp only [List.length_set, List.length_append, List.length_map, List.length_replicate, List.length_cons, List.length_nil, List.length_take, List.length_drop, List.length_range]) <;> omega)) ?_
    refine VL_agEq (d := 80) (dd := 9) (ls := (rep 48 [.int .u8])) (pos := true) (t := 26) (xs := (iA .u8 (packV (unpV bs)))) (ys := (iA .u8 bs)) (by kernel_rfl) (by kernel_rfl) (by kernel_rfl) (by kernel_rfl) (iA_are (by first | assumption | exact packV_len _ | exact (flipL_len _ _).trans (packV_len _) | simp)) (iA_are (by first | assumption | exact packV_len _ | exact (flipL_len _ _).trans (packV_len _) | simp)) ((packV (unpV bs)) == bs) (iA_eq true) ?_
    refine VL_pure 8 [14, 82] [(14, .pointer (some ⟨b5, 0, none⟩)), (82, .bool ((packV (unpV bs)) == bs))] (by kernel_rfl) rfl ?_
    refine VL_known ((packV (unpV bs)) == bs) (fun bV => [(14, .pointer (some ⟨b5, 0, none⟩)), (82, .bool bV)]) true rfl (by simp [(unp_ok_pack ‹unpE bs = 0›).2.1]) ?_
    refine VL_load (d := 83) (t := 31) (a := ⟨b5, 0, none⟩) (v := .agg #[.int .i64 ((unpV bs).k), .int .u8 ((unpV bs).d), .bool ((unpV bs).a), .int .u32 ((unpV bs).tg), .int .u8 (((unpV bs).p) 0), .int .u8 (((unpV bs).p) 1), .int .u8 (((unpV bs).p) 2), .int .u8 (((unpV bs).p) 3), .int .u8 (((unpV bs).p) 4), .int .u8 (((unpV bs).p) 5), .int .u8 (((unpV bs).p) 6), .int .u8 (((unpV bs).p) 7), .int .u8 (((unpV bs).p) 8), .int .u8 (((unpV bs).p) 9), .int .u8 (((unpV bs).p) 10), .int .u8 (((unpV bs).p) 11), .int .u8 (((unpV bs).p) 12), .int .u8 (((unpV bs).p) 13), .int .u8 (((unpV bs).p) 14), .int .u8 (((unpV bs).p) 15), .int .u8 (((unpV bs).s) 0), .int .u8 (((unpV bs).s) 1), .int .u8 (((unpV bs).s) 2), .int .u8 (((unpV bs).s) 3), .int .u8 (((unpV bs).s) 4), .int .u8 (((unpV bs).s) 5), .int .u8 (((unpV bs).s) 6), .int .u8 (((unpV bs).s) 7), .int .u8 (((unpV bs).s) 8), .int .u8 (((unpV bs).s) 9), .int .u8 (((unpV bs).s) 10), .int .u8 (((unpV bs).s) 11), .int .u8 (((unpV bs).s) 12), .int .u8 (((unpV bs).s) 13), .int .u8 (((unpV bs).s) 14), .int .u8 (((unpV bs).s) 15)]) (by kernel_rfl) (by kernel_rfl) (Loads.ownL ho8 (n := 36) (by kernel_rfl) (by kernel_rfl) (by kernel_rfl)) ?_
    have hzs14 := hS.size
    have hzl39 := ho1.lt
    have hzl40 := ho2.lt
    have hzl41 := ho4.lt
    have hzl42 := ho6.lt
    have hzl43 := ho8.lt
    have hzl44 := ho10.lt
    refine VL_call (d := 84) (f := 14) (by kernel_rfl) (by kernel_rfl) (by kernel_rfl) Try.call14 (CV.val (v' := .bool true) (right_any (unpV bs) _) (by rw [(unp_ok_pack ‹unpE bs = 0›).2.2])) ?_
    rintro _ w15 ⟨rfl, hc5⟩
    replace hS := Step.trans hS hc5
    replace ho1 := ho1.no hc5
    replace ho2 := ho2.no hc5
    replace ho4 := ho4.no hc5
    replace ho6 := ho6.no hc5
    replace ho8 := ho8.no hc5
    replace ho10 := ho10.no hc5
    refine VL_pure 12 [6] [(6, .bool true)] (by kernel_rfl) rfl ?_
    refine VL_end (by kernel_rfl) ?_
    refine VQ_next ?_
    refine VC_ret ?_
    refine VQ_ret1 (.bool true) (.inr rfl) rfl rfl ?_
    exact ⟨by first | rfl | simp [*, (unp_ok_pack ‹unpE bs = 0›).2.1], hS⟩

end Go.Proofs.Yteipakmfiiccpaa
