/- Layer 14: awake. -/
import Derived.Test.YteipakmfiiccpaaProg
import Derived.Test.YteipakmfiiccpaaOm9
import Derived.Test.YteipakmfiiccpaaOm3
set_option linter.unusedVariables false
set_option linter.unusedSimpArgs false
namespace Go.Proofs.Yteipakmfiiccpaa
open Go.Vc Go.RowKit

set_option maxRecDepth 100000 in
set_option maxHeartbeats 4000000 in
theorem awake_any (w : World) :
    CV Try.prog 9 #[] w (fun x w1 => x = .bool true ∧ Step No w w1) := by
  have hS : Step No w w := Step.refl _ _
  refine CV_enter Try.f9 _ 39 [] Try.func9 rfl rfl (by kernel_rfl) rfl ?_
  refine VC_seq ?_
  refine VC_region ?_
  refine VL_pure 1 [] [] (by kernel_rfl) rfl ?_
  refine VL_end (by kernel_rfl) ?_
  refine VQ_next ?_
  refine VC_seq ?_
  refine VC_region ?_
  refine VL_pure 1 [6] [(6, .agg #[.int .i64 8, .int .u8 0, .bool true, .int .u32 7, .int .u8 0, .int .u8 0, .int .u8 0, .int .u8 0, .int .u8 0, .int .u8 0, .int .u8 0, .int .u8 0, .int .u8 0, .int .u8 0, .int .u8 0, .int .u8 0, .int .u8 0, .int .u8 0, .int .u8 0, .int .u8 0, .int .u8 0, .int .u8 0, .int .u8 0, .int .u8 0, .int .u8 0, .int .u8 0, .int .u8 0, .int .u8 0, .int .u8 0, .int .u8 0, .int .u8 0, .int .u8 0, .int .u8 0, .int .u8 0, .int .u8 0, .int .u8 0])] (by kernel_rfl) rfl ?_
  have hzs1 := hS.size
  refine VL_call (d := 7) (f := 10) (by kernel_rfl) (by kernel_rfl) (by kernel_rfl) Try.call10 (CV.val (v' := .tuple #[.agg (iA .u8 (packV (⟨8, 0, true, 7, zp, zp⟩ : Om))), .int .i64 0]) (pack_any (⟨8, 0, true, 7, zp, zp⟩ : Om) _) (by rw [packE_yes (show rightO (⟨8, 0, true, 7, zp, zp⟩ : Om) = true by decide +kernel)])) ?_
  rintro _ w1 ⟨rfl, hc1⟩
  replace hS := Step.trans hS hc1
  refine VL_pure 5 [8, 9] [(8, .agg (iA .u8 (packV (⟨8, 0, true, 7, zp, zp⟩ : Om)))), (9, .int .i64 0)] (by kernel_rfl) rfl ?_
  have hzs2 := hS.size
  have hzs3 := hS.size
  refine VL_box (d := 1) (t := 26) (c := iA .u8 (List.replicate 48 0)) (by kernel_rfl) (by kernel_rfl) ?_
  intro b1 w2 hn1
  replace hS := Step.trans hS (hn1.step No)
  have ho1 := hn1.own
  have hzhn1 := hn1.size
  have hqhn1 := hn1.eqb
  refine VL_storeA (b := b1) (sz := 48) (k := .u8) (bs := packV (⟨8, 0, true, 7, zp, zp⟩ : Om)) (by kernel_rfl) (by kernel_rfl) (by first | assumption | exact packV_len _ | exact (sealL_len _).trans (packV_len _) | simp [sealL_len, packV_len, *]) ho1 (iA_size.trans (by (try simp only [List.length_set, List.length_append, List.length_map, List.length_replicate, List.length_cons, List.length_nil, List.length_take, List.length_drop, List.length_range]) <;> omega)) ?_
  intro w3 hw1
  replace hS := Step.transNew hS hw1.step (fun _ _ _ => by omega)
  have ho2 := hw1.own
  have hzhw1 := hw1.same
  refine VL_pure 8 [1, 2] [(1, .pointer (some ⟨b1, 0, none⟩)), (2, .int .i64 0)] (by kernel_rfl) rfl ?_
  refine VL_end (by kernel_rfl) ?_
  refine VQ_next ?_
  refine VC_seq ?_
  refine VC_region ?_
  refine VL_load (d := 11) (t := 26) (a := ⟨b1, 0, none⟩) (v := .agg (iA .u8 (packV (⟨8, 0, true, 7, zp, zp⟩ : Om)))) (by kernel_rfl) (by kernel_rfl) (Loads.arr (N := 48) ho2 (by kernel_rfl) (by first | assumption | exact packV_len _ | exact (sealL_len _).trans (packV_len _) | simp [sealL_len, packV_len, *])) ?_
  have hzs4 := hS.size
  have hzl1 := ho2.lt
  refine VL_call (d := 12) (f := 12) (by kernel_rfl) (by kernel_rfl) (by kernel_rfl) Try.call12 (unpack_any (packV (⟨8, 0, true, 7, zp, zp⟩ : Om)) _ (by first | assumption | exact packV_len _ | exact (sealL_len _).trans (packV_len _) | simp [sealL_len, packV_len, *])) ?_
  rintro _ w4 ⟨rfl, hc2⟩
  replace hS := Step.trans hS hc2
  replace ho2 := ho2.no hc2
  refine VL_pure 5 [1, 2, 13, 14] [(1, .pointer (some ⟨b1, 0, none⟩)), (2, .int .i64 0), (13, .agg #[.int .i64 ((unpV (packV (⟨8, 0, true, 7, zp, zp⟩ : Om))).k), .int .u8 ((unpV (packV (⟨8, 0, true, 7, zp, zp⟩ : Om))).d), .bool ((unpV (packV (⟨8, 0, true, 7, zp, zp⟩ : Om))).a), .int .u32 ((unpV (packV (⟨8, 0, true, 7, zp, zp⟩ : Om))).tg), .int .u8 (((unpV (packV (⟨8, 0, true, 7, zp, zp⟩ : Om))).p) 0), .int .u8 (((unpV (packV (⟨8, 0, true, 7, zp, zp⟩ : Om))).p) 1), .int .u8 (((unpV (packV (⟨8, 0, true, 7, zp, zp⟩ : Om))).p) 2), .int .u8 (((unpV (packV (⟨8, 0, true, 7, zp, zp⟩ : Om))).p) 3), .int .u8 (((unpV (packV (⟨8, 0, true, 7, zp, zp⟩ : Om))).p) 4), .int .u8 (((unpV (packV (⟨8, 0, true, 7, zp, zp⟩ : Om))).p) 5), .int .u8 (((unpV (packV (⟨8, 0, true, 7, zp, zp⟩ : Om))).p) 6), .int .u8 (((unpV (packV (⟨8, 0, true, 7, zp, zp⟩ : Om))).p) 7), .int .u8 (((unpV (packV (⟨8, 0, true, 7, zp, zp⟩ : Om))).p) 8), .int .u8 (((unpV (packV (⟨8, 0, true, 7, zp, zp⟩ : Om))).p) 9), .int .u8 (((unpV (packV (⟨8, 0, true, 7, zp, zp⟩ : Om))).p) 10), .int .u8 (((unpV (packV (⟨8, 0, true, 7, zp, zp⟩ : Om))).p) 11), .int .u8 (((unpV (packV (⟨8, 0, true, 7, zp, zp⟩ : Om))).p) 12), .int .u8 (((unpV (packV (⟨8, 0, true, 7, zp, zp⟩ : Om))).p) 13), .int .u8 (((unpV (packV (⟨8, 0, true, 7, zp, zp⟩ : Om))).p) 14), .int .u8 (((unpV (packV (⟨8, 0, true, 7, zp, zp⟩ : Om))).p) 15), .int .u8 (((unpV (packV (⟨8, 0, true, 7, zp, zp⟩ : Om))).s) 0), .int .u8 (((unpV (packV (⟨8, 0, true, 7, zp, zp⟩ : Om))).s) 1), .int .u8 (((unpV (packV (⟨8, 0, true, 7, zp, zp⟩ : Om))).s) 2), .int .u8 (((unpV (packV (⟨8, 0, true, 7, zp, zp⟩ : Om))).s) 3), .int .u8 (((unpV (packV (⟨8, 0, true, 7, zp, zp⟩ : Om))).s) 4), .int .u8 (((unpV (packV (⟨8, 0, true, 7, zp, zp⟩ : Om))).s) 5), .int .u8 (((unpV (packV (⟨8, 0, true, 7, zp, zp⟩ : Om))).s) 6), .int .u8 (((unpV (packV (⟨8, 0, true, 7, zp, zp⟩ : Om))).s) 7), .int .u8 (((unpV (packV (⟨8, 0, true, 7, zp, zp⟩ : Om))).s) 8), .int .u8 (((unpV (packV (⟨8, 0, true, 7, zp, zp⟩ : Om))).s) 9), .int .u8 (((unpV (packV (⟨8, 0, true, 7, zp, zp⟩ : Om))).s) 10), .int .u8 (((unpV (packV (⟨8, 0, true, 7, zp, zp⟩ : Om))).s) 11), .int .u8 (((unpV (packV (⟨8, 0, true, 7, zp, zp⟩ : Om))).s) 12), .int .u8 (((unpV (packV (⟨8, 0, true, 7, zp, zp⟩ : Om))).s) 13), .int .u8 (((unpV (packV (⟨8, 0, true, 7, zp, zp⟩ : Om))).s) 14), .int .u8 (((unpV (packV (⟨8, 0, true, 7, zp, zp⟩ : Om))).s) 15)]), (14, .int .i64 (unpE (packV (⟨8, 0, true, 7, zp, zp⟩ : Om))))] (by kernel_rfl) rfl ?_
  have hzs5 := hS.size
  have hzl2 := ho2.lt
  refine VL_box (d := 3) (t := 31) (c := #[.int .i64 0, .int .u8 0, .bool false, .int .u32 0, .int .u8 0, .int .u8 0, .int .u8 0, .int .u8 0, .int .u8 0, .int .u8 0, .int .u8 0, .int .u8 0, .int .u8 0, .int .u8 0, .int .u8 0, .int .u8 0, .int .u8 0, .int .u8 0, .int .u8 0, .int .u8 0, .int .u8 0, .int .u8 0, .int .u8 0, .int .u8 0, .int .u8 0, .int .u8 0, .int .u8 0, .int .u8 0, .int .u8 0, .int .u8 0, .int .u8 0, .int .u8 0, .int .u8 0, .int .u8 0, .int .u8 0, .int .u8 0]) (by kernel_rfl) (by kernel_rfl) ?_
  intro b2 w5 hn2
  replace hS := Step.trans hS (hn2.step No)
  replace ho2 := ho2.no (hn2.step No)
  have ho3 := hn2.own
  have hzhn2 := hn2.size
  have hqhn2 := hn2.eqb
  refine VL_store (b := b2) (o := 0) (vs := [.int .i64 ((unpV (packV (⟨8, 0, true, 7, zp, zp⟩ : Om))).k), .int .u8 ((unpV (packV (⟨8, 0, true, 7, zp, zp⟩ : Om))).d), .bool ((unpV (packV (⟨8, 0, true, 7, zp, zp⟩ : Om))).a), .int .u32 ((unpV (packV (⟨8, 0, true, 7, zp, zp⟩ : Om))).tg), .int .u8 (((unpV (packV (⟨8, 0, true, 7, zp, zp⟩ : Om))).p) 0), .int .u8 (((unpV (packV (⟨8, 0, true, 7, zp, zp⟩ : Om))).p) 1), .int .u8 (((unpV (packV (⟨8, 0, true, 7, zp, zp⟩ : Om))).p) 2), .int .u8 (((unpV (packV (⟨8, 0, true, 7, zp, zp⟩ : Om))).p) 3), .int .u8 (((unpV (packV (⟨8, 0, true, 7, zp, zp⟩ : Om))).p) 4), .int .u8 (((unpV (packV (⟨8, 0, true, 7, zp, zp⟩ : Om))).p) 5), .int .u8 (((unpV (packV (⟨8, 0, true, 7, zp, zp⟩ : Om))).p) 6), .int .u8 (((unpV (packV (⟨8, 0, true, 7, zp, zp⟩ : Om))).p) 7), .int .u8 (((unpV (packV (⟨8, 0, true, 7, zp, zp⟩ : Om))).p) 8), .int .u8 (((unpV (packV (⟨8, 0, true, 7, zp, zp⟩ : Om))).p) 9), .int .u8 (((unpV (packV (⟨8, 0, true, 7, zp, zp⟩ : Om))).p) 10), .int .u8 (((unpV (packV (⟨8, 0, true, 7, zp, zp⟩ : Om))).p) 11), .int .u8 (((unpV (packV (⟨8, 0, true, 7, zp, zp⟩ : Om))).p) 12), .int .u8 (((unpV (packV (⟨8, 0, true, 7, zp, zp⟩ : Om))).p) 13), .int .u8 (((unpV (packV (⟨8, 0, true, 7, zp, zp⟩ : Om))).p) 14), .int .u8 (((unpV (packV (⟨8, 0, true, 7, zp, zp⟩ : Om))).p) 15), .int .u8 (((unpV (packV (⟨8, 0, true, 7, zp, zp⟩ : Om))).s) 0), .int .u8 (((unpV (packV (⟨8, 0, true, 7, zp, zp⟩ : Om))).s) 1), .int .u8 (((unpV (packV (⟨8, 0, true, 7, zp, zp⟩ : Om))).s) 2), .int .u8 (((unpV (packV (⟨8, 0, true, 7, zp, zp⟩ : Om))).s) 3), .int .u8 (((unpV (packV (⟨8, 0, true, 7, zp, zp⟩ : Om))).s) 4), .int .u8 (((unpV (packV (⟨8, 0, true, 7, zp, zp⟩ : Om))).s) 5), .int .u8 (((unpV (packV (⟨8, 0, true, 7, zp, zp⟩ : Om))).s) 6), .int .u8 (((unpV (packV (⟨8, 0, true, 7, zp, zp⟩ : Om))).s) 7), .int .u8 (((unpV (packV (⟨8, 0, true, 7, zp, zp⟩ : Om))).s) 8), .int .u8 (((unpV (packV (⟨8, 0, true, 7, zp, zp⟩ : Om))).s) 9), .int .u8 (((unpV (packV (⟨8, 0, true, 7, zp, zp⟩ : Om))).s) 10), .int .u8 (((unpV (packV (⟨8, 0, true, 7, zp, zp⟩ : Om))).s) 11), .int .u8 (((unpV (packV (⟨8, 0, true, 7, zp, zp⟩ : Om))).s) 12), .int .u8 (((unpV (packV (⟨8, 0, true, 7, zp, zp⟩ : Om))).s) 13), .int .u8 (((unpV (packV (⟨8, 0, true, 7, zp, zp⟩ : Om))).s) 14), .int .u8 (((unpV (packV (⟨8, 0, true, 7, zp, zp⟩ : Om))).s) 15)]) (by kernel_rfl) (by kernel_rfl) ho3 (Nat.le_of_ble_eq_true (by kernel_rfl)) ?_
  intro w6 hw2
  replace hS := Step.transNew hS hw2.step (fun _ _ _ => by omega)
  replace ho2 := ho2.step hw2.step (show ¬ b1 = b2 by omega)
  have ho4 : Own w6 b2 #[.int .i64 ((unpV (packV (⟨8, 0, true, 7, zp, zp⟩ : Om))).k), .int .u8 ((unpV (packV (⟨8, 0, true, 7, zp, zp⟩ : Om))).d), .bool ((unpV (packV (⟨8, 0, true, 7, zp, zp⟩ : Om))).a), .int .u32 ((unpV (packV (⟨8, 0, true, 7, zp, zp⟩ : Om))).tg), .int .u8 (((unpV (packV (⟨8, 0, true, 7, zp, zp⟩ : Om))).p) 0), .int .u8 (((unpV (packV (⟨8, 0, true, 7, zp, zp⟩ : Om))).p) 1), .int .u8 (((unpV (packV (⟨8, 0, true, 7, zp, zp⟩ : Om))).p) 2), .int .u8 (((unpV (packV (⟨8, 0, true, 7, zp, zp⟩ : Om))).p) 3), .int .u8 (((unpV (packV (⟨8, 0, true, 7, zp, zp⟩ : Om))).p) 4), .int .u8 (((unpV (packV (⟨8, 0, true, 7, zp, zp⟩ : Om))).p) 5), .int .u8 (((unpV (packV (⟨8, 0, true, 7, zp, zp⟩ : Om))).p) 6), .int .u8 (((unpV (packV (⟨8, 0, true, 7, zp, zp⟩ : Om))).p) 7), .int .u8 (((unpV (packV (⟨8, 0, true, 7, zp, zp⟩ : Om))).p) 8), .int .u8 (((unpV (packV (⟨8, 0, true, 7, zp, zp⟩ : Om))).p) 9), .int .u8 (((unpV (packV (⟨8, 0, true, 7, zp, zp⟩ : Om))).p) 10), .int .u8 (((unpV (packV (⟨8, 0, true, 7, zp, zp⟩ : Om))).p) 11), .int .u8 (((unpV (packV (⟨8, 0, true, 7, zp, zp⟩ : Om))).p) 12), .int .u8 (((unpV (packV (⟨8, 0, true, 7, zp, zp⟩ : Om))).p) 13), .int .u8 (((unpV (packV (⟨8, 0, true, 7, zp, zp⟩ : Om))).p) 14), .int .u8 (((unpV (packV (⟨8, 0, true, 7, zp, zp⟩ : Om))).p) 15), .int .u8 (((unpV (packV (⟨8, 0, true, 7, zp, zp⟩ : Om))).s) 0), .int .u8 (((unpV (packV (⟨8, 0, true, 7, zp, zp⟩ : Om))).s) 1), .int .u8 (((unpV (packV (⟨8, 0, true, 7, zp, zp⟩ : Om))).s) 2), .int .u8 (((unpV (packV (⟨8, 0, true, 7, zp, zp⟩ : Om))).s) 3), .int .u8 (((unpV (packV (⟨8, 0, true, 7, zp, zp⟩ : Om))).s) 4), .int .u8 (((unpV (packV (⟨8, 0, true, 7, zp, zp⟩ : Om))).s) 5), .int .u8 (((unpV (packV (⟨8, 0, true, 7, zp, zp⟩ : Om))).s) 6), .int .u8 (((unpV (packV (⟨8, 0, true, 7, zp, zp⟩ : Om))).s) 7), .int .u8 (((unpV (packV (⟨8, 0, true, 7, zp, zp⟩ : Om))).s) 8), .int .u8 (((unpV (packV (⟨8, 0, true, 7, zp, zp⟩ : Om))).s) 9), .int .u8 (((unpV (packV (⟨8, 0, true, 7, zp, zp⟩ : Om))).s) 10), .int .u8 (((unpV (packV (⟨8, 0, true, 7, zp, zp⟩ : Om))).s) 11), .int .u8 (((unpV (packV (⟨8, 0, true, 7, zp, zp⟩ : Om))).s) 12), .int .u8 (((unpV (packV (⟨8, 0, true, 7, zp, zp⟩ : Om))).s) 13), .int .u8 (((unpV (packV (⟨8, 0, true, 7, zp, zp⟩ : Om))).s) 14), .int .u8 (((unpV (packV (⟨8, 0, true, 7, zp, zp⟩ : Om))).s) 15)] 31 := Own.cast hw2.own (by kernel_rfl)
  have hzhw2 := hw2.same
  refine VL_pure 8 [1, 2, 3, 4] [(1, .pointer (some ⟨b1, 0, none⟩)), (2, .int .i64 0), (3, .pointer (some ⟨b2, 0, none⟩)), (4, .int .i64 (unpE (packV (⟨8, 0, true, 7, zp, zp⟩ : Om))))] (by kernel_rfl) rfl ?_
  refine VL_end (by kernel_rfl) ?_
  refine VQ_next ?_
  refine VC_seq ?_
  refine VC_region ?_
  refine VL_index (d := 15) (b := b1) (o := 0) (len := 48) (sz := 1) (m := 0) (by kernel_rfl) (by kernel_rfl) 0 (by rfl) (by omega) 0 (by omega) ?_
  refine VL_load (d := 16) (t := 5) (a := ⟨b1, 0, none⟩) (v := .int .u8 ((packV (⟨8, 0, true, 7, zp, zp⟩ : Om)).getD 0 0)) (by kernel_rfl) (by kernel_rfl) (Loads.arr1 ho2 (by kernel_rfl) (by first | (rw [packV_len]; omega) | omega | (simp [packV_len, *]))) ?_
  refine VL_pure 4 [2, 3, 4, 18] [(2, .int .i64 0), (3, .pointer (some ⟨b2, 0, none⟩)), (4, .int .i64 (unpE (packV (⟨8, 0, true, 7, zp, zp⟩ : Om)))), (18, .bool (((packV (⟨8, 0, true, 7, zp, zp⟩ : Om)).getD 0 0) == 24))] (by kernel_rfl) rfl ?_
  refine VL_known (((packV (⟨8, 0, true, 7, zp, zp⟩ : Om)).getD 0 0) == 24) (fun bV => [(2, .int .i64 0), (3, .pointer (some ⟨b2, 0, none⟩)), (4, .int .i64 (unpE (packV (⟨8, 0, true, 7, zp, zp⟩ : Om)))), (18, .bool bV)]) true rfl (by decide +kernel) ?_
  refine VL_pure 12 [3, 26] [(3, .pointer (some ⟨b2, 0, none⟩)), (26, .bool ((unpE (packV (⟨8, 0, true, 7, zp, zp⟩ : Om))) == 0))] (by kernel_rfl) rfl ?_
  refine VL_known ((unpE (packV (⟨8, 0, true, 7, zp, zp⟩ : Om))) == 0) (fun bV => [(3, .pointer (some ⟨b2, 0, none⟩)), (26, .bool bV)]) true rfl (by decide +kernel) ?_
  refine VL_pure 13 [3, 26, 27] [(3, .pointer (some ⟨b2, 0, none⟩)), (26, .bool true), (27, .pointer (some ⟨b2, 3, none⟩))] (by kernel_rfl) rfl ?_
  refine VL_load (d := 28) (t := 22) (a := ⟨b2, 3, none⟩) (v := .int .u32 ((unpV (packV (⟨8, 0, true, 7, zp, zp⟩ : Om))).tg)) (by kernel_rfl) (by kernel_rfl) (Loads.own1 ho4 (by kernel_rfl) (by rfl)) ?_
  refine VL_pure 17 [3, 31] [(3, .pointer (some ⟨b2, 0, none⟩)), (31, .bool (((unpV (packV (⟨8, 0, true, 7, zp, zp⟩ : Om))).tg) == 7))] (by kernel_rfl) rfl ?_
  refine VL_known (((unpV (packV (⟨8, 0, true, 7, zp, zp⟩ : Om))).tg) == 7) (fun bV => [(3, .pointer (some ⟨b2, 0, none⟩)), (31, .bool bV)]) true rfl (by decide +kernel) ?_
  refine VL_pure 18 [31, 32] [(31, .bool true), (32, .pointer (some ⟨b2, 2, none⟩))] (by kernel_rfl) rfl ?_
  refine VL_load (d := 33) (t := 4) (a := ⟨b2, 2, none⟩) (v := .bool ((unpV (packV (⟨8, 0, true, 7, zp, zp⟩ : Om))).a)) (by kernel_rfl) (by kernel_rfl) (Loads.own1 ho4 (by kernel_rfl) (by rfl)) ?_
  refine VL_pure 21 [35] [(35, .bool ((unpV (packV (⟨8, 0, true, 7, zp, zp⟩ : Om))).a))] (by kernel_rfl) rfl ?_
  refine VL_known ((unpV (packV (⟨8, 0, true, 7, zp, zp⟩ : Om))).a) (fun bV => [(35, .bool bV)]) true rfl (by decide +kernel) ?_
  refine VL_pure 22 [35, 36] [(35, .bool true), (36, .agg #[.int .i64 4, .int .u8 0, .bool false, .int .u32 0, .int .u8 0, .int .u8 0, .int .u8 0, .int .u8 0, .int .u8 0, .int .u8 0, .int .u8 0, .int .u8 0, .int .u8 0, .int .u8 0, .int .u8 0, .int .u8 0, .int .u8 0, .int .u8 0, .int .u8 0, .int .u8 0, .int .u8 0, .int .u8 0, .int .u8 0, .int .u8 0, .int .u8 0, .int .u8 0, .int .u8 0, .int .u8 0, .int .u8 0, .int .u8 0, .int .u8 0, .int .u8 0, .int .u8 0, .int .u8 0, .int .u8 0, .int .u8 0])] (by kernel_rfl) rfl ?_
  have hzs6 := hS.size
  have hzl3 := ho2.lt
  have hzl4 := ho4.lt
  refine VL_call (d := 37) (f := 14) (by kernel_rfl) (by kernel_rfl) (by kernel_rfl) Try.call14 (CV.val (v' := .bool true) (right_any (⟨4, 0, false, 0, zp, zp⟩ : Om) _) (by rw [(show rightO (⟨4, 0, false, 0, zp, zp⟩ : Om) = true by decide +kernel)])) ?_
  rintro _ w7 ⟨rfl, hc3⟩
  replace hS := Step.trans hS hc3
  replace ho2 := ho2.no hc3
  replace ho4 := ho4.no hc3
  refine VL_pure 25 [0] [(0, .bool true)] (by kernel_rfl) rfl ?_
  refine VL_end (by kernel_rfl) ?_
  refine VQ_next ?_
  refine VC_ret ?_
  refine VQ_ret1 (.bool true) (.inr rfl) rfl rfl ?_
  exact ⟨by first | rfl | decide +kernel, hS⟩

end Go.Proofs.Yteipakmfiiccpaa
