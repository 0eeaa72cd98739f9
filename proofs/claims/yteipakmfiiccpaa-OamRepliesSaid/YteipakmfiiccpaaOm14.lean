/- Layer 14, the document's Reply. -/
import Derived.Test.YteipakmfiiccpaaProg
import Derived.Test.YteipakmfiiccpaaAl3
import Derived.Test.YteipakmfiiccpaaVc12
set_option linter.unusedVariables false
set_option linter.unusedSimpArgs false
namespace Go.Proofs.Yteipakmfiiccpaa
open Go.Vc Go.RowKit

theorem everywhere_any (w : World) :
    CV Try.prog 28 #[] w (fun x w1 => x = .agg (pl ones).toArray ∧ Step No w w1) := by
  have hS : Step No w w := Step.refl _ _
  refine CV_enter Try.f28 _ 11 [] Try.func28 rfl rfl (by kernel_rfl) rfl ?_
  refine VC_seq ?_
  refine VC_region ?_
  have hzs1 := hS.size
  refine VL_box (d := 0) (t := 23) (c := #[.int .u8 0, .int .u8 0, .int .u8 0, .int .u8 0, .int .u8 0, .int .u8 0, .int .u8 0, .int .u8 0, .int .u8 0, .int .u8 0, .int .u8 0, .int .u8 0, .int .u8 0, .int .u8 0, .int .u8 0, .int .u8 0]) (by kernel_rfl) (by kernel_rfl) ?_
  intro b1 w1 hn1
  replace hS := Step.trans hS (hn1.step No)
  have ho1 := hn1.own
  have hzhn1 := hn1.size
  have hqhn1 := hn1.eqb
  refine VL_end (by kernel_rfl) ?_
  refine VQ_next ?_
  refine VC_seq ?_
  refine VC_region ?_
  refine VL_pure 1 [0, 3] [(0, .pointer (some ⟨b1, 0, none⟩)), (3, .agg #[.int .u8 0, .int .u8 0, .int .u8 0, .int .u8 0, .int .u8 0, .int .u8 0, .int .u8 0, .int .u8 0, .int .u8 0, .int .u8 0, .int .u8 0, .int .u8 0, .int .u8 0, .int .u8 0, .int .u8 0, .int .u8 0])] (by kernel_rfl) rfl ?_
  have hzs2 := hS.size
  have hzl1 := ho1.lt
  refine VL_box (d := 1) (t := 23) (c := #[.int .u8 0, .int .u8 0, .int .u8 0, .int .u8 0, .int .u8 0, .int .u8 0, .int .u8 0, .int .u8 0, .int .u8 0, .int .u8 0, .int .u8 0, .int .u8 0, .int .u8 0, .int .u8 0, .int .u8 0, .int .u8 0]) (by kernel_rfl) (by kernel_rfl) ?_
  intro b2 w2 hn2
  replace hS := Step.trans hS (hn2.step No)
  replace ho1 := ho1.no (hn2.step No)
  have ho2 := hn2.own
  have hzhn2 := hn2.size
  have hqhn2 := hn2.eqb
  refine VL_store (b := b2) (o := 0) (vs := [.int .u8 0, .int .u8 0, .int .u8 0, .int .u8 0, .int .u8 0, .int .u8 0, .int .u8 0, .int .u8 0, .int .u8 0, .int .u8 0, .int .u8 0, .int .u8 0, .int .u8 0, .int .u8 0, .int .u8 0, .int .u8 0]) (by kernel_rfl) (by kernel_rfl) ho2 (Nat.le_of_ble_eq_true (by kernel_rfl)) ?_
  intro w3 hw1
  replace hS := Step.transNew hS hw1.step (fun _ _ _ => by omega)
  replace ho1 := ho1.step hw1.step (show ¬ b1 = b2 by omega)
  have ho3 : Own w3 b2 #[.int .u8 0, .int .u8 0, .int .u8 0, .int .u8 0, .int .u8 0, .int .u8 0, .int .u8 0, .int .u8 0, .int .u8 0, .int .u8 0, .int .u8 0, .int .u8 0, .int .u8 0, .int .u8 0, .int .u8 0, .int .u8 0] 23 := Own.cast hw1.own (by kernel_rfl)
  have hzhw1 := hw1.same
  refine VL_end (by kernel_rfl) ?_
  refine VQ_next ?_
  refine VC_seq ?_
  refine VC_seq ?_
  refine VC_region ?_
  refine VL_pure 1 [0, 1, 4] [(0, .pointer (some ⟨b1, 0, none⟩)), (1, .pointer (some ⟨b2, 0, none⟩)), (4, .int .i64 0)] (by kernel_rfl) rfl ?_
  refine VL_end (by kernel_rfl) ?_
  refine VQ_next ?_
  refine VC_block ?_
  refine VC_rounds ?_
  refine VCL_round ?_
  refine VC_seq ?_
  refine VC_region ?_
  refine VL_pure 1 [0, 1, 4, 5] [(0, .pointer (some ⟨b1, 0, none⟩)), (1, .pointer (some ⟨b2, 0, none⟩)), (4, .int .i64 0), (5, .bool true)] (by kernel_rfl) rfl ?_
  refine VL_end (by kernel_rfl) ?_
  refine VQ_next ?_
  refine VC_seq ?_
  refine VC_true (by kernel_rfl) ?_
  refine VC_skip ?_
  refine VQ_next ?_
  refine VC_seq ?_
  refine VC_block ?_
  refine VC_seq ?_
  refine VC_region ?_
  refine VL_pure 2 [0, 1, 4, 2] [(0, .pointer (some ⟨b1, 0, none⟩)), (1, .pointer (some ⟨b2, 0, none⟩)), (4, .int .i64 0), (2, .int .i64 0)] (by kernel_rfl) rfl ?_
  refine VL_end (by kernel_rfl) ?_
  refine VQ_next ?_
  refine VC_region ?_
  refine VL_pure 1 [0, 1, 4, 7] [(0, .pointer (some ⟨b1, 0, none⟩)), (1, .pointer (some ⟨b2, 0, none⟩)), (4, .int .i64 0), (7, .int .i64 0)] (by kernel_rfl) rfl ?_
  refine VL_index (d := 8) (b := b2) (o := 0) (len := 16) (sz := 1) (m := 0) (by kernel_rfl) (by kernel_rfl) 0 (by rfl) (by omega) 0 (by omega) ?_
  refine VL_store (b := b2) (o := 0) (vs := [.int .u8 255]) (by kernel_rfl) (by kernel_rfl) ho3 (Nat.le_of_ble_eq_true (by kernel_rfl)) ?_
  intro w4 hw2
  replace hS := Step.transNew hS hw2.step (fun _ _ _ => by omega)
  replace ho1 := ho1.step hw2.step (show ¬ b1 = b2 by omega)
  have ho4 : Own w4 b2 #[.int .u8 255, .int .u8 0, .int .u8 0, .int .u8 0, .int .u8 0, .int .u8 0, .int .u8 0, .int .u8 0, .int .u8 0, .int .u8 0, .int .u8 0, .int .u8 0, .int .u8 0, .int .u8 0, .int .u8 0, .int .u8 0] 23 := Own.cast hw2.own (by kernel_rfl)
  have hzhw2 := hw2.same
  refine VL_end (by kernel_rfl) ?_
  refine VQ_block_normal ?_
  refine VQ_next ?_
  refine VC_region ?_
  refine VL_pure 2 [0, 1, 4] [(0, .pointer (some ⟨b1, 0, none⟩)), (1, .pointer (some ⟨b2, 0, none⟩)), (4, .int .i64 1)] (by kernel_rfl) rfl ?_
  refine VL_end (by kernel_rfl) ?_
  refine VQ_round ?_
  refine VCL_round ?_
  refine VC_seq ?_
  refine VC_region ?_
  refine VL_pure 1 [0, 1, 4, 5] [(0, .pointer (some ⟨b1, 0, none⟩)), (1, .pointer (some ⟨b2, 0, none⟩)), (4, .int .i64 1), (5, .bool true)] (by kernel_rfl) rfl ?_
  refine VL_end (by kernel_rfl) ?_
  refine VQ_next ?_
  refine VC_seq ?_
  refine VC_true (by kernel_rfl) ?_
  refine VC_skip ?_
  refine VQ_next ?_
  refine VC_seq ?_
  refine VC_block ?_
  refine VC_seq ?_
  refine VC_region ?_
  refine VL_pure 2 [0, 1, 4, 2] [(0, .pointer (some ⟨b1, 0, none⟩)), (1, .pointer (some ⟨b2, 0, none⟩)), (4, .int .i64 1), (2, .int .i64 1)] (by kernel_rfl) rfl ?_
  refine VL_end (by kernel_rfl) ?_
  refine VQ_next ?_
  refine VC_region ?_
  refine VL_pure 1 [0, 1, 4, 7] [(0, .pointer (some ⟨b1, 0, none⟩)), (1, .pointer (some ⟨b2, 0, none⟩)), (4, .int .i64 1), (7, .int .i64 1)] (by kernel_rfl) rfl ?_
  refine VL_index (d := 8) (b := b2) (o := 0) (len := 16) (sz := 1) (m := 1) (by kernel_rfl) (by kernel_rfl) 1 (by rfl) (by omega) 1 (by omega) ?_
  refine VL_store (b := b2) (o := 1) (vs := [.int .u8 255]) (by kernel_rfl) (by kernel_rfl) ho4 (Nat.le_of_ble_eq_true (by kernel_rfl)) ?_
  intro w5 hw3
  replace hS := Step.transNew hS hw3.step (fun _ _ _ => by omega)
  replace ho1 := ho1.step hw3.step (show ¬ b1 = b2 by omega)
  have ho5 : Own w5 b2 #[.int .u8 255, .int .u8 255, .int .u8 0, .int .u8 0, .int .u8 0, .int .u8 0, .int .u8 0, .int .u8 0, .int .u8 0, .int .u8 0, .int .u8 0, .int .u8 0, .int .u8 0, .int .u8 0, .int .u8 0, .int .u8 0] 23 := Own.cast hw3.own (by kernel_rfl)
  have hzhw3 := hw3.same
  refine VL_end (by kernel_rfl) ?_
  refine VQ_block_normal ?_
  refine VQ_next ?_
  refine VC_region ?_
  refine VL_pure 2 [0, 1, 4] [(0, .pointer (some ⟨b1, 0, none⟩)), (1, .pointer (some ⟨b2, 0, none⟩)), (4, .int .i64 2)] (by kernel_rfl) rfl ?_
  refine VL_end (by kernel_rfl) ?_
  refine VQ_round ?_
  refine VCL_round ?_
  refine VC_seq ?_
  refine VC_region ?_
  refine VL_pure 1 [0, 1, 4, 5] [(0, .pointer (some ⟨b1, 0, none⟩)), (1, .pointer (some ⟨b2, 0, none⟩)), (4, .int .i64 2), (5, .bool true)] (by kernel_rfl) rfl ?_
  refine VL_end (by kernel_rfl) ?_
  refine VQ_next ?_
  refine VC_seq ?_
  refine VC_true (by kernel_rfl) ?_
  refine VC_skip ?_
  refine VQ_next ?_
  refine VC_seq ?_
  refine VC_block ?_
  refine VC_seq ?_
  refine VC_region ?_
  refine VL_pure 2 [0, 1, 4, 2] [(0, .pointer (some ⟨b1, 0, none⟩)), (1, .pointer (some ⟨b2, 0, none⟩)), (4, .int .i64 2), (2, .int .i64 2)] (by kernel_rfl) rfl ?_
  refine VL_end (by kernel_rfl) ?_
  refine VQ_next ?_
  refine VC_region ?_
  refine VL_pure 1 [0, 1, 4, 7] [(0, .pointer (some ⟨b1, 0, none⟩)), (1, .pointer (some ⟨b2, 0, none⟩)), (4, .int .i64 2), (7, .int .i64 2)] (by kernel_rfl) rfl ?_
  refine VL_index (d := 8) (b := b2) (o := 0) (len := 16) (sz := 1) (m := 2) (by kernel_rfl) (by kernel_rfl) 2 (by rfl) (by omega) 2 (by omega) ?_
  refine VL_store (b := b2) (o := 2) (vs := [.int .u8 255]) (by kernel_rfl) (by kernel_rfl) ho5 (Nat.le_of_ble_eq_true (by kernel_rfl)) ?_
  intro w6 hw4
  replace hS := Step.transNew hS hw4.step (fun _ _ _ => by omega)
  replace ho1 := ho1.step hw4.step (show ¬ b1 = b2 by omega)
  have ho6 : Own w6 b2 #[.int .u8 255, .int .u8 255, .int .u8 255, .int .u8 0, .int .u8 0, .int .u8 0, .int .u8 0, .int .u8 0, .int .u8 0, .int .u8 0, .int .u8 0, .int .u8 0, .int .u8 0, .int .u8 0, .int .u8 0, .int .u8 0] 23 := Own.cast hw4.own (by kernel_rfl)
  have hzhw4 := hw4.same
  refine VL_end (by kernel_rfl) ?_
  refine VQ_block_normal ?_
  refine VQ_next ?_
  refine VC_region ?_
  refine VL_pure 2 [0, 1, 4] [(0, .pointer (some ⟨b1, 0, none⟩)), (1, .pointer (some ⟨b2, 0, none⟩)), (4, .int .i64 3)] (by kernel_rfl) rfl ?_
  refine VL_end (by kernel_rfl) ?_
  refine VQ_round ?_
  refine VCL_round ?_
  refine VC_seq ?_
  refine VC_region ?_
  refine VL_pure 1 [0, 1, 4, 5] [(0, .pointer (some ⟨b1, 0, none⟩)), (1, .pointer (some ⟨b2, 0, none⟩)), (4, .int .i64 3), (5, .bool true)] (by kernel_rfl) rfl ?_
  refine VL_end (by kernel_rfl) ?_
  refine VQ_next ?_
  refine VC_seq ?_
  refine VC_true (by kernel_rfl) ?_
  refine VC_skip ?_
  refine VQ_next ?_
  refine VC_seq ?_
  refine VC_block ?_
  refine VC_seq ?_
  refine VC_region ?_
  refine VL_pure 2 [0, 1, 4, 2] [(0, .pointer (some ⟨b1, 0, none⟩)), (1, .pointer (some ⟨b2, 0, none⟩)), (4, .int .i64 3), (2, .int .i64 3)] (by kernel_rfl) rfl ?_
  refine VL_end (by kernel_rfl) ?_
  refine VQ_next ?_
  refine VC_region ?_
  refine VL_pure 1 [0, 1, 4, 7] [(0, .pointer (some ⟨b1, 0, none⟩)), (1, .pointer (some ⟨b2, 0, none⟩)), (4, .int .i64 3), (7, .int .i64 3)] (by kernel_rfl) rfl ?_
  refine VL_index (d := 8) (b := b2) (o := 0) (len := 16) (sz := 1) (m := 3) (by kernel_rfl) (by kernel_rfl) 3 (by rfl) (by omega) 3 (by omega) ?_
  refine VL_store (b := b2) (o := 3) (vs := [.int .u8 255]) (by kernel_rfl) (by kernel_rfl) ho6 (Nat.le_of_ble_eq_true (by kernel_rfl)) ?_
  intro w7 hw5
  replace hS := Step.transNew hS hw5.step (fun _ _ _ => by omega)
  replace ho1 := ho1.step hw5.step (show ¬ b1 = b2 by omega)
  have ho7 : Own w7 b2 #[.int .u8 255, .int .u8 255, .int .u8 255, .int .u8 255, .int .u8 0, .int .u8 0, .int .u8 0, .int .u8 0, .int .u8 0, .int .u8 0, .int .u8 0, .int .u8 0, .int .u8 0, .int .u8 0, .int .u8 0, .int .u8 0] 23 := Own.cast hw5.own (by kernel_rfl)
  have hzhw5 := hw5.same
  refine VL_end (by kernel_rfl) ?_
  refine VQ_block_normal ?_
  refine VQ_next ?_
  refine VC_region ?_
  refine VL_pure 2 [0, 1, 4] [(0, .pointer (some ⟨b1, 0, none⟩)), (1, .pointer (some ⟨b2, 0, none⟩)), (4, .int .i64 4)] (by kernel_rfl) rfl ?_
  refine VL_end (by kernel_rfl) ?_
  refine VQ_round ?_
  refine VCL_round ?_
  refine VC_seq ?_
  refine VC_region ?_
  refine VL_pure 1 [0, 1, 4, 5] [(0, .pointer (some ⟨b1, 0, none⟩)), (1, .pointer (some ⟨b2, 0, none⟩)), (4, .int .i64 4), (5, .bool true)] (by kernel_rfl) rfl ?_
  refine VL_end (by kernel_rfl) ?_
  refine VQ_next ?_
  refine VC_seq ?_
  refine VC_true (by kernel_rfl) ?_
  refine VC_skip ?_
  refine VQ_next ?_
  refine VC_seq ?_
  refine VC_block ?_
  refine VC_seq ?_
  refine VC_region ?_
  refine VL_pure 2 [0, 1, 4, 2] [(0, .pointer (some ⟨b1, 0, none⟩)), (1, .pointer (some ⟨b2, 0, none⟩)), (4, .int .i64 4), (2, .int .i64 4)] (by kernel_rfl) rfl ?_
  refine VL_end (by kernel_rfl) ?_
  refine VQ_next ?_
  refine VC_region ?_
  refine VL_pure 1 [0, 1, 4, 7] [(0, .pointer (some ⟨b1, 0, none⟩)), (1, .pointer (some ⟨b2, 0, none⟩)), (4, .int .i64 4), (7, .int .i64 4)] (by kernel_rfl) rfl ?_
  refine VL_index (d := 8) (b := b2) (o := 0) (len := 16) (sz := 1) (m := 4) (by kernel_rfl) (by kernel_rfl) 4 (by rfl) (by omega) 4 (by omega) ?_
  refine VL_store (b := b2) (o := 4) (vs := [.int .u8 255]) (by kernel_rfl) (by kernel_rfl) ho7 (Nat.le_of_ble_eq_true (by kernel_rfl)) ?_
  intro w8 hw6
  replace hS := Step.transNew hS hw6.step (fun _ _ _ => by omega)
  replace ho1 := ho1.step hw6.step (show ¬ b1 = b2 by omega)
  have ho8 : Own w8 b2 #[.int .u8 255, .int .u8 255, .int .u8 255, .int .u8 255, .int .u8 255, .int .u8 0, .int .u8 0, .int .u8 0, .int .u8 0, .int .u8 0, .int .u8 0, .int .u8 0, .int .u8 0, .int .u8 0, .int .u8 0, .int .u8 0] 23 := Own.cast hw6.own (by kernel_rfl)
  have hzhw6 := hw6.same
  refine VL_end (by kernel_rfl) ?_
  refine VQ_block_normal ?_
  refine VQ_next ?_
  refine VC_region ?_
  refine VL_pure 2 [0, 1, 4] [(0, .pointer (some ⟨b1, 0, none⟩)), (1, .pointer (some ⟨b2, 0, none⟩)), (4, .int .i64 5)] (by kernel_rfl) rfl ?_
  refine VL_end (by kernel_rfl) ?_
  refine VQ_round ?_
  refine VCL_round ?_
  refine VC_seq ?_
  refine VC_region ?_
  refine VL_pure 1 [0, 1, 4, 5] [(0, .pointer (some ⟨b1, 0, none⟩)), (1, .pointer (some ⟨b2, 0, none⟩)), (4, .int .i64 5), (5, .bool true)] (by kernel_rfl) rfl ?_
  refine VL_end (by kernel_rfl) ?_
  refine VQ_next ?_
  refine VC_seq ?_
  refine VC_true (by kernel_rfl) ?_
  refine VC_skip ?_
  refine VQ_next ?_
  refine VC_seq ?_
  refine VC_block ?_
  refine VC_seq ?_
  refine VC_region ?_
  refine VL_pure 2 [0, 1, 4, 2] [(0, .pointer (some ⟨b1, 0, none⟩)), (1, .pointer (some ⟨b2, 0, none⟩)), (4, .int .i64 5), (2, .int .i64 5)] (by kernel_rfl) rfl ?_
  refine VL_end (by kernel_rfl) ?_
  refine VQ_next ?_
  refine VC_region ?_
  refine VL_pure 1 [0, 1, 4, 7] [(0, .pointer (some ⟨b1, 0, none⟩)), (1, .pointer (some ⟨b2, 0, none⟩)), (4, .int .i64 5), (7, .int .i64 5)] (by kernel_rfl) rfl ?_
  refine VL_index (d := 8) (b := b2) (o := 0) (len := 16) (sz := 1) (m := 5) (by kernel_rfl) (by kernel_rfl) 5 (by rfl) (by omega) 5 (by omega) ?_
  refine VL_store (b := b2) (o := 5) (vs := [.int .u8 255]) (by kernel_rfl) (by kernel_rfl) ho8 (Nat.le_of_ble_eq_true (by kernel_rfl)) ?_
  intro w9 hw7
  replace hS := Step.transNew hS hw7.step (fun _ _ _ => by omega)
  replace ho1 := ho1.step hw7.step (show ¬ b1 = b2 by omega)
  have ho9 : Own w9 b2 #[.int .u8 255, .int .u8 255, .int .u8 255, .int .u8 255, .int .u8 255, .int .u8 255, .int .u8 0, .int .u8 0, .int .u8 0, .int .u8 0, .int .u8 0, .int .u8 0, .int .u8 0, .int .u8 0, .int .u8 0, .int .u8 0] 23 := Own.cast hw7.own (by kernel_rfl)
  have hzhw7 := hw7.same
  refine VL_end (by kernel_rfl) ?_
  refine VQ_block_normal ?_
  refine VQ_next ?_
  refine VC_region ?_
  refine VL_pure 2 [0, 1, 4] [(0, .pointer (some ⟨b1, 0, none⟩)), (1, .pointer (some ⟨b2, 0, none⟩)), (4, .int .i64 6)] (by kernel_rfl) rfl ?_
  refine VL_end (by kernel_rfl) ?_
  refine VQ_round ?_
  refine VCL_round ?_
  refine VC_seq ?_
  refine VC_region ?_
  refine VL_pure 1 [0, 1, 4, 5] [(0, .pointer (some ⟨b1, 0, none⟩)), (1, .pointer (some ⟨b2, 0, none⟩)), (4, .int .i64 6), (5, .bool true)] (by kernel_rfl) rfl ?_
  refine VL_end (by kernel_rfl) ?_
  refine VQ_next ?_
  refine VC_seq ?_
  refine VC_true (by kernel_rfl) ?_
  refine VC_skip ?_
  refine VQ_next ?_
  refine VC_seq ?_
  refine VC_block ?_
  refine VC_seq ?_
  refine VC_region ?_
  refine VL_pure 2 [0, 1, 4, 2] [(0, .pointer (some ⟨b1, 0, none⟩)), (1, .pointer (some ⟨b2, 0, none⟩)), (4, .int .i64 6), (2, .int .i64 6)] (by kernel_rfl) rfl ?_
  refine VL_end (by kernel_rfl) ?_
  refine VQ_next ?_
  refine VC_region ?_
  refine VL_pure 1 [0, 1, 4, 7] [(0, .pointer (some ⟨b1, 0, none⟩)), (1, .pointer (some ⟨b2, 0, none⟩)), (4, .int .i64 6), (7, .int .i64 6)] (by kernel_rfl) rfl ?_
  refine VL_index (d := 8) (b := b2) (o := 0) (len := 16) (sz := 1) (m := 6) (by kernel_rfl) (by kernel_rfl) 6 (by rfl) (by omega) 6 (by omega) ?_
  refine VL_store (b := b2) (o := 6) (vs := [.int .u8 255]) (by kernel_rfl) (by kernel_rfl) ho9 (Nat.le_of_ble_eq_true (by kernel_rfl)) ?_
  intro w10 hw8
  replace hS := Step.transNew hS hw8.step (fun _ _ _ => by omega)
  replace ho1 := ho1.step hw8.step (show ¬ b1 = b2 by omega)
  have ho10 : Own w10 b2 #[.int .u8 255, .int .u8 255, .int .u8 255, .int .u8 255, .int .u8 255, .int .u8 255, .int .u8 255, .int .u8 0, .int .u8 0, .int .u8 0, .int .u8 0, .int .u8 0, .int .u8 0, .int .u8 0, .int .u8 0, .int .u8 0] 23 := Own.cast hw8.own (by kernel_rfl)
  have hzhw8 := hw8.same
  refine VL_end (by kernel_rfl) ?_
  refine VQ_block_normal ?_
  refine VQ_next ?_
  refine VC_region ?_
  refine VL_pure 2 [0, 1, 4] [(0, .pointer (some ⟨b1, 0, none⟩)), (1, .pointer (some ⟨b2, 0, none⟩)), (4, .int .i64 7)] (by kernel_rfl) rfl ?_
  refine VL_end (by kernel_rfl) ?_
  refine VQ_round ?_
  refine VCL_round ?_
  refine VC_seq ?_
  refine VC_region ?_
  refine VL_pure 1 [0, 1, 4, 5] [(0, .pointer (some ⟨b1, 0, none⟩)), (1, .pointer (some ⟨b2, 0, none⟩)), (4, .int .i64 7), (5, .bool true)] (by kernel_rfl) rfl ?_
  refine VL_end (by kernel_rfl) ?_
  refine VQ_next ?_
  refine VC_seq ?_
  refine VC_true (by kernel_rfl) ?_
  refine VC_skip ?_
  refine VQ_next ?_
  refine VC_seq ?_
  refine VC_block ?_
  refine VC_seq ?_
  refine VC_region ?_
  refine VL_pure 2 [0, 1, 4, 2] [(0, .pointer (some ⟨b1, 0, none⟩)), (1, .pointer (some ⟨b2, 0, none⟩)), (4, .int .i64 7), (2, .int .i64 7)] (by kernel_rfl) rfl ?_
  refine VL_end (by kernel_rfl) ?_
  refine VQ_next ?_
  refine VC_region ?_
  refine VL_pure 1 [0, 1, 4, 7] [(0, .pointer (some ⟨b1, 0, none⟩)), (1, .pointer (some ⟨b2, 0, none⟩)), (4, .int .i64 7), (7, .int .i64 7)] (by kernel_rfl) rfl ?_
  refine VL_index (d := 8) (b := b2) (o := 0) (len := 16) (sz := 1) (m := 7) (by kernel_rfl) (by kernel_rfl) 7 (by rfl) (by omega) 7 (by omega) ?_
  refine VL_store (b := b2) (o := 7) (vs := [.int .u8 255]) (by kernel_rfl) (by kernel_rfl) ho10 (Nat.le_of_ble_eq_true (by kernel_rfl)) ?_
  intro w11 hw9
  replace hS := Step.transNew hS hw9.step (fun _ _ _ => by omega)
  replace ho1 := ho1.step hw9.step (show ¬ b1 = b2 by omega)
  have ho11 : Own w11 b2 #[.int .u8 255, .int .u8 255, .int .u8 255, .int .u8 255, .int .u8 255, .int .u8 255, .int .u8 255, .int .u8 255, .int .u8 0, .int .u8 0, .int .u8 0, .int .u8 0, .int .u8 0, .int .u8 0, .int .u8 0, .int .u8 0] 23 := Own.cast hw9.own (by kernel_rfl)
  have hzhw9 := hw9.same
  refine VL_end (by kernel_rfl) ?_
  refine VQ_block_normal ?_
  refine VQ_next ?_
  refine VC_region ?_
  refine VL_pure 2 [0, 1, 4] [(0, .pointer (some ⟨b1, 0, none⟩)), (1, .pointer (some ⟨b2, 0, none⟩)), (4, .int .i64 8)] (by kernel_rfl) rfl ?_
  refine VL_end (by kernel_rfl) ?_
  refine VQ_round ?_
  refine VCL_round ?_
  refine VC_seq ?_
  refine VC_region ?_
  refine VL_pure 1 [0, 1, 4, 5] [(0, .pointer (some ⟨b1, 0, none⟩)), (1, .pointer (some ⟨b2, 0, none⟩)), (4, .int .i64 8), (5, .bool true)] (by kernel_rfl) rfl ?_
  refine VL_end (by kernel_rfl) ?_
  refine VQ_next ?_
  refine VC_seq ?_
  refine VC_true (by kernel_rfl) ?_
  refine VC_skip ?_
  refine VQ_next ?_
  refine VC_seq ?_
  refine VC_block ?_
  refine VC_seq ?_
  refine VC_region ?_
  refine VL_pure 2 [0, 1, 4, 2] [(0, .pointer (some ⟨b1, 0, none⟩)), (1, .pointer (some ⟨b2, 0, none⟩)), (4, .int .i64 8), (2, .int .i64 8)] (by kernel_rfl) rfl ?_
  refine VL_end (by kernel_rfl) ?_
  refine VQ_next ?_
  refine VC_region ?_
  refine VL_pure 1 [0, 1, 4, 7] [(0, .pointer (some ⟨b1, 0, none⟩)), (1, .pointer (some ⟨b2, 0, none⟩)), (4, .int .i64 8), (7, .int .i64 8)] (by kernel_rfl) rfl ?_
  refine VL_index (d := 8) (b := b2) (o := 0) (len := 16) (sz := 1) (m := 8) (by kernel_rfl) (by kernel_rfl) 8 (by rfl) (by omega) 8 (by omega) ?_
  refine VL_store (b := b2) (o := 8) (vs := [.int .u8 255]) (by kernel_rfl) (by kernel_rfl) ho11 (Nat.le_of_ble_eq_true (by kernel_rfl)) ?_
  intro w12 hw10
  replace hS := Step.transNew hS hw10.step (fun _ _ _ => by omega)
  replace ho1 := ho1.step hw10.step (show ¬ b1 = b2 by omega)
  have ho12 : Own w12 b2 #[.int .u8 255, .int .u8 255, .int .u8 255, .int .u8 255, .int .u8 255, .int .u8 255, .int .u8 255, .int .u8 255, .int .u8 255, .int .u8 0, .int .u8 0, .int .u8 0, .int .u8 0, .int .u8 0, .int .u8 0, .int .u8 0] 23 := Own.cast hw10.own (by kernel_rfl)
  have hzhw10 := hw10.same
  refine VL_end (by kernel_rfl) ?_
  refine VQ_block_normal ?_
  refine VQ_next ?_
  refine VC_region ?_
  refine VL_pure 2 [0, 1, 4] [(0, .pointer (some ⟨b1, 0, none⟩)), (1, .pointer (some ⟨b2, 0, none⟩)), (4, .int .i64 9)] (by kernel_rfl) rfl ?_
  refine VL_end (by kernel_rfl) ?_
  refine VQ_round ?_
  refine VCL_round ?_
  refine VC_seq ?_
  refine VC_region ?_
  refine VL_pure 1 [0, 1, 4, 5] [(0, .pointer (some ⟨b1, 0, none⟩)), (1, .pointer (some ⟨b2, 0, none⟩)), (4, .int .i64 9), (5, .bool true)] (by kernel_rfl) rfl ?_
  refine VL_end (by kernel_rfl) ?_
  refine VQ_next ?_
  refine VC_seq ?_
  refine VC_true (by kernel_rfl) ?_
  refine VC_skip ?_
  refine VQ_next ?_
  refine VC_seq ?_
  refine VC_block ?_
  refine VC_seq ?_
  refine VC_region ?_
  refine VL_pure 2 [0, 1, 4, 2] [(0, .pointer (some ⟨b1, 0, none⟩)), (1, .pointer (some ⟨b2, 0, none⟩)), (4, .int .i64 9), (2, .int .i64 9)] (by kernel_rfl) rfl ?_
  refine VL_end (by kernel_rfl) ?_
  refine VQ_next ?_
  refine VC_region ?_
  refine VL_pure 1 [0, 1, 4, 7] [(0, .pointer (some ⟨b1, 0, none⟩)), (1, .pointer (some ⟨b2, 0, none⟩)), (4, .int .i64 9), (7, .int .i64 9)] (by kernel_rfl) rfl ?_
  refine VL_index (d := 8) (b := b2) (o := 0) (len := 16) (sz := 1) (m := 9) (by kernel_rfl) (by kernel_rfl) 9 (by rfl) (by omega) 9 (by omega) ?_
  refine VL_store (b := b2) (o := 9) (vs := [.int .u8 255]) (by kernel_rfl) (by kernel_rfl) ho12 (Nat.le_of_ble_eq_true (by kernel_rfl)) ?_
  intro w13 hw11
  replace hS := Step.transNew hS hw11.step (fun _ _ _ => by omega)
  replace ho1 := ho1.step hw11.step (show ¬ b1 = b2 by omega)
  have ho13 : Own w13 b2 #[.int .u8 255, .int .u8 255, .int .u8 255, .int .u8 255, .int .u8 255, .int .u8 255, .int .u8 255, .int .u8 255, .int .u8 255, .int .u8 255, .int .u8 0, .int .u8 0, .int .u8 0, .int .u8 0, .int .u8 0, .int .u8 0] 23 := Own.cast hw11.own (by kernel_rfl)
  have hzhw11 := hw11.same
  refine VL_end (by kernel_rfl) ?_
  refine VQ_block_normal ?_
  refine VQ_next ?_
  refine VC_region ?_
  refine VL_pure 2 [0, 1, 4] [(0, .pointer (some ⟨b1, 0, none⟩)), (1, .pointer (some ⟨b2, 0, none⟩)), (4, .int .i64 10)] (by kernel_rfl) rfl ?_
  refine VL_end (by kernel_rfl) ?_
  refine VQ_round ?_
  refine VCL_round ?_
  refine VC_seq ?_
  refine VC_region ?_
  refine VL_pure 1 [0, 1, 4, 5] [(0, .pointer (some ⟨b1, 0, none⟩)), (1, .pointer (some ⟨b2, 0, none⟩)), (4, .int .i64 10), (5, .bool true)] (by kernel_rfl) rfl ?_
  refine VL_end (by kernel_rfl) ?_
  refine VQ_next ?_
  refine VC_seq ?_
  refine VC_true (by kernel_rfl) ?_
  refine VC_skip ?_
  refine VQ_next ?_
  refine VC_seq ?_
  refine VC_block ?_
  refine VC_seq ?_
  refine VC_region ?_
  refine VL_pure 2 [0, 1, 4, 2] [(0, .pointer (some ⟨b1, 0, none⟩)), (1, .pointer (some ⟨b2, 0, none⟩)), (4, .int .i64 10), (2, .int .i64 10)] (by kernel_rfl) rfl ?_
  refine VL_end (by kernel_rfl) ?_
  refine VQ_next ?_
  refine VC_region ?_
  refine VL_pure 1 [0, 1, 4, 7] [(0, .pointer (some ⟨b1, 0, none⟩)), (1, .pointer (some ⟨b2, 0, none⟩)), (4, .int .i64 10), (7, .int .i64 10)] (by kernel_rfl) rfl ?_
  refine VL_index (d := 8) (b := b2) (o := 0) (len := 16) (sz := 1) (m := 10) (by kernel_rfl) (by kernel_rfl) 10 (by rfl) (by omega) 10 (by omega) ?_
  refine VL_store (b := b2) (o := 10) (vs := [.int .u8 255]) (by kernel_rfl) (by kernel_rfl) ho13 (Nat.le_of_ble_eq_true (by kernel_rfl)) ?_
  intro w14 hw12
  replace hS := Step.transNew hS hw12.step (fun _ _ _ => by omega)
  replace ho1 := ho1.step hw12.step (show ¬ b1 = b2 by omega)
  have ho14 : Own w14 b2 #[.int .u8 255, .int .u8 255, .int .u8 255, .int .u8 255, .int .u8 255, .int .u8 255, .int .u8 255, .int .u8 255, .int .u8 255, .int .u8 255, .int .u8 255, .int .u8 0, .int .u8 0, .int .u8 0, .int .u8 0, .int .u8 0] 23 := Own.cast hw12.own (by kernel_rfl)
  have hzhw12 := hw12.same
  refine VL_end (by kernel_rfl) ?_
  refine VQ_block_normal ?_
  refine VQ_next ?_
  refine VC_region ?_
  refine VL_pure 2 [0, 1, 4] [(0, .pointer (some ⟨b1, 0, none⟩)), (1, .pointer (some ⟨b2, 0, none⟩)), (4, .int .i64 11)] (by kernel_rfl) rfl ?_
  refine VL_end (by kernel_rfl) ?_
  refine VQ_round ?_
  refine VCL_round ?_
  refine VC_seq ?_
  refine VC_region ?_
  refine VL_pure 1 [0, 1, 4, 5] [(0, .pointer (some ⟨b1, 0, none⟩)), (1, .pointer (some ⟨b2, 0, none⟩)), (4, .int .i64 11), (5, .bool true)] (by kernel_rfl) rfl ?_
  refine VL_end (by kernel_rfl) ?_
  refine VQ_next ?_
  refine VC_seq ?_
  refine VC_true (by kernel_rfl) ?_
  refine VC_skip ?_
  refine VQ_next ?_
  refine VC_seq ?_
  refine VC_block ?_
  refine VC_seq ?_
  refine VC_region ?_
  refine VL_pure 2 [0, 1, 4, 2] [(0, .pointer (some ⟨b1, 0, none⟩)), (1, .pointer (some ⟨b2, 0, none⟩)), (4, .int .i64 11), (2, .int .i64 11)] (by kernel_rfl) rfl ?_
  refine VL_end (by kernel_rfl) ?_
  refine VQ_next ?_
  refine VC_region ?_
  refine VL_pure 1 [0, 1, 4, 7] [(0, .pointer (some ⟨b1, 0, none⟩)), (1, .pointer (some ⟨b2, 0, none⟩)), (4, .int .i64 11), (7, .int .i64 11)] (by kernel_rfl) rfl ?_
  refine VL_index (d := 8) (b := b2) (o := 0) (len := 16) (sz := 1) (m := 11) (by kernel_rfl) (by kernel_rfl) 11 (by rfl) (by omega) 11 (by omega) ?_
  refine VL_store (b := b2) (o := 11) (vs := [.int .u8 255]) (by kernel_rfl) (by kernel_rfl) ho14 (Nat.le_of_ble_eq_true (by kernel_rfl)) ?_
  intro w15 hw13
  replace hS := Step.transNew hS hw13.step (fun _ _ _ => by omega)
  replace ho1 := ho1.step hw13.step (show ¬ b1 = b2 by omega)
  have ho15 : Own w15 b2 #[.int .u8 255, .int .u8 255, .int .u8 255, .int .u8 255, .int .u8 255, .int .u8 255, .int .u8 255, .int .u8 255, .int .u8 255, .int .u8 255, .int .u8 255, .int .u8 255, .int .u8 0, .int .u8 0, .int .u8 0, .int .u8 0] 23 := Own.cast hw13.own (by kernel_rfl)
  have hzhw13 := hw13.same
  refine VL_end (by kernel_rfl) ?_
  refine VQ_block_normal ?_
  refine VQ_next ?_
  refine VC_region ?_
  refine VL_pure 2 [0, 1, 4] [(0, .pointer (some ⟨b1, 0, none⟩)), (1, .pointer (some ⟨b2, 0, none⟩)), (4, .int .i64 12)] (by kernel_rfl) rfl ?_
  refine VL_end (by kernel_rfl) ?_
  refine VQ_round ?_
  refine VCL_round ?_
  refine VC_seq ?_
  refine VC_region ?_
  refine VL_pure 1 [0, 1, 4, 5] [(0, .pointer (some ⟨b1, 0, none⟩)), (1, .pointer (some ⟨b2, 0, none⟩)), (4, .int .i64 12), (5, .bool true)] (by kernel_rfl) rfl ?_
  refine VL_end (by kernel_rfl) ?_
  refine VQ_next ?_
  refine VC_seq ?_
  refine VC_true (by kernel_rfl) ?_
  refine VC_skip ?_
  refine VQ_next ?_
  refine VC_seq ?_
  refine VC_block ?_
  refine VC_seq ?_
  refine VC_region ?_
  refine VL_pure 2 [0, 1, 4, 2] [(0, .pointer (some ⟨b1, 0, none⟩)), (1, .pointer (some ⟨b2, 0, none⟩)), (4, .int .i64 12), (2, .int .i64 12)] (by kernel_rfl) rfl ?_
  refine VL_end (by kernel_rfl) ?_
  refine VQ_next ?_
  refine VC_region ?_
  refine VL_pure 1 [0, 1, 4, 7] [(0, .pointer (some ⟨b1, 0, none⟩)), (1, .pointer (some ⟨b2, 0, none⟩)), (4, .int .i64 12), (7, .int .i64 12)] (by kernel_rfl) rfl ?_
  refine VL_index (d := 8) (b := b2) (o := 0) (len := 16) (sz := 1) (m := 12) (by kernel_rfl) (by kernel_rfl) 12 (by rfl) (by omega) 12 (by omega) ?_
  refine VL_store (b := b2) (o := 12) (vs := [.int .u8 255]) (by kernel_rfl) (by kernel_rfl) ho15 (Nat.le_of_ble_eq_true (by kernel_rfl)) ?_
  intro w16 hw14
  replace hS := Step.transNew hS hw14.step (fun _ _ _ => by omega)
  replace ho1 := ho1.step hw14.step (show ¬ b1 = b2 by omega)
  have ho16 : Own w16 b2 #[.int .u8 255, .int .u8 255, .int .u8 255, .int .u8 255, .int .u8 255, .int .u8 255, .int .u8 255, .int .u8 255, .int .u8 255, .int .u8 255, .int .u8 255, .int .u8 255, .int .u8 255, .int .u8 0, .int .u8 0, .int .u8 0] 23 := Own.cast hw14.own (by kernel_rfl)
  have hzhw14 := hw14.same
  refine VL_end (by kernel_rfl) ?_
  refine VQ_block_normal ?_
  refine VQ_next ?_
  refine VC_region ?_
  refine VL_pure 2 [0, 1, 4] [(0, .pointer (some ⟨b1, 0, none⟩)), (1, .pointer (some ⟨b2, 0, none⟩)), (4, .int .i64 13)] (by kernel_rfl) rfl ?_
  refine VL_end (by kernel_rfl) ?_
  refine VQ_round ?_
  refine VCL_round ?_
  refine VC_seq ?_
  refine VC_region ?_
  refine VL_pure 1 [0, 1, 4, 5] [(0, .pointer (some ⟨b1, 0, none⟩)), (1, .pointer (some ⟨b2, 0, none⟩)), (4, .int .i64 13), (5, .bool true)] (by kernel_rfl) rfl ?_
  refine VL_end (by kernel_rfl) ?_
  refine VQ_next ?_
  refine VC_seq ?_
  refine VC_true (by kernel_rfl) ?_
  refine VC_skip ?_
  refine VQ_next ?_
  refine VC_seq ?_
  refine VC_block ?_
  refine VC_seq ?_
  refine VC_region ?_
  refine VL_pure 2 [0, 1, 4, 2] [(0, .pointer (some ⟨b1, 0, none⟩)), (1, .pointer (some ⟨b2, 0, none⟩)), (4, .int .i64 13), (2, .int .i64 13)] (by kernel_rfl) rfl ?_
  refine VL_end (by kernel_rfl) ?_
  refine VQ_next ?_
  refine VC_region ?_
  refine VL_pure 1 [0, 1, 4, 7] [(0, .pointer (some ⟨b1, 0, none⟩)), (1, .pointer (some ⟨b2, 0, none⟩)), (4, .int .i64 13), (7, .int .i64 13)] (by kernel_rfl) rfl ?_
  refine VL_index (d := 8) (b := b2) (o := 0) (len := 16) (sz := 1) (m := 13) (by kernel_rfl) (by kernel_rfl) 13 (by rfl) (by omega) 13 (by omega) ?_
  refine VL_store (b := b2) (o := 13) (vs := [.int .u8 255]) (by kernel_rfl) (by kernel_rfl) ho16 (Nat.le_of_ble_eq_true (by kernel_rfl)) ?_
  intro w17 hw15
  replace hS := Step.transNew hS hw15.step (fun _ _ _ => by omega)
  replace ho1 := ho1.step hw15.step (show ¬ b1 = b2 by omega)
  have ho17 : Own w17 b2 #[.int .u8 255, .int .u8 255, .int .u8 255, .int .u8 255, .int .u8 255, .int .u8 255, .int .u8 255, .int .u8 255, .int .u8 255, .int .u8 255, .int .u8 255, .int .u8 255, .int .u8 255, .int .u8 255, .int .u8 0, .int .u8 0] 23 := Own.cast hw15.own (by kernel_rfl)
  have hzhw15 := hw15.same
  refine VL_end (by kernel_rfl) ?_
  refine VQ_block_normal ?_
  refine VQ_next ?_
  refine VC_region ?_
  refine VL_pure 2 [0, 1, 4] [(0, .pointer (some ⟨b1, 0, none⟩)), (1, .pointer (some ⟨b2, 0, none⟩)), (4, .int .i64 14)] (by kernel_rfl) rfl ?_
  refine VL_end (by kernel_rfl) ?_
  refine VQ_round ?_
  refine VCL_round ?_
  refine VC_seq ?_
  refine VC_region ?_
  refine VL_pure 1 [0, 1, 4, 5] [(0, .pointer (some ⟨b1, 0, none⟩)), (1, .pointer (some ⟨b2, 0, none⟩)), (4, .int .i64 14), (5, .bool true)] (by kernel_rfl) rfl ?_
  refine VL_end (by kernel_rfl) ?_
  refine VQ_next ?_
  refine VC_seq ?_
  refine VC_true (by kernel_rfl) ?_
  refine VC_skip ?_
  refine VQ_next ?_
  refine VC_seq ?_
  refine VC_block ?_
  refine VC_seq ?_
  refine VC_region ?_
  refine VL_pure 2 [0, 1, 4, 2] [(0, .pointer (some ⟨b1, 0, none⟩)), (1, .pointer (some ⟨b2, 0, none⟩)), (4, .int .i64 14), (2, .int .i64 14)] (by kernel_rfl) rfl ?_
  refine VL_end (by kernel_rfl) ?_
  refine VQ_next ?_
  refine VC_region ?_
  refine VL_pure 1 [0, 1, 4, 7] [(0, .pointer (some ⟨b1, 0, none⟩)), (1, .pointer (some ⟨b2, 0, none⟩)), (4, .int .i64 14), (7, .int .i64 14)] (by kernel_rfl) rfl ?_
  refine VL_index (d := 8) (b := b2) (o := 0) (len := 16) (sz := 1) (m := 14) (by kernel_rfl) (by kernel_rfl) 14 (by rfl) (by omega) 14 (by omega) ?_
  refine VL_store (b := b2) (o := 14) (vs := [.int .u8 255]) (by kernel_rfl) (by kernel_rfl) ho17 (Nat.le_of_ble_eq_true (by kernel_rfl)) ?_
  intro w18 hw16
  replace hS := Step.transNew hS hw16.step (fun _ _ _ => by omega)
  replace ho1 := ho1.step hw16.step (show ¬ b1 = b2 by omega)
  have ho18 : Own w18 b2 #[.int .u8 255, .int .u8 255, .int .u8 255, .int .u8 255, .int .u8 255, .int .u8 255, .int .u8 255, .int .u8 255, .int .u8 255, .int .u8 255, .int .u8 255, .int .u8 255, .int .u8 255, .int .u8 255, .int .u8 255, .int .u8 0] 23 := Own.cast hw16.own (by kernel_rfl)
  have hzhw16 := hw16.same
  refine VL_end (by kernel_rfl) ?_
  refine VQ_block_normal ?_
  refine VQ_next ?_
  refine VC_region ?_
  refine VL_pure 2 [0, 1, 4] [(0, .pointer (some ⟨b1, 0, none⟩)), (1, .pointer (some ⟨b2, 0, none⟩)), (4, .int .i64 15)] (by kernel_rfl) rfl ?_
  refine VL_end (by kernel_rfl) ?_
  refine VQ_round ?_
  refine VCL_round ?_
  refine VC_seq ?_
  refine VC_region ?_
  refine VL_pure 1 [0, 1, 4, 5] [(0, .pointer (some ⟨b1, 0, none⟩)), (1, .pointer (some ⟨b2, 0, none⟩)), (4, .int .i64 15), (5, .bool true)] (by kernel_rfl) rfl ?_
  refine VL_end (by kernel_rfl) ?_
  refine VQ_next ?_
  refine VC_seq ?_
  refine VC_true (by kernel_rfl) ?_
  refine VC_skip ?_
  refine VQ_next ?_
  refine VC_seq ?_
  refine VC_block ?_
  refine VC_seq ?_
  refine VC_region ?_
  refine VL_pure 2 [0, 1, 4, 2] [(0, .pointer (some ⟨b1, 0, none⟩)), (1, .pointer (some ⟨b2, 0, none⟩)), (4, .int .i64 15), (2, .int .i64 15)] (by kernel_rfl) rfl ?_
  refine VL_end (by kernel_rfl) ?_
  refine VQ_next ?_
  refine VC_region ?_
  refine VL_pure 1 [0, 1, 4, 7] [(0, .pointer (some ⟨b1, 0, none⟩)), (1, .pointer (some ⟨b2, 0, none⟩)), (4, .int .i64 15), (7, .int .i64 15)] (by kernel_rfl) rfl ?_
  refine VL_index (d := 8) (b := b2) (o := 0) (len := 16) (sz := 1) (m := 15) (by kernel_rfl) (by kernel_rfl) 15 (by rfl) (by omega) 15 (by omega) ?_
  refine VL_store (b := b2) (o := 15) (vs := [.int .u8 255]) (by kernel_rfl) (by kernel_rfl) ho18 (Nat.le_of_ble_eq_true (by kernel_rfl)) ?_
  intro w19 hw17
  replace hS := Step.transNew hS hw17.step (fun _ _ _ => by omega)
  replace ho1 := ho1.step hw17.step (show ¬ b1 = b2 by omega)
  have ho19 : Own w19 b2 #[.int .u8 255, .int .u8 255, .int .u8 255, .int .u8 255, .int .u8 255, .int .u8 255, .int .u8 255, .int .u8 255, .int .u8 255, .int .u8 255, .int .u8 255, .int .u8 255, .int .u8 255, .int .u8 255, .int .u8 255, .int .u8 255] 23 := Own.cast hw17.own (by kernel_rfl)
  have hzhw17 := hw17.same
  refine VL_end (by kernel_rfl) ?_
  refine VQ_block_normal ?_
  refine VQ_next ?_
  refine VC_region ?_
  refine VL_pure 2 [0, 1, 4] [(0, .pointer (some ⟨b1, 0, none⟩)), (1, .pointer (some ⟨b2, 0, none⟩)), (4, .int .i64 16)] (by kernel_rfl) rfl ?_
  refine VL_end (by kernel_rfl) ?_
  refine VQ_round ?_
  refine VCL_round ?_
  refine VC_seq ?_
  refine VC_region ?_
  refine VL_pure 1 [0, 1, 4, 5] [(0, .pointer (some ⟨b1, 0, none⟩)), (1, .pointer (some ⟨b2, 0, none⟩)), (4, .int .i64 16), (5, .bool false)] (by kernel_rfl) rfl ?_
  refine VL_end (by kernel_rfl) ?_
  refine VQ_next ?_
  refine VC_seq ?_
  refine VC_false (by kernel_rfl) ?_
  refine VC_exit ?_
  refine VQ_then_exit ?_
  refine VQ_then_exit ?_
  refine VQ_block_hit ?_
  refine VQ_next ?_
  refine VC_seq ?_
  refine VC_region ?_
  refine VL_load (d := 10) (t := 23) (a := ⟨b2, 0, none⟩) (v := .agg #[.int .u8 255, .int .u8 255, .int .u8 255, .int .u8 255, .int .u8 255, .int .u8 255, .int .u8 255, .int .u8 255, .int .u8 255, .int .u8 255, .int .u8 255, .int .u8 255, .int .u8 255, .int .u8 255, .int .u8 255, .int .u8 255]) (by kernel_rfl) (by kernel_rfl) (Loads.ownL ho19 (n := 16) (by kernel_rfl) (by kernel_rfl) (by kernel_rfl)) ?_
  refine VL_store (b := b1) (o := 0) (vs := [.int .u8 255, .int .u8 255, .int .u8 255, .int .u8 255, .int .u8 255, .int .u8 255, .int .u8 255, .int .u8 255, .int .u8 255, .int .u8 255, .int .u8 255, .int .u8 255, .int .u8 255, .int .u8 255, .int .u8 255, .int .u8 255]) (by kernel_rfl) (by kernel_rfl) ho1 (Nat.le_of_ble_eq_true (by kernel_rfl)) ?_
  intro w20 hw18
  replace hS := Step.transNew hS hw18.step (fun _ _ _ => by omega)
  replace ho19 := ho19.step hw18.step (show ¬ b2 = b1 by omega)
  have ho20 : Own w20 b1 #[.int .u8 255, .int .u8 255, .int .u8 255, .int .u8 255, .int .u8 255, .int .u8 255, .int .u8 255, .int .u8 255, .int .u8 255, .int .u8 255, .int .u8 255, .int .u8 255, .int .u8 255, .int .u8 255, .int .u8 255, .int .u8 255] 23 := Own.cast hw18.own (by kernel_rfl)
  have hzhw18 := hw18.same
  refine VL_end (by kernel_rfl) ?_
  refine VQ_next ?_
  refine VC_ret ?_
  refine VQ_retC1 (T := 23) (.agg #[.int .u8 255, .int .u8 255, .int .u8 255, .int .u8 255, .int .u8 255, .int .u8 255, .int .u8 255, .int .u8 255, .int .u8 255, .int .u8 255, .int .u8 255, .int .u8 255, .int .u8 255, .int .u8 255, .int .u8 255, .int .u8 255]) (.inr rfl) rfl rfl (Loads.ownL ho20 (n := 16) (by kernel_rfl) (by kernel_rfl) (by kernel_rfl)) ?_
  exact ⟨by kernel_rfl, hS⟩

set_option maxRecDepth 100000 in
set_option maxHeartbeats 4000000 in
theorem reply14_any (o : Om) (here : Nat → Int) (w : World) :
    CV Try.prog 20 #[.agg #[.int .i64 o.k, .int .u8 o.d, .bool o.a, .int .u32 o.tg, .int .u8 (o.p 0), .int .u8 (o.p 1), .int .u8 (o.p 2), .int .u8 (o.p 3), .int .u8 (o.p 4), .int .u8 (o.p 5), .int .u8 (o.p 6), .int .u8 (o.p 7), .int .u8 (o.p 8), .int .u8 (o.p 9), .int .u8 (o.p 10), .int .u8 (o.p 11), .int .u8 (o.p 12), .int .u8 (o.p 13), .int .u8 (o.p 14), .int .u8 (o.p 15), .int .u8 (o.s 0), .int .u8 (o.s 1), .int .u8 (o.s 2), .int .u8 (o.s 3), .int .u8 (o.s 4), .int .u8 (o.s 5), .int .u8 (o.s 6), .int .u8 (o.s 7), .int .u8 (o.s 8), .int .u8 (o.s 9), .int .u8 (o.s 10), .int .u8 (o.s 11), .int .u8 (o.s 12), .int .u8 (o.s 13), .int .u8 (o.s 14), .int .u8 (o.s 15)], .agg #[.int .u8 (here 0), .int .u8 (here 1), .int .u8 (here 2), .int .u8 (here 3), .int .u8 (here 4), .int .u8 (here 5), .int .u8 (here 6), .int .u8 (here 7), .int .u8 (here 8), .int .u8 (here 9), .int .u8 (here 10), .int .u8 (here 11), .int .u8 (here 12), .int .u8 (here 13), .int .u8 (here 14), .int .u8 (here 15)]] w (fun x w1 => x = .tuple #[.agg (omL (replyV o here)).toArray, .bool (replyB o here)] ∧ Step No w w1) := by
  have hS : Step No w w := Step.refl _ _
  refine CV_enter Try.f20 _ 31 [(0, .agg #[.int .i64 o.k, .int .u8 o.d, .bool o.a, .int .u32 o.tg, .int .u8 (o.p 0), .int .u8 (o.p 1), .int .u8 (o.p 2), .int .u8 (o.p 3), .int .u8 (o.p 4), .int .u8 (o.p 5), .int .u8 (o.p 6), .int .u8 (o.p 7), .int .u8 (o.p 8), .int .u8 (o.p 9), .int .u8 (o.p 10), .int .u8 (o.p 11), .int .u8 (o.p 12), .int .u8 (o.p 13), .int .u8 (o.p 14), .int .u8 (o.p 15), .int .u8 (o.s 0), .int .u8 (o.s 1), .int .u8 (o.s 2), .int .u8 (o.s 3), .int .u8 (o.s 4), .int .u8 (o.s 5), .int .u8 (o.s 6), .int .u8 (o.s 7), .int .u8 (o.s 8), .int .u8 (o.s 9), .int .u8 (o.s 10), .int .u8 (o.s 11), .int .u8 (o.s 12), .int .u8 (o.s 13), .int .u8 (o.s 14), .int .u8 (o.s 15)]), (1, .agg #[.int .u8 (here 0), .int .u8 (here 1), .int .u8 (here 2), .int .u8 (here 3), .int .u8 (here 4), .int .u8 (here 5), .int .u8 (here 6), .int .u8 (here 7), .int .u8 (here 8), .int .u8 (here 9), .int .u8 (here 10), .int .u8 (here 11), .int .u8 (here 12), .int .u8 (here 13), .int .u8 (here 14), .int .u8 (here 15)])] Try.func20 rfl rfl (by kernel_rfl) rfl ?_
  refine VC_seq ?_
  refine VC_region ?_
  have hzs1 := hS.size
  refine VL_box (d := 2) (t := 25) (c := #[.int .i64 o.k, .int .u8 o.d, .bool o.a, .int .u32 o.tg, .int .u8 (o.p 0), .int .u8 (o.p 1), .int .u8 (o.p 2), .int .u8 (o.p 3), .int .u8 (o.p 4), .int .u8 (o.p 5), .int .u8 (o.p 6), .int .u8 (o.p 7), .int .u8 (o.p 8), .int .u8 (o.p 9), .int .u8 (o.p 10), .int .u8 (o.p 11), .int .u8 (o.p 12), .int .u8 (o.p 13), .int .u8 (o.p 14), .int .u8 (o.p 15), .int .u8 (o.s 0), .int .u8 (o.s 1), .int .u8 (o.s 2), .int .u8 (o.s 3), .int .u8 (o.s 4), .int .u8 (o.s 5), .int .u8 (o.s 6), .int .u8 (o.s 7), .int .u8 (o.s 8), .int .u8 (o.s 9), .int .u8 (o.s 10), .int .u8 (o.s 11), .int .u8 (o.s 12), .int .u8 (o.s 13), .int .u8 (o.s 14), .int .u8 (o.s 15)]) (by kernel_rfl) (by kernel_rfl) ?_
  intro b1 w1 hn1
  replace hS := Step.trans hS (hn1.step No)
  have ho1 := hn1.own
  have hzhn1 := hn1.size
  have hqhn1 := hn1.eqb
  have hzs2 := hS.size
  have hzl1 := ho1.lt
  refine VL_box (d := 3) (t := 23) (c := #[.int .u8 (here 0), .int .u8 (here 1), .int .u8 (here 2), .int .u8 (here 3), .int .u8 (here 4), .int .u8 (here 5), .int .u8 (here 6), .int .u8 (here 7), .int .u8 (here 8), .int .u8 (here 9), .int .u8 (here 10), .int .u8 (here 11), .int .u8 (here 12), .int .u8 (here 13), .int .u8 (here 14), .int .u8 (here 15)]) (by kernel_rfl) (by kernel_rfl) ?_
  intro b2 w2 hn2
  replace hS := Step.trans hS (hn2.step No)
  replace ho1 := ho1.no (hn2.step No)
  have ho2 := hn2.own
  have hzhn2 := hn2.size
  have hqhn2 := hn2.eqb
  have hzs3 := hS.size
  have hzl2 := ho1.lt
  have hzl3 := ho2.lt
  refine VL_box (d := 4) (t := 25) (c := #[.int .i64 0, .int .u8 0, .bool false, .int .u32 0, .int .u8 0, .int .u8 0, .int .u8 0, .int .u8 0, .int .u8 0, .int .u8 0, .int .u8 0, .int .u8 0, .int .u8 0, .int .u8 0, .int .u8 0, .int .u8 0, .int .u8 0, .int .u8 0, .int .u8 0, .int .u8 0, .int .u8 0, .int .u8 0, .int .u8 0, .int .u8 0, .int .u8 0, .int .u8 0, .int .u8 0, .int .u8 0, .int .u8 0, .int .u8 0, .int .u8 0, .int .u8 0, .int .u8 0, .int .u8 0, .int .u8 0, .int .u8 0]) (by kernel_rfl) (by kernel_rfl) ?_
  intro b3 w3 hn3
  replace hS := Step.trans hS (hn3.step No)
  replace ho1 := ho1.no (hn3.step No)
  replace ho2 := ho2.no (hn3.step No)
  have ho3 := hn3.own
  have hzhn3 := hn3.size
  have hqhn3 := hn3.eqb
  refine VL_pure 4 [2, 3, 4] [(2, .pointer (some ⟨b1, 0, none⟩)), (3, .pointer (some ⟨b2, 0, none⟩)), (4, .pointer (some ⟨b3, 0, none⟩))] (by kernel_rfl) rfl ?_
  refine VL_end (by kernel_rfl) ?_
  refine VQ_next ?_
  refine VC_seq ?_
  refine VC_seq ?_
  have hs1 := drew_step w3
  have hs1z : w3.heap.size = w3.drew.heap.size := rfl
  refine VC_text [[], [0], [0, 1], [0, 1, 2], [0, 1, 2, 3], [0, 1, 2, 3, 4], [0, 1, 2, 3, 4, 5], [0, 1, 2, 3, 4, 5, 6], [0, 1, 2, 3, 4, 5, 6, 7], [0, 1, 2, 3, 4, 5, 6, 7, 8], [0, 1, 2, 3, 4, 5, 6, 7, 8, 9], [0, 1, 2, 3, 4, 5, 6, 7, 8], [0, 1, 2, 3, 4, 5, 6, 7, 8, 9, 10, 11], [0, 1, 2, 3, 4, 5, 6, 7, 8, 9, 10, 11, 12], [0, 1, 2, 3, 4, 5, 6, 7, 8, 9, 10, 11, 12, 13], [0, 1, 2, 3, 4, 5, 6, 7, 8, 9, 10, 11, 12, 13, 14], [0, 1, 2, 3, 4, 5, 6, 7, 8, 9, 10, 11, 12, 13], [0, 1, 2, 3, 4, 5, 6, 7, 8, 9, 10, 11, 12, 13, 14, 15, 16], [0, 1, 2, 3, 4, 5, 6, 7, 8, 9, 10, 11, 12, 13, 14, 15, 16, 17], [0, 1, 2, 3, 4, 5, 6, 7, 8, 9, 10, 11, 12, 13, 14, 15, 16, 17, 18]] 17 (fun x y => Step (fun k => w3.heap.size ≤ k) x y) [16] [0, 1, 2, 3, 4, 5, 6, 7, 8, 9, 10, 11, 12, 13, 14, 15, 16] (by kernel_rfl) (by kernel_rfl) (by kernel_rfl) (by kernel_rfl) (fun x => Step.refl _ x) (fun h k => Step.trans h k) Step.weak ?_
  have hzs4 := hS.size
  have hzl4 := ho1.lt
  have hzl5 := ho2.lt
  have hzl6 := ho3.lt
  generalize w3.drew = w4 at hs1 hs1z ⊢
  replace hS := Step.trans hS hs1
  replace ho1 := ho1.no hs1
  replace ho2 := ho2.no hs1
  replace ho3 := ho3.no hs1
  refine VT_pures 1 (kn' := [(0, .pointer (some ⟨b1, 0, none⟩))]) (by kernel_rfl) ?_
  refine VT_load (d := 7) (t := 3) (a := ⟨b1, 0, none⟩) (v := .int .i64 o.k) (by kernel_rfl) (by kernel_rfl) ?_ ?_
  · intro w5 hr1
    replace hS := Step.transNew hS hr1 (fun i hi hG => by (try simp only at hG); omega)
    replace ho1 := ho1.step hr1 (by (try simp only); omega)
    replace ho2 := ho2.step hr1 (by (try simp only); omega)
    replace ho3 := ho3.step hr1 (by (try simp only); omega)
    exact (Loads.own1 ho1 (by kernel_rfl) (by rfl))
  refine VT_pures 2 (kn' := [(3, .bool (o.k != 8)), (2, .bool (o.k != 8)), (1, .int .i64 o.k), (0, .pointer (some ⟨b1, 0, none⟩))]) (by kernel_rfl) ?_
  rcases Bool.eq_false_or_eq_true (o.k != 8) with hg1 | hg1
  · refine VT_eq [(3, .bool true), (2, .bool true), (1, .int .i64 o.k), (0, .pointer (some ⟨b1, 0, none⟩))] (by simp only [hg1, Bool.not_true, Bool.not_false]) ?_
    try simp only [bne_iff_ne, beq_iff_eq, decide_eq_true_eq, decide_eq_false_iff_not, bne_eq_false_iff_eq, beq_eq_false_iff_ne, ne_eq] at hg1
    refine VT_pures 13 (kn' := [(16, undef), (15, undef), (14, undef), (13, undef), (12, undef), (11, undef), (10, undef), (9, undef), (8, .bool true), (7, .bool true), (6, undef), (5, undef), (4, undef), (3, .bool true), (2, .bool true), (1, .int .i64 o.k), (0, .pointer (some ⟨b1, 0, none⟩))]) (by kernel_rfl) ?_
    refine VT_end ?_
    intro w6 hs2
    replace hS := Step.trans hS hs2
    replace ho1 := ho1.no hs2
    replace ho2 := ho2.no hs2
    replace ho3 := ho3.no hs2
    refine VL_keep [2, 3, 4, 14, 19, 21, 22] [(2, .pointer (some ⟨b1, 0, none⟩)), (3, .pointer (some ⟨b2, 0, none⟩)), (4, .pointer (some ⟨b3, 0, none⟩)), (14, .bool true), (19, undef), (21, undef), (22, undef)] (by kernel_rfl) ?_
    refine VL_pure 20 [2, 3, 4, 25] [(2, .pointer (some ⟨b1, 0, none⟩)), (3, .pointer (some ⟨b2, 0, none⟩)), (4, .pointer (some ⟨b3, 0, none⟩)), (25, .bool true)] (by kernel_rfl) rfl ?_
    refine VL_end (by kernel_rfl) ?_
    refine VQ_next ?_
    refine VC_true (by kernel_rfl) ?_
    refine VC_seq ?_
    refine VC_region ?_
    refine VL_pure 1 [4, 26] [(4, .pointer (some ⟨b3, 0, none⟩)), (26, .agg #[.int .i64 0, .int .u8 0, .bool false, .int .u32 0, .int .u8 0, .int .u8 0, .int .u8 0, .int .u8 0, .int .u8 0, .int .u8 0, .int .u8 0, .int .u8 0, .int .u8 0, .int .u8 0, .int .u8 0, .int .u8 0, .int .u8 0, .int .u8 0, .int .u8 0, .int .u8 0, .int .u8 0, .int .u8 0, .int .u8 0, .int .u8 0, .int .u8 0, .int .u8 0, .int .u8 0, .int .u8 0, .int .u8 0, .int .u8 0, .int .u8 0, .int .u8 0, .int .u8 0, .int .u8 0, .int .u8 0, .int .u8 0])] (by kernel_rfl) rfl ?_
    refine VL_store (b := b3) (o := 0) (vs := [.int .i64 0, .int .u8 0, .bool false, .int .u32 0, .int .u8 0, .int .u8 0, .int .u8 0, .int .u8 0, .int .u8 0, .int .u8 0, .int .u8 0, .int .u8 0, .int .u8 0, .int .u8 0, .int .u8 0, .int .u8 0, .int .u8 0, .int .u8 0, .int .u8 0, .int .u8 0, .int .u8 0, .int .u8 0, .int .u8 0, .int .u8 0, .int .u8 0, .int .u8 0, .int .u8 0, .int .u8 0, .int .u8 0, .int .u8 0, .int .u8 0, .int .u8 0, .int .u8 0, .int .u8 0, .int .u8 0, .int .u8 0]) (by kernel_rfl) (by kernel_rfl) ho3 (Nat.le_of_ble_eq_true (by kernel_rfl)) ?_
    intro w7 hw1
    replace hS := Step.transNew hS hw1.step (fun _ _ _ => by omega)
    replace ho1 := ho1.step hw1.step (show ¬ b1 = b3 by omega)
    replace ho2 := ho2.step hw1.step (show ¬ b2 = b3 by omega)
    have ho4 : Own w7 b3 #[.int .i64 0, .int .u8 0, .bool false, .int .u32 0, .int .u8 0, .int .u8 0, .int .u8 0, .int .u8 0, .int .u8 0, .int .u8 0, .int .u8 0, .int .u8 0, .int .u8 0, .int .u8 0, .int .u8 0, .int .u8 0, .int .u8 0, .int .u8 0, .int .u8 0, .int .u8 0, .int .u8 0, .int .u8 0, .int .u8 0, .int .u8 0, .int .u8 0, .int .u8 0, .int .u8 0, .int .u8 0, .int .u8 0, .int .u8 0, .int .u8 0, .int .u8 0, .int .u8 0, .int .u8 0, .int .u8 0, .int .u8 0] 25 := Own.cast hw1.own (by kernel_rfl)
    have hzhw1 := hw1.same
    refine VL_pure 3 [4, 5] [(4, .pointer (some ⟨b3, 0, none⟩)), (5, .bool false)] (by kernel_rfl) rfl ?_
    refine VL_end (by kernel_rfl) ?_
    refine VQ_next ?_
    refine VC_ret ?_
    refine VQ_then_ret ?_
    refine VQ_retC1T1 (T := 25) (.agg #[.int .i64 0, .int .u8 0, .bool false, .int .u32 0, .int .u8 0, .int .u8 0, .int .u8 0, .int .u8 0, .int .u8 0, .int .u8 0, .int .u8 0, .int .u8 0, .int .u8 0, .int .u8 0, .int .u8 0, .int .u8 0, .int .u8 0, .int .u8 0, .int .u8 0, .int .u8 0, .int .u8 0, .int .u8 0, .int .u8 0, .int .u8 0, .int .u8 0, .int .u8 0, .int .u8 0, .int .u8 0, .int .u8 0, .int .u8 0, .int .u8 0, .int .u8 0, .int .u8 0, .int .u8 0, .int .u8 0, .int .u8 0]) (.bool false) (.inr rfl) rfl rfl rfl (Loads.ownL ho4 (n := 36) (by kernel_rfl) (by kernel_rfl) (by kernel_rfl)) ?_
    exact ⟨reply_fin (b := false) (v := zeroO) (by simp [replyB, *]) rfl, hS⟩
  · refine VT_eq [(3, .bool false), (2, .bool false), (1, .int .i64 o.k), (0, .pointer (some ⟨b1, 0, none⟩))] (by simp only [hg1, Bool.not_true, Bool.not_false]) ?_
    try simp only [bne_iff_ne, beq_iff_eq, decide_eq_true_eq, decide_eq_false_iff_not, bne_eq_false_iff_eq, beq_eq_false_iff_ne, ne_eq] at hg1
    refine VT_pures 1 (kn' := [(4, .pointer (some ⟨b1, 2, none⟩)), (3, .bool false), (2, .bool false), (1, .int .i64 o.k), (0, .pointer (some ⟨b1, 0, none⟩))]) (by kernel_rfl) ?_
    refine VT_load (d := 11) (t := 4) (a := ⟨b1, 2, none⟩) (v := .bool o.a) (by kernel_rfl) (by kernel_rfl) ?_ ?_
    · intro w8 hr2
      replace hS := Step.transNew hS hr2 (fun i hi hG => by (try simp only at hG); omega)
      replace ho1 := ho1.step hr2 (by (try simp only); omega)
      replace ho2 := ho2.step hr2 (by (try simp only); omega)
      replace ho3 := ho3.step hr2 (by (try simp only); omega)
      exact (Loads.own1 ho1 (by kernel_rfl) (by rfl))
    refine VT_pures 3 (kn' := [(8, .bool (!o.a)), (7, .bool (!o.a)), (6, .bool (!o.a)), (5, .bool o.a), (4, .pointer (some ⟨b1, 2, none⟩)), (3, .bool false), (2, .bool false), (1, .int .i64 o.k), (0, .pointer (some ⟨b1, 0, none⟩))]) (by kernel_rfl) ?_
    rcases Bool.eq_false_or_eq_true o.a with hg2 | hg2
    · refine VT_eq [(8, .bool false), (7, .bool false), (6, .bool false), (5, .bool true), (4, .pointer (some ⟨b1, 2, none⟩)), (3, .bool false), (2, .bool false), (1, .int .i64 o.k), (0, .pointer (some ⟨b1, 0, none⟩))] (by simp only [hg2, Bool.not_true, Bool.not_false]) ?_
      try simp only [bne_iff_ne, beq_iff_eq, decide_eq_true_eq, decide_eq_false_iff_not, bne_eq_false_iff_eq, beq_eq_false_iff_ne, ne_eq] at hg2
      refine VT_pures 1 (kn' := [(9, .pointer (some ⟨b1, 4, none⟩)), (8, .bool false), (7, .bool false), (6, .bool false), (5, .bool true), (4, .pointer (some ⟨b1, 2, none⟩)), (3, .bool false), (2, .bool false), (1, .int .i64 o.k), (0, .pointer (some ⟨b1, 0, none⟩))]) (by kernel_rfl) ?_
      refine VT_load (d := 16) (t := 23) (a := ⟨b1, 4, none⟩) (v := .agg #[.int .u8 (o.p 0), .int .u8 (o.p 1), .int .u8 (o.p 2), .int .u8 (o.p 3), .int .u8 (o.p 4), .int .u8 (o.p 5), .int .u8 (o.p 6), .int .u8 (o.p 7), .int .u8 (o.p 8), .int .u8 (o.p 9), .int .u8 (o.p 10), .int .u8 (o.p 11), .int .u8 (o.p 12), .int .u8 (o.p 13), .int .u8 (o.p 14), .int .u8 (o.p 15)]) (by kernel_rfl) (by kernel_rfl) ?_ ?_
      · intro w9 hr3
        replace hS := Step.transNew hS hr3 (fun i hi hG => by (try simp only at hG); omega)
        replace ho1 := ho1.step hr3 (by (try simp only); omega)
        replace ho2 := ho2.step hr3 (by (try simp only); omega)
        replace ho3 := ho3.step hr3 (by (try simp only); omega)
        exact (Loads.ownL ho1 (n := 16) (by kernel_rfl) (by kernel_rfl) (by kernel_rfl))
      refine VT_load (d := 17) (t := 23) (a := ⟨b2, 0, none⟩) (v := .agg #[.int .u8 (here 0), .int .u8 (here 1), .int .u8 (here 2), .int .u8 (here 3), .int .u8 (here 4), .int .u8 (here 5), .int .u8 (here 6), .int .u8 (here 7), .int .u8 (here 8), .int .u8 (here 9), .int .u8 (here 10), .int .u8 (here 11), .int .u8 (here 12), .int .u8 (here 13), .int .u8 (here 14), .int .u8 (here 15)]) (by kernel_rfl) (by kernel_rfl) ?_ ?_
      · intro w10 hr4
        replace hS := Step.transNew hS hr4 (fun i hi hG => by (try simp only at hG); omega)
        replace ho1 := ho1.step hr4 (by (try simp only); omega)
        replace ho2 := ho2.step hr4 (by (try simp only); omega)
        replace ho3 := ho3.step hr4 (by (try simp only); omega)
        exact (Loads.ownL ho2 (n := 16) (by kernel_rfl) (by kernel_rfl) (by kernel_rfl))
      refine VT_agEq (d := 18) (dd := 9) (ls := (rep 16 [.int .u8])) (pos := false) (t := 23) (xs := #[.int .u8 (o.p 0), .int .u8 (o.p 1), .int .u8 (o.p 2), .int .u8 (o.p 3), .int .u8 (o.p 4), .int .u8 (o.p 5), .int .u8 (o.p 6), .int .u8 (o.p 7), .int .u8 (o.p 8), .int .u8 (o.p 9), .int .u8 (o.p 10), .int .u8 (o.p 11), .int .u8 (o.p 12), .int .u8 (o.p 13), .int .u8 (o.p 14), .int .u8 (o.p 15)]) (ys := #[.int .u8 (here 0), .int .u8 (here 1), .int .u8 (here 2), .int .u8 (here 3), .int .u8 (here 4), .int .u8 (here 5), .int .u8 (here 6), .int .u8 (here 7), .int .u8 (here 8), .int .u8 (here 9), .int .u8 (here 10), .int .u8 (here 11), .int .u8 (here 12), .int .u8 (here 13), .int .u8 (here 14), .int .u8 (here 15)]) (by kernel_rfl) (by kernel_rfl) (by kernel_rfl) (by kernel_rfl) (by first | exact ⟨⟨_, rfl⟩, ⟨_, rfl⟩, ⟨_, rfl⟩, ⟨_, rfl⟩, ⟨_, rfl⟩, ⟨_, rfl⟩, ⟨_, rfl⟩, ⟨_, rfl⟩, ⟨_, rfl⟩, ⟨_, rfl⟩, ⟨_, rfl⟩, ⟨_, rfl⟩, ⟨_, rfl⟩, ⟨_, rfl⟩, ⟨_, rfl⟩, ⟨_, rfl⟩, trivial⟩ | trivial) (by first | exact ⟨⟨_, rfl⟩, ⟨_, rfl⟩, ⟨_, rfl⟩, ⟨_, rfl⟩, ⟨_, rfl⟩, ⟨_, rfl⟩, ⟨_, rfl⟩, ⟨_, rfl⟩, ⟨_, rfl⟩, ⟨_, rfl⟩, ⟨_, rfl⟩, ⟨_, rfl⟩, ⟨_, rfl⟩, ⟨_, rfl⟩, ⟨_, rfl⟩, ⟨_, rfl⟩, trivial⟩ | trivial) (!(plEq o.p here)) (by rfl) ?_
      refine VT_pures 1 (kn' := [(13, .bool (!(plEq o.p here))), (12, .bool (!(plEq o.p here))), (11, .agg #[.int .u8 (here 0), .int .u8 (here 1), .int .u8 (here 2), .int .u8 (here 3), .int .u8 (here 4), .int .u8 (here 5), .int .u8 (here 6), .int .u8 (here 7), .int .u8 (here 8), .int .u8 (here 9), .int .u8 (here 10), .int .u8 (here 11), .int .u8 (here 12), .int .u8 (here 13), .int .u8 (here 14), .int .u8 (here 15)]), (10, .agg #[.int .u8 (o.p 0), .int .u8 (o.p 1), .int .u8 (o.p 2), .int .u8 (o.p 3), .int .u8 (o.p 4), .int .u8 (o.p 5), .int .u8 (o.p 6), .int .u8 (o.p 7), .int .u8 (o.p 8), .int .u8 (o.p 9), .int .u8 (o.p 10), .int .u8 (o.p 11), .int .u8 (o.p 12), .int .u8 (o.p 13), .int .u8 (o.p 14), .int .u8 (o.p 15)]), (9, .pointer (some ⟨b1, 4, none⟩)), (8, .bool false), (7, .bool false), (6, .bool false), (5, .bool true), (4, .pointer (some ⟨b1, 2, none⟩)), (3, .bool false), (2, .bool false), (1, .int .i64 o.k), (0, .pointer (some ⟨b1, 0, none⟩))]) (by kernel_rfl) ?_
      rcases Bool.eq_false_or_eq_true (plEq o.p here) with hg3 | hg3
      · refine VT_eq [(13, .bool false), (12, .bool false), (11, .agg #[.int .u8 (here 0), .int .u8 (here 1), .int .u8 (here 2), .int .u8 (here 3), .int .u8 (here 4), .int .u8 (here 5), .int .u8 (here 6), .int .u8 (here 7), .int .u8 (here 8), .int .u8 (here 9), .int .u8 (here 10), .int .u8 (here 11), .int .u8 (here 12), .int .u8 (here 13), .int .u8 (here 14), .int .u8 (here 15)]), (10, .agg #[.int .u8 (o.p 0), .int .u8 (o.p 1), .int .u8 (o.p 2), .int .u8 (o.p 3), .int .u8 (o.p 4), .int .u8 (o.p 5), .int .u8 (o.p 6), .int .u8 (o.p 7), .int .u8 (o.p 8), .int .u8 (o.p 9), .int .u8 (o.p 10), .int .u8 (o.p 11), .int .u8 (o.p 12), .int .u8 (o.p 13), .int .u8 (o.p 14), .int .u8 (o.p 15)]), (9, .pointer (some ⟨b1, 4, none⟩)), (8, .bool false), (7, .bool false), (6, .bool false), (5, .bool true), (4, .pointer (some ⟨b1, 2, none⟩)), (3, .bool false), (2, .bool false), (1, .int .i64 o.k), (0, .pointer (some ⟨b1, 0, none⟩))] (by simp only [hg3, Bool.not_true, Bool.not_false]) ?_
        try simp only [bne_iff_ne, beq_iff_eq, decide_eq_true_eq, decide_eq_false_iff_not, bne_eq_false_iff_eq, beq_eq_false_iff_ne, ne_eq] at hg3
        refine VT_pures 3 (kn' := [(16, undef), (15, undef), (14, undef), (13, .bool false), (12, .bool false), (11, .agg #[.int .u8 (here 0), .int .u8 (here 1), .int .u8 (here 2), .int .u8 (here 3), .int .u8 (here 4), .int .u8 (here 5), .int .u8 (here 6), .int .u8 (here 7), .int .u8 (here 8), .int .u8 (here 9), .int .u8 (here 10), .int .u8 (here 11), .int .u8 (here 12), .int .u8 (here 13), .int .u8 (here 14), .int .u8 (here 15)]), (10, .agg #[.int .u8 (o.p 0), .int .u8 (o.p 1), .int .u8 (o.p 2), .int .u8 (o.p 3), .int .u8 (o.p 4), .int .u8 (o.p 5), .int .u8 (o.p 6), .int .u8 (o.p 7), .int .u8 (o.p 8), .int .u8 (o.p 9), .int .u8 (o.p 10), .int .u8 (o.p 11), .int .u8 (o.p 12), .int .u8 (o.p 13), .int .u8 (o.p 14), .int .u8 (o.p 15)]), (9, .pointer (some ⟨b1, 4, none⟩)), (8, .bool false), (7, .bool false), (6, .bool false), (5, .bool true), (4, .pointer (some ⟨b1, 2, none⟩)), (3, .bool false), (2, .bool false), (1, .int .i64 o.k), (0, .pointer (some ⟨b1, 0, none⟩))]) (by kernel_rfl) ?_
        refine VT_end ?_
        intro w11 hs3
        replace hS := Step.trans hS hs3
        replace ho1 := ho1.no hs3
        replace ho2 := ho2.no hs3
        replace ho3 := ho3.no hs3
        refine VL_keep [2, 3, 4, 14, 19, 21, 22] [(2, .pointer (some ⟨b1, 0, none⟩)), (3, .pointer (some ⟨b2, 0, none⟩)), (4, .pointer (some ⟨b3, 0, none⟩)), (14, .bool false), (19, .bool false), (21, undef), (22, undef)] (by kernel_rfl) ?_
        refine VL_pure 20 [2, 3, 4, 25] [(2, .pointer (some ⟨b1, 0, none⟩)), (3, .pointer (some ⟨b2, 0, none⟩)), (4, .pointer (some ⟨b3, 0, none⟩)), (25, .bool false)] (by kernel_rfl) rfl ?_
        refine VL_end (by kernel_rfl) ?_
        refine VQ_next ?_
        refine VC_false (by kernel_rfl) ?_
        refine VC_skip ?_
        refine VQ_next ?_
        refine VC_seq ?_
        refine VC_region ?_
        refine VL_pure 1 [2, 3, 4, 27] [(2, .pointer (some ⟨b1, 0, none⟩)), (3, .pointer (some ⟨b2, 0, none⟩)), (4, .pointer (some ⟨b3, 0, none⟩)), (27, .pointer (some ⟨b1, 2, none⟩))] (by kernel_rfl) rfl ?_
        refine VL_store (b := b1) (o := 2) (vs := [.bool false]) (by kernel_rfl) (by kernel_rfl) ho1 (Nat.le_of_ble_eq_true (by kernel_rfl)) ?_
        intro w12 hw2
        replace hS := Step.transNew hS hw2.step (fun _ _ _ => by omega)
        replace ho2 := ho2.step hw2.step (show ¬ b2 = b1 by omega)
        replace ho3 := ho3.step hw2.step (show ¬ b3 = b1 by omega)
        have ho5 : Own w12 b1 #[.int .i64 o.k, .int .u8 o.d, .bool false, .int .u32 o.tg, .int .u8 (o.p 0), .int .u8 (o.p 1), .int .u8 (o.p 2), .int .u8 (o.p 3), .int .u8 (o.p 4), .int .u8 (o.p 5), .int .u8 (o.p 6), .int .u8 (o.p 7), .int .u8 (o.p 8), .int .u8 (o.p 9), .int .u8 (o.p 10), .int .u8 (o.p 11), .int .u8 (o.p 12), .int .u8 (o.p 13), .int .u8 (o.p 14), .int .u8 (o.p 15), .int .u8 (o.s 0), .int .u8 (o.s 1), .int .u8 (o.s 2), .int .u8 (o.s 3), .int .u8 (o.s 4), .int .u8 (o.s 5), .int .u8 (o.s 6), .int .u8 (o.s 7), .int .u8 (o.s 8), .int .u8 (o.s 9), .int .u8 (o.s 10), .int .u8 (o.s 11), .int .u8 (o.s 12), .int .u8 (o.s 13), .int .u8 (o.s 14), .int .u8 (o.s 15)] 25 := Own.cast hw2.own (by kernel_rfl)
        have hzhw2 := hw2.same
        refine VL_end (by kernel_rfl) ?_
        refine VQ_next ?_
        refine VC_seq ?_
        refine VC_region ?_
        refine VL_load (d := 28) (t := 23) (a := ⟨b2, 0, none⟩) (v := .agg #[.int .u8 (here 0), .int .u8 (here 1), .int .u8 (here 2), .int .u8 (here 3), .int .u8 (here 4), .int .u8 (here 5), .int .u8 (here 6), .int .u8 (here 7), .int .u8 (here 8), .int .u8 (here 9), .int .u8 (here 10), .int .u8 (here 11), .int .u8 (here 12), .int .u8 (here 13), .int .u8 (here 14), .int .u8 (here 15)]) (by kernel_rfl) (by kernel_rfl) (Loads.ownL ho2 (n := 16) (by kernel_rfl) (by kernel_rfl) (by kernel_rfl)) ?_
        refine VL_pure 2 [2, 4, 28, 29] [(2, .pointer (some ⟨b1, 0, none⟩)), (4, .pointer (some ⟨b3, 0, none⟩)), (28, .agg #[.int .u8 (here 0), .int .u8 (here 1), .int .u8 (here 2), .int .u8 (here 3), .int .u8 (here 4), .int .u8 (here 5), .int .u8 (here 6), .int .u8 (here 7), .int .u8 (here 8), .int .u8 (here 9), .int .u8 (here 10), .int .u8 (here 11), .int .u8 (here 12), .int .u8 (here 13), .int .u8 (here 14), .int .u8 (here 15)]), (29, .pointer (some ⟨b1, 4, none⟩))] (by kernel_rfl) rfl ?_
        refine VL_store (b := b1) (o := 4) (vs := [.int .u8 (here 0), .int .u8 (here 1), .int .u8 (here 2), .int .u8 (here 3), .int .u8 (here 4), .int .u8 (here 5), .int .u8 (here 6), .int .u8 (here 7), .int .u8 (here 8), .int .u8 (here 9), .int .u8 (here 10), .int .u8 (here 11), .int .u8 (here 12), .int .u8 (here 13), .int .u8 (here 14), .int .u8 (here 15)]) (by kernel_rfl) (by kernel_rfl) ho5 (Nat.le_of_ble_eq_true (by kernel_rfl)) ?_
        intro w13 hw3
        replace hS := Step.transNew hS hw3.step (fun _ _ _ => by omega)
        replace ho2 := ho2.step hw3.step (show ¬ b2 = b1 by omega)
        replace ho3 := ho3.step hw3.step (show ¬ b3 = b1 by omega)
        have ho6 : Own w13 b1 #[.int .i64 o.k, .int .u8 o.d, .bool false, .int .u32 o.tg, .int .u8 (here 0), .int .u8 (here 1), .int .u8 (here 2), .int .u8 (here 3), .int .u8 (here 4), .int .u8 (here 5), .int .u8 (here 6), .int .u8 (here 7), .int .u8 (here 8), .int .u8 (here 9), .int .u8 (here 10), .int .u8 (here 11), .int .u8 (here 12), .int .u8 (here 13), .int .u8 (here 14), .int .u8 (here 15), .int .u8 (o.s 0), .int .u8 (o.s 1), .int .u8 (o.s 2), .int .u8 (o.s 3), .int .u8 (o.s 4), .int .u8 (o.s 5), .int .u8 (o.s 6), .int .u8 (o.s 7), .int .u8 (o.s 8), .int .u8 (o.s 9), .int .u8 (o.s 10), .int .u8 (o.s 11), .int .u8 (o.s 12), .int .u8 (o.s 13), .int .u8 (o.s 14), .int .u8 (o.s 15)] 25 := Own.cast hw3.own (by kernel_rfl)
        have hzhw3 := hw3.same
        refine VL_end (by kernel_rfl) ?_
        refine VQ_next ?_
        refine VC_seq ?_
        refine VC_region ?_
        refine VL_load (d := 30) (t := 25) (a := ⟨b1, 0, none⟩) (v := .agg #[.int .i64 o.k, .int .u8 o.d, .bool false, .int .u32 o.tg, .int .u8 (here 0), .int .u8 (here 1), .int .u8 (here 2), .int .u8 (here 3), .int .u8 (here 4), .int .u8 (here 5), .int .u8 (here 6), .int .u8 (here 7), .int .u8 (here 8), .int .u8 (here 9), .int .u8 (here 10), .int .u8 (here 11), .int .u8 (here 12), .int .u8 (here 13), .int .u8 (here 14), .int .u8 (here 15), .int .u8 (o.s 0), .int .u8 (o.s 1), .int .u8 (o.s 2), .int .u8 (o.s 3), .int .u8 (o.s 4), .int .u8 (o.s 5), .int .u8 (o.s 6), .int .u8 (o.s 7), .int .u8 (o.s 8), .int .u8 (o.s 9), .int .u8 (o.s 10), .int .u8 (o.s 11), .int .u8 (o.s 12), .int .u8 (o.s 13), .int .u8 (o.s 14), .int .u8 (o.s 15)]) (by kernel_rfl) (by kernel_rfl) (Loads.ownL ho6 (n := 36) (by kernel_rfl) (by kernel_rfl) (by kernel_rfl)) ?_
        refine VL_store (b := b3) (o := 0) (vs := [.int .i64 o.k, .int .u8 o.d, .bool false, .int .u32 o.tg, .int .u8 (here 0), .int .u8 (here 1), .int .u8 (here 2), .int .u8 (here 3), .int .u8 (here 4), .int .u8 (here 5), .int .u8 (here 6), .int .u8 (here 7), .int .u8 (here 8), .int .u8 (here 9), .int .u8 (here 10), .int .u8 (here 11), .int .u8 (here 12), .int .u8 (here 13), .int .u8 (here 14), .int .u8 (here 15), .int .u8 (o.s 0), .int .u8 (o.s 1), .int .u8 (o.s 2), .int .u8 (o.s 3), .int .u8 (o.s 4), .int .u8 (o.s 5), .int .u8 (o.s 6), .int .u8 (o.s 7), .int .u8 (o.s 8), .int .u8 (o.s 9), .int .u8 (o.s 10), .int .u8 (o.s 11), .int .u8 (o.s 12), .int .u8 (o.s 13), .int .u8 (o.s 14), .int .u8 (o.s 15)]) (by kernel_rfl) (by kernel_rfl) ho3 (Nat.le_of_ble_eq_true (by kernel_rfl)) ?_
        intro w14 hw4
        replace hS := Step.transNew hS hw4.step (fun _ _ _ => by omega)
        replace ho2 := ho2.step hw4.step (show ¬ b2 = b3 by omega)
        replace ho6 := ho6.step hw4.step (show ¬ b1 = b3 by omega)
        have ho7 : Own w14 b3 #[.int .i64 o.k, .int .u8 o.d, .bool false, .int .u32 o.tg, .int .u8 (here 0), .int .u8 (here 1), .int .u8 (here 2), .int .u8 (here 3), .int .u8 (here 4), .int .u8 (here 5), .int .u8 (here 6), .int .u8 (here 7), .int .u8 (here 8), .int .u8 (here 9), .int .u8 (here 10), .int .u8 (here 11), .int .u8 (here 12), .int .u8 (here 13), .int .u8 (here 14), .int .u8 (here 15), .int .u8 (o.s 0), .int .u8 (o.s 1), .int .u8 (o.s 2), .int .u8 (o.s 3), .int .u8 (o.s 4), .int .u8 (o.s 5), .int .u8 (o.s 6), .int .u8 (o.s 7), .int .u8 (o.s 8), .int .u8 (o.s 9), .int .u8 (o.s 10), .int .u8 (o.s 11), .int .u8 (o.s 12), .int .u8 (o.s 13), .int .u8 (o.s 14), .int .u8 (o.s 15)] 25 := Own.cast hw4.own (by kernel_rfl)
        have hzhw4 := hw4.same
        refine VL_pure 3 [4, 5] [(4, .pointer (some ⟨b3, 0, none⟩)), (5, .bool true)] (by kernel_rfl) rfl ?_
        refine VL_end (by kernel_rfl) ?_
        refine VQ_next ?_
        refine VC_ret ?_
        refine VQ_retC1T1 (T := 25) (.agg #[.int .i64 o.k, .int .u8 o.d, .bool false, .int .u32 o.tg, .int .u8 (here 0), .int .u8 (here 1), .int .u8 (here 2), .int .u8 (here 3), .int .u8 (here 4), .int .u8 (here 5), .int .u8 (here 6), .int .u8 (here 7), .int .u8 (here 8), .int .u8 (here 9), .int .u8 (here 10), .int .u8 (here 11), .int .u8 (here 12), .int .u8 (here 13), .int .u8 (here 14), .int .u8 (here 15), .int .u8 (o.s 0), .int .u8 (o.s 1), .int .u8 (o.s 2), .int .u8 (o.s 3), .int .u8 (o.s 4), .int .u8 (o.s 5), .int .u8 (o.s 6), .int .u8 (o.s 7), .int .u8 (o.s 8), .int .u8 (o.s 9), .int .u8 (o.s 10), .int .u8 (o.s 11), .int .u8 (o.s 12), .int .u8 (o.s 13), .int .u8 (o.s 14), .int .u8 (o.s 15)]) (.bool true) (.inr rfl) rfl rfl rfl (Loads.ownL ho7 (n := 36) (by kernel_rfl) (by kernel_rfl) (by kernel_rfl)) ?_
        exact ⟨reply_fin (b := true) (v := ⟨o.k, o.d, false, o.tg, here, o.s⟩) (by simp [replyB, *]) rfl, hS⟩
      · refine VT_eq [(13, .bool true), (12, .bool true), (11, .agg #[.int .u8 (here 0), .int .u8 (here 1), .int .u8 (here 2), .int .u8 (here 3), .int .u8 (here 4), .int .u8 (here 5), .int .u8 (here 6), .int .u8 (here 7), .int .u8 (here 8), .int .u8 (here 9), .int .u8 (here 10), .int .u8 (here 11), .int .u8 (here 12), .int .u8 (here 13), .int .u8 (here 14), .int .u8 (here 15)]), (10, .agg #[.int .u8 (o.p 0), .int .u8 (o.p 1), .int .u8 (o.p 2), .int .u8 (o.p 3), .int .u8 (o.p 4), .int .u8 (o.p 5), .int .u8 (o.p 6), .int .u8 (o.p 7), .int .u8 (o.p 8), .int .u8 (o.p 9), .int .u8 (o.p 10), .int .u8 (o.p 11), .int .u8 (o.p 12), .int .u8 (o.p 13), .int .u8 (o.p 14), .int .u8 (o.p 15)]), (9, .pointer (some ⟨b1, 4, none⟩)), (8, .bool false), (7, .bool false), (6, .bool false), (5, .bool true), (4, .pointer (some ⟨b1, 2, none⟩)), (3, .bool false), (2, .bool false), (1, .int .i64 o.k), (0, .pointer (some ⟨b1, 0, none⟩))] (by simp only [hg3, Bool.not_true, Bool.not_false]) ?_
        try simp only [bne_iff_ne, beq_iff_eq, decide_eq_true_eq, decide_eq_false_iff_not, bne_eq_false_iff_eq, beq_eq_false_iff_ne, ne_eq] at hg3
        refine VT_pures 1 (kn' := [(14, .pointer (some ⟨b1, 4, none⟩)), (13, .bool true), (12, .bool true), (11, .agg #[.int .u8 (here 0), .int .u8 (here 1), .int .u8 (here 2), .int .u8 (here 3), .int .u8 (here 4), .int .u8 (here 5), .int .u8 (here 6), .int .u8 (here 7), .int .u8 (here 8), .int .u8 (here 9), .int .u8 (here 10), .int .u8 (here 11), .int .u8 (here 12), .int .u8 (here 13), .int .u8 (here 14), .int .u8 (here 15)]), (10, .agg #[.int .u8 (o.p 0), .int .u8 (o.p 1), .int .u8 (o.p 2), .int .u8 (o.p 3), .int .u8 (o.p 4), .int .u8 (o.p 5), .int .u8 (o.p 6), .int .u8 (o.p 7), .int .u8 (o.p 8), .int .u8 (o.p 9), .int .u8 (o.p 10), .int .u8 (o.p 11), .int .u8 (o.p 12), .int .u8 (o.p 13), .int .u8 (o.p 14), .int .u8 (o.p 15)]), (9, .pointer (some ⟨b1, 4, none⟩)), (8, .bool false), (7, .bool false), (6, .bool false), (5, .bool true), (4, .pointer (some ⟨b1, 2, none⟩)), (3, .bool false), (2, .bool false), (1, .int .i64 o.k), (0, .pointer (some ⟨b1, 0, none⟩))]) (by kernel_rfl) ?_
        refine VT_load (d := 21) (t := 23) (a := ⟨b1, 4, none⟩) (v := .agg #[.int .u8 (o.p 0), .int .u8 (o.p 1), .int .u8 (o.p 2), .int .u8 (o.p 3), .int .u8 (o.p 4), .int .u8 (o.p 5), .int .u8 (o.p 6), .int .u8 (o.p 7), .int .u8 (o.p 8), .int .u8 (o.p 9), .int .u8 (o.p 10), .int .u8 (o.p 11), .int .u8 (o.p 12), .int .u8 (o.p 13), .int .u8 (o.p 14), .int .u8 (o.p 15)]) (by kernel_rfl) (by kernel_rfl) ?_ ?_
        · intro w15 hr5
          replace hS := Step.transNew hS hr5 (fun i hi hG => by (try simp only at hG); omega)
          replace ho1 := ho1.step hr5 (by (try simp only); omega)
          replace ho2 := ho2.step hr5 (by (try simp only); omega)
          replace ho3 := ho3.step hr5 (by (try simp only); omega)
          exact (Loads.ownL ho1 (n := 16) (by kernel_rfl) (by kernel_rfl) (by kernel_rfl))
        refine VT_chain (by kernel_rfl) ?_
        intro w16 hs4
        have hzhs4 := hs4.size
        replace hS := Step.trans hS hs4
        replace ho1 := ho1.no hs4
        replace ho2 := ho2.no hs4
        replace ho3 := ho3.no hs4
        have hzs5 := hS.size
        have hzl7 := ho1.lt
        have hzl8 := ho2.lt
        have hzl9 := ho3.lt
        refine VTc_call (d := 22) (f := 28) (by kernel_rfl) (by kernel_rfl) (by kernel_rfl) Try.call28 (everywhere_any _) ?_ ?_
        · rintro _ w17 ⟨rfl, hc1⟩
          exact Step.mono hc1 (by intro i hi; first | exact hi.elim | ((try simp only at hi ⊢); omega))
        rintro _ w17 ⟨rfl, hc1⟩
        have hzhc1 := (hc1).size
        replace hS := Step.trans hS hc1
        replace ho1 := ho1.no hc1
        replace ho2 := ho2.no hc1
        replace ho3 := ho3.no hc1
        refine VT_end ?_
        intro w18 hs5
        replace hS := Step.trans hS hs5
        replace ho1 := ho1.no hs5
        replace ho2 := ho2.no hs5
        replace ho3 := ho3.no hs5
        refine VL_keep [2, 3, 4, 14, 19, 21, 22] [(2, .pointer (some ⟨b1, 0, none⟩)), (3, .pointer (some ⟨b2, 0, none⟩)), (4, .pointer (some ⟨b3, 0, none⟩)), (14, .bool false), (19, .bool true), (21, .agg #[.int .u8 (o.p 0), .int .u8 (o.p 1), .int .u8 (o.p 2), .int .u8 (o.p 3), .int .u8 (o.p 4), .int .u8 (o.p 5), .int .u8 (o.p 6), .int .u8 (o.p 7), .int .u8 (o.p 8), .int .u8 (o.p 9), .int .u8 (o.p 10), .int .u8 (o.p 11), .int .u8 (o.p 12), .int .u8 (o.p 13), .int .u8 (o.p 14), .int .u8 (o.p 15)]), (22, .agg #[.int .u8 (ones 0), .int .u8 (ones 1), .int .u8 (ones 2), .int .u8 (ones 3), .int .u8 (ones 4), .int .u8 (ones 5), .int .u8 (ones 6), .int .u8 (ones 7), .int .u8 (ones 8), .int .u8 (ones 9), .int .u8 (ones 10), .int .u8 (ones 11), .int .u8 (ones 12), .int .u8 (ones 13), .int .u8 (ones 14), .int .u8 (ones 15)])] (by kernel_rfl) ?_
        refine VL_agEq (d := 23) (dd := 9) (ls := (rep 16 [.int .u8])) (pos := false) (t := 23) (xs := #[.int .u8 (o.p 0), .int .u8 (o.p 1), .int .u8 (o.p 2), .int .u8 (o.p 3), .int .u8 (o.p 4), .int .u8 (o.p 5), .int .u8 (o.p 6), .int .u8 (o.p 7), .int .u8 (o.p 8), .int .u8 (o.p 9), .int .u8 (o.p 10), .int .u8 (o.p 11), .int .u8 (o.p 12), .int .u8 (o.p 13), .int .u8 (o.p 14), .int .u8 (o.p 15)]) (ys := #[.int .u8 (ones 0), .int .u8 (ones 1), .int .u8 (ones 2), .int .u8 (ones 3), .int .u8 (ones 4), .int .u8 (ones 5), .int .u8 (ones 6), .int .u8 (ones 7), .int .u8 (ones 8), .int .u8 (ones 9), .int .u8 (ones 10), .int .u8 (ones 11), .int .u8 (ones 12), .int .u8 (ones 13), .int .u8 (ones 14), .int .u8 (ones 15)]) (by kernel_rfl) (by kernel_rfl) (by kernel_rfl) (by kernel_rfl) (by first | exact ⟨⟨_, rfl⟩, ⟨_, rfl⟩, ⟨_, rfl⟩, ⟨_, rfl⟩, ⟨_, rfl⟩, ⟨_, rfl⟩, ⟨_, rfl⟩, ⟨_, rfl⟩, ⟨_, rfl⟩, ⟨_, rfl⟩, ⟨_, rfl⟩, ⟨_, rfl⟩, ⟨_, rfl⟩, ⟨_, rfl⟩, ⟨_, rfl⟩, ⟨_, rfl⟩, trivial⟩ | trivial) (by first | exact ⟨⟨_, rfl⟩, ⟨_, rfl⟩, ⟨_, rfl⟩, ⟨_, rfl⟩, ⟨_, rfl⟩, ⟨_, rfl⟩, ⟨_, rfl⟩, ⟨_, rfl⟩, ⟨_, rfl⟩, ⟨_, rfl⟩, ⟨_, rfl⟩, ⟨_, rfl⟩, ⟨_, rfl⟩, ⟨_, rfl⟩, ⟨_, rfl⟩, ⟨_, rfl⟩, trivial⟩ | trivial) (!(plEq o.p ones)) (by rfl) ?_
        refine VL_pure 20 [2, 3, 4, 25] [(2, .pointer (some ⟨b1, 0, none⟩)), (3, .pointer (some ⟨b2, 0, none⟩)), (4, .pointer (some ⟨b3, 0, none⟩)), (25, .bool (!(plEq o.p ones)))] (by kernel_rfl) rfl ?_
        refine VL_end (by kernel_rfl) ?_
        refine VQ_next ?_
        refine VC_cond (!(plEq o.p ones)) (by kernel_rfl) (fun h1 => ?_) (fun h1 => ?_)
        · try simp only [Bool.and_eq_true, Bool.or_eq_true, decide_eq_true_eq, Bool.not_eq_true', decide_eq_false_iff_not, Bool.and_eq_false_iff, Bool.or_eq_false_iff, beq_iff_eq, bne_iff_ne, beq_eq_false_iff_ne, bne_eq_false_iff_eq, Bool.not_eq_eq_eq_not, Bool.not_true, Bool.not_false] at h1
          refine VC_seq ?_
          refine VC_region ?_
          refine VL_pure 1 [4, 26] [(4, .pointer (some ⟨b3, 0, none⟩)), (26, .agg #[.int .i64 0, .int .u8 0, .bool false, .int .u32 0, .int .u8 0, .int .u8 0, .int .u8 0, .int .u8 0, .int .u8 0, .int .u8 0, .int .u8 0, .int .u8 0, .int .u8 0, .int .u8 0, .int .u8 0, .int .u8 0, .int .u8 0, .int .u8 0, .int .u8 0, .int .u8 0, .int .u8 0, .int .u8 0, .int .u8 0, .int .u8 0, .int .u8 0, .int .u8 0, .int .u8 0, .int .u8 0, .int .u8 0, .int .u8 0, .int .u8 0, .int .u8 0, .int .u8 0, .int .u8 0, .int .u8 0, .int .u8 0])] (by kernel_rfl) rfl ?_
          refine VL_store (b := b3) (o := 0) (vs := [.int .i64 0, .int .u8 0, .bool false, .int .u32 0, .int .u8 0, .int .u8 0, .int .u8 0, .int .u8 0, .int .u8 0, .int .u8 0, .int .u8 0, .int .u8 0, .int .u8 0, .int .u8 0, .int .u8 0, .int .u8 0, .int .u8 0, .int .u8 0, .int .u8 0, .int .u8 0, .int .u8 0, .int .u8 0, .int .u8 0, .int .u8 0, .int .u8 0, .int .u8 0, .int .u8 0, .int .u8 0, .int .u8 0, .int .u8 0, .int .u8 0, .int .u8 0, .int .u8 0, .int .u8 0, .int .u8 0, .int .u8 0]) (by kernel_rfl) (by kernel_rfl) ho3 (Nat.le_of_ble_eq_true (by kernel_rfl)) ?_
          intro w19 hw5
          replace hS := Step.transNew hS hw5.step (fun _ _ _ => by omega)
          replace ho1 := ho1.step hw5.step (show ¬ b1 = b3 by omega)
          replace ho2 := ho2.step hw5.step (show ¬ b2 = b3 by omega)
          have ho8 : Own w19 b3 #[.int .i64 0, .int .u8 0, .bool false, .int .u32 0, .int .u8 0, .int .u8 0, .int .u8 0, .int .u8 0, .int .u8 0, .int .u8 0, .int .u8 0, .int .u8 0, .int .u8 0, .int .u8 0, .int .u8 0, .int .u8 0, .int .u8 0, .int .u8 0, .int .u8 0, .int .u8 0, .int .u8 0, .int .u8 0, .int .u8 0, .int .u8 0, .int .u8 0, .int .u8 0, .int .u8 0, .int .u8 0, .int .u8 0, .int .u8 0, .int .u8 0, .int .u8 0, .int .u8 0, .int .u8 0, .int .u8 0, .int .u8 0] 25 := Own.cast hw5.own (by kernel_rfl)
          have hzhw5 := hw5.same
          refine VL_pure 3 [4, 5] [(4, .pointer (some ⟨b3, 0, none⟩)), (5, .bool false)] (by kernel_rfl) rfl ?_
          refine VL_end (by kernel_rfl) ?_
          refine VQ_next ?_
          refine VC_ret ?_
          refine VQ_then_ret ?_
          refine VQ_retC1T1 (T := 25) (.agg #[.int .i64 0, .int .u8 0, .bool false, .int .u32 0, .int .u8 0, .int .u8 0, .int .u8 0, .int .u8 0, .int .u8 0, .int .u8 0, .int .u8 0, .int .u8 0, .int .u8 0, .int .u8 0, .int .u8 0, .int .u8 0, .int .u8 0, .int .u8 0, .int .u8 0, .int .u8 0, .int .u8 0, .int .u8 0, .int .u8 0, .int .u8 0, .int .u8 0, .int .u8 0, .int .u8 0, .int .u8 0, .int .u8 0, .int .u8 0, .int .u8 0, .int .u8 0, .int .u8 0, .int .u8 0, .int .u8 0, .int .u8 0]) (.bool false) (.inr rfl) rfl rfl rfl (Loads.ownL ho8 (n := 36) (by kernel_rfl) (by kernel_rfl) (by kernel_rfl)) ?_
          exact ⟨reply_fin (b := false) (v := zeroO) (by simp [replyB, *]) rfl, hS⟩
        · try simp only [Bool.and_eq_true, Bool.or_eq_true, decide_eq_true_eq, Bool.not_eq_true', decide_eq_false_iff_not, Bool.and_eq_false_iff, Bool.or_eq_false_iff, beq_iff_eq, bne_iff_ne, beq_eq_false_iff_ne, bne_eq_false_iff_eq, Bool.not_eq_eq_eq_not, Bool.not_true, Bool.not_false] at h1
          refine VC_skip ?_
          refine VQ_next ?_
          refine VC_seq ?_
          refine VC_region ?_
          refine VL_pure 1 [2, 3, 4, 27] [(2, .pointer (some ⟨b1, 0, none⟩)), (3, .pointer (some ⟨b2, 0, none⟩)), (4, .pointer (some ⟨b3, 0, none⟩)), (27, .pointer (some ⟨b1, 2, none⟩))] (by kernel_rfl) rfl ?_
          refine VL_store (b := b1) (o := 2) (vs := [.bool false]) (by kernel_rfl) (by kernel_rfl) ho1 (Nat.le_of_ble_eq_true (by kernel_rfl)) ?_
          intro w20 hw6
          replace hS := Step.transNew hS hw6.step (fun _ _ _ => by omega)
          replace ho2 := ho2.step hw6.step (show ¬ b2 = b1 by omega)
          replace ho3 := ho3.step hw6.step (show ¬ b3 = b1 by omega)
          have ho9 : Own w20 b1 #[.int .i64 o.k, .int .u8 o.d, .bool false, .int .u32 o.tg, .int .u8 (o.p 0), .int .u8 (o.p 1), .int .u8 (o.p 2), .int .u8 (o.p 3), .int .u8 (o.p 4), .int .u8 (o.p 5), .int .u8 (o.p 6), .int .u8 (o.p 7), .int .u8 (o.p 8), .int .u8 (o.p 9), .int .u8 (o.p 10), .int .u8 (o.p 11), .int .u8 (o.p 12), .int .u8 (o.p 13), .int .u8 (o.p 14), .int .u8 (o.p 15), .int .u8 (o.s 0), .int .u8 (o.s 1), .int .u8 (o.s 2), .int .u8 (o.s 3), .int .u8 (o.s 4), .int .u8 (o.s 5), .int .u8 (o.s 6), .int .u8 (o.s 7), .int .u8 (o.s 8), .int .u8 (o.s 9), .int .u8 (o.s 10), .int .u8 (o.s 11), .int .u8 (o.s 12), .int .u8 (o.s 13), .int .u8 (o.s 14), .int .u8 (o.s 15)] 25 := Own.cast hw6.own (by kernel_rfl)
          have hzhw6 := hw6.same
          refine VL_end (by kernel_rfl) ?_
          refine VQ_next ?_
          refine VC_seq ?_
          refine VC_region ?_
          refine VL_load (d := 28) (t := 23) (a := ⟨b2, 0, none⟩) (v := .agg #[.int .u8 (here 0), .int .u8 (here 1), .int .u8 (here 2), .int .u8 (here 3), .int .u8 (here 4), .int .u8 (here 5), .int .u8 (here 6), .int .u8 (here 7), .int .u8 (here 8), .int .u8 (here 9), .int .u8 (here 10), .int .u8 (here 11), .int .u8 (here 12), .int .u8 (here 13), .int .u8 (here 14), .int .u8 (here 15)]) (by kernel_rfl) (by kernel_rfl) (Loads.ownL ho2 (n := 16) (by kernel_rfl) (by kernel_rfl) (by kernel_rfl)) ?_
          refine VL_pure 2 [2, 4, 28, 29] [(2, .pointer (some ⟨b1, 0, none⟩)), (4, .pointer (some ⟨b3, 0, none⟩)), (28, .agg #[.int .u8 (here 0), .int .u8 (here 1), .int .u8 (here 2), .int .u8 (here 3), .int .u8 (here 4), .int .u8 (here 5), .int .u8 (here 6), .int .u8 (here 7), .int .u8 (here 8), .int .u8 (here 9), .int .u8 (here 10), .int .u8 (here 11), .int .u8 (here 12), .int .u8 (here 13), .int .u8 (here 14), .int .u8 (here 15)]), (29, .pointer (some ⟨b1, 4, none⟩))] (by kernel_rfl) rfl ?_
          refine VL_store (b := b1) (o := 4) (vs := [.int .u8 (here 0), .int .u8 (here 1), .int .u8 (here 2), .int .u8 (here 3), .int .u8 (here 4), .int .u8 (here 5), .int .u8 (here 6), .int .u8 (here 7), .int .u8 (here 8), .int .u8 (here 9), .int .u8 (here 10), .int .u8 (here 11), .int .u8 (here 12), .int .u8 (here 13), .int .u8 (here 14), .int .u8 (here 15)]) (by kernel_rfl) (by kernel_rfl) ho9 (Nat.le_of_ble_eq_true (by kernel_rfl)) ?_
          intro w21 hw7
          replace hS := Step.transNew hS hw7.step (fun _ _ _ => by omega)
          replace ho2 := ho2.step hw7.step (show ¬ b2 = b1 by omega)
          replace ho3 := ho3.step hw7.step (show ¬ b3 = b1 by omega)
          have ho10 : Own w21 b1 #[.int .i64 o.k, .int .u8 o.d, .bool false, .int .u32 o.tg, .int .u8 (here 0), .int .u8 (here 1), .int .u8 (here 2), .int .u8 (here 3), .int .u8 (here 4), .int .u8 (here 5), .int .u8 (here 6), .int .u8 (here 7), .int .u8 (here 8), .int .u8 (here 9), .int .u8 (here 10), .int .u8 (here 11), .int .u8 (here 12), .int .u8 (here 13), .int .u8 (here 14), .int .u8 (here 15), .int .u8 (o.s 0), .int .u8 (o.s 1), .int .u8 (o.s 2), .int .u8 (o.s 3), .int .u8 (o.s 4), .int .u8 (o.s 5), .int .u8 (o.s 6), .int .u8 (o.s 7), .int .u8 (o.s 8), .int .u8 (o.s 9), .int .u8 (o.s 10), .int .u8 (o.s 11), .int .u8 (o.s 12), .int .u8 (o.s 13), .int .u8 (o.s 14), .int .u8 (o.s 15)] 25 := Own.cast hw7.own (by kernel_rfl)
          have hzhw7 := hw7.same
          refine VL_end (by kernel_rfl) ?_
          refine VQ_next ?_
          refine VC_seq ?_
          refine VC_region ?_
          refine VL_load (d := 30) (t := 25) (a := ⟨b1, 0, none⟩) (v := .agg #[.int .i64 o.k, .int .u8 o.d, .bool false, .int .u32 o.tg, .int .u8 (here 0), .int .u8 (here 1), .int .u8 (here 2), .int .u8 (here 3), .int .u8 (here 4), .int .u8 (here 5), .int .u8 (here 6), .int .u8 (here 7), .int .u8 (here 8), .int .u8 (here 9), .int .u8 (here 10), .int .u8 (here 11), .int .u8 (here 12), .int .u8 (here 13), .int .u8 (here 14), .int .u8 (here 15), .int .u8 (o.s 0), .int .u8 (o.s 1), .int .u8 (o.s 2), .int .u8 (o.s 3), .int .u8 (o.s 4), .int .u8 (o.s 5), .int .u8 (o.s 6), .int .u8 (o.s 7), .int .u8 (o.s 8), .int .u8 (o.s 9), .int .u8 (o.s 10), .int .u8 (o.s 11), .int .u8 (o.s 12), .int .u8 (o.s 13), .int .u8 (o.s 14), .int .u8 (o.s 15)]) (by kernel_rfl) (by kernel_rfl) (Loads.ownL ho10 (n := 36) (by kernel_rfl) (by kernel_rfl) (by kernel_rfl)) ?_
          refine VL_store (b := b3) (o := 0) (vs := [.int .i64 o.k, .int .u8 o.d, .bool false, .int .u32 o.tg, .int .u8 (here 0), .int .u8 (here 1), .int .u8 (here 2), .int .u8 (here 3), .int .u8 (here 4), .int .u8 (here 5), .int .u8 (here 6), .int .u8 (here 7), .int .u8 (here 8), .int .u8 (here 9), .int .u8 (here 10), .int .u8 (here 11), .int .u8 (here 12), .int .u8 (here 13), .int .u8 (here 14), .int .u8 (here 15), .int .u8 (o.s 0), .int .u8 (o.s 1), .int .u8 (o.s 2), .int .u8 (o.s 3), .int .u8 (o.s 4), .int .u8 (o.s 5), .int .u8 (o.s 6), .int .u8 (o.s 7), .int .u8 (o.s 8), .int .u8 (o.s 9), .int .u8 (o.s 10), .int .u8 (o.s 11), .int .u8 (o.s 12), .int .u8 (o.s 13), .int .u8 (o.s 14), .int .u8 (o.s 15)]) (by kernel_rfl) (by kernel_rfl) ho3 (Nat.le_of_ble_eq_true (by kernel_rfl)) ?_
          intro w22 hw8
          replace hS := Step.transNew hS hw8.step (fun _ _ _ => by omega)
          replace ho2 := ho2.step hw8.step (show ¬ b2 = b3 by omega)
          replace ho10 := ho10.step hw8.step (show ¬ b1 = b3 by omega)
          have ho11 : Own w22 b3 #[.int .i64 o.k, .int .u8 o.d, .bool false, .int .u32 o.tg, .int .u8 (here 0), .int .u8 (here 1), .int .u8 (here 2), .int .u8 (here 3), .int .u8 (here 4), .int .u8 (here 5), .int .u8 (here 6), .int .u8 (here 7), .int .u8 (here 8), .int .u8 (here 9), .int .u8 (here 10), .int .u8 (here 11), .int .u8 (here 12), .int .u8 (here 13), .int .u8 (here 14), .int .u8 (here 15), .int .u8 (o.s 0), .int .u8 (o.s 1), .int .u8 (o.s 2), .int .u8 (o.s 3), .int .u8 (o.s 4), .int .u8 (o.s 5), .int .u8 (o.s 6), .int .u8 (o.s 7), .int .u8 (o.s 8), .int .u8 (o.s 9), .int .u8 (o.s 10), .int .u8 (o.s 11), .int .u8 (o.s 12), .int .u8 (o.s 13), .int .u8 (o.s 14), .int .u8 (o.s 15)] 25 := Own.cast hw8.own (by kernel_rfl)
          have hzhw8 := hw8.same
          refine VL_pure 3 [4, 5] [(4, .pointer (some ⟨b3, 0, none⟩)), (5, .bool true)] (by kernel_rfl) rfl ?_
          refine VL_end (by kernel_rfl) ?_
          refine VQ_next ?_
          refine VC_ret ?_
          refine VQ_retC1T1 (T := 25) (.agg #[.int .i64 o.k, .int .u8 o.d, .bool false, .int .u32 o.tg, .int .u8 (here 0), .int .u8 (here 1), .int .u8 (here 2), .int .u8 (here 3), .int .u8 (here 4), .int .u8 (here 5), .int .u8 (here 6), .int .u8 (here 7), .int .u8 (here 8), .int .u8 (here 9), .int .u8 (here 10), .int .u8 (here 11), .int .u8 (here 12), .int .u8 (here 13), .int .u8 (here 14), .int .u8 (here 15), .int .u8 (o.s 0), .int .u8 (o.s 1), .int .u8 (o.s 2), .int .u8 (o.s 3), .int .u8 (o.s 4), .int .u8 (o.s 5), .int .u8 (o.s 6), .int .u8 (o.s 7), .int .u8 (o.s 8), .int .u8 (o.s 9), .int .u8 (o.s 10), .int .u8 (o.s 11), .int .u8 (o.s 12), .int .u8 (o.s 13), .int .u8 (o.s 14), .int .u8 (o.s 15)]) (.bool true) (.inr rfl) rfl rfl rfl (Loads.ownL ho11 (n := 36) (by kernel_rfl) (by kernel_rfl) (by kernel_rfl)) ?_
          exact ⟨reply_fin (b := true) (v := ⟨o.k, o.d, false, o.tg, here, o.s⟩) (by simp [replyB, *]) rfl, hS⟩
    · refine VT_eq [(8, .bool true), (7, .bool true), (6, .bool true), (5, .bool false), (4, .pointer (some ⟨b1, 2, none⟩)), (3, .bool false), (2, .bool false), (1, .int .i64 o.k), (0, .pointer (some ⟨b1, 0, none⟩))] (by simp only [hg2, Bool.not_true, Bool.not_false]) ?_
      try simp only [bne_iff_ne, beq_iff_eq, decide_eq_true_eq, decide_eq_false_iff_not, bne_eq_false_iff_eq, beq_eq_false_iff_ne, ne_eq] at hg2
      refine VT_pures 8 (kn' := [(16, undef), (15, undef), (14, undef), (13, undef), (12, undef), (11, undef), (10, undef), (9, undef), (8, .bool true), (7, .bool true), (6, .bool true), (5, .bool false), (4, .pointer (some ⟨b1, 2, none⟩)), (3, .bool false), (2, .bool false), (1, .int .i64 o.k), (0, .pointer (some ⟨b1, 0, none⟩))]) (by kernel_rfl) ?_
      refine VT_end ?_
      intro w23 hs6
      replace hS := Step.trans hS hs6
      replace ho1 := ho1.no hs6
      replace ho2 := ho2.no hs6
      replace ho3 := ho3.no hs6
      refine VL_keep [2, 3, 4, 14, 19, 21, 22] [(2, .pointer (some ⟨b1, 0, none⟩)), (3, .pointer (some ⟨b2, 0, none⟩)), (4, .pointer (some ⟨b3, 0, none⟩)), (14, .bool true), (19, undef), (21, undef), (22, undef)] (by kernel_rfl) ?_
      refine VL_pure 20 [2, 3, 4, 25] [(2, .pointer (some ⟨b1, 0, none⟩)), (3, .pointer (some ⟨b2, 0, none⟩)), (4, .pointer (some ⟨b3, 0, none⟩)), (25, .bool true)] (by kernel_rfl) rfl ?_
      refine VL_end (by kernel_rfl) ?_
      refine VQ_next ?_
      refine VC_true (by kernel_rfl) ?_
      refine VC_seq ?_
      refine VC_region ?_
      refine VL_pure 1 [4, 26] [(4, .pointer (some ⟨b3, 0, none⟩)), (26, .agg #[.int .i64 0, .int .u8 0, .bool false, .int .u32 0, .int .u8 0, .int .u8 0, .int .u8 0, .int .u8 0, .int .u8 0, .int .u8 0, .int .u8 0, .int .u8 0, .int .u8 0, .int .u8 0, .int .u8 0, .int .u8 0, .int .u8 0, .int .u8 0, .int .u8 0, .int .u8 0, .int .u8 0, .int .u8 0, .int .u8 0, .int .u8 0, .int .u8 0, .int .u8 0, .int .u8 0, .int .u8 0, .int .u8 0, .int .u8 0, .int .u8 0, .int .u8 0, .int .u8 0, .int .u8 0, .int .u8 0, .int .u8 0])] (by kernel_rfl) rfl ?_
      refine VL_store (b := b3) (o := 0) (vs := [.int .i64 0, .int .u8 0, .bool false, .int .u32 0, .int .u8 0, .int .u8 0, .int .u8 0, .int .u8 0, .int .u8 0, .int .u8 0, .int .u8 0, .int .u8 0, .int .u8 0, .int .u8 0, .int .u8 0, .int .u8 0, .int .u8 0, .int .u8 0, .int .u8 0, .int .u8 0, .int .u8 0, .int .u8 0, .int .u8 0, .int .u8 0, .int .u8 0, .int .u8 0, .int .u8 0, .int .u8 0, .int .u8 0, .int .u8 0, .int .u8 0, .int .u8 0, .int .u8 0, .int .u8 0, .int .u8 0, .int .u8 0]) (by kernel_rfl) (by kernel_rfl) ho3 (Nat.le_of_ble_eq_true (by kernel_rfl)) ?_
      intro w24 hw9
      replace hS := Step.transNew hS hw9.step (fun _ _ _ => by omega)
      replace ho1 := ho1.step hw9.step (show ¬ b1 = b3 by omega)
      replace ho2 := ho2.step hw9.step (show ¬ b2 = b3 by omega)
      have ho12 : Own w24 b3 #[.int .i64 0, .int .u8 0, .bool false, .int .u32 0, .int .u8 0, .int .u8 0, .int .u8 0, .int .u8 0, .int .u8 0, .int .u8 0, .int .u8 0, .int .u8 0, .int .u8 0, .int .u8 0, .int .u8 0, .int .u8 0, .int .u8 0, .int .u8 0, .int .u8 0, .int .u8 0, .int .u8 0, .int .u8 0, .int .u8 0, .int .u8 0, .int .u8 0, .int .u8 0, .int .u8 0, .int .u8 0, .int .u8 0, .int .u8 0, .int .u8 0, .int .u8 0, .int .u8 0, .int .u8 0, .int .u8 0, .int .u8 0] 25 := Own.cast hw9.own (by kernel_rfl)
      have hzhw9 := hw9.same
      refine VL_pure 3 [4, 5] [(4, .pointer (some ⟨b3, 0, none⟩)), (5, .bool false)] (by kernel_rfl) rfl ?_
      refine VL_end (by kernel_rfl) ?_
      refine VQ_next ?_
      refine VC_ret ?_
      refine VQ_then_ret ?_
      refine VQ_retC1T1 (T := 25) (.agg #[.int .i64 0, .int .u8 0, .bool false, .int .u32 0, .int .u8 0, .int .u8 0, .int .u8 0, .int .u8 0, .int .u8 0, .int .u8 0, .int .u8 0, .int .u8 0, .int .u8 0, .int .u8 0, .int .u8 0, .int .u8 0, .int .u8 0, .int .u8 0, .int .u8 0, .int .u8 0, .int .u8 0, .int .u8 0, .int .u8 0, .int .u8 0, .int .u8 0, .int .u8 0, .int .u8 0, .int .u8 0, .int .u8 0, .int .u8 0, .int .u8 0, .int .u8 0, .int .u8 0, .int .u8 0, .int .u8 0, .int .u8 0]) (.bool false) (.inr rfl) rfl rfl rfl (Loads.ownL ho12 (n := 36) (by kernel_rfl) (by kernel_rfl) (by kernel_rfl)) ?_
      exact ⟨reply_fin (b := false) (v := zeroO) (by simp [replyB, *]) rfl, hS⟩

end Go.Proofs.Yteipakmfiiccpaa
