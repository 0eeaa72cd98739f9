/- Layer 11: of a nil gather there is nothing. -/
import Derived.Test.YtgiefcolkohgkaaProg
import Derived.Test.YtgiefcolkohgkaaGa1
set_option linter.unusedVariables false
set_option linter.unusedSimpArgs false
namespace Go.Proofs.Ytgiefcolkohgkaa
open Go.Vc Go.RowKit

set_option maxRecDepth 100000 in
set_option maxHeartbeats 4000000 in
theorem take_nil (t : Int) (ps : List Int) (b : Bool) (w : World) :
    CV Try.prog 15 #[.pointer none, .int .i64 t, .agg (iA .u8 ps), .bool b] w (fun x w1 => x = .tuple #[.slice none 0 0, .int .u8 0, .int .i64 2] ∧ Step No w w1) := by
  have hS : Step No w w := Step.refl _ _
  refine CV_enter Try.f15 _ 68 [(0, .pointer none), (1, .int .i64 t), (2, .agg (iA .u8 ps)), (3, .bool b)] Try.func15 rfl rfl (by kernel_rfl) rfl ?_
  refine VC_seq ?_
  refine VC_region ?_
  have hzs1 := hS.size
  have hzs2 := hS.size
  refine VL_box (d := 6) (t := 28) (c := iA .u8 ps) (by kernel_rfl) (by kernel_rfl) ?_
  intro b1 w1 hn1
  replace hS := Step.trans hS (hn1.step No)
  have ho1 := hn1.own
  have hzhn1 := hn1.size
  have hqhn1 := hn1.eqb
  refine VL_pure 4 [0, 1, 3, 6] [(0, .pointer none), (1, .int .i64 t), (3, .bool b), (6, .pointer (some ⟨b1, 0, none⟩))] (by kernel_rfl) rfl ?_
  refine VL_end (by kernel_rfl) ?_
  refine VQ_next ?_
  refine VC_seq ?_
  refine VC_seq ?_
  refine VC_region ?_
  refine VL_pure 2 [0, 1, 3, 6, 15] [(0, .pointer none), (1, .int .i64 t), (3, .bool b), (6, .pointer (some ⟨b1, 0, none⟩)), (15, .bool true)] (by kernel_rfl) rfl ?_
  refine VL_end (by kernel_rfl) ?_
  refine VQ_next ?_
  refine VC_true (by kernel_rfl) ?_
  refine VC_seq ?_
  refine VC_region ?_
  refine VL_pure 3 [8, 9, 10] [(8, .slice none 0 0), (9, .int .u8 0), (10, .int .i64 2)] (by kernel_rfl) rfl ?_
  refine VL_end (by kernel_rfl) ?_
  refine VQ_next ?_
  refine VC_ret ?_
  refine VQ_then_ret ?_
  refine VQ_ret3 (.slice none 0 0) (.int .u8 0) (.int .i64 2) (.inr rfl) rfl rfl rfl rfl ?_
  exact ⟨rfl, hS⟩

set_option maxRecDepth 100000 in
set_option maxHeartbeats 4000000 in
theorem tick_nil (t : Int) (w : World) :
    CV Try.prog 13 #[.pointer none, .int .i64 t] w (fun x w1 => x = .bool false ∧ Step No w w1) := by
  have hS : Step No w w := Step.refl _ _
  refine CV_enter Try.f13 _ 30 [(0, .pointer none), (1, .int .i64 t)] Try.func13 rfl rfl (by kernel_rfl) rfl ?_
  refine VC_seq ?_
  refine VC_region ?_
  refine VL_pure 1 [0, 1] [(0, .pointer none), (1, .int .i64 t)] (by kernel_rfl) rfl ?_
  refine VL_end (by kernel_rfl) ?_
  refine VQ_next ?_
  refine VC_seq ?_
  refine VC_seq ?_
  have hs1 := drew_step w
  have hs1z : w.heap.size = w.drew.heap.size := rfl
  refine VC_text [[], [0], [0, 1], [0, 1, 2], [0, 1, 2, 3], [0, 1, 2, 3, 4], [0, 1, 2, 3, 4, 5], [0, 1, 2, 3, 4, 5, 6], [0, 1, 2, 3, 4, 5, 6, 7], [0, 1, 2, 3, 4, 5, 6, 7, 8], [0, 1, 2, 3, 4, 5, 6, 7, 8, 9], [0, 1, 2, 3, 4, 5, 6, 7, 8, 9, 10], [0, 1, 2, 3, 4, 5, 6, 7, 8, 9, 10], [0, 1, 2, 3, 4, 5, 6, 7, 8, 9, 10, 12], [0, 1, 2, 3, 4, 5, 6, 7, 8, 9, 10, 12, 13], [0, 1, 2, 3, 4, 5, 6, 7, 8, 9, 10, 12, 13, 14], [0, 1, 2, 3, 4, 5, 6, 7, 8, 9, 10, 11, 12, 13, 14, 15], [0, 1, 2, 3, 4, 5, 6, 7, 8, 9, 10], [0, 1, 2, 3, 4, 5, 6, 7, 8, 9, 10, 17], [0, 1, 2, 3, 4, 5, 6, 7, 8, 9, 10, 17, 18], [0, 1, 2, 3, 4, 5, 6, 7, 8, 9, 10, 17, 18, 19], [0, 1, 2, 3, 4, 5, 6, 7, 8, 9, 10, 11, 12, 13, 14, 15, 16, 17, 18, 19, 20], [0, 1, 2, 3, 4, 5, 6, 7, 8, 9, 10, 11, 12, 13, 14, 15, 16, 17, 18, 19, 20, 21]] 21 (fun x y => Step (fun k => w.heap.size ≤ k) x y) [] [0, 1, 2, 3, 4, 5, 6, 7, 8, 9, 10, 11, 12, 13, 14, 15, 16, 17, 18, 19, 20] (by kernel_rfl) (by kernel_rfl) (by kernel_rfl) (by kernel_rfl) (fun x => Step.refl _ x) (fun h k => Step.trans h k) Step.weak ?_
  have hzs1 := hS.size
  generalize w.drew = w1 at hs1 hs1z ⊢
  replace hS := Step.trans hS hs1
  refine VT_pures 21 (kn' := [(20, undef), (19, undef), (18, undef), (17, undef), (16, undef), (15, undef), (14, undef), (13, undef), (12, undef), (11, undef), (10, .bool true), (9, .bool true), (8, undef), (7, undef), (6, undef), (5, undef), (4, undef), (3, undef), (2, .bool true), (1, .bool true), (0, .pointer none)]) (by kernel_rfl) ?_
  refine VT_end ?_
  intro w2 hs2
  replace hS := Step.trans hS hs2
  refine VL_keep [0, 15, 21, 25] [(0, .pointer none), (15, .bool true), (21, undef), (25, undef)] (by kernel_rfl) ?_
  refine VL_pure 23 [0, 27] [(0, .pointer none), (27, .bool true)] (by kernel_rfl) rfl ?_
  refine VL_end (by kernel_rfl) ?_
  refine VQ_next ?_
  refine VC_true (by kernel_rfl) ?_
  refine VC_seq ?_
  refine VC_region ?_
  refine VL_pure 1 [4] [(4, .bool false)] (by kernel_rfl) rfl ?_
  refine VL_end (by kernel_rfl) ?_
  refine VQ_next ?_
  refine VC_ret ?_
  refine VQ_then_ret ?_
  refine VQ_ret1 (.bool false) (.inr rfl) rfl rfl ?_
  exact ⟨rfl, hS⟩

set_option maxRecDepth 100000 in
set_option maxHeartbeats 4000000 in
theorem parts_nil (w : World) :
    CV Try.prog 18 #[.pointer none] w (fun x w1 => x = .int .i64 0 ∧ Step No w w1) := by
  have hS : Step No w w := Step.refl _ _
  refine CV_enter Try.f18 _ 11 [(0, .pointer none)] Try.func18 rfl rfl (by kernel_rfl) rfl ?_
  refine VC_seq ?_
  refine VC_region ?_
  refine VL_pure 1 [0] [(0, .pointer none)] (by kernel_rfl) rfl ?_
  refine VL_end (by kernel_rfl) ?_
  refine VQ_next ?_
  refine VC_seq ?_
  refine VC_seq ?_
  refine VC_region ?_
  refine VL_pure 2 [0, 4] [(0, .pointer none), (4, .bool true)] (by kernel_rfl) rfl ?_
  refine VL_end (by kernel_rfl) ?_
  refine VQ_next ?_
  refine VC_true (by kernel_rfl) ?_
  refine VC_seq ?_
  refine VC_region ?_
  refine VL_pure 1 [2] [(2, .int .i64 0)] (by kernel_rfl) rfl ?_
  refine VL_end (by kernel_rfl) ?_
  refine VQ_next ?_
  refine VC_ret ?_
  refine VQ_then_ret ?_
  refine VQ_ret1 (.int .i64 0) (.inr rfl) rfl rfl ?_
  exact ⟨rfl, hS⟩

set_option maxRecDepth 100000 in
set_option maxHeartbeats 4000000 in
theorem lost_nil (w : World) :
    CV Try.prog 19 #[.pointer none] w (fun x w1 => x = .int .i64 0 ∧ Step No w w1) := by
  have hS : Step No w w := Step.refl _ _
  refine CV_enter Try.f19 _ 9 [(0, .pointer none)] Try.func19 rfl rfl (by kernel_rfl) rfl ?_
  refine VC_seq ?_
  refine VC_region ?_
  refine VL_pure 1 [0] [(0, .pointer none)] (by kernel_rfl) rfl ?_
  refine VL_end (by kernel_rfl) ?_
  refine VQ_next ?_
  refine VC_seq ?_
  refine VC_seq ?_
  refine VC_region ?_
  refine VL_pure 2 [0, 4] [(0, .pointer none), (4, .bool true)] (by kernel_rfl) rfl ?_
  refine VL_end (by kernel_rfl) ?_
  refine VQ_next ?_
  refine VC_true (by kernel_rfl) ?_
  refine VC_seq ?_
  refine VC_region ?_
  refine VL_pure 1 [2] [(2, .int .i64 0)] (by kernel_rfl) rfl ?_
  refine VL_end (by kernel_rfl) ?_
  refine VQ_next ?_
  refine VC_ret ?_
  refine VQ_then_ret ?_
  refine VQ_ret1 (.int .i64 0) (.inr rfl) rfl rfl ?_
  exact ⟨rfl, hS⟩

end Go.Proofs.Ytgiefcolkohgkaa
