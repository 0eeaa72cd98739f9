/- The law's same. -/
import Derived.Test.YtkimbomnbaogjaaProg
import Derived.Test.YtkimbomnbaogjaaAl17
set_option linter.unusedVariables false
set_option linter.unusedSimpArgs false
namespace Go.Proofs.Ytkimbomnbaogjaa
open Go.Vc Go.RowKit

set_option maxRecDepth 20000 in
set_option maxHeartbeats 1000000 in
theorem same_any (c g cap N : Nat) (f : Nat → Om) (w : World) (ha : OmsAt w c N f) (hb : OmsAt w g N f) (hN : N < 1000) :
    CV Try.prog 18 #[.slice (some ⟨c, 0, none⟩) N N, .slice (some ⟨g, 0, none⟩) N cap] w (fun x w1 => x = .bool true ∧ Step No w w1) := by
  have hS : Step No w w := Step.refl _ _
  refine CV_enter Try.f18 _ 26 [(0, .slice (some ⟨c, 0, none⟩) N N), (1, .slice (some ⟨g, 0, none⟩) N cap)] Try.func18 rfl rfl (by kernel_rfl) rfl ?_
  refine VC_seq ?_
  refine VC_region ?_
  refine VL_pure 1 [0, 1] [(0, .slice (some ⟨c, 0, none⟩) N N), (1, .slice (some ⟨g, 0, none⟩) N cap)] (by kernel_rfl) rfl ?_
  refine VL_end (by kernel_rfl) ?_
  refine VQ_next ?_
  refine VC_seq ?_
  refine VC_seq ?_
  refine VC_region ?_
  refine VL_pure 5 [0, 1, 10] [(0, .slice (some ⟨c, 0, none⟩) N N), (1, .slice (some ⟨g, 0, none⟩) N cap), (10, .bool (((N : Nat) : Int) != ((N : Nat) : Int)))] (by kernel_rfl) rfl ?_
  refine VL_end (by kernel_rfl) ?_
  refine VQ_next ?_
  refine VC_is (b := ((N : Nat) : Int) != ((N : Nat) : Int)) false (by kernel_rfl) (by simp) ?_
  refine VC_ite_false ?_
  refine VC_skip ?_
  refine VQ_next ?_
  refine VC_seq ?_
  refine VC_seq ?_
  refine VC_region ?_
  refine VL_pure 3 [0, 1, 12, 13] [(0, .slice (some ⟨c, 0, none⟩) N N), (1, .slice (some ⟨g, 0, none⟩) N cap), (12, .int .i64 ((N : Nat) : Int)), (13, .int .i64 0)] (by kernel_rfl) rfl ?_
  refine VL_end (by kernel_rfl) ?_
  refine VQ_next ?_
  refine VC_block ?_
  refine VC_loop (σ := Nat) (fun σs => [(0, .slice (some ⟨c, 0, none⟩) N N), (1, .slice (some ⟨g, 0, none⟩) N cap), (12, .int .i64 ((N : Nat) : Int)), (13, .int .i64 ((σs : Nat) : Int))]) (fun σs wr => σs ≤ N ∧ Step No w wr) (fun σs wr => N - σs) 0 ⟨rfl, rfl, rfl, rfl, trivial⟩ ?_ ?_
  · exact ⟨Nat.zero_le _, hS⟩
  rintro k wr ⟨hk0, hS⟩
  try dsimp only at hk0 hS ⊢
  refine VC_seq ?_
  refine VC_region ?_
  refine VL_pure 1 [0, 1, 12, 13, 14] [(0, .slice (some ⟨c, 0, none⟩) N N), (1, .slice (some ⟨g, 0, none⟩) N cap), (12, .int .i64 ((N : Nat) : Int)), (13, .int .i64 ((k : Nat) : Int)), (14, .bool (decide (((k : Nat) : Int) < ((N : Nat) : Int))))] (by kernel_rfl) rfl ?_
  refine VL_end (by kernel_rfl) ?_
  refine VQ_next ?_
  refine VC_seq ?_
  refine VC_dec (((k : Nat) : Int) < ((N : Nat) : Int)) (by kernel_rfl) (fun h1 => ?_) (fun h1 => ?_)
  · refine VC_skip ?_
    refine VQ_next ?_
    refine VC_seq ?_
    refine VC_block ?_
    refine VC_seq ?_
    refine VC_region ?_
    refine VL_pure 2 [0, 1, 12, 13, 5] [(0, .slice (some ⟨c, 0, none⟩) N N), (1, .slice (some ⟨g, 0, none⟩) N cap), (12, .int .i64 ((N : Nat) : Int)), (13, .int .i64 ((k : Nat) : Int)), (5, .int .i64 ((k : Nat) : Int))] (by kernel_rfl) rfl ?_
    refine VL_end (by kernel_rfl) ?_
    refine VQ_next ?_
    refine VC_seq ?_
    have hk : k < N := by omega
    refine VC_det [[], [], [0, 1], [0, 1, 2], [], [], [4, 5], [4, 5, 6], [0, 1, 2, 3, 4, 5, 6, 7]] 8 [.slice (some ⟨c, 0, none⟩) N N, .int .i64 ((k : Nat) : Int), .pointer (some ⟨c, k * 36, none⟩), .agg #[.int .i64 ((f k).k), .int .u8 ((f k).d), .bool ((f k).a), .int .u32 ((f k).tg), .int .u8 (((f k).p) 0), .int .u8 (((f k).p) 1), .int .u8 (((f k).p) 2), .int .u8 (((f k).p) 3), .int .u8 (((f k).p) 4), .int .u8 (((f k).p) 5), .int .u8 (((f k).p) 6), .int .u8 (((f k).p) 7), .int .u8 (((f k).p) 8), .int .u8 (((f k).p) 9), .int .u8 (((f k).p) 10), .int .u8 (((f k).p) 11), .int .u8 (((f k).p) 12), .int .u8 (((f k).p) 13), .int .u8 (((f k).p) 14), .int .u8 (((f k).p) 15), .int .u8 (((f k).s) 0), .int .u8 (((f k).s) 1), .int .u8 (((f k).s) 2), .int .u8 (((f k).s) 3), .int .u8 (((f k).s) 4), .int .u8 (((f k).s) 5), .int .u8 (((f k).s) 6), .int .u8 (((f k).s) 7), .int .u8 (((f k).s) 8), .int .u8 (((f k).s) 9), .int .u8 (((f k).s) 10), .int .u8 (((f k).s) 11), .int .u8 (((f k).s) 12), .int .u8 (((f k).s) 13), .int .u8 (((f k).s) 14), .int .u8 (((f k).s) 15)], .slice (some ⟨g, 0, none⟩) N cap, .int .i64 ((k : Nat) : Int), .pointer (some ⟨g, k * 36, none⟩), .agg #[.int .i64 ((f k).k), .int .u8 ((f k).d), .bool ((f k).a), .int .u32 ((f k).tg), .int .u8 (((f k).p) 0), .int .u8 (((f k).p) 1), .int .u8 (((f k).p) 2), .int .u8 (((f k).p) 3), .int .u8 (((f k).p) 4), .int .u8 (((f k).p) 5), .int .u8 (((f k).p) 6), .int .u8 (((f k).p) 7), .int .u8 (((f k).p) 8), .int .u8 (((f k).p) 9), .int .u8 (((f k).p) 10), .int .u8 (((f k).p) 11), .int .u8 (((f k).p) 12), .int .u8 (((f k).p) 13), .int .u8 (((f k).p) 14), .int .u8 (((f k).p) 15), .int .u8 (((f k).s) 0), .int .u8 (((f k).s) 1), .int .u8 (((f k).s) 2), .int .u8 (((f k).s) 3), .int .u8 (((f k).s) 4), .int .u8 (((f k).s) 5), .int .u8 (((f k).s) 6), .int .u8 (((f k).s) 7), .int .u8 (((f k).s) 8), .int .u8 (((f k).s) 9), .int .u8 (((f k).s) 10), .int .u8 (((f k).s) 11), .int .u8 (((f k).s) 12), .int .u8 (((f k).s) 13), .int .u8 (((f k).s) 14), .int .u8 (((f k).s) 15)]] [0, 1, 4, 5] [2, 3, 6, 7] (by kernel_rfl) (by kernel_rfl) (by kernel_rfl) (by kernel_rfl) ?_ ?_
    · intro w1 hs1
      replace hS := Step.trans hS hs1
      exact ⟨Det1_index (d := 18) (b := c) (o := 0) (len := N) (sz := 36) (m := ((k : Nat) : Int)) (by kernel_rfl) (by kernel_rfl) k (by rfl) (by omega) (k * 36) (by omega), Det1_load (d := 19) (t := 34) (a := ⟨c, k * 36, none⟩) (by kernel_rfl) (by kernel_rfl) (ha.load hS (by kernel_rfl) k hk), Det1_index (d := 22) (b := g) (o := 0) (len := N) (sz := 36) (m := ((k : Nat) : Int)) (by kernel_rfl) (by kernel_rfl) k (by rfl) (by omega) (k * 36) (by omega), Det1_load (d := 23) (t := 31) (a := ⟨g, k * 36, none⟩) (by kernel_rfl) (by kernel_rfl) (hb.load hS (by kernel_rfl) k hk), trivial⟩
    intro w1 hs1
    replace hS := Step.trans hS hs1
    refine VL_keep [0, 1, 12, 13, 19, 23] [(0, .slice (some ⟨c, 0, none⟩) N N), (1, .slice (some ⟨g, 0, none⟩) N cap), (12, .int .i64 ((N : Nat) : Int)), (13, .int .i64 ((k : Nat) : Int)), (19, .agg #[.int .i64 ((f k).k), .int .u8 ((f k).d), .bool ((f k).a), .int .u32 ((f k).tg), .int .u8 (((f k).p) 0), .int .u8 (((f k).p) 1), .int .u8 (((f k).p) 2), .int .u8 (((f k).p) 3), .int .u8 (((f k).p) 4), .int .u8 (((f k).p) 5), .int .u8 (((f k).p) 6), .int .u8 (((f k).p) 7), .int .u8 (((f k).p) 8), .int .u8 (((f k).p) 9), .int .u8 (((f k).p) 10), .int .u8 (((f k).p) 11), .int .u8 (((f k).p) 12), .int .u8 (((f k).p) 13), .int .u8 (((f k).p) 14), .int .u8 (((f k).p) 15), .int .u8 (((f k).s) 0), .int .u8 (((f k).s) 1), .int .u8 (((f k).s) 2), .int .u8 (((f k).s) 3), .int .u8 (((f k).s) 4), .int .u8 (((f k).s) 5), .int .u8 (((f k).s) 6), .int .u8 (((f k).s) 7), .int .u8 (((f k).s) 8), .int .u8 (((f k).s) 9), .int .u8 (((f k).s) 10), .int .u8 (((f k).s) 11), .int .u8 (((f k).s) 12), .int .u8 (((f k).s) 13), .int .u8 (((f k).s) 14), .int .u8 (((f k).s) 15)]), (23, .agg #[.int .i64 ((f k).k), .int .u8 ((f k).d), .bool ((f k).a), .int .u32 ((f k).tg), .int .u8 (((f k).p) 0), .int .u8 (((f k).p) 1), .int .u8 (((f k).p) 2), .int .u8 (((f k).p) 3), .int .u8 (((f k).p) 4), .int .u8 (((f k).p) 5), .int .u8 (((f k).p) 6), .int .u8 (((f k).p) 7), .int .u8 (((f k).p) 8), .int .u8 (((f k).p) 9), .int .u8 (((f k).p) 10), .int .u8 (((f k).p) 11), .int .u8 (((f k).p) 12), .int .u8 (((f k).p) 13), .int .u8 (((f k).p) 14), .int .u8 (((f k).p) 15), .int .u8 (((f k).s) 0), .int .u8 (((f k).s) 1), .int .u8 (((f k).s) 2), .int .u8 (((f k).s) 3), .int .u8 (((f k).s) 4), .int .u8 (((f k).s) 5), .int .u8 (((f k).s) 6), .int .u8 (((f k).s) 7), .int .u8 (((f k).s) 8), .int .u8 (((f k).s) 9), .int .u8 (((f k).s) 10), .int .u8 (((f k).s) 11), .int .u8 (((f k).s) 12), .int .u8 (((f k).s) 13), .int .u8 (((f k).s) 14), .int .u8 (((f k).s) 15)])] (by kernel_rfl) ?_
    refine VL_agEq (d := 24) (dd := 9) (ls := ([.int .i64] ++ [.int .u8] ++ [.bool] ++ [.int .u32] ++ (rep 16 [.int .u8]) ++ (rep 16 [.int .u8]) ++ [])) (pos := false) (t := 31) (xs := #[.int .i64 ((f k).k), .int .u8 ((f k).d), .bool ((f k).a), .int .u32 ((f k).tg), .int .u8 (((f k).p) 0), .int .u8 (((f k).p) 1), .int .u8 (((f k).p) 2), .int .u8 (((f k).p) 3), .int .u8 (((f k).p) 4), .int .u8 (((f k).p) 5), .int .u8 (((f k).p) 6), .int .u8 (((f k).p) 7), .int .u8 (((f k).p) 8), .int .u8 (((f k).p) 9), .int .u8 (((f k).p) 10), .int .u8 (((f k).p) 11), .int .u8 (((f k).p) 12), .int .u8 (((f k).p) 13), .int .u8 (((f k).p) 14), .int .u8 (((f k).p) 15), .int .u8 (((f k).s) 0), .int .u8 (((f k).s) 1), .int .u8 (((f k).s) 2), .int .u8 (((f k).s) 3), .int .u8 (((f k).s) 4), .int .u8 (((f k).s) 5), .int .u8 (((f k).s) 6), .int .u8 (((f k).s) 7), .int .u8 (((f k).s) 8), .int .u8 (((f k).s) 9), .int .u8 (((f k).s) 10), .int .u8 (((f k).s) 11), .int .u8 (((f k).s) 12), .int .u8 (((f k).s) 13), .int .u8 (((f k).s) 14), .int .u8 (((f k).s) 15)]) (ys := #[.int .i64 ((f k).k), .int .u8 ((f k).d), .bool ((f k).a), .int .u32 ((f k).tg), .int .u8 (((f k).p) 0), .int .u8 (((f k).p) 1), .int .u8 (((f k).p) 2), .int .u8 (((f k).p) 3), .int .u8 (((f k).p) 4), .int .u8 (((f k).p) 5), .int .u8 (((f k).p) 6), .int .u8 (((f k).p) 7), .int .u8 (((f k).p) 8), .int .u8 (((f k).p) 9), .int .u8 (((f k).p) 10), .int .u8 (((f k).p) 11), .int .u8 (((f k).p) 12), .int .u8 (((f k).p) 13), .int .u8 (((f k).p) 14), .int .u8 (((f k).p) 15), .int .u8 (((f k).s) 0), .int .u8 (((f k).s) 1), .int .u8 (((f k).s) 2), .int .u8 (((f k).s) 3), .int .u8 (((f k).s) 4), .int .u8 (((f k).s) 5), .int .u8 (((f k).s) 6), .int .u8 (((f k).s) 7), .int .u8 (((f k).s) 8), .int .u8 (((f k).s) 9), .int .u8 (((f k).s) 10), .int .u8 (((f k).s) 11), .int .u8 (((f k).s) 12), .int .u8 (((f k).s) 13), .int .u8 (((f k).s) 14), .int .u8 (((f k).s) 15)]) (by kernel_rfl) (by kernel_rfl) (by kernel_rfl) (by kernel_rfl) (by first | exact ⟨⟨_, rfl⟩, ⟨_, rfl⟩, ⟨_, rfl⟩, ⟨_, rfl⟩, ⟨_, rfl⟩, ⟨_, rfl⟩, ⟨_, rfl⟩, ⟨_, rfl⟩, ⟨_, rfl⟩, ⟨_, rfl⟩, ⟨_, rfl⟩, ⟨_, rfl⟩, ⟨_, rfl⟩, ⟨_, rfl⟩, ⟨_, rfl⟩, ⟨_, rfl⟩, ⟨_, rfl⟩, ⟨_, rfl⟩, ⟨_, rfl⟩, ⟨_, rfl⟩, ⟨_, rfl⟩, ⟨_, rfl⟩, ⟨_, rfl⟩, ⟨_, rfl⟩, ⟨_, rfl⟩, ⟨_, rfl⟩, ⟨_, rfl⟩, ⟨_, rfl⟩, ⟨_, rfl⟩, ⟨_, rfl⟩, ⟨_, rfl⟩, ⟨_, rfl⟩, ⟨_, rfl⟩, ⟨_, rfl⟩, ⟨_, rfl⟩, ⟨_, rfl⟩, trivial⟩ | trivial) (by first | exact ⟨⟨_, rfl⟩, ⟨_, rfl⟩, ⟨_, rfl⟩, ⟨_, rfl⟩, ⟨_, rfl⟩, ⟨_, rfl⟩, ⟨_, rfl⟩, ⟨_, rfl⟩, ⟨_, rfl⟩, ⟨_, rfl⟩, ⟨_, rfl⟩, ⟨_, rfl⟩, ⟨_, rfl⟩, ⟨_, rfl⟩, ⟨_, rfl⟩, ⟨_, rfl⟩, ⟨_, rfl⟩, ⟨_, rfl⟩, ⟨_, rfl⟩, ⟨_, rfl⟩, ⟨_, rfl⟩, ⟨_, rfl⟩, ⟨_, rfl⟩, ⟨_, rfl⟩, ⟨_, rfl⟩, ⟨_, rfl⟩, ⟨_, rfl⟩, ⟨_, rfl⟩, ⟨_, rfl⟩, ⟨_, rfl⟩, ⟨_, rfl⟩, ⟨_, rfl⟩, ⟨_, rfl⟩, ⟨_, rfl⟩, ⟨_, rfl⟩, ⟨_, rfl⟩, trivial⟩ | trivial) false (by exact om_ne _) ?_
    refine VL_end (by kernel_rfl) ?_
    refine VQ_next ?_
    refine VC_false (by kernel_rfl) ?_
    refine VC_skip ?_
    refine VQ_block_normal ?_
    refine VQ_next ?_
    refine VC_region ?_
    refine VL_pure 1 [0, 1, 12, 25] [(0, .slice (some ⟨c, 0, none⟩) N N), (1, .slice (some ⟨g, 0, none⟩) N cap), (12, .int .i64 ((N : Nat) : Int)), (25, .int .i64 (IntKind.wrap .i64 (((k : Nat) : Int) + 1)))] (by kernel_rfl) rfl ?_
    refine VL_eq [(0, .slice (some ⟨c, 0, none⟩) N N), (1, .slice (some ⟨g, 0, none⟩) N cap), (12, .int .i64 ((N : Nat) : Int)), (25, .int .i64 ((k + 1 : Nat) : Int))] (by rw [wrap_i64 _ (by omega) (by omega)]; rfl) ?_
    refine VL_pure 2 [0, 1, 12, 13] [(0, .slice (some ⟨c, 0, none⟩) N N), (1, .slice (some ⟨g, 0, none⟩) N cap), (12, .int .i64 ((N : Nat) : Int)), (13, .int .i64 ((k + 1 : Nat) : Int))] (by kernel_rfl) rfl ?_
    refine VL_end (by kernel_rfl) ?_
    refine VQ_again (k + 1) ⟨rfl, rfl, rfl, rfl, trivial⟩ ?_ ?_
    · exact ⟨by omega, hS⟩
    · (try dsimp only); omega
  · refine VC_exit ?_
    refine VQ_then_exit ?_
    refine VQ_then_exit ?_
    refine VQ_block_hit ?_
    refine VQ_next ?_
    refine VC_seq ?_
    refine VC_region ?_
    refine VL_pure 1 [4] [(4, .bool true)] (by kernel_rfl) rfl ?_
    refine VL_end (by kernel_rfl) ?_
    refine VQ_next ?_
    refine VC_ret ?_
    refine VQ_ret1 (.bool true) (.inr rfl) rfl rfl ?_
    exact ⟨rfl, hS⟩

end Go.Proofs.Ytkimbomnbaogjaa
