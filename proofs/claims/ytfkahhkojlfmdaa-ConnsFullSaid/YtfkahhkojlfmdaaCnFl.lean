/- Layer 9: ConnsFull. -/
import Derived.Test.YtfkahhkojlfmdaaProg
import Derived.Test.YtfkahhkojlfmdaaCne
import Derived.Test.YtfkahhkojlfmdaaCn4
set_option linter.unusedVariables false
set_option linter.unusedSimpArgs false
namespace Go.Proofs.Ytfkahhkojlfmdaa
open Go.Vc Go.RowKit

theorem connsFull_any (r port : Nat) (w : World) (hr : r < 256) (hp : port < 256) :
    CV Try.prog 8 #[.int .u8 ((r : Nat) : Int), .int .u8 ((port : Nat) : Int)] w (fun x w1 => x = .bool true ∧ Step No w w1) := by
  have hS : Step No w w := Step.refl _ _
  refine CV_enter Try.f8 _ 97 [(0, .int .u8 ((r : Nat) : Int)), (1, .int .u8 ((port : Nat) : Int))] Try.func8 rfl rfl (by kernel_rfl) rfl ?_
  refine VC_seq ?_
  refine VC_region ?_
  refine VL_pure 1 [0, 1] [(0, .int .u8 ((r : Nat) : Int)), (1, .int .u8 ((port : Nat) : Int))] (by kernel_rfl) rfl ?_
  refine VL_end (by kernel_rfl) ?_
  refine VQ_next ?_
  refine VC_seq ?_
  refine VC_seq ?_
  refine VC_region ?_
  have hzs1 := hS.size
  refine VL_call (d := 15) (f := 9) (args := #[]) (by kernel_rfl) (by kernel_rfl) (by kernel_rfl) Try.call9 (awake_any _) ?_
  rintro _ w1 ⟨rfl, hc1⟩
  replace hS := Step.trans hS hc1
  refine VL_pure 2 [0, 1, 16] [(0, .int .u8 ((r : Nat) : Int)), (1, .int .u8 ((port : Nat) : Int)), (16, .bool false)] (by kernel_rfl) rfl ?_
  refine VL_end (by kernel_rfl) ?_
  refine VQ_next ?_
  refine VC_false (by kernel_rfl) ?_
  refine VC_skip ?_
  refine VQ_next ?_
  refine VC_seq ?_
  refine VC_region ?_
  refine VL_pure 2 [0, 1, 18] [(0, .int .u8 ((r : Nat) : Int)), (1, .int .u8 ((port : Nat) : Int)), (18, .int .i64 (IntKind.wrap .i64 ((r : Nat) : Int)))] (by kernel_rfl) rfl ?_
  have he1 : IntKind.wrap .i64 ((r : Nat) : Int) = ((r : Nat) : Int) := (by rw [wrap_i64 _ (by omega) (by omega)])
  refine VL_eq [(0, .int .u8 ((r : Nat) : Int)), (1, .int .u8 ((port : Nat) : Int)), (18, .int .i64 ((r : Nat) : Int))] (by rw [he1]) ?_
  have hzs2 := hS.size
  refine VL_call (d := 19) (f := 10) (args := #[.int .i64 ((r : Nat) : Int)]) (by kernel_rfl) (by kernel_rfl) (by kernel_rfl) Try.call10 (new_tab ((r : Nat) : Int) ((min r 64 : Nat) : Int) (by unfold imax imin; split <;> split <;> omega) _) ?_
  rintro _ w2 ⟨tb1, rfl, hftb1, httb1, hitb1, hc2⟩
  replace hS := Step.trans hS hc2
  have hztb1 := httb1.lt
  refine VL_pure 4 [0, 1, 5] [(0, .int .u8 ((r : Nat) : Int)), (1, .int .u8 ((port : Nat) : Int)), (5, .pointer (some ⟨tb1, 0, none⟩))] (by kernel_rfl) rfl ?_
  refine VL_end (by kernel_rfl) ?_
  refine VQ_next ?_
  refine VC_seq ?_
  refine VC_region ?_
  refine VL_pure 2 [1, 5, 21] [(1, .int .u8 ((port : Nat) : Int)), (5, .pointer (some ⟨tb1, 0, none⟩)), (21, .int .i64 (IntKind.wrap .i64 ((r : Nat) : Int)))] (by kernel_rfl) rfl ?_
  have he2 : IntKind.wrap .i64 ((r : Nat) : Int) = ((r : Nat) : Int) := (by rw [wrap_i64 _ (by omega) (by omega)])
  refine VL_eq [(1, .int .u8 ((port : Nat) : Int)), (5, .pointer (some ⟨tb1, 0, none⟩)), (21, .int .i64 ((r : Nat) : Int))] (by rw [he2]) ?_
  refine VL_pure 3 [1, 5, 22] [(1, .int .u8 ((port : Nat) : Int)), (5, .pointer (some ⟨tb1, 0, none⟩)), (22, .int .i64 (imin ((r : Nat) : Int) 64))] (by kernel_rfl) rfl ?_
  refine VL_eq [(1, .int .u8 ((port : Nat) : Int)), (5, .pointer (some ⟨tb1, 0, none⟩)), (22, .int .i64 ((min r 64 : Nat) : Int))] (by rw [show imin ((r : Nat) : Int) 64 = ((min r 64 : Nat) : Int) by unfold imin; split <;> omega]) ?_
  refine VL_pure 4 [1, 5, 6] [(1, .int .u8 ((port : Nat) : Int)), (5, .pointer (some ⟨tb1, 0, none⟩)), (6, .int .i64 ((min r 64 : Nat) : Int))] (by kernel_rfl) rfl ?_
  refine VL_end (by kernel_rfl) ?_
  refine VQ_next ?_
  refine VC_seq ?_
  refine VC_seq ?_
  refine VC_region ?_
  refine VL_pure 2 [1, 5, 6, 23, 24] [(1, .int .u8 ((port : Nat) : Int)), (5, .pointer (some ⟨tb1, 0, none⟩)), (6, .int .i64 ((min r 64 : Nat) : Int)), (23, .int .i64 ((min r 64 : Nat) : Int)), (24, .int .i64 0)] (by kernel_rfl) rfl ?_
  refine VL_end (by kernel_rfl) ?_
  refine VQ_next ?_
  refine VC_block ?_
  refine VC_loop (σ := Nat × (Nat → Slot)) (fun σs => [(1, .int .u8 ((port : Nat) : Int)), (5, .pointer (some ⟨tb1, 0, none⟩)), (6, .int .i64 ((min r 64 : Nat) : Int)), (23, .int .i64 ((min r 64 : Nat) : Int)), (24, .int .i64 ((σs.1 : Nat) : Int))]) (fun σs wr => σs.1 ≤ min r 64 ∧ Own wr tb1 (encT σs.2 σs.1 ((min r 64 : Nat) : Int)) 62 ∧ Inv σs.2 σs.1 ((min r 64 : Nat) : Int) ∧ (∀ c : Int, (∀ i : Nat, i < σs.1 → c ≠ 97 * i) → val σs.2 ((port % 8 : Nat) : Int) 0 c = none) ∧ Step No w wr) (fun σs wr => min r 64 - σs.1) ⟨0, noSlots⟩ ⟨rfl, rfl, rfl, rfl, rfl, trivial⟩ ?_ ?_
  · exact ⟨Nat.zero_le _, httb1, hitb1, fun c _ => val_new _ _ _, hS⟩
  rintro ⟨k, s⟩ wr ⟨hk0, ht, hi, hv, hS⟩
  try dsimp only at hk0 ht hi hv hS ⊢
  refine VC_seq ?_
  refine VC_region ?_
  refine VL_pure 1 [1, 5, 6, 23, 24, 25] [(1, .int .u8 ((port : Nat) : Int)), (5, .pointer (some ⟨tb1, 0, none⟩)), (6, .int .i64 ((min r 64 : Nat) : Int)), (23, .int .i64 ((min r 64 : Nat) : Int)), (24, .int .i64 ((k : Nat) : Int)), (25, .bool (decide (((k : Nat) : Int) < ((min r 64 : Nat) : Int))))] (by kernel_rfl) rfl ?_
  refine VL_end (by kernel_rfl) ?_
  refine VQ_next ?_
  refine VC_seq ?_
  refine VC_dec (((k : Nat) : Int) < ((min r 64 : Nat) : Int)) (by kernel_rfl) (fun h1 => ?_) (fun h1 => ?_)
  · refine VC_skip ?_
    refine VQ_next ?_
    refine VC_seq ?_
    refine VC_block ?_
    refine VC_seq ?_
    refine VC_region ?_
    refine VL_pure 2 [1, 5, 6, 23, 24, 7] [(1, .int .u8 ((port : Nat) : Int)), (5, .pointer (some ⟨tb1, 0, none⟩)), (6, .int .i64 ((min r 64 : Nat) : Int)), (23, .int .i64 ((min r 64 : Nat) : Int)), (24, .int .i64 ((k : Nat) : Int)), (7, .int .i64 ((k : Nat) : Int))] (by kernel_rfl) rfl ?_
    refine VL_end (by kernel_rfl) ?_
    refine VQ_next ?_
    refine VC_seq ?_
    refine VC_region ?_
    refine VL_pure 3 [1, 5, 6, 23, 24, 7, 27, 29] [(1, .int .u8 ((port : Nat) : Int)), (5, .pointer (some ⟨tb1, 0, none⟩)), (6, .int .i64 ((min r 64 : Nat) : Int)), (23, .int .i64 ((min r 64 : Nat) : Int)), (24, .int .i64 ((k : Nat) : Int)), (7, .int .i64 ((k : Nat) : Int)), (27, .pointer (some ⟨tb1, 0, none⟩)), (29, .int .i64 (IntKind.wrap .i64 ((port : Nat) : Int)))] (by kernel_rfl) rfl ?_
    have he3 : IntKind.wrap .i64 ((port : Nat) : Int) = ((port : Nat) : Int) := (by rw [wrap_i64 _ (by omega) (by omega)])
    refine VL_eq [(1, .int .u8 ((port : Nat) : Int)), (5, .pointer (some ⟨tb1, 0, none⟩)), (6, .int .i64 ((min r 64 : Nat) : Int)), (23, .int .i64 ((min r 64 : Nat) : Int)), (24, .int .i64 ((k : Nat) : Int)), (7, .int .i64 ((k : Nat) : Int)), (27, .pointer (some ⟨tb1, 0, none⟩)), (29, .int .i64 ((port : Nat) : Int))] (by rw [he3]) ?_
    refine VL_pure 4 [1, 5, 6, 23, 24, 7, 27, 30] [(1, .int .u8 ((port : Nat) : Int)), (5, .pointer (some ⟨tb1, 0, none⟩)), (6, .int .i64 ((min r 64 : Nat) : Int)), (23, .int .i64 ((min r 64 : Nat) : Int)), (24, .int .i64 ((k : Nat) : Int)), (7, .int .i64 ((k : Nat) : Int)), (27, .pointer (some ⟨tb1, 0, none⟩)), (30, .int .i64 (((port : Nat) : Int).tmod 8))] (by kernel_rfl) rfl ?_
    have he4 : ((port : Nat) : Int).tmod 8 = ((port % 8 : Nat) : Int) := (tmod_nat port 8)
    refine VL_eq [(1, .int .u8 ((port : Nat) : Int)), (5, .pointer (some ⟨tb1, 0, none⟩)), (6, .int .i64 ((min r 64 : Nat) : Int)), (23, .int .i64 ((min r 64 : Nat) : Int)), (24, .int .i64 ((k : Nat) : Int)), (7, .int .i64 ((k : Nat) : Int)), (27, .pointer (some ⟨tb1, 0, none⟩)), (30, .int .i64 ((port % 8 : Nat) : Int))] (by rw [he4]) ?_
    refine VL_pure 6 [1, 5, 6, 23, 24, 7, 27, 30, 32] [(1, .int .u8 ((port : Nat) : Int)), (5, .pointer (some ⟨tb1, 0, none⟩)), (6, .int .i64 ((min r 64 : Nat) : Int)), (23, .int .i64 ((min r 64 : Nat) : Int)), (24, .int .i64 ((k : Nat) : Int)), (7, .int .i64 ((k : Nat) : Int)), (27, .pointer (some ⟨tb1, 0, none⟩)), (30, .int .i64 ((port % 8 : Nat) : Int)), (32, .int .i64 (IntKind.wrap .i64 (97 * ((k : Nat) : Int))))] (by kernel_rfl) rfl ?_
    have he5 : IntKind.wrap .i64 (97 * ((k : Nat) : Int)) = ((97 * k : Nat) : Int) := (by rw [wrap_i64 _ (by omega) (by omega)]; omega)
    refine VL_eq [(1, .int .u8 ((port : Nat) : Int)), (5, .pointer (some ⟨tb1, 0, none⟩)), (6, .int .i64 ((min r 64 : Nat) : Int)), (23, .int .i64 ((min r 64 : Nat) : Int)), (24, .int .i64 ((k : Nat) : Int)), (7, .int .i64 ((k : Nat) : Int)), (27, .pointer (some ⟨tb1, 0, none⟩)), (30, .int .i64 ((port % 8 : Nat) : Int)), (32, .int .i64 ((97 * k : Nat) : Int))] (by rw [he5]) ?_
    refine VL_pure 8 [1, 5, 6, 23, 24, 27, 33, 34] [(1, .int .u8 ((port : Nat) : Int)), (5, .pointer (some ⟨tb1, 0, none⟩)), (6, .int .i64 ((min r 64 : Nat) : Int)), (23, .int .i64 ((min r 64 : Nat) : Int)), (24, .int .i64 ((k : Nat) : Int)), (27, .pointer (some ⟨tb1, 0, none⟩)), (33, .agg #[.int .i64 ((port % 8 : Nat) : Int), .int .i64 0, .int .i64 ((97 * k : Nat) : Int)]), (34, .int .i64 ((k : Nat) : Int))] (by kernel_rfl) rfl ?_
    have hzs3 := hS.size
    have hzl1 := ht.lt
    refine VL_call (d := 35) (f := 11) (args := #[.pointer (some ⟨tb1, 0, none⟩), .agg #[.int .i64 ((port % 8 : Nat) : Int), .int .i64 0, .int .i64 ((97 * k : Nat) : Int)], .int .i64 ((k : Nat) : Int)]) (by kernel_rfl) (by kernel_rfl) (by kernel_rfl) Try.call11 (put_new ((port % 8 : Nat) : Int) 0 ((97 * k : Nat) : Int) ((k : Nat) : Int) ht hi (decide_eq_true (by omega)) (hv _ (fun i hi9 => by omega)) (by omega)) ?_
    rintro _ w3 ⟨rfl, s1, ht1, hi1, hv1, hc3⟩
    replace hS := Step.transNew hS hc3 (fun _ _ _ => by omega)
    refine VL_pure 10 [1, 5, 6, 23, 24, 36] [(1, .int .u8 ((port : Nat) : Int)), (5, .pointer (some ⟨tb1, 0, none⟩)), (6, .int .i64 ((min r 64 : Nat) : Int)), (23, .int .i64 ((min r 64 : Nat) : Int)), (24, .int .i64 ((k : Nat) : Int)), (36, .bool false)] (by kernel_rfl) rfl ?_
    refine VL_end (by kernel_rfl) ?_
    refine VQ_next ?_
    refine VC_false (by kernel_rfl) ?_
    refine VC_skip ?_
    refine VQ_block_normal ?_
    refine VQ_next ?_
    refine VC_region ?_
    refine VL_pure 1 [1, 5, 6, 23, 37] [(1, .int .u8 ((port : Nat) : Int)), (5, .pointer (some ⟨tb1, 0, none⟩)), (6, .int .i64 ((min r 64 : Nat) : Int)), (23, .int .i64 ((min r 64 : Nat) : Int)), (37, .int .i64 (IntKind.wrap .i64 (((k : Nat) : Int) + 1)))] (by kernel_rfl) rfl ?_
    have he6 : IntKind.wrap .i64 (((k : Nat) : Int) + 1) = ((k + 1 : Nat) : Int) := (by rw [wrap_i64 _ (by omega) (by omega)]; omega)
    refine VL_eq [(1, .int .u8 ((port : Nat) : Int)), (5, .pointer (some ⟨tb1, 0, none⟩)), (6, .int .i64 ((min r 64 : Nat) : Int)), (23, .int .i64 ((min r 64 : Nat) : Int)), (37, .int .i64 ((k + 1 : Nat) : Int))] (by rw [he6]) ?_
    refine VL_pure 2 [1, 5, 6, 23, 24] [(1, .int .u8 ((port : Nat) : Int)), (5, .pointer (some ⟨tb1, 0, none⟩)), (6, .int .i64 ((min r 64 : Nat) : Int)), (23, .int .i64 ((min r 64 : Nat) : Int)), (24, .int .i64 ((k + 1 : Nat) : Int))] (by kernel_rfl) rfl ?_
    refine VL_end (by kernel_rfl) ?_
    refine VQ_again ⟨k + 1, s1⟩ ⟨rfl, rfl, rfl, rfl, rfl, trivial⟩ ?_ ?_
    · exact ⟨by omega, ht1, hi1, fun c hc => by rw [hv1, if_neg (fun e => hc k (by omega) (by rw [e.2.2]; push_cast; rfl))]; exact hv c (fun i hi9 => hc i (by omega)), hS⟩
    · (try dsimp only); omega
  · refine VC_exit ?_
    refine VQ_then_exit ?_
    refine VQ_then_exit ?_
    refine VQ_block_hit ?_
    refine VQ_next ?_
    refine VC_seq ?_
    refine VC_region ?_
    refine VL_pure 1 [1, 5, 6, 8] [(1, .int .u8 ((port : Nat) : Int)), (5, .pointer (some ⟨tb1, 0, none⟩)), (6, .int .i64 ((min r 64 : Nat) : Int)), (8, .pointer none)] (by kernel_rfl) rfl ?_
    refine VL_end (by kernel_rfl) ?_
    refine VQ_next ?_
    refine VC_seq ?_
    refine VC_region ?_
    refine VL_pure 2 [1, 5, 6, 8, 39, 40] [(1, .int .u8 ((port : Nat) : Int)), (5, .pointer (some ⟨tb1, 0, none⟩)), (6, .int .i64 ((min r 64 : Nat) : Int)), (8, .pointer none), (39, .pointer none), (40, .agg #[.int .i64 0, .int .i64 0, .int .i64 0])] (by kernel_rfl) rfl ?_
    have hzs4 := hS.size
    have hzl2 := ht.lt
    refine VL_call (d := 41) (f := 14) (by kernel_rfl) (by kernel_rfl) (by kernel_rfl) Try.call14 (get_nil 0 0 0 _) ?_
    rintro _ w4 ⟨rfl, hc4⟩
    replace hS := Step.trans hS hc4
    replace ht := ht.no hc4
    refine VL_pure 8 [1, 5, 6, 8, 10] [(1, .int .u8 ((port : Nat) : Int)), (5, .pointer (some ⟨tb1, 0, none⟩)), (6, .int .i64 ((min r 64 : Nat) : Int)), (8, .pointer none), (10, .bool false)] (by kernel_rfl) rfl ?_
    refine VL_end (by kernel_rfl) ?_
    refine VQ_next ?_
    refine VC_seq ?_
    refine VC_region ?_
    refine VL_pure 2 [1, 5, 6, 8, 10, 45, 46] [(1, .int .u8 ((port : Nat) : Int)), (5, .pointer (some ⟨tb1, 0, none⟩)), (6, .int .i64 ((min r 64 : Nat) : Int)), (8, .pointer none), (10, .bool false), (45, .pointer none), (46, .agg #[.int .i64 0, .int .i64 0, .int .i64 0])] (by kernel_rfl) rfl ?_
    have hzs5 := hS.size
    have hzl3 := ht.lt
    refine VL_call (d := 47) (f := 16) (by kernel_rfl) (by kernel_rfl) (by kernel_rfl) Try.call16 (drop_nil 0 0 0 _) ?_
    rintro _ w5 ⟨rfl, hc5⟩
    replace hS := Step.trans hS hc5
    replace ht := ht.no hc5
    refine VL_pure 8 [1, 5, 6, 8, 10, 12] [(1, .int .u8 ((port : Nat) : Int)), (5, .pointer (some ⟨tb1, 0, none⟩)), (6, .int .i64 ((min r 64 : Nat) : Int)), (8, .pointer none), (10, .bool false), (12, .bool false)] (by kernel_rfl) rfl ?_
    refine VL_end (by kernel_rfl) ?_
    refine VQ_next ?_
    refine VC_seq ?_
    refine VC_region ?_
    refine VL_pure 1 [1, 5, 6, 8, 10, 12, 51] [(1, .int .u8 ((port : Nat) : Int)), (5, .pointer (some ⟨tb1, 0, none⟩)), (6, .int .i64 ((min r 64 : Nat) : Int)), (8, .pointer none), (10, .bool false), (12, .bool false), (51, .pointer none)] (by kernel_rfl) rfl ?_
    have hzs6 := hS.size
    have hzl4 := ht.lt
    refine VL_call (d := 52) (f := 12) (by kernel_rfl) (by kernel_rfl) (by kernel_rfl) Try.call12 (free_nil 0 0 0 _) ?_
    rintro _ w6 ⟨rfl, hc6⟩
    replace hS := Step.trans hS hc6
    replace ht := ht.no hc6
    refine VL_pure 7 [1, 5, 6, 8, 10, 12, 14] [(1, .int .u8 ((port : Nat) : Int)), (5, .pointer (some ⟨tb1, 0, none⟩)), (6, .int .i64 ((min r 64 : Nat) : Int)), (8, .pointer none), (10, .bool false), (12, .bool false), (14, .bool false)] (by kernel_rfl) rfl ?_
    refine VL_end (by kernel_rfl) ?_
    refine VQ_next ?_
    refine VC_seq ?_
    refine VC_region ?_
    refine VL_pure 3 [5, 6, 8, 10, 12, 14, 55, 57] [(5, .pointer (some ⟨tb1, 0, none⟩)), (6, .int .i64 ((min r 64 : Nat) : Int)), (8, .pointer none), (10, .bool false), (12, .bool false), (14, .bool false), (55, .pointer (some ⟨tb1, 0, none⟩)), (57, .int .i64 (IntKind.wrap .i64 ((port : Nat) : Int)))] (by kernel_rfl) rfl ?_
    have he7 : IntKind.wrap .i64 ((port : Nat) : Int) = ((port : Nat) : Int) := (by rw [wrap_i64 _ (by omega) (by omega)])
    refine VL_eq [(5, .pointer (some ⟨tb1, 0, none⟩)), (6, .int .i64 ((min r 64 : Nat) : Int)), (8, .pointer none), (10, .bool false), (12, .bool false), (14, .bool false), (55, .pointer (some ⟨tb1, 0, none⟩)), (57, .int .i64 ((port : Nat) : Int))] (by rw [he7]) ?_
    refine VL_pure 4 [5, 6, 8, 10, 12, 14, 55, 58] [(5, .pointer (some ⟨tb1, 0, none⟩)), (6, .int .i64 ((min r 64 : Nat) : Int)), (8, .pointer none), (10, .bool false), (12, .bool false), (14, .bool false), (55, .pointer (some ⟨tb1, 0, none⟩)), (58, .int .i64 (((port : Nat) : Int).tmod 8))] (by kernel_rfl) rfl ?_
    have he8 : ((port : Nat) : Int).tmod 8 = ((port % 8 : Nat) : Int) := (tmod_nat port 8)
    refine VL_eq [(5, .pointer (some ⟨tb1, 0, none⟩)), (6, .int .i64 ((min r 64 : Nat) : Int)), (8, .pointer none), (10, .bool false), (12, .bool false), (14, .bool false), (55, .pointer (some ⟨tb1, 0, none⟩)), (58, .int .i64 ((port % 8 : Nat) : Int))] (by rw [he8]) ?_
    refine VL_pure 5 [5, 6, 8, 10, 12, 14, 55, 59] [(5, .pointer (some ⟨tb1, 0, none⟩)), (6, .int .i64 ((min r 64 : Nat) : Int)), (8, .pointer none), (10, .bool false), (12, .bool false), (14, .bool false), (55, .pointer (some ⟨tb1, 0, none⟩)), (59, .agg #[.int .i64 ((port % 8 : Nat) : Int), .int .i64 0, .int .i64 1])] (by kernel_rfl) rfl ?_
    have hzs7 := hS.size
    have hzl5 := ht.lt
    refine VL_call (d := 60) (f := 11) (args := #[.pointer (some ⟨tb1, 0, none⟩), .agg #[.int .i64 ((port % 8 : Nat) : Int), .int .i64 0, .int .i64 1], .int .i64 0]) (by kernel_rfl) (by kernel_rfl) (by kernel_rfl) Try.call11 (put_full ((port % 8 : Nat) : Int) 0 1 0 ht hi (decide_eq_true (by omega)) (hv _ (fun i hi9 => by omega)) (by omega)) ?_
    rintro _ w7 ⟨rfl, ht2, hc7⟩
    replace hS := Step.transNew hS hc7 (fun _ _ _ => by omega)
    refine VL_pure 9 [6, 8, 10, 12, 14, 62, 63] [(6, .int .i64 ((min r 64 : Nat) : Int)), (8, .pointer none), (10, .bool false), (12, .bool false), (14, .bool false), (62, .bool true), (63, .pointer (some ⟨tb1, 0, none⟩))] (by kernel_rfl) rfl ?_
    have hzs8 := hS.size
    have hzl6 := ht2.lt
    refine VL_call (d := 64) (f := 15) (args := #[.pointer (some ⟨tb1, 0, none⟩)]) (by kernel_rfl) (by kernel_rfl) (by kernel_rfl) Try.call15 (len_tab ht2) ?_
    rintro _ w8 ⟨rfl, hc8⟩
    replace hS := Step.trans hS hc8
    replace ht2 := ht2.no hc8
    refine VL_pure 14 [8, 10, 12, 14, 68] [(8, .pointer none), (10, .bool false), (12, .bool false), (14, .bool false), (68, .bool ((k : Int) == ((min r 64 : Nat) : Int)))] (by kernel_rfl) rfl ?_
    refine VL_known ((k : Int) == ((min r 64 : Nat) : Int)) (fun bV => [(8, .pointer none), (10, .bool false), (12, .bool false), (14, .bool false), (68, .bool bV)]) true rfl (by rw [beq_iff_eq]; omega) ?_
    refine VL_pure 16 [8, 10, 12, 14, 68, 69, 70] [(8, .pointer none), (10, .bool false), (12, .bool false), (14, .bool false), (68, .bool true), (69, .pointer none), (70, .agg #[.int .i64 0, .int .i64 0, .int .i64 0])] (by kernel_rfl) rfl ?_
    have hzs9 := hS.size
    have hzl7 := ht2.lt
    refine VL_call (d := 71) (f := 11) (by kernel_rfl) (by kernel_rfl) (by kernel_rfl) Try.call11 (put_nil 0 0 0 0 _) ?_
    rintro _ w9 ⟨rfl, hc9⟩
    replace hS := Step.trans hS hc9
    replace ht2 := ht2.no hc9
    refine VL_pure 33 [8, 86, 87] [(8, .pointer none), (86, .bool true), (87, .pointer none)] (by kernel_rfl) rfl ?_
    have hzs10 := hS.size
    have hzl8 := ht2.lt
    refine VL_call (d := 88) (f := 15) (by kernel_rfl) (by kernel_rfl) (by kernel_rfl) Try.call15 (len_nil _) ?_
    rintro _ w10 ⟨rfl, hc10⟩
    replace hS := Step.trans hS hc10
    replace ht2 := ht2.no hc10
    refine VL_pure 38 [91, 92] [(91, .bool true), (92, .pointer none)] (by kernel_rfl) rfl ?_
    have hzs11 := hS.size
    have hzl9 := ht2.lt
    refine VL_call (d := 93) (f := 18) (by kernel_rfl) (by kernel_rfl) (by kernel_rfl) Try.call18 (lalln_any _ rfl _) ?_
    rintro _ w11 ⟨A9, c9, rfl, hc11⟩
    replace hS := Step.trans hS hc11
    replace ht2 := ht2.no hc11
    refine VL_pure 43 [4] [(4, .bool true)] (by kernel_rfl) rfl ?_
    refine VL_end (by kernel_rfl) ?_
    refine VQ_next ?_
    refine VC_ret ?_
    refine VQ_ret1 (.bool true) (.inr rfl) rfl rfl ?_
    exact ⟨rfl, hS⟩

end Go.Proofs.Ytfkahhkojlfmdaa
