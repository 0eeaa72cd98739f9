/- Layers 1, 4: Ten, Seal, Sealed. -/
import Derived.Test.YteipakmfiiccpaaProg
import Derived.Test.YteipakmfiiccpaaSm2
set_option linter.unusedVariables false
set_option linter.unusedSimpArgs false
namespace Go.Proofs.Yteipakmfiiccpaa
open Go.Vc Go.RowKit

set_option maxRecDepth 100000 in
set_option maxHeartbeats 4000000 in
theorem ten_any (A : Option Addr) (n c Bd : Nat) (bs : List Int) (w : World) (hn : bs.length = n) (hA : Sl w Bd A (iL .u8 bs)) (hlen : n < 1152921504606846976) (hBd : Bd ≤ w.heap.size) :
    CV Try.prog 25 #[.slice A n c] w (fun x w1 => x = .int .u16 (tenB bs) ∧ Step No w w1) := by
  have hS : Step No w w := Step.refl _ _
  refine CV_enter Try.f25 _ 6 [(0, .slice A n c)] Try.func25 rfl rfl (by kernel_rfl) rfl ?_
  refine VC_seq ?_
  refine VC_region ?_
  refine VL_pure 1 [0] [(0, .slice A n c)] (by kernel_rfl) rfl ?_
  refine VL_end (by kernel_rfl) ?_
  refine VQ_next ?_
  refine VC_seq ?_
  refine VC_region ?_
  refine VL_pure 1 [3] [(3, .slice A n c)] (by kernel_rfl) rfl ?_
  have hzs1 := hS.size
  refine VL_call (d := 4) (f := 31) (args := #[.slice A n c, .int .u32 0, .int .u32 512, .int .u32 563]) (by kernel_rfl) (by kernel_rfl) (by kernel_rfl) Try.call31 (rest_any A n c _ bs _ hn hA 0 512 563 (by omega) (by first | exact Nat.le_refl _ | omega)) ?_
  rintro _ w1 ⟨rfl, hc1⟩
  replace hS := Step.trans hS hc1
  replace hA := hA.no hc1
  refine VL_pure 4 [2] [(2, .int .u16 (IntKind.wrap .u16 (restB bs 0 512 563)))] (by kernel_rfl) rfl ?_
  refine VL_end (by kernel_rfl) ?_
  refine VQ_next ?_
  refine VC_ret ?_
  refine VQ_ret1 (.int .u16 (IntKind.wrap .u16 (restB bs 0 512 563))) (.inr rfl) rfl rfl ?_
  exact ⟨rfl, hS⟩

set_option maxRecDepth 100000 in
set_option maxHeartbeats 4000000 in
theorem seal_any (bs : List Int) (w : World) (hn : bs.length = 48) :
    CV Try.prog 18 #[.agg (iA .u8 bs)] w (fun x w1 => x = .agg (iA .u8 (sealL bs)) ∧ Step No w w1) := by
  have hS : Step No w w := Step.refl _ _
  refine CV_enter Try.f18 _ 37 [(0, .agg (iA .u8 bs))] Try.func18 rfl rfl (by kernel_rfl) rfl ?_
  refine VC_seq ?_
  refine VC_region ?_
  have hzs1 := hS.size
  have hzs2 := hS.size
  refine VL_box (d := 1) (t := 26) (c := iA .u8 bs) (by kernel_rfl) (by kernel_rfl) ?_
  intro b1 w1 hn1
  replace hS := Step.trans hS (hn1.step No)
  have ho1 := hn1.own
  have hzhn1 := hn1.size
  have hqhn1 := hn1.eqb
  have hzs3 := hS.size
  have hzl1 := ho1.lt
  have hzs4 := hS.size
  have hzl2 := ho1.lt
  refine VL_box (d := 2) (t := 26) (c := iA .u8 (List.replicate 48 0)) (by kernel_rfl) (by kernel_rfl) ?_
  intro b2 w2 hn2
  replace hS := Step.trans hS (hn2.step No)
  replace ho1 := ho1.no (hn2.step No)
  have ho2 := hn2.own
  have hzhn2 := hn2.size
  have hqhn2 := hn2.eqb
  refine VL_end (by kernel_rfl) ?_
  refine VQ_next ?_
  refine VC_seq ?_
  refine VC_region ?_
  have hzs5 := hS.size
  have hzl3 := ho1.lt
  have hzl4 := ho2.lt
  have hzs6 := hS.size
  have hzl5 := ho1.lt
  have hzl6 := ho2.lt
  refine VL_box (d := 3) (t := 59) (c := iA .u8 (List.replicate 47 0)) (by kernel_rfl) (by kernel_rfl) ?_
  intro b3 w3 hn3
  replace hS := Step.trans hS (hn3.step No)
  replace ho1 := ho1.no (hn3.step No)
  replace ho2 := ho2.no (hn3.step No)
  have ho3 := hn3.own
  have hzhn3 := hn3.size
  have hqhn3 := hn3.eqb
  refine VL_end (by kernel_rfl) ?_
  refine VQ_next ?_
  refine VC_seq ?_
  refine VC_region ?_
  refine VL_pure 1 [1, 2, 3, 4] [(1, .pointer (some ⟨b1, 0, none⟩)), (2, .pointer (some ⟨b2, 0, none⟩)), (3, .pointer (some ⟨b3, 0, none⟩)), (4, .int .u8 0)] (by kernel_rfl) rfl ?_
  refine VL_end (by kernel_rfl) ?_
  refine VQ_next ?_
  refine VC_seq ?_
  refine VC_seq ?_
  refine VC_region ?_
  refine VL_pure 1 [1, 2, 3, 4, 7] [(1, .pointer (some ⟨b1, 0, none⟩)), (2, .pointer (some ⟨b2, 0, none⟩)), (3, .pointer (some ⟨b3, 0, none⟩)), (4, .int .u8 0), (7, .int .i64 0)] (by kernel_rfl) rfl ?_
  refine VL_end (by kernel_rfl) ?_
  refine VQ_next ?_
  refine VC_block ?_
  refine VC_loop (σ := Nat) (fun σs => [(1, .pointer (some ⟨b1, 0, none⟩)), (2, .pointer (some ⟨b2, 0, none⟩)), (3, .pointer (some ⟨b3, 0, none⟩)), (7, .int .i64 ((σs : Nat) : Int)), (4, .int .u8 (carryF bs σs))]) (fun σs w4 => (σs ≤ 47) ∧ (Step No w w4) ∧ (Own w4 b1 (iA .u8 bs) 26) ∧ (Own w4 b2 (iA .u8 (List.replicate 48 0)) 26) ∧ (Own w4 b3 (iA .u8 (shiftF bs σs)) 59)) (fun σs w4 => 47 - σs) 0 ⟨rfl, rfl, rfl, rfl, rfl, trivial⟩ ?_ ?_
  · exact ⟨Nat.zero_le _, hS, ho1, ho2, (Own.cast ho3 rfl)⟩
  rintro k w4 ⟨hk, hS, ho1, ho2, ho4⟩
  try dsimp only at hk hS ho1 ho2 ho4 ⊢
  refine VC_seq ?_
  refine VC_region ?_
  refine VL_pure 1 [1, 2, 3, 7, 4, 8] [(1, .pointer (some ⟨b1, 0, none⟩)), (2, .pointer (some ⟨b2, 0, none⟩)), (3, .pointer (some ⟨b3, 0, none⟩)), (7, .int .i64 ((k : Nat) : Int)), (4, .int .u8 (carryF bs k)), (8, .bool (decide (((k : Nat) : Int) < 47)))] (by kernel_rfl) rfl ?_
  refine VL_end (by kernel_rfl) ?_
  refine VQ_next ?_
  refine VC_seq ?_
  refine VC_dec (((k : Nat) : Int) < 47) (by kernel_rfl) (fun h1 => ?_) (fun h1 => ?_)
  · refine VC_skip ?_
    refine VQ_next ?_
    refine VC_seq ?_
    refine VC_block ?_
    refine VC_seq ?_
    refine VC_region ?_
    refine VL_pure 2 [1, 2, 3, 7, 4, 5] [(1, .pointer (some ⟨b1, 0, none⟩)), (2, .pointer (some ⟨b2, 0, none⟩)), (3, .pointer (some ⟨b3, 0, none⟩)), (7, .int .i64 ((k : Nat) : Int)), (4, .int .u8 (carryF bs k)), (5, .int .i64 ((k : Nat) : Int))] (by kernel_rfl) rfl ?_
    refine VL_end (by kernel_rfl) ?_
    refine VQ_next ?_
    refine VC_seq ?_
    refine VC_region ?_
    refine VL_pure 3 [1, 2, 3, 7, 5, 10, 11, 12] [(1, .pointer (some ⟨b1, 0, none⟩)), (2, .pointer (some ⟨b2, 0, none⟩)), (3, .pointer (some ⟨b3, 0, none⟩)), (7, .int .i64 ((k : Nat) : Int)), (5, .int .i64 ((k : Nat) : Int)), (10, .int .i64 ((k : Nat) : Int)), (11, .int .u8 (carryF bs k)), (12, .int .i64 ((k : Nat) : Int))] (by kernel_rfl) rfl ?_
    refine VL_index (d := 13) (b := b1) (o := 0) (len := 48) (sz := 1) (m := ((k : Nat) : Int)) (by kernel_rfl) (by kernel_rfl) k (by rfl) (by omega) k (by omega) ?_
    refine VL_load (d := 14) (t := 5) (a := ⟨b1, k, none⟩) (v := .int .u8 (bs.getD k 0)) (by kernel_rfl) (by kernel_rfl) (Loads.arr1 ho1 (by kernel_rfl) (by (try simp only [List.length_set, shiftF_len]) <;> omega)) ?_
    refine VL_pure 7 [1, 2, 3, 7, 5, 10, 16] [(1, .pointer (some ⟨b1, 0, none⟩)), (2, .pointer (some ⟨b2, 0, none⟩)), (3, .pointer (some ⟨b3, 0, none⟩)), (7, .int .i64 ((k : Nat) : Int)), (5, .int .i64 ((k : Nat) : Int)), (10, .int .i64 ((k : Nat) : Int)), (16, .int .u8 (bOr .u8 (carryF bs k) ((bs.getD k 0).fdiv (2 ^ 2))))] (by kernel_rfl) rfl ?_
    refine VL_index (d := 17) (b := b3) (o := 0) (len := 47) (sz := 1) (m := ((k : Nat) : Int)) (by kernel_rfl) (by kernel_rfl) k (by rfl) (by omega) k (by omega) ?_
    refine VL_store (b := b3) (o := k) (vs := [.int .u8 (bOr .u8 (carryF bs k) ((bs.getD k 0).fdiv (2 ^ 2)))]) (by kernel_rfl) (by kernel_rfl) ho4 (by simp only [iA_size, List.length_singleton]; exact (by (try simp only [List.length_set, shiftF_len]) <;> omega)) ?_
    intro w5 hw1
    replace hS := Step.transNew hS hw1.step (fun _ _ _ => by omega)
    replace ho1 := ho1.step hw1.step (show ¬ b1 = b3 by omega)
    replace ho2 := ho2.step hw1.step (show ¬ b2 = b3 by omega)
    have ho5 := Own.cast hw1.own (iA_set k (bOr .u8 (carryF bs k) ((bs.getD k 0).fdiv (2 ^ 2))) (by (try simp only [List.length_set, shiftF_len]) <;> omega))
    have hzhw1 := hw1.same
    refine VL_end (by kernel_rfl) ?_
    refine VQ_next ?_
    refine VC_region ?_
    refine VL_pure 1 [1, 2, 3, 7, 18] [(1, .pointer (some ⟨b1, 0, none⟩)), (2, .pointer (some ⟨b2, 0, none⟩)), (3, .pointer (some ⟨b3, 0, none⟩)), (7, .int .i64 ((k : Nat) : Int)), (18, .int .i64 ((k : Nat) : Int))] (by kernel_rfl) rfl ?_
    refine VL_index (d := 19) (b := b1) (o := 0) (len := 48) (sz := 1) (m := ((k : Nat) : Int)) (by kernel_rfl) (by kernel_rfl) k (by rfl) (by omega) k (by omega) ?_
    refine VL_load (d := 20) (t := 5) (a := ⟨b1, k, none⟩) (v := .int .u8 (bs.getD k 0)) (by kernel_rfl) (by kernel_rfl) (Loads.arr1 ho1 (by kernel_rfl) (by (try simp only [List.length_set, shiftF_len]) <;> omega)) ?_
    refine VL_pure 5 [1, 2, 3, 7, 4] [(1, .pointer (some ⟨b1, 0, none⟩)), (2, .pointer (some ⟨b2, 0, none⟩)), (3, .pointer (some ⟨b3, 0, none⟩)), (7, .int .i64 ((k : Nat) : Int)), (4, .int .u8 (IntKind.wrap .u8 ((bs.getD k 0) * 2 ^ 6)))] (by kernel_rfl) rfl ?_
    refine VL_end (by kernel_rfl) ?_
    refine VQ_block_normal ?_
    refine VQ_next ?_
    refine VC_region ?_
    refine VL_pure 1 [1, 2, 3, 4, 22] [(1, .pointer (some ⟨b1, 0, none⟩)), (2, .pointer (some ⟨b2, 0, none⟩)), (3, .pointer (some ⟨b3, 0, none⟩)), (4, .int .u8 (IntKind.wrap .u8 ((bs.getD k 0) * 2 ^ 6))), (22, .int .i64 (IntKind.wrap .i64 (((k : Nat) : Int) + 1)))] (by kernel_rfl) rfl ?_
    have he1 : IntKind.wrap .i64 (((k : Nat) : Int) + 1) = ((k + 1 : Nat) : Int) := (by rw [wrap_i64 _ (by omega) (by omega)]; omega)
    refine VL_eq [(1, .pointer (some ⟨b1, 0, none⟩)), (2, .pointer (some ⟨b2, 0, none⟩)), (3, .pointer (some ⟨b3, 0, none⟩)), (4, .int .u8 (IntKind.wrap .u8 ((bs.getD k 0) * 2 ^ 6))), (22, .int .i64 ((k + 1 : Nat) : Int))] (by rw [he1]) ?_
    refine VL_pure 2 [1, 2, 3, 4, 7] [(1, .pointer (some ⟨b1, 0, none⟩)), (2, .pointer (some ⟨b2, 0, none⟩)), (3, .pointer (some ⟨b3, 0, none⟩)), (4, .int .u8 (IntKind.wrap .u8 ((bs.getD k 0) * 2 ^ 6))), (7, .int .i64 ((k + 1 : Nat) : Int))] (by kernel_rfl) rfl ?_
    refine VL_end (by kernel_rfl) ?_
    refine VQ_again (k + 1) ⟨rfl, rfl, rfl, rfl, rfl, trivial⟩ ?_ ?_
    · exact ⟨(by omega), hS, ho1, ho2, (Own.cast ho5 rfl)⟩
    · (try dsimp only); omega
  · refine VC_exit ?_
    refine VQ_then_exit ?_
    refine VQ_then_exit ?_
    refine VQ_block_hit ?_
    refine VQ_next ?_
    refine VC_seq ?_
    obtain rfl : k = 47 := by omega
    replace ho4 : Own w4 b3 (iA .u8 (shiftF bs 47)) 59 := ho4
    refine VC_region ?_
    refine VL_pure 1 [1, 2, 23] [(1, .pointer (some ⟨b1, 0, none⟩)), (2, .pointer (some ⟨b2, 0, none⟩)), (23, .slice (some ⟨b3, 0, none⟩) 47 47)] (by kernel_rfl) rfl ?_
    have hzs7 := hS.size
    have hzl7 := ho1.lt
    have hzl8 := ho2.lt
    have hzl9 := ho4.lt
    refine VL_call (d := 24) (f := 25) (args := #[.slice (some ⟨b3, 0, none⟩) 47 47]) (by kernel_rfl) (by kernel_rfl) (by kernel_rfl) Try.call25 (ten_any (some ⟨b3, 0, none⟩) 47 47 _ (shiftF bs 47) _ (shiftF_len _ _) (Own.slI ho4 ho4.lt) (by omega) (by first | exact Nat.le_refl _ | omega)) ?_
    rintro _ w6 ⟨rfl, hc1⟩
    replace hS := Step.trans hS hc1
    replace ho1 := ho1.no hc1
    replace ho2 := ho2.no hc1
    replace ho4 := ho4.no hc1
    refine VL_pure 3 [1, 2, 6] [(1, .pointer (some ⟨b1, 0, none⟩)), (2, .pointer (some ⟨b2, 0, none⟩)), (6, .int .u16 (tenB (shiftF bs 47)))] (by kernel_rfl) rfl ?_
    refine VL_end (by kernel_rfl) ?_
    refine VQ_next ?_
    refine VC_seq ?_
    refine VC_region ?_
    refine VL_index (d := 25) (b := b1) (o := 0) (len := 48) (sz := 1) (m := 46) (by kernel_rfl) (by kernel_rfl) 46 (by rfl) (by omega) 46 (by omega) ?_
    refine VL_load (d := 26) (t := 5) (a := ⟨b1, 46, none⟩) (v := .int .u8 (bs.getD 46 0)) (by kernel_rfl) (by kernel_rfl) (Loads.arr1 ho1 (by kernel_rfl) (by (try simp only [List.length_set, shiftF_len]) <;> omega)) ?_
    refine VL_pure 7 [1, 2, 6, 31] [(1, .pointer (some ⟨b1, 0, none⟩)), (2, .pointer (some ⟨b2, 0, none⟩)), (6, .int .u16 (tenB (shiftF bs 47))), (31, .int .u8 (bOr .u8 (bAndNot .u8 (bs.getD 46 0) 3) (IntKind.wrap .u8 ((tenB (shiftF bs 47)).fdiv (2 ^ 8)))))] (by kernel_rfl) rfl ?_
    refine VL_index (d := 32) (b := b1) (o := 0) (len := 48) (sz := 1) (m := 46) (by kernel_rfl) (by kernel_rfl) 46 (by rfl) (by omega) 46 (by omega) ?_
    refine VL_store (b := b1) (o := 46) (vs := [.int .u8 (bOr .u8 (bAndNot .u8 (bs.getD 46 0) 3) (IntKind.wrap .u8 ((tenB (shiftF bs 47)).fdiv (2 ^ 8))))]) (by kernel_rfl) (by kernel_rfl) ho1 (by simp only [iA_size, List.length_singleton]; exact (by (try simp only [List.length_set, shiftF_len]) <;> omega)) ?_
    intro w7 hw2
    replace hS := Step.transNew hS hw2.step (fun _ _ _ => by omega)
    replace ho2 := ho2.step hw2.step (show ¬ b2 = b1 by omega)
    replace ho4 := ho4.step hw2.step (show ¬ b3 = b1 by omega)
    have ho6 := Own.cast hw2.own (iA_set 46 (bOr .u8 (bAndNot .u8 (bs.getD 46 0) 3) (IntKind.wrap .u8 ((tenB (shiftF bs 47)).fdiv (2 ^ 8)))) (by (try simp only [List.length_set, shiftF_len]) <;> omega))
    have hzhw2 := hw2.same
    refine VL_end (by kernel_rfl) ?_
    refine VQ_next ?_
    refine VC_seq ?_
    refine VC_region ?_
    refine VL_pure 2 [1, 2, 34] [(1, .pointer (some ⟨b1, 0, none⟩)), (2, .pointer (some ⟨b2, 0, none⟩)), (34, .int .u8 (IntKind.wrap .u8 (tenB (shiftF bs 47))))] (by kernel_rfl) rfl ?_
    refine VL_index (d := 35) (b := b1) (o := 0) (len := 48) (sz := 1) (m := 47) (by kernel_rfl) (by kernel_rfl) 47 (by rfl) (by omega) 47 (by omega) ?_
    refine VL_store (b := b1) (o := 47) (vs := [.int .u8 (IntKind.wrap .u8 (tenB (shiftF bs 47)))]) (by kernel_rfl) (by kernel_rfl) ho6 (by simp only [iA_size, List.length_singleton]; exact (by (try simp only [List.length_set, shiftF_len]) <;> omega)) ?_
    intro w8 hw3
    replace hS := Step.transNew hS hw3.step (fun _ _ _ => by omega)
    replace ho2 := ho2.step hw3.step (show ¬ b2 = b1 by omega)
    replace ho4 := ho4.step hw3.step (show ¬ b3 = b1 by omega)
    have ho7 := Own.cast hw3.own (iA_set 47 (IntKind.wrap .u8 (tenB (shiftF bs 47))) (by (try simp only [List.length_set, shiftF_len]) <;> omega))
    have hzhw3 := hw3.same
    refine VL_end (by kernel_rfl) ?_
    refine VQ_next ?_
    refine VC_seq ?_
    refine VC_region ?_
    refine VL_load (d := 36) (t := 26) (a := ⟨b1, 0, none⟩) (v := .agg (iA .u8 ((bs.set 46 (bOr .u8 (bAndNot .u8 (bs.getD 46 0) 3) (IntKind.wrap .u8 ((tenB (shiftF bs 47)).fdiv (2 ^ 8))))).set 47 (IntKind.wrap .u8 (tenB (shiftF bs 47)))))) (by kernel_rfl) (by kernel_rfl) (Loads.arr (N := 48) ho7 (by kernel_rfl) (by (try simp only [List.length_set, List.length_append, List.length_map, List.length_replicate, List.length_cons, List.length_nil, List.length_take, List.length_drop, List.length_range]) <;> omega)) ?_
    refine VL_storeA (b := b2) (sz := 48) (k := .u8) (bs := (bs.set 46 (bOr .u8 (bAndNot .u8 (bs.getD 46 0) 3) (IntKind.wrap .u8 ((tenB (shiftF bs 47)).fdiv (2 ^ 8))))).set 47 (IntKind.wrap .u8 (tenB (shiftF bs 47)))) (by kernel_rfl) (by kernel_rfl) (by (try simp only [List.length_set, shiftF_len]) <;> omega) ho2 (iA_size.trans (by (try simp only [List.length_set, List.length_append, List.length_map, List.length_replicate, List.length_cons, List.length_nil, List.length_take, List.length_drop, List.length_range]) <;> omega)) ?_
    intro w9 hw4
    replace hS := Step.transNew hS hw4.step (fun _ _ _ => by omega)
    replace ho4 := ho4.step hw4.step (show ¬ b3 = b2 by omega)
    replace ho7 := ho7.step hw4.step (show ¬ b1 = b2 by omega)
    have ho8 := hw4.own
    have hzhw4 := hw4.same
    refine VL_end (by kernel_rfl) ?_
    refine VQ_next ?_
    refine VC_ret ?_
    refine VQ_retC1 (T := 26) (.agg (iA .u8 ((bs.set 46 (bOr .u8 (bAndNot .u8 (bs.getD 46 0) 3) (IntKind.wrap .u8 ((tenB (shiftF bs 47)).fdiv (2 ^ 8))))).set 47 (IntKind.wrap .u8 (tenB (shiftF bs 47)))))) (.inr rfl) rfl rfl (Loads.arr (N := 48) ho8 (by kernel_rfl) (by (try simp only [List.length_set, shiftF_len]) <;> omega)) ?_
    exact ⟨rfl, hS⟩

end Go.Proofs.Yteipakmfiiccpaa
