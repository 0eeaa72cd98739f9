/- Layer 14, the document's: sixteen, Unpack. -/
import Derived.Test.YteipakmfiiccpaaProg
import Derived.Test.YteipakmfiiccpaaOm6
set_option linter.unusedVariables false
set_option linter.unusedSimpArgs false
namespace Go.Proofs.Yteipakmfiiccpaa
open Go.Vc Go.RowKit

set_option maxRecDepth 100000 in
set_option maxHeartbeats 4000000 in
theorem sixteen_any (A : Option Addr) (n c Bd : Nat) (bs : List Int) (w : World) (hn : bs.length = n) (hA : Sl w Bd A (iL .u8 bs)) (hBd : Bd ≤ w.heap.size) (h16 : 16 ≤ n) :
    CV Try.prog 24 #[.slice A n c] w (fun x w1 => x = .agg (iA .u8 (sixF bs 16)) ∧ Step No w w1) := by
  have hS : Step No w w := Step.refl _ _
  refine CV_enter Try.f24 _ 17 [(0, .slice A n c)] Try.func24 rfl rfl (by kernel_rfl) rfl ?_
  refine VC_seq ?_
  refine VC_region ?_
  have hzs1 := hS.size
  have hzs2 := hS.size
  refine VL_box (d := 2) (t := 23) (c := iA .u8 (List.replicate 16 0)) (by kernel_rfl) (by kernel_rfl) ?_
  intro b1 w1 hn1
  replace hS := Step.trans hS (hn1.step No)
  replace hA := hA.no (hn1.step No)
  have ho1 := hn1.own
  have hzhn1 := hn1.size
  have hqhn1 := hn1.eqb
  refine VL_end (by kernel_rfl) ?_
  refine VQ_next ?_
  refine VC_seq ?_
  refine VC_region ?_
  refine VL_pure 1 [0, 2, 5] [(0, .slice A n c), (2, .pointer (some ⟨b1, 0, none⟩)), (5, .agg #[.int .u8 0, .int .u8 0, .int .u8 0, .int .u8 0, .int .u8 0, .int .u8 0, .int .u8 0, .int .u8 0, .int .u8 0, .int .u8 0, .int .u8 0, .int .u8 0, .int .u8 0, .int .u8 0, .int .u8 0, .int .u8 0])] (by kernel_rfl) rfl ?_
  have hzs3 := hS.size
  have hzl1 := ho1.lt
  have hzs4 := hS.size
  have hzl2 := ho1.lt
  refine VL_box (d := 3) (t := 23) (c := iA .u8 (List.replicate 16 0)) (by kernel_rfl) (by kernel_rfl) ?_
  intro b2 w2 hn2
  replace hS := Step.trans hS (hn2.step No)
  replace hA := hA.no (hn2.step No)
  replace ho1 := ho1.no (hn2.step No)
  have ho2 := hn2.own
  have hzhn2 := hn2.size
  have hqhn2 := hn2.eqb
  refine VL_storeA (b := b2) (sz := 16) (k := .u8) (bs := List.replicate 16 0) (by kernel_rfl) (by kernel_rfl) (by first | rw [sixF_len (by omega) (by omega)] | simp) ho2 (iA_size.trans (by (try simp only [List.length_set, List.length_append, List.length_map, List.length_replicate, List.length_cons, List.length_nil, List.length_take, List.length_drop, List.length_range]) <;> omega)) ?_
  intro w3 hw1
  replace hS := Step.transNew hS hw1.step (fun _ _ _ => by omega)
  replace hA := hA.step hw1.step (fun k hk (hF : k = b2) => by omega)
  replace ho1 := ho1.step hw1.step (show ¬ b1 = b2 by omega)
  have ho3 := hw1.own
  have hzhw1 := hw1.same
  refine VL_end (by kernel_rfl) ?_
  refine VQ_next ?_
  refine VC_seq ?_
  refine VC_seq ?_
  refine VC_region ?_
  refine VL_pure 1 [0, 2, 3, 6] [(0, .slice A n c), (2, .pointer (some ⟨b1, 0, none⟩)), (3, .pointer (some ⟨b2, 0, none⟩)), (6, .int .i64 0)] (by kernel_rfl) rfl ?_
  refine VL_end (by kernel_rfl) ?_
  refine VQ_next ?_
  refine VC_block ?_
  refine VC_loop (σ := Nat) (fun σs => [(0, .slice A n c), (2, .pointer (some ⟨b1, 0, none⟩)), (3, .pointer (some ⟨b2, 0, none⟩)), (6, .int .i64 ((σs : Nat) : Int))]) (fun σs w4 => (σs ≤ 16) ∧ (Step No w w4) ∧ (Sl w4 Bd A (iL .u8 bs)) ∧ (Own w4 b1 (iA .u8 (List.replicate 16 0)) 23) ∧ (Own w4 b2 (iA .u8 (sixF bs σs)) 23)) (fun σs w4 => 16 - σs) 0 ⟨rfl, rfl, rfl, rfl, trivial⟩ ?_ ?_
  · exact ⟨Nat.zero_le _, hS, hA, ho1, (Own.cast ho3 rfl)⟩
  rintro i w4 ⟨hi, hS, hA, ho1, ho4⟩
  try dsimp only at hi hS hA ho1 ho4 ⊢
  refine VC_seq ?_
  refine VC_region ?_
  refine VL_pure 1 [0, 2, 3, 6, 7] [(0, .slice A n c), (2, .pointer (some ⟨b1, 0, none⟩)), (3, .pointer (some ⟨b2, 0, none⟩)), (6, .int .i64 ((i : Nat) : Int)), (7, .bool (decide (((i : Nat) : Int) < 16)))] (by kernel_rfl) rfl ?_
  refine VL_end (by kernel_rfl) ?_
  refine VQ_next ?_
  refine VC_seq ?_
  refine VC_dec (((i : Nat) : Int) < 16) (by kernel_rfl) (fun h1 => ?_) (fun h1 => ?_)
  · refine VC_skip ?_
    refine VQ_next ?_
    refine VC_seq ?_
    refine VC_block ?_
    refine VC_seq ?_
    refine VC_region ?_
    refine VL_pure 2 [0, 2, 3, 6, 4] [(0, .slice A n c), (2, .pointer (some ⟨b1, 0, none⟩)), (3, .pointer (some ⟨b2, 0, none⟩)), (6, .int .i64 ((i : Nat) : Int)), (4, .int .i64 ((i : Nat) : Int))] (by kernel_rfl) rfl ?_
    refine VL_end (by kernel_rfl) ?_
    refine VQ_next ?_
    refine VC_region ?_
    refine VL_pure 3 [0, 2, 3, 6, 9, 10, 11] [(0, .slice A n c), (2, .pointer (some ⟨b1, 0, none⟩)), (3, .pointer (some ⟨b2, 0, none⟩)), (6, .int .i64 ((i : Nat) : Int)), (9, .int .i64 ((i : Nat) : Int)), (10, .slice A n c), (11, .int .i64 ((i : Nat) : Int))] (by kernel_rfl) rfl ?_
    obtain ⟨sb1, so1, rfl, hlbsb1⟩ := hA.open (by simp only [iL_length]; omega)
    refine VL_index (d := 12) (b := sb1) (o := so1) (len := n) (sz := 1) (m := ((i : Nat) : Int)) (by kernel_rfl) (by kernel_rfl) i (by rfl) (by omega) (so1 + i) (by omega) ?_
    refine VL_load (d := 13) (t := 5) (a := ⟨sb1, so1 + i, none⟩) (v := .int .u8 (bs.getD i 0)) (by kernel_rfl) (by kernel_rfl) (Sl.ldI hA (by kernel_rfl) i (by first | (rw [sixF_len (by omega) (by omega)]; omega) | omega)) ?_
    refine VL_index (d := 14) (b := b2) (o := 0) (len := 16) (sz := 1) (m := ((i : Nat) : Int)) (by kernel_rfl) (by kernel_rfl) i (by rfl) (by omega) i (by omega) ?_
    refine VL_store (b := b2) (o := i) (vs := [.int .u8 (bs.getD i 0)]) (by kernel_rfl) (by kernel_rfl) ho4 (by simp only [iA_size, List.length_singleton]; exact (by first | (rw [sixF_len (by omega) (by omega)]; omega) | omega)) ?_
    intro w5 hw2
    replace hS := Step.transNew hS hw2.step (fun _ _ _ => by omega)
    replace hA := hA.keepB hw2.step (show ¬ sb1 = b2 by omega)
    replace ho1 := ho1.step hw2.step (show ¬ b1 = b2 by omega)
    have ho5 := Own.cast hw2.own (iA_set i (bs.getD i 0) (by first | (rw [sixF_len (by omega) (by omega)]; omega) | omega))
    have hzhw2 := hw2.same
    refine VL_end (by kernel_rfl) ?_
    refine VQ_block_normal ?_
    refine VQ_next ?_
    refine VC_region ?_
    refine VL_pure 1 [0, 2, 3, 15] [(0, .slice (some ⟨sb1, so1, none⟩) n c), (2, .pointer (some ⟨b1, 0, none⟩)), (3, .pointer (some ⟨b2, 0, none⟩)), (15, .int .i64 (IntKind.wrap .i64 (((i : Nat) : Int) + 1)))] (by kernel_rfl) rfl ?_
    have he1 : IntKind.wrap .i64 (((i : Nat) : Int) + 1) = ((i + 1 : Nat) : Int) := (by rw [wrap_i64 _ (by omega) (by omega)]; omega)
    refine VL_eq [(0, .slice (some ⟨sb1, so1, none⟩) n c), (2, .pointer (some ⟨b1, 0, none⟩)), (3, .pointer (some ⟨b2, 0, none⟩)), (15, .int .i64 ((i + 1 : Nat) : Int))] (by rw [he1]) ?_
    refine VL_pure 2 [0, 2, 3, 6] [(0, .slice (some ⟨sb1, so1, none⟩) n c), (2, .pointer (some ⟨b1, 0, none⟩)), (3, .pointer (some ⟨b2, 0, none⟩)), (6, .int .i64 ((i + 1 : Nat) : Int))] (by kernel_rfl) rfl ?_
    refine VL_end (by kernel_rfl) ?_
    refine VQ_again (i + 1) ⟨rfl, rfl, rfl, rfl, trivial⟩ ?_ ?_
    · exact ⟨(by omega), hS, hA, ho1, (Own.cast ho5 (by rw [sixF_succ (by omega) (by omega)]))⟩
    · (try dsimp only); omega
  · refine VC_exit ?_
    refine VQ_then_exit ?_
    refine VQ_then_exit ?_
    refine VQ_block_hit ?_
    refine VQ_next ?_
    refine VC_seq ?_
    obtain rfl : i = 16 := by omega
    refine VC_region ?_
    refine VL_load (d := 16) (t := 23) (a := ⟨b2, 0, none⟩) (v := .agg (iA .u8 (sixF bs 16))) (by kernel_rfl) (by kernel_rfl) (Loads.arr (N := 16) ho4 (by kernel_rfl) (sixF_len (by omega) (by omega))) ?_
    refine VL_storeA (b := b1) (sz := 16) (k := .u8) (bs := sixF bs 16) (by kernel_rfl) (by kernel_rfl) (by first | rw [sixF_len (by omega) (by omega)] | simp) ho1 (iA_size.trans (by (try simp only [List.length_set, List.length_append, List.length_map, List.length_replicate, List.length_cons, List.length_nil, List.length_take, List.length_drop, List.length_range]) <;> omega)) ?_
    intro w6 hw3
    replace hS := Step.transNew hS hw3.step (fun _ _ _ => by omega)
    replace hA := hA.step hw3.step (fun k hk (hF : k = b1) => by omega)
    replace ho4 := ho4.step hw3.step (show ¬ b2 = b1 by omega)
    have ho6 := hw3.own
    have hzhw3 := hw3.same
    refine VL_end (by kernel_rfl) ?_
    refine VQ_next ?_
    refine VC_ret ?_
    refine VQ_retC1 (T := 23) (.agg (iA .u8 (sixF bs 16))) (.inr rfl) rfl rfl (Loads.arr (N := 16) ho6 (by kernel_rfl) (by first | rw [sixF_len (by omega) (by omega)] | simp)) ?_
    exact ⟨rfl, hS⟩

theorem sixteen_sub (A : Option Addr) (c Bd : Nat) (bs : List Int) (L : Nat) (w : World) (hn : L + 16 ≤ bs.length) (hA : Sl w Bd A (iL .u8 ((bs.drop L).take 16))) (hBd : Bd ≤ w.heap.size) :
    CV Try.prog 24 #[.slice A 16 c] w (fun x w1 => x = .agg ((List.range 16).map fun i => Value.int .u8 (bs.getD (L + i) 0)).toArray ∧ Step No w w1) := by
  refine (sixteen_any A 16 c Bd _ w (by simp; omega) hA hBd (Nat.le_refl _)).mono ?_
  rintro x w1 ⟨rfl, hs⟩
  refine ⟨?_, hs⟩
  rw [six_cells (by simp; omega)]
  congr 2
  apply List.map_congr_left
  intro i hi
  rw [sub_getD (List.mem_range.1 hi)]
set_option maxRecDepth 100000 in
set_option maxHeartbeats 4000000 in
theorem runpack48_any (A : Option Addr) (c Bd : Nat) (bs : List Int) (w : World) (hn : bs.length = 48) (hA : Sl w Bd A (iL .u8 bs)) (hBd : Bd ≤ w.heap.size) (hc : 48 ≤ c) :
    CV Try.prog 13 #[.slice A 48 c] w (fun x w1 => x = .tuple #[.agg (omL (runpV bs)).toArray, .int .i64 (runpE bs)] ∧ Step No w w1) := by
  have hS : Step No w w := Step.refl _ _
  refine CV_enter Try.f13 _ 78 [(0, .slice A 48 c)] Try.func13 rfl rfl (by kernel_rfl) rfl ?_
  refine VC_seq ?_
  refine VC_region ?_
  have hzs1 := hS.size
  refine VL_box (d := 2) (t := 25) (c := #[.int .i64 0, .int .u8 0, .bool false, .int .u32 0, .int .u8 0, .int .u8 0, .int .u8 0, .int .u8 0, .int .u8 0, .int .u8 0, .int .u8 0, .int .u8 0, .int .u8 0, .int .u8 0, .int .u8 0, .int .u8 0, .int .u8 0, .int .u8 0, .int .u8 0, .int .u8 0, .int .u8 0, .int .u8 0, .int .u8 0, .int .u8 0, .int .u8 0, .int .u8 0, .int .u8 0, .int .u8 0, .int .u8 0, .int .u8 0, .int .u8 0, .int .u8 0, .int .u8 0, .int .u8 0, .int .u8 0, .int .u8 0]) (by kernel_rfl) (by kernel_rfl) ?_
  intro b1 w1 hn1
  replace hS := Step.trans hS (hn1.step No)
  replace hA := hA.no (hn1.step No)
  have ho1 := hn1.own
  have hzhn1 := hn1.size
  have hqhn1 := hn1.eqb
  refine VL_pure 2 [0, 2] [(0, .slice A 48 c), (2, .pointer (some ⟨b1, 0, none⟩))] (by kernel_rfl) rfl ?_
  refine VL_end (by kernel_rfl) ?_
  refine VQ_next ?_
  refine VC_seq ?_
  refine VC_seq ?_
  refine VC_region ?_
  refine VL_pure 1 [0, 2, 5] [(0, .slice A 48 c), (2, .pointer (some ⟨b1, 0, none⟩)), (5, .slice A 48 c)] (by kernel_rfl) rfl ?_
  have hzs2 := hS.size
  have hzl1 := ho1.lt
  refine VL_call (d := 6) (f := 23) (args := #[.slice A 48 c]) (by kernel_rfl) (by kernel_rfl) (by kernel_rfl) Try.call23 (rseal_any A 48 c _ bs _ hn hA (by first | exact Nat.le_refl _ | omega) (by omega)) ?_
  rintro _ w2 ⟨A2, c2, rfl, hr2, hc1⟩
  replace hS := Step.trans hS hc1
  replace hA := hA.no hc1
  replace ho1 := ho1.no hc1
  obtain ⟨base2, hbase2E⟩ : ∃ x, x = w1.heap.size := ⟨_, rfl⟩
  rw [← hbase2E] at hr2
  have hbase2 : base2 ≤ w2.heap.size := by rw [hbase2E]; exact hc1.size
  refine VL_pure 3 [0, 2, 6, 7] [(0, .slice A 48 c), (2, .pointer (some ⟨b1, 0, none⟩)), (6, .slice A2 48 c2), (7, .slice A 48 c)] (by kernel_rfl) rfl ?_
  have hzs3 := hS.size
  have hzl2 := ho1.lt
  refine VL_call (d := 8) (f := 15) (args := #[.slice A2 48 c2, .slice A 48 c]) (by kernel_rfl) (by kernel_rfl) (by kernel_rfl) Try.call15 (same_any A2 48 c2 _ (sealR bs) A 48 c _ bs _ (Rw.lenI hr2) (Rw.slI hr2) hn hA (by omega) (by omega) (by first | exact Nat.le_refl _ | omega) (by first | exact Nat.le_refl _ | omega)) ?_
  rintro _ w3 ⟨rfl, hc2⟩
  replace hS := Step.trans hS hc2
  replace hA := hA.no hc2
  replace ho1 := ho1.no hc2
  replace hbase2 := Nat.le_trans hbase2 (hc2).size
  replace hr2 := hr2.no hc2
  refine VL_pure 5 [0, 2, 9] [(0, .slice A 48 c), (2, .pointer (some ⟨b1, 0, none⟩)), (9, .bool (!((sealR bs) == bs)))] (by kernel_rfl) rfl ?_
  refine VL_end (by kernel_rfl) ?_
  refine VQ_next ?_
  refine VC_cond (!((sealR bs) == bs)) (by kernel_rfl) (fun h1 => ?_) (fun h1 => ?_)
  · try simp only [Bool.and_eq_true, Bool.or_eq_true, decide_eq_true_eq, Bool.not_eq_true', decide_eq_false_iff_not, Bool.and_eq_false_iff, Bool.or_eq_false_iff, beq_iff_eq, bne_iff_ne, beq_eq_false_iff_ne, bne_eq_false_iff_eq, Bool.not_eq_eq_eq_not, Bool.not_true, Bool.not_false] at h1
    refine VC_seq ?_
    refine VC_region ?_
    refine VL_pure 1 [2, 10] [(2, .pointer (some ⟨b1, 0, none⟩)), (10, .agg #[.int .i64 0, .int .u8 0, .bool false, .int .u32 0, .int .u8 0, .int .u8 0, .int .u8 0, .int .u8 0, .int .u8 0, .int .u8 0, .int .u8 0, .int .u8 0, .int .u8 0, .int .u8 0, .int .u8 0, .int .u8 0, .int .u8 0, .int .u8 0, .int .u8 0, .int .u8 0, .int .u8 0, .int .u8 0, .int .u8 0, .int .u8 0, .int .u8 0, .int .u8 0, .int .u8 0, .int .u8 0, .int .u8 0, .int .u8 0, .int .u8 0, .int .u8 0, .int .u8 0, .int .u8 0, .int .u8 0, .int .u8 0])] (by kernel_rfl) rfl ?_
    refine VL_store (b := b1) (o := 0) (vs := [.int .i64 0, .int .u8 0, .bool false, .int .u32 0, .int .u8 0, .int .u8 0, .int .u8 0, .int .u8 0, .int .u8 0, .int .u8 0, .int .u8 0, .int .u8 0, .int .u8 0, .int .u8 0, .int .u8 0, .int .u8 0, .int .u8 0, .int .u8 0, .int .u8 0, .int .u8 0, .int .u8 0, .int .u8 0, .int .u8 0, .int .u8 0, .int .u8 0, .int .u8 0, .int .u8 0, .int .u8 0, .int .u8 0, .int .u8 0, .int .u8 0, .int .u8 0, .int .u8 0, .int .u8 0, .int .u8 0, .int .u8 0]) (by kernel_rfl) (by kernel_rfl) ho1 (Nat.le_of_ble_eq_true (by kernel_rfl)) ?_
    intro w4 hw1
    replace hS := Step.transNew hS hw1.step (fun _ _ _ => by omega)
    replace hA := hA.step hw1.step (fun k hk (hF : k = b1) => by omega)
    replace hbase2 := Nat.le_trans hbase2 (hw1.step).size
    have ho2 : Own w4 b1 #[.int .i64 0, .int .u8 0, .bool false, .int .u32 0, .int .u8 0, .int .u8 0, .int .u8 0, .int .u8 0, .int .u8 0, .int .u8 0, .int .u8 0, .int .u8 0, .int .u8 0, .int .u8 0, .int .u8 0, .int .u8 0, .int .u8 0, .int .u8 0, .int .u8 0, .int .u8 0, .int .u8 0, .int .u8 0, .int .u8 0, .int .u8 0, .int .u8 0, .int .u8 0, .int .u8 0, .int .u8 0, .int .u8 0, .int .u8 0, .int .u8 0, .int .u8 0, .int .u8 0, .int .u8 0, .int .u8 0, .int .u8 0] 25 := Own.cast hw1.own (by kernel_rfl)
    have hzhw1 := hw1.same
    refine VL_pure 3 [2, 3] [(2, .pointer (some ⟨b1, 0, none⟩)), (3, .int .i64 4)] (by kernel_rfl) rfl ?_
    refine VL_end (by kernel_rfl) ?_
    refine VQ_next ?_
    refine VC_ret ?_
    refine VQ_then_ret ?_
    refine VQ_retC1T1 (T := 25) (.agg #[.int .i64 0, .int .u8 0, .bool false, .int .u32 0, .int .u8 0, .int .u8 0, .int .u8 0, .int .u8 0, .int .u8 0, .int .u8 0, .int .u8 0, .int .u8 0, .int .u8 0, .int .u8 0, .int .u8 0, .int .u8 0, .int .u8 0, .int .u8 0, .int .u8 0, .int .u8 0, .int .u8 0, .int .u8 0, .int .u8 0, .int .u8 0, .int .u8 0, .int .u8 0, .int .u8 0, .int .u8 0, .int .u8 0, .int .u8 0, .int .u8 0, .int .u8 0, .int .u8 0, .int .u8 0, .int .u8 0, .int .u8 0]) (.int .i64 4) (.inr rfl) rfl rfl rfl (Loads.ownL ho2 (n := 36) (by kernel_rfl) (by kernel_rfl) (by kernel_rfl)) ?_
    obtain ⟨e1, e2⟩ := runp_4 (bs := bs) ‹_›
    exact ⟨by rw [e1, e2]; rfl, hS⟩
  · try simp only [Bool.and_eq_true, Bool.or_eq_true, decide_eq_true_eq, Bool.not_eq_true', decide_eq_false_iff_not, Bool.and_eq_false_iff, Bool.or_eq_false_iff, beq_iff_eq, bne_iff_ne, beq_eq_false_iff_ne, bne_eq_false_iff_eq, Bool.not_eq_eq_eq_not, Bool.not_true, Bool.not_false] at h1
    refine VC_skip ?_
    refine VQ_next ?_
    refine VC_seq ?_
    refine VC_region ?_
    refine VL_pure 1 [0, 2, 11] [(0, .slice A 48 c), (2, .pointer (some ⟨b1, 0, none⟩)), (11, .slice A 48 c)] (by kernel_rfl) rfl ?_
    obtain ⟨sb1, so1, rfl, hlbsb1⟩ := hA.open (by simp only [iL_length]; omega)
    refine VL_index (d := 12) (b := sb1) (o := so1) (len := 48) (sz := 1) (m := 0) (by kernel_rfl) (by kernel_rfl) 0 (by rfl) (by omega) so1 (by omega) ?_
    refine VL_load (d := 13) (t := 5) (a := ⟨sb1, so1, none⟩) (v := .int .u8 (bs.getD 0 0)) (by kernel_rfl) (by kernel_rfl) (Sl.ldI hA (by kernel_rfl) 0 (by (try simp only [List.length_set, List.length_append, List.length_map, List.length_replicate, List.length_cons, List.length_nil, List.length_take, List.length_drop, List.length_range]) <;> omega)) ?_
    refine VL_pure 6 [0, 2, 16] [(0, .slice (some ⟨sb1, so1, none⟩) 48 c), (2, .pointer (some ⟨b1, 0, none⟩)), (16, .agg #[.int .i64 (IntKind.wrap .i64 ((IntKind.wrap .i64 (bs.getD 0 0)) - 16)), .int .u8 0, .bool false, .int .u32 0, .int .u8 0, .int .u8 0, .int .u8 0, .int .u8 0, .int .u8 0, .int .u8 0, .int .u8 0, .int .u8 0, .int .u8 0, .int .u8 0, .int .u8 0, .int .u8 0, .int .u8 0, .int .u8 0, .int .u8 0, .int .u8 0, .int .u8 0, .int .u8 0, .int .u8 0, .int .u8 0, .int .u8 0, .int .u8 0, .int .u8 0, .int .u8 0, .int .u8 0, .int .u8 0, .int .u8 0, .int .u8 0, .int .u8 0, .int .u8 0, .int .u8 0, .int .u8 0])] (by kernel_rfl) rfl ?_
    have hzs4 := hS.size
    have hzl3 := ho1.lt
    have hzk1 := hbase2
    refine VL_box (d := 4) (t := 25) (c := #[.int .i64 0, .int .u8 0, .bool false, .int .u32 0, .int .u8 0, .int .u8 0, .int .u8 0, .int .u8 0, .int .u8 0, .int .u8 0, .int .u8 0, .int .u8 0, .int .u8 0, .int .u8 0, .int .u8 0, .int .u8 0, .int .u8 0, .int .u8 0, .int .u8 0, .int .u8 0, .int .u8 0, .int .u8 0, .int .u8 0, .int .u8 0, .int .u8 0, .int .u8 0, .int .u8 0, .int .u8 0, .int .u8 0, .int .u8 0, .int .u8 0, .int .u8 0, .int .u8 0, .int .u8 0, .int .u8 0, .int .u8 0]) (by kernel_rfl) (by kernel_rfl) ?_
    intro b2 w5 hn2
    replace hS := Step.trans hS (hn2.step No)
    replace hA := hA.no (hn2.step No)
    replace ho1 := ho1.no (hn2.step No)
    replace hbase2 := Nat.le_trans hbase2 (hn2.step No).size
    replace hr2 := hr2.no (hn2.step No)
    have ho3 := hn2.own
    have hzhn2 := hn2.size
    have hqhn2 := hn2.eqb
    refine VL_store (b := b2) (o := 0) (vs := [.int .i64 (IntKind.wrap .i64 ((IntKind.wrap .i64 (bs.getD 0 0)) - 16)), .int .u8 0, .bool false, .int .u32 0, .int .u8 0, .int .u8 0, .int .u8 0, .int .u8 0, .int .u8 0, .int .u8 0, .int .u8 0, .int .u8 0, .int .u8 0, .int .u8 0, .int .u8 0, .int .u8 0, .int .u8 0, .int .u8 0, .int .u8 0, .int .u8 0, .int .u8 0, .int .u8 0, .int .u8 0, .int .u8 0, .int .u8 0, .int .u8 0, .int .u8 0, .int .u8 0, .int .u8 0, .int .u8 0, .int .u8 0, .int .u8 0, .int .u8 0, .int .u8 0, .int .u8 0, .int .u8 0]) (by kernel_rfl) (by kernel_rfl) ho3 (Nat.le_of_ble_eq_true (by kernel_rfl)) ?_
    intro w6 hw2
    replace hS := Step.transNew hS hw2.step (fun _ _ _ => by omega)
    replace hA := hA.keepB hw2.step (show ¬ sb1 = b2 by omega)
    replace ho1 := ho1.step hw2.step (show ¬ b1 = b2 by omega)
    replace hbase2 := Nat.le_trans hbase2 (hw2.step).size
    have ho4 : Own w6 b2 #[.int .i64 (IntKind.wrap .i64 ((IntKind.wrap .i64 (bs.getD 0 0)) - 16)), .int .u8 0, .bool false, .int .u32 0, .int .u8 0, .int .u8 0, .int .u8 0, .int .u8 0, .int .u8 0, .int .u8 0, .int .u8 0, .int .u8 0, .int .u8 0, .int .u8 0, .int .u8 0, .int .u8 0, .int .u8 0, .int .u8 0, .int .u8 0, .int .u8 0, .int .u8 0, .int .u8 0, .int .u8 0, .int .u8 0, .int .u8 0, .int .u8 0, .int .u8 0, .int .u8 0, .int .u8 0, .int .u8 0, .int .u8 0, .int .u8 0, .int .u8 0, .int .u8 0, .int .u8 0, .int .u8 0] 25 := Own.cast hw2.own (by kernel_rfl)
    have hzhw2 := hw2.same
    refine VL_end (by kernel_rfl) ?_
    refine VQ_next ?_
    refine VC_seq ?_
    refine VC_seq ?_
    refine VC_region ?_
    refine VL_pure 1 [0, 2, 4, 17] [(0, .slice (some ⟨sb1, so1, none⟩) 48 c), (2, .pointer (some ⟨b1, 0, none⟩)), (4, .pointer (some ⟨b2, 0, none⟩)), (17, .pointer (some ⟨b2, 0, none⟩))] (by kernel_rfl) rfl ?_
    refine VL_load (d := 18) (t := 3) (a := ⟨b2, 0, none⟩) (v := .int .i64 (IntKind.wrap .i64 ((IntKind.wrap .i64 (bs.getD 0 0)) - 16))) (by kernel_rfl) (by kernel_rfl) (Loads.own1 ho4 (by kernel_rfl) (by rfl)) ?_
    refine VL_end (by kernel_rfl) ?_
    refine VQ_next ?_
    refine VC_block ?_
    refine VC_seq ?_
    refine VC_seq ?_
    refine VC_region ?_
    refine VL_pure 2 [0, 2, 4, 18, 20] [(0, .slice (some ⟨sb1, so1, none⟩) 48 c), (2, .pointer (some ⟨b1, 0, none⟩)), (4, .pointer (some ⟨b2, 0, none⟩)), (18, .int .i64 (IntKind.wrap .i64 ((IntKind.wrap .i64 (bs.getD 0 0)) - 16))), (20, .bool ((IntKind.wrap .i64 ((IntKind.wrap .i64 (bs.getD 0 0)) - 16)) == 0))] (by kernel_rfl) rfl ?_
    refine VL_end (by kernel_rfl) ?_
    refine VQ_next ?_
    refine VC_eq (IntKind.wrap .i64 ((IntKind.wrap .i64 (bs.getD 0 0)) - 16)) 0 (by kernel_rfl) (fun h2 => ?_) (fun h2 => ?_)
    · refine VC_skip ?_
      refine VQ_next ?_
      refine VC_eq (IntKind.wrap .i64 ((IntKind.wrap .i64 (bs.getD 0 0)) - 16)) 0 (by kernel_rfl) (fun h3 => ?_) (fun h3 => ?_)
      · refine VC_seq ?_
        refine VC_region ?_
        refine VL_pure 1 [0, 2, 4, 23] [(0, .slice (some ⟨sb1, so1, none⟩) 48 c), (2, .pointer (some ⟨b1, 0, none⟩)), (4, .pointer (some ⟨b2, 0, none⟩)), (23, .slice (some ⟨sb1, so1, none⟩) 48 c)] (by kernel_rfl) rfl ?_
        refine VL_index (d := 24) (b := sb1) (o := so1) (len := 48) (sz := 1) (m := 1) (by kernel_rfl) (by kernel_rfl) 1 (by rfl) (by omega) (so1 + 1) (by omega) ?_
        refine VL_load (d := 25) (t := 5) (a := ⟨sb1, so1 + 1, none⟩) (v := .int .u8 (bs.getD 1 0)) (by kernel_rfl) (by kernel_rfl) (Sl.ldI hA (by kernel_rfl) 1 (by (try simp only [List.length_set, List.length_append, List.length_map, List.length_replicate, List.length_cons, List.length_nil, List.length_take, List.length_drop, List.length_range]) <;> omega)) ?_
        refine VL_pure 4 [0, 2, 4, 25, 26] [(0, .slice (some ⟨sb1, so1, none⟩) 48 c), (2, .pointer (some ⟨b1, 0, none⟩)), (4, .pointer (some ⟨b2, 0, none⟩)), (25, .int .u8 (bs.getD 1 0)), (26, .pointer (some ⟨b2, 1, none⟩))] (by kernel_rfl) rfl ?_
        refine VL_store (b := b2) (o := 1) (vs := [.int .u8 (bs.getD 1 0)]) (by kernel_rfl) (by kernel_rfl) ho4 (Nat.le_of_ble_eq_true (by kernel_rfl)) ?_
        intro w7 hw3
        replace hS := Step.transNew hS hw3.step (fun _ _ _ => by omega)
        replace hA := hA.keepB hw3.step (show ¬ sb1 = b2 by omega)
        replace ho1 := ho1.step hw3.step (show ¬ b1 = b2 by omega)
        replace hbase2 := Nat.le_trans hbase2 (hw3.step).size
        have ho5 : Own w7 b2 #[.int .i64 (IntKind.wrap .i64 ((IntKind.wrap .i64 (bs.getD 0 0)) - 16)), .int .u8 (bs.getD 1 0), .bool false, .int .u32 0, .int .u8 0, .int .u8 0, .int .u8 0, .int .u8 0, .int .u8 0, .int .u8 0, .int .u8 0, .int .u8 0, .int .u8 0, .int .u8 0, .int .u8 0, .int .u8 0, .int .u8 0, .int .u8 0, .int .u8 0, .int .u8 0, .int .u8 0, .int .u8 0, .int .u8 0, .int .u8 0, .int .u8 0, .int .u8 0, .int .u8 0, .int .u8 0, .int .u8 0, .int .u8 0, .int .u8 0, .int .u8 0, .int .u8 0, .int .u8 0, .int .u8 0, .int .u8 0] 25 := Own.cast hw3.own (by kernel_rfl)
        have hzhw3 := hw3.same
        refine VL_end (by kernel_rfl) ?_
        refine VQ_next ?_
        refine VC_region ?_
        refine VL_pure 1 [0, 2, 4, 27] [(0, .slice (some ⟨sb1, so1, none⟩) 48 c), (2, .pointer (some ⟨b1, 0, none⟩)), (4, .pointer (some ⟨b2, 0, none⟩)), (27, .slice (some ⟨sb1, so1, none⟩) 48 c)] (by kernel_rfl) rfl ?_
        obtain ⟨so2, hso2⟩ : ∃ x, (if c = 2 then so1 else so1 + 2 * 1) = x := ⟨_, rfl⟩
        refine VL_slice (d := 28) (b := sb1) (o := so1) (sz := 1) (len := 48) (cap := c) (lo := (some 2)) (hi := (some 18)) (mx := none) (by kernel_rfl) (by kernel_rfl) (fun h => by first | exact absurd rfl h | exact (fun h => by cases h)) 2 18 c rfl rfl rfl (by omega) (by omega) (by omega) so2 hso2 16 (by omega) (c - 2) (by omega) ?_
        have hsl1 := Sl.cutI (H := 18) hA hso2 (by omega)
        have hzs5 := hS.size
        have hzl4 := ho1.lt
        have hzl5 := ho5.lt
        refine VL_call (d := 29) (f := 24) (by kernel_rfl) (by kernel_rfl) (by kernel_rfl) Try.call24 (sixteen_sub (some ⟨sb1, so2, none⟩) (c - 2) _ bs 2 _ (by omega) hsl1 (by first | exact Nat.le_refl _ | omega)) ?_
        rintro _ w8 ⟨rfl, hc3⟩
        replace hS := Step.trans hS hc3
        replace hA := hA.no hc3
        replace ho1 := ho1.no hc3
        replace hbase2 := Nat.le_trans hbase2 (hc3).size
        replace ho5 := ho5.no hc3
        replace hsl1 := hsl1.no hc3
        refine VL_pure 4 [0, 2, 4, 29, 30] [(0, .slice (some ⟨sb1, so1, none⟩) 48 c), (2, .pointer (some ⟨b1, 0, none⟩)), (4, .pointer (some ⟨b2, 0, none⟩)), (29, .agg #[.int .u8 (bs.getD 2 0), .int .u8 (bs.getD 3 0), .int .u8 (bs.getD 4 0), .int .u8 (bs.getD 5 0), .int .u8 (bs.getD 6 0), .int .u8 (bs.getD 7 0), .int .u8 (bs.getD 8 0), .int .u8 (bs.getD 9 0), .int .u8 (bs.getD 10 0), .int .u8 (bs.getD 11 0), .int .u8 (bs.getD 12 0), .int .u8 (bs.getD 13 0), .int .u8 (bs.getD 14 0), .int .u8 (bs.getD 15 0), .int .u8 (bs.getD 16 0), .int .u8 (bs.getD 17 0)]), (30, .pointer (some ⟨b2, 4, none⟩))] (by kernel_rfl) rfl ?_
        refine VL_store (b := b2) (o := 4) (vs := [.int .u8 (bs.getD 2 0), .int .u8 (bs.getD 3 0), .int .u8 (bs.getD 4 0), .int .u8 (bs.getD 5 0), .int .u8 (bs.getD 6 0), .int .u8 (bs.getD 7 0), .int .u8 (bs.getD 8 0), .int .u8 (bs.getD 9 0), .int .u8 (bs.getD 10 0), .int .u8 (bs.getD 11 0), .int .u8 (bs.getD 12 0), .int .u8 (bs.getD 13 0), .int .u8 (bs.getD 14 0), .int .u8 (bs.getD 15 0), .int .u8 (bs.getD 16 0), .int .u8 (bs.getD 17 0)]) (by kernel_rfl) (by kernel_rfl) ho5 (Nat.le_of_ble_eq_true (by kernel_rfl)) ?_
        intro w9 hw4
        replace hS := Step.transNew hS hw4.step (fun _ _ _ => by omega)
        replace hA := hA.keepB hw4.step (show ¬ sb1 = b2 by omega)
        replace ho1 := ho1.step hw4.step (show ¬ b1 = b2 by omega)
        replace hbase2 := Nat.le_trans hbase2 (hw4.step).size
        replace hsl1 := hsl1.keepB hw4.step (show ¬ sb1 = b2 by omega)
        have ho6 : Own w9 b2 #[.int .i64 (IntKind.wrap .i64 ((IntKind.wrap .i64 (bs.getD 0 0)) - 16)), .int .u8 (bs.getD 1 0), .bool false, .int .u32 0, .int .u8 (bs.getD 2 0), .int .u8 (bs.getD 3 0), .int .u8 (bs.getD 4 0), .int .u8 (bs.getD 5 0), .int .u8 (bs.getD 6 0), .int .u8 (bs.getD 7 0), .int .u8 (bs.getD 8 0), .int .u8 (bs.getD 9 0), .int .u8 (bs.getD 10 0), .int .u8 (bs.getD 11 0), .int .u8 (bs.getD 12 0), .int .u8 (bs.getD 13 0), .int .u8 (bs.getD 14 0), .int .u8 (bs.getD 15 0), .int .u8 (bs.getD 16 0), .int .u8 (bs.getD 17 0), .int .u8 0, .int .u8 0, .int .u8 0, .int .u8 0, .int .u8 0, .int .u8 0, .int .u8 0, .int .u8 0, .int .u8 0, .int .u8 0, .int .u8 0, .int .u8 0, .int .u8 0, .int .u8 0, .int .u8 0, .int .u8 0] 25 := Own.cast hw4.own (by kernel_rfl)
        have hzhw4 := hw4.same
        refine VL_end (by kernel_rfl) ?_
        refine VQ_block_normal ?_
        refine VQ_next ?_
        refine VC_seq ?_
        refine VC_seq ?_
        refine VC_region ?_
        refine VL_load (d := 71) (t := 25) (a := ⟨b2, 0, none⟩) (v := .agg #[.int .i64 (IntKind.wrap .i64 ((IntKind.wrap .i64 (bs.getD 0 0)) - 16)), .int .u8 (bs.getD 1 0), .bool false, .int .u32 0, .int .u8 (bs.getD 2 0), .int .u8 (bs.getD 3 0), .int .u8 (bs.getD 4 0), .int .u8 (bs.getD 5 0), .int .u8 (bs.getD 6 0), .int .u8 (bs.getD 7 0), .int .u8 (bs.getD 8 0), .int .u8 (bs.getD 9 0), .int .u8 (bs.getD 10 0), .int .u8 (bs.getD 11 0), .int .u8 (bs.getD 12 0), .int .u8 (bs.getD 13 0), .int .u8 (bs.getD 14 0), .int .u8 (bs.getD 15 0), .int .u8 (bs.getD 16 0), .int .u8 (bs.getD 17 0), .int .u8 0, .int .u8 0, .int .u8 0, .int .u8 0, .int .u8 0, .int .u8 0, .int .u8 0, .int .u8 0, .int .u8 0, .int .u8 0, .int .u8 0, .int .u8 0, .int .u8 0, .int .u8 0, .int .u8 0, .int .u8 0]) (by kernel_rfl) (by kernel_rfl) (Loads.ownL ho6 (n := 36) (by kernel_rfl) (by kernel_rfl) (by kernel_rfl)) ?_
        have hzs6 := hS.size
        have hzl6 := ho1.lt
        have hzl7 := ho6.lt
        refine VL_call (d := 72) (f := 11) (by kernel_rfl) (by kernel_rfl) (by kernel_rfl) Try.call11 (rpack_any (⟨IntKind.wrap .i64 ((IntKind.wrap .i64 (bs.getD 0 0)) - 16), bs.getD 1 0, false, 0, (plG bs 2), zp⟩ : Om) _) ?_
        rintro _ w10 ⟨A3, c3, rfl, hr3, hc4⟩
        replace hS := Step.trans hS hc4
        replace hA := hA.no hc4
        replace ho1 := ho1.no hc4
        replace hbase2 := Nat.le_trans hbase2 (hc4).size
        replace hsl1 := hsl1.no hc4
        replace ho6 := ho6.no hc4
        obtain ⟨base3, hbase3E⟩ : ∃ x, x = w9.heap.size := ⟨_, rfl⟩
        rw [← hbase3E] at hr3
        have hbase3 : base3 ≤ w10.heap.size := by rw [hbase3E]; exact hc4.size
        have hrpn := rpackN_le (⟨IntKind.wrap .i64 ((IntKind.wrap .i64 (bs.getD 0 0)) - 16), bs.getD 1 0, false, 0, (plG bs 2), zp⟩ : Om)
        refine VL_pure 3 [2, 4, 72, 73] [(2, .pointer (some ⟨b1, 0, none⟩)), (4, .pointer (some ⟨b2, 0, none⟩)), (72, .slice A3 (rpackN (⟨IntKind.wrap .i64 ((IntKind.wrap .i64 (bs.getD 0 0)) - 16), bs.getD 1 0, false, 0, (plG bs 2), zp⟩ : Om)) c3), (73, .slice (some ⟨sb1, so1, none⟩) 48 c)] (by kernel_rfl) rfl ?_
        have hzs7 := hS.size
        have hzl8 := ho1.lt
        have hzl9 := ho6.lt
        refine VL_call (d := 74) (f := 15) (args := #[.slice A3 (rpackN (⟨IntKind.wrap .i64 ((IntKind.wrap .i64 (bs.getD 0 0)) - 16), bs.getD 1 0, false, 0, (plG bs 2), zp⟩ : Om)) c3, .slice (some ⟨sb1, so1, none⟩) 48 c]) (by kernel_rfl) (by kernel_rfl) (by kernel_rfl) Try.call15 (same_any A3 (rpackN (⟨IntKind.wrap .i64 ((IntKind.wrap .i64 (bs.getD 0 0)) - 16), bs.getD 1 0, false, 0, (plG bs 2), zp⟩ : Om)) c3 _ (rpackV (⟨IntKind.wrap .i64 ((IntKind.wrap .i64 (bs.getD 0 0)) - 16), bs.getD 1 0, false, 0, (plG bs 2), zp⟩ : Om)) (some ⟨sb1, so1, none⟩) 48 c _ bs _ (Rw.lenI hr3) (Rw.slI hr3) hn hA (by omega) (by omega) (by first | exact Nat.le_refl _ | omega) (by first | exact Nat.le_refl _ | omega)) ?_
        rintro _ w11 ⟨rfl, hc5⟩
        replace hS := Step.trans hS hc5
        replace hA := hA.no hc5
        replace ho1 := ho1.no hc5
        replace hbase2 := Nat.le_trans hbase2 (hc5).size
        replace hsl1 := hsl1.no hc5
        replace ho6 := ho6.no hc5
        replace hbase3 := Nat.le_trans hbase3 (hc5).size
        replace hr3 := hr3.no hc5
        refine VL_pure 5 [2, 4, 75] [(2, .pointer (some ⟨b1, 0, none⟩)), (4, .pointer (some ⟨b2, 0, none⟩)), (75, .bool (!((rpackV (⟨IntKind.wrap .i64 ((IntKind.wrap .i64 (bs.getD 0 0)) - 16), bs.getD 1 0, false, 0, (plG bs 2), zp⟩ : Om)) == bs)))] (by kernel_rfl) rfl ?_
        refine VL_end (by kernel_rfl) ?_
        refine VQ_next ?_
        refine VC_cond (!((rpackV (⟨IntKind.wrap .i64 ((IntKind.wrap .i64 (bs.getD 0 0)) - 16), bs.getD 1 0, false, 0, (plG bs 2), zp⟩ : Om)) == bs)) (by kernel_rfl) (fun h4 => ?_) (fun h4 => ?_)
        · try simp only [Bool.and_eq_true, Bool.or_eq_true, decide_eq_true_eq, Bool.not_eq_true', decide_eq_false_iff_not, Bool.and_eq_false_iff, Bool.or_eq_false_iff, beq_iff_eq, bne_iff_ne, beq_eq_false_iff_ne, bne_eq_false_iff_eq, Bool.not_eq_eq_eq_not, Bool.not_true, Bool.not_false] at h4
          refine VC_seq ?_
          refine VC_region ?_
          refine VL_pure 1 [2, 76] [(2, .pointer (some ⟨b1, 0, none⟩)), (76, .agg #[.int .i64 0, .int .u8 0, .bool false, .int .u32 0, .int .u8 0, .int .u8 0, .int .u8 0, .int .u8 0, .int .u8 0, .int .u8 0, .int .u8 0, .int .u8 0, .int .u8 0, .int .u8 0, .int .u8 0, .int .u8 0, .int .u8 0, .int .u8 0, .int .u8 0, .int .u8 0, .int .u8 0, .int .u8 0, .int .u8 0, .int .u8 0, .int .u8 0, .int .u8 0, .int .u8 0, .int .u8 0, .int .u8 0, .int .u8 0, .int .u8 0, .int .u8 0, .int .u8 0, .int .u8 0, .int .u8 0, .int .u8 0])] (by kernel_rfl) rfl ?_
          refine VL_store (b := b1) (o := 0) (vs := [.int .i64 0, .int .u8 0, .bool false, .int .u32 0, .int .u8 0, .int .u8 0, .int .u8 0, .int .u8 0, .int .u8 0, .int .u8 0, .int .u8 0, .int .u8 0, .int .u8 0, .int .u8 0, .int .u8 0, .int .u8 0, .int .u8 0, .int .u8 0, .int .u8 0, .int .u8 0, .int .u8 0, .int .u8 0, .int .u8 0, .int .u8 0, .int .u8 0, .int .u8 0, .int .u8 0, .int .u8 0, .int .u8 0, .int .u8 0, .int .u8 0, .int .u8 0, .int .u8 0, .int .u8 0, .int .u8 0, .int .u8 0]) (by kernel_rfl) (by kernel_rfl) ho1 (Nat.le_of_ble_eq_true (by kernel_rfl)) ?_
          intro w12 hw5
          replace hS := Step.transNew hS hw5.step (fun _ _ _ => by omega)
          replace hA := hA.keepB hw5.step (show ¬ sb1 = b1 by omega)
          replace hbase2 := Nat.le_trans hbase2 (hw5.step).size
          replace hsl1 := hsl1.keepB hw5.step (show ¬ sb1 = b1 by omega)
          replace ho6 := ho6.step hw5.step (show ¬ b2 = b1 by omega)
          replace hbase3 := Nat.le_trans hbase3 (hw5.step).size
          have ho7 : Own w12 b1 #[.int .i64 0, .int .u8 0, .bool false, .int .u32 0, .int .u8 0, .int .u8 0, .int .u8 0, .int .u8 0, .int .u8 0, .int .u8 0, .int .u8 0, .int .u8 0, .int .u8 0, .int .u8 0, .int .u8 0, .int .u8 0, .int .u8 0, .int .u8 0, .int .u8 0, .int .u8 0, .int .u8 0, .int .u8 0, .int .u8 0, .int .u8 0, .int .u8 0, .int .u8 0, .int .u8 0, .int .u8 0, .int .u8 0, .int .u8 0, .int .u8 0, .int .u8 0, .int .u8 0, .int .u8 0, .int .u8 0, .int .u8 0] 25 := Own.cast hw5.own (by kernel_rfl)
          have hzhw5 := hw5.same
          refine VL_pure 3 [2, 3] [(2, .pointer (some ⟨b1, 0, none⟩)), (3, .int .i64 5)] (by kernel_rfl) rfl ?_
          refine VL_end (by kernel_rfl) ?_
          refine VQ_next ?_
          refine VC_ret ?_
          refine VQ_then_ret ?_
          refine VQ_retC1T1 (T := 25) (.agg #[.int .i64 0, .int .u8 0, .bool false, .int .u32 0, .int .u8 0, .int .u8 0, .int .u8 0, .int .u8 0, .int .u8 0, .int .u8 0, .int .u8 0, .int .u8 0, .int .u8 0, .int .u8 0, .int .u8 0, .int .u8 0, .int .u8 0, .int .u8 0, .int .u8 0, .int .u8 0, .int .u8 0, .int .u8 0, .int .u8 0, .int .u8 0, .int .u8 0, .int .u8 0, .int .u8 0, .int .u8 0, .int .u8 0, .int .u8 0, .int .u8 0, .int .u8 0, .int .u8 0, .int .u8 0, .int .u8 0, .int .u8 0]) (.int .i64 5) (.inr rfl) rfl rfl rfl (Loads.ownL ho7 (n := 36) (by kernel_rfl) (by kernel_rfl) (by kernel_rfl)) ?_
          obtain ⟨e1, e2⟩ := runp_5 (bs := bs) (runpO_01 (by simp only [kOf]; omega)) ‹_› (by unfold kindB; simp only [kOf]; omega) ‹_›
          exact ⟨by rw [e1, e2]; rfl, hS⟩
        · try simp only [Bool.and_eq_true, Bool.or_eq_true, decide_eq_true_eq, Bool.not_eq_true', decide_eq_false_iff_not, Bool.and_eq_false_iff, Bool.or_eq_false_iff, beq_iff_eq, bne_iff_ne, beq_eq_false_iff_ne, bne_eq_false_iff_eq, Bool.not_eq_eq_eq_not, Bool.not_true, Bool.not_false] at h4
          refine VC_skip ?_
          refine VQ_next ?_
          refine VC_seq ?_
          refine VC_region ?_
          refine VL_load (d := 77) (t := 25) (a := ⟨b2, 0, none⟩) (v := .agg #[.int .i64 (IntKind.wrap .i64 ((IntKind.wrap .i64 (bs.getD 0 0)) - 16)), .int .u8 (bs.getD 1 0), .bool false, .int .u32 0, .int .u8 (bs.getD 2 0), .int .u8 (bs.getD 3 0), .int .u8 (bs.getD 4 0), .int .u8 (bs.getD 5 0), .int .u8 (bs.getD 6 0), .int .u8 (bs.getD 7 0), .int .u8 (bs.getD 8 0), .int .u8 (bs.getD 9 0), .int .u8 (bs.getD 10 0), .int .u8 (bs.getD 11 0), .int .u8 (bs.getD 12 0), .int .u8 (bs.getD 13 0), .int .u8 (bs.getD 14 0), .int .u8 (bs.getD 15 0), .int .u8 (bs.getD 16 0), .int .u8 (bs.getD 17 0), .int .u8 0, .int .u8 0, .int .u8 0, .int .u8 0, .int .u8 0, .int .u8 0, .int .u8 0, .int .u8 0, .int .u8 0, .int .u8 0, .int .u8 0, .int .u8 0, .int .u8 0, .int .u8 0, .int .u8 0, .int .u8 0]) (by kernel_rfl) (by kernel_rfl) (Loads.ownL ho6 (n := 36) (by kernel_rfl) (by kernel_rfl) (by kernel_rfl)) ?_
          refine VL_store (b := b1) (o := 0) (vs := [.int .i64 (IntKind.wrap .i64 ((IntKind.wrap .i64 (bs.getD 0 0)) - 16)), .int .u8 (bs.getD 1 0), .bool false, .int .u32 0, .int .u8 (bs.getD 2 0), .int .u8 (bs.getD 3 0), .int .u8 (bs.getD 4 0), .int .u8 (bs.getD 5 0), .int .u8 (bs.getD 6 0), .int .u8 (bs.getD 7 0), .int .u8 (bs.getD 8 0), .int .u8 (bs.getD 9 0), .int .u8 (bs.getD 10 0), .int .u8 (bs.getD 11 0), .int .u8 (bs.getD 12 0), .int .u8 (bs.getD 13 0), .int .u8 (bs.getD 14 0), .int .u8 (bs.getD 15 0), .int .u8 (bs.getD 16 0), .int .u8 (bs.getD 17 0), .int .u8 0, .int .u8 0, .int .u8 0, .int .u8 0, .int .u8 0, .int .u8 0, .int .u8 0, .int .u8 0, .int .u8 0, .int .u8 0, .int .u8 0, .int .u8 0, .int .u8 0, .int .u8 0, .int .u8 0, .int .u8 0]) (by kernel_rfl) (by kernel_rfl) ho1 (Nat.le_of_ble_eq_true (by kernel_rfl)) ?_
          intro w13 hw6
          replace hS := Step.transNew hS hw6.step (fun _ _ _ => by omega)
          replace hA := hA.keepB hw6.step (show ¬ sb1 = b1 by omega)
          replace hbase2 := Nat.le_trans hbase2 (hw6.step).size
          replace hsl1 := hsl1.keepB hw6.step (show ¬ sb1 = b1 by omega)
          replace ho6 := ho6.step hw6.step (show ¬ b2 = b1 by omega)
          replace hbase3 := Nat.le_trans hbase3 (hw6.step).size
          have ho8 : Own w13 b1 #[.int .i64 (IntKind.wrap .i64 ((IntKind.wrap .i64 (bs.getD 0 0)) - 16)), .int .u8 (bs.getD 1 0), .bool false, .int .u32 0, .int .u8 (bs.getD 2 0), .int .u8 (bs.getD 3 0), .int .u8 (bs.getD 4 0), .int .u8 (bs.getD 5 0), .int .u8 (bs.getD 6 0), .int .u8 (bs.getD 7 0), .int .u8 (bs.getD 8 0), .int .u8 (bs.getD 9 0), .int .u8 (bs.getD 10 0), .int .u8 (bs.getD 11 0), .int .u8 (bs.getD 12 0), .int .u8 (bs.getD 13 0), .int .u8 (bs.getD 14 0), .int .u8 (bs.getD 15 0), .int .u8 (bs.getD 16 0), .int .u8 (bs.getD 17 0), .int .u8 0, .int .u8 0, .int .u8 0, .int .u8 0, .int .u8 0, .int .u8 0, .int .u8 0, .int .u8 0, .int .u8 0, .int .u8 0, .int .u8 0, .int .u8 0, .int .u8 0, .int .u8 0, .int .u8 0, .int .u8 0] 25 := Own.cast hw6.own (by kernel_rfl)
          have hzhw6 := hw6.same
          refine VL_pure 3 [2, 3] [(2, .pointer (some ⟨b1, 0, none⟩)), (3, .int .i64 0)] (by kernel_rfl) rfl ?_
          refine VL_end (by kernel_rfl) ?_
          refine VQ_next ?_
          refine VC_ret ?_
          refine VQ_retC1T1 (T := 25) (.agg #[.int .i64 (IntKind.wrap .i64 ((IntKind.wrap .i64 (bs.getD 0 0)) - 16)), .int .u8 (bs.getD 1 0), .bool false, .int .u32 0, .int .u8 (bs.getD 2 0), .int .u8 (bs.getD 3 0), .int .u8 (bs.getD 4 0), .int .u8 (bs.getD 5 0), .int .u8 (bs.getD 6 0), .int .u8 (bs.getD 7 0), .int .u8 (bs.getD 8 0), .int .u8 (bs.getD 9 0), .int .u8 (bs.getD 10 0), .int .u8 (bs.getD 11 0), .int .u8 (bs.getD 12 0), .int .u8 (bs.getD 13 0), .int .u8 (bs.getD 14 0), .int .u8 (bs.getD 15 0), .int .u8 (bs.getD 16 0), .int .u8 (bs.getD 17 0), .int .u8 0, .int .u8 0, .int .u8 0, .int .u8 0, .int .u8 0, .int .u8 0, .int .u8 0, .int .u8 0, .int .u8 0, .int .u8 0, .int .u8 0, .int .u8 0, .int .u8 0, .int .u8 0, .int .u8 0, .int .u8 0]) (.int .i64 0) (.inr rfl) rfl rfl rfl (Loads.ownL ho8 (n := 36) (by kernel_rfl) (by kernel_rfl) (by kernel_rfl)) ?_
          obtain ⟨e1, e2⟩ := runp_0 (bs := bs) (runpO_01 (by simp only [kOf]; omega)) ‹_› (by unfold kindB; simp only [kOf]; omega) ‹_›
          exact ⟨by rw [e1, e2]; rfl, hS⟩
      · refine VC_seq ?_
        refine VC_region ?_
        refine VL_pure 2 [0, 2, 4, 18, 31] [(0, .slice (some ⟨sb1, so1, none⟩) 48 c), (2, .pointer (some ⟨b1, 0, none⟩)), (4, .pointer (some ⟨b2, 0, none⟩)), (18, .int .i64 (IntKind.wrap .i64 ((IntKind.wrap .i64 (bs.getD 0 0)) - 16))), (31, .bool ((IntKind.wrap .i64 ((IntKind.wrap .i64 (bs.getD 0 0)) - 16)) == 4))] (by kernel_rfl) rfl ?_
        refine VL_end (by kernel_rfl) ?_
        refine VQ_next ?_
        refine VC_eq (IntKind.wrap .i64 ((IntKind.wrap .i64 (bs.getD 0 0)) - 16)) 4 (by kernel_rfl) (fun h5 => ?_) (fun h5 => ?_)
        · refine VC_skip ?_
          refine VQ_block_normal ?_
          refine VQ_next ?_
          refine VC_seq ?_
          refine VC_seq ?_
          refine VC_region ?_
          refine VL_load (d := 71) (t := 25) (a := ⟨b2, 0, none⟩) (v := .agg #[.int .i64 (IntKind.wrap .i64 ((IntKind.wrap .i64 (bs.getD 0 0)) - 16)), .int .u8 0, .bool false, .int .u32 0, .int .u8 0, .int .u8 0, .int .u8 0, .int .u8 0, .int .u8 0, .int .u8 0, .int .u8 0, .int .u8 0, .int .u8 0, .int .u8 0, .int .u8 0, .int .u8 0, .int .u8 0, .int .u8 0, .int .u8 0, .int .u8 0, .int .u8 0, .int .u8 0, .int .u8 0, .int .u8 0, .int .u8 0, .int .u8 0, .int .u8 0, .int .u8 0, .int .u8 0, .int .u8 0, .int .u8 0, .int .u8 0, .int .u8 0, .int .u8 0, .int .u8 0, .int .u8 0]) (by kernel_rfl) (by kernel_rfl) (Loads.ownL ho4 (n := 36) (by kernel_rfl) (by kernel_rfl) (by kernel_rfl)) ?_
          have hzs8 := hS.size
          have hzl10 := ho1.lt
          have hzl11 := ho4.lt
          refine VL_call (d := 72) (f := 11) (by kernel_rfl) (by kernel_rfl) (by kernel_rfl) Try.call11 (rpack_any (⟨IntKind.wrap .i64 ((IntKind.wrap .i64 (bs.getD 0 0)) - 16), 0, false, 0, zp, zp⟩ : Om) _) ?_
          rintro _ w14 ⟨A4, c4, rfl, hr4, hc6⟩
          replace hS := Step.trans hS hc6
          replace hA := hA.no hc6
          replace ho1 := ho1.no hc6
          replace hbase2 := Nat.le_trans hbase2 (hc6).size
          replace ho4 := ho4.no hc6
          obtain ⟨base4, hbase4E⟩ : ∃ x, x = w6.heap.size := ⟨_, rfl⟩
          rw [← hbase4E] at hr4
          have hbase4 : base4 ≤ w14.heap.size := by rw [hbase4E]; exact hc6.size
          have hrpn := rpackN_le (⟨IntKind.wrap .i64 ((IntKind.wrap .i64 (bs.getD 0 0)) - 16), 0, false, 0, zp, zp⟩ : Om)
          refine VL_pure 3 [2, 4, 72, 73] [(2, .pointer (some ⟨b1, 0, none⟩)), (4, .pointer (some ⟨b2, 0, none⟩)), (72, .slice A4 (rpackN (⟨IntKind.wrap .i64 ((IntKind.wrap .i64 (bs.getD 0 0)) - 16), 0, false, 0, zp, zp⟩ : Om)) c4), (73, .slice (some ⟨sb1, so1, none⟩) 48 c)] (by kernel_rfl) rfl ?_
          have hzs9 := hS.size
          have hzl12 := ho1.lt
          have hzl13 := ho4.lt
          refine VL_call (d := 74) (f := 15) (args := #[.slice A4 (rpackN (⟨IntKind.wrap .i64 ((IntKind.wrap .i64 (bs.getD 0 0)) - 16), 0, false, 0, zp, zp⟩ : Om)) c4, .slice (some ⟨sb1, so1, none⟩) 48 c]) (by kernel_rfl) (by kernel_rfl) (by kernel_rfl) Try.call15 (same_any A4 (rpackN (⟨IntKind.wrap .i64 ((IntKind.wrap .i64 (bs.getD 0 0)) - 16), 0, false, 0, zp, zp⟩ : Om)) c4 _ (rpackV (⟨IntKind.wrap .i64 ((IntKind.wrap .i64 (bs.getD 0 0)) - 16), 0, false, 0, zp, zp⟩ : Om)) (some ⟨sb1, so1, none⟩) 48 c _ bs _ (Rw.lenI hr4) (Rw.slI hr4) hn hA (by omega) (by omega) (by first | exact Nat.le_refl _ | omega) (by first | exact Nat.le_refl _ | omega)) ?_
          rintro _ w15 ⟨rfl, hc7⟩
          replace hS := Step.trans hS hc7
          replace hA := hA.no hc7
          replace ho1 := ho1.no hc7
          replace hbase2 := Nat.le_trans hbase2 (hc7).size
          replace ho4 := ho4.no hc7
          replace hbase4 := Nat.le_trans hbase4 (hc7).size
          replace hr4 := hr4.no hc7
          refine VL_pure 5 [2, 4, 75] [(2, .pointer (some ⟨b1, 0, none⟩)), (4, .pointer (some ⟨b2, 0, none⟩)), (75, .bool (!((rpackV (⟨IntKind.wrap .i64 ((IntKind.wrap .i64 (bs.getD 0 0)) - 16), 0, false, 0, zp, zp⟩ : Om)) == bs)))] (by kernel_rfl) rfl ?_
          refine VL_end (by kernel_rfl) ?_
          refine VQ_next ?_
          refine VC_cond (!((rpackV (⟨IntKind.wrap .i64 ((IntKind.wrap .i64 (bs.getD 0 0)) - 16), 0, false, 0, zp, zp⟩ : Om)) == bs)) (by kernel_rfl) (fun h6 => ?_) (fun h6 => ?_)
          · try simp only [Bool.and_eq_true, Bool.or_eq_true, decide_eq_true_eq, Bool.not_eq_true', decide_eq_false_iff_not, Bool.and_eq_false_iff, Bool.or_eq_false_iff, beq_iff_eq, bne_iff_ne, beq_eq_false_iff_ne, bne_eq_false_iff_eq, Bool.not_eq_eq_eq_not, Bool.not_true, Bool.not_false] at h6
            refine VC_seq ?_
            refine VC_region ?_
            refine VL_pure 1 [2, 76] [(2, .pointer (some ⟨b1, 0, none⟩)), (76, .agg #[.int .i64 0, .int .u8 0, .bool false, .int .u32 0, .int .u8 0, .int .u8 0, .int .u8 0, .int .u8 0, .int .u8 0, .int .u8 0, .int .u8 0, .int .u8 0, .int .u8 0, .int .u8 0, .int .u8 0, .int .u8 0, .int .u8 0, .int .u8 0, .int .u8 0, .int .u8 0, .int .u8 0, .int .u8 0, .int .u8 0, .int .u8 0, .int .u8 0, .int .u8 0, .int .u8 0, .int .u8 0, .int .u8 0, .int .u8 0, .int .u8 0, .int .u8 0, .int .u8 0, .int .u8 0, .int .u8 0, .int .u8 0])] (by kernel_rfl) rfl ?_
            refine VL_store (b := b1) (o := 0) (vs := [.int .i64 0, .int .u8 0, .bool false, .int .u32 0, .int .u8 0, .int .u8 0, .int .u8 0, .int .u8 0, .int .u8 0, .int .u8 0, .int .u8 0, .int .u8 0, .int .u8 0, .int .u8 0, .int .u8 0, .int .u8 0, .int .u8 0, .int .u8 0, .int .u8 0, .int .u8 0, .int .u8 0, .int .u8 0, .int .u8 0, .int .u8 0, .int .u8 0, .int .u8 0, .int .u8 0, .int .u8 0, .int .u8 0, .int .u8 0, .int .u8 0, .int .u8 0, .int .u8 0, .int .u8 0, .int .u8 0, .int .u8 0]) (by kernel_rfl) (by kernel_rfl) ho1 (Nat.le_of_ble_eq_true (by kernel_rfl)) ?_
            intro w16 hw7
            replace hS := Step.transNew hS hw7.step (fun _ _ _ => by omega)
            replace hA := hA.keepB hw7.step (show ¬ sb1 = b1 by omega)
            replace hbase2 := Nat.le_trans hbase2 (hw7.step).size
            replace ho4 := ho4.step hw7.step (show ¬ b2 = b1 by omega)
            replace hbase4 := Nat.le_trans hbase4 (hw7.step).size
            have ho9 : Own w16 b1 #[.int .i64 0, .int .u8 0, .bool false, .int .u32 0, .int .u8 0, .int .u8 0, .int .u8 0, .int .u8 0, .int .u8 0, .int .u8 0, .int .u8 0, .int .u8 0, .int .u8 0, .int .u8 0, .int .u8 0, .int .u8 0, .int .u8 0, .int .u8 0, .int .u8 0, .int .u8 0, .int .u8 0, .int .u8 0, .int .u8 0, .int .u8 0, .int .u8 0, .int .u8 0, .int .u8 0, .int .u8 0, .int .u8 0, .int .u8 0, .int .u8 0, .int .u8 0, .int .u8 0, .int .u8 0, .int .u8 0, .int .u8 0] 25 := Own.cast hw7.own (by kernel_rfl)
            have hzhw7 := hw7.same
            refine VL_pure 3 [2, 3] [(2, .pointer (some ⟨b1, 0, none⟩)), (3, .int .i64 5)] (by kernel_rfl) rfl ?_
            refine VL_end (by kernel_rfl) ?_
            refine VQ_next ?_
            refine VC_ret ?_
            refine VQ_then_ret ?_
            refine VQ_retC1T1 (T := 25) (.agg #[.int .i64 0, .int .u8 0, .bool false, .int .u32 0, .int .u8 0, .int .u8 0, .int .u8 0, .int .u8 0, .int .u8 0, .int .u8 0, .int .u8 0, .int .u8 0, .int .u8 0, .int .u8 0, .int .u8 0, .int .u8 0, .int .u8 0, .int .u8 0, .int .u8 0, .int .u8 0, .int .u8 0, .int .u8 0, .int .u8 0, .int .u8 0, .int .u8 0, .int .u8 0, .int .u8 0, .int .u8 0, .int .u8 0, .int .u8 0, .int .u8 0, .int .u8 0, .int .u8 0, .int .u8 0, .int .u8 0, .int .u8 0]) (.int .i64 5) (.inr rfl) rfl rfl rfl (Loads.ownL ho9 (n := 36) (by kernel_rfl) (by kernel_rfl) (by kernel_rfl)) ?_
            obtain ⟨e1, e2⟩ := runp_5 (bs := bs) (runpO_4 (by simp only [kOf]; omega)) ‹_› (by unfold kindB; simp only [kOf]; omega) ‹_›
            exact ⟨by rw [e1, e2]; rfl, hS⟩
          · try simp only [Bool.and_eq_true, Bool.or_eq_true, decide_eq_true_eq, Bool.not_eq_true', decide_eq_false_iff_not, Bool.and_eq_false_iff, Bool.or_eq_false_iff, beq_iff_eq, bne_iff_ne, beq_eq_false_iff_ne, bne_eq_false_iff_eq, Bool.not_eq_eq_eq_not, Bool.not_true, Bool.not_false] at h6
            refine VC_skip ?_
            refine VQ_next ?_
            refine VC_seq ?_
            refine VC_region ?_
            refine VL_load (d := 77) (t := 25) (a := ⟨b2, 0, none⟩) (v := .agg #[.int .i64 (IntKind.wrap .i64 ((IntKind.wrap .i64 (bs.getD 0 0)) - 16)), .int .u8 0, .bool false, .int .u32 0, .int .u8 0, .int .u8 0, .int .u8 0, .int .u8 0, .int .u8 0, .int .u8 0, .int .u8 0, .int .u8 0, .int .u8 0, .int .u8 0, .int .u8 0, .int .u8 0, .int .u8 0, .int .u8 0, .int .u8 0, .int .u8 0, .int .u8 0, .int .u8 0, .int .u8 0, .int .u8 0, .int .u8 0, .int .u8 0, .int .u8 0, .int .u8 0, .int .u8 0, .int .u8 0, .int .u8 0, .int .u8 0, .int .u8 0, .int .u8 0, .int .u8 0, .int .u8 0]) (by kernel_rfl) (by kernel_rfl) (Loads.ownL ho4 (n := 36) (by kernel_rfl) (by kernel_rfl) (by kernel_rfl)) ?_
            refine VL_store (b := b1) (o := 0) (vs := [.int .i64 (IntKind.wrap .i64 ((IntKind.wrap .i64 (bs.getD 0 0)) - 16)), .int .u8 0, .bool false, .int .u32 0, .int .u8 0, .int .u8 0, .int .u8 0, .int .u8 0, .int .u8 0, .int .u8 0, .int .u8 0, .int .u8 0, .int .u8 0, .int .u8 0, .int .u8 0, .int .u8 0, .int .u8 0, .int .u8 0, .int .u8 0, .int .u8 0, .int .u8 0, .int .u8 0, .int .u8 0, .int .u8 0, .int .u8 0, .int .u8 0, .int .u8 0, .int .u8 0, .int .u8 0, .int .u8 0, .int .u8 0, .int .u8 0, .int .u8 0, .int .u8 0, .int .u8 0, .int .u8 0]) (by kernel_rfl) (by kernel_rfl) ho1 (Nat.le_of_ble_eq_true (by kernel_rfl)) ?_
            intro w17 hw8
            replace hS := Step.transNew hS hw8.step (fun _ _ _ => by omega)
            replace hA := hA.keepB hw8.step (show ¬ sb1 = b1 by omega)
            replace hbase2 := Nat.le_trans hbase2 (hw8.step).size
            replace ho4 := ho4.step hw8.step (show ¬ b2 = b1 by omega)
            replace hbase4 := Nat.le_trans hbase4 (hw8.step).size
            have ho10 : Own w17 b1 #[.int .i64 (IntKind.wrap .i64 ((IntKind.wrap .i64 (bs.getD 0 0)) - 16)), .int .u8 0, .bool false, .int .u32 0, .int .u8 0, .int .u8 0, .int .u8 0, .int .u8 0, .int .u8 0, .int .u8 0, .int .u8 0, .int .u8 0, .int .u8 0, .int .u8 0, .int .u8 0, .int .u8 0, .int .u8 0, .int .u8 0, .int .u8 0, .int .u8 0, .int .u8 0, .int .u8 0, .int .u8 0, .int .u8 0, .int .u8 0, .int .u8 0, .int .u8 0, .int .u8 0, .int .u8 0, .int .u8 0, .int .u8 0, .int .u8 0, .int .u8 0, .int .u8 0, .int .u8 0, .int .u8 0] 25 := Own.cast hw8.own (by kernel_rfl)
            have hzhw8 := hw8.same
            refine VL_pure 3 [2, 3] [(2, .pointer (some ⟨b1, 0, none⟩)), (3, .int .i64 0)] (by kernel_rfl) rfl ?_
            refine VL_end (by kernel_rfl) ?_
            refine VQ_next ?_
            refine VC_ret ?_
            refine VQ_retC1T1 (T := 25) (.agg #[.int .i64 (IntKind.wrap .i64 ((IntKind.wrap .i64 (bs.getD 0 0)) - 16)), .int .u8 0, .bool false, .int .u32 0, .int .u8 0, .int .u8 0, .int .u8 0, .int .u8 0, .int .u8 0, .int .u8 0, .int .u8 0, .int .u8 0, .int .u8 0, .int .u8 0, .int .u8 0, .int .u8 0, .int .u8 0, .int .u8 0, .int .u8 0, .int .u8 0, .int .u8 0, .int .u8 0, .int .u8 0, .int .u8 0, .int .u8 0, .int .u8 0, .int .u8 0, .int .u8 0, .int .u8 0, .int .u8 0, .int .u8 0, .int .u8 0, .int .u8 0, .int .u8 0, .int .u8 0, .int .u8 0]) (.int .i64 0) (.inr rfl) rfl rfl rfl (Loads.ownL ho10 (n := 36) (by kernel_rfl) (by kernel_rfl) (by kernel_rfl)) ?_
            obtain ⟨e1, e2⟩ := runp_0 (bs := bs) (runpO_4 (by simp only [kOf]; omega)) ‹_› (by unfold kindB; simp only [kOf]; omega) ‹_›
            exact ⟨by rw [e1, e2]; rfl, hS⟩
        · refine VC_seq ?_
          refine VC_region ?_
          refine VL_pure 2 [0, 2, 4, 33] [(0, .slice (some ⟨sb1, so1, none⟩) 48 c), (2, .pointer (some ⟨b1, 0, none⟩)), (4, .pointer (some ⟨b2, 0, none⟩)), (33, .bool ((IntKind.wrap .i64 ((IntKind.wrap .i64 (bs.getD 0 0)) - 16)) == 8))] (by kernel_rfl) rfl ?_
          refine VL_end (by kernel_rfl) ?_
          refine VQ_next ?_
          refine VC_eq (IntKind.wrap .i64 ((IntKind.wrap .i64 (bs.getD 0 0)) - 16)) 8 (by kernel_rfl) (fun h7 => ?_) (fun h7 => ?_)
          · refine VC_seq ?_
            refine VC_region ?_
            refine VL_pure 1 [0, 2, 4, 35] [(0, .slice (some ⟨sb1, so1, none⟩) 48 c), (2, .pointer (some ⟨b1, 0, none⟩)), (4, .pointer (some ⟨b2, 0, none⟩)), (35, .slice (some ⟨sb1, so1, none⟩) 48 c)] (by kernel_rfl) rfl ?_
            refine VL_index (d := 36) (b := sb1) (o := so1) (len := 48) (sz := 1) (m := 1) (by kernel_rfl) (by kernel_rfl) 1 (by rfl) (by omega) (so1 + 1) (by omega) ?_
            refine VL_load (d := 37) (t := 5) (a := ⟨sb1, so1 + 1, none⟩) (v := .int .u8 (bs.getD 1 0)) (by kernel_rfl) (by kernel_rfl) (Sl.ldI hA (by kernel_rfl) 1 (by (try simp only [List.length_set, List.length_append, List.length_map, List.length_replicate, List.length_cons, List.length_nil, List.length_take, List.length_drop, List.length_range]) <;> omega)) ?_
            refine VL_pure 5 [0, 2, 4, 38, 39] [(0, .slice (some ⟨sb1, so1, none⟩) 48 c), (2, .pointer (some ⟨b1, 0, none⟩)), (4, .pointer (some ⟨b2, 0, none⟩)), (38, .bool ((bs.getD 1 0) == 1)), (39, .pointer (some ⟨b2, 2, none⟩))] (by kernel_rfl) rfl ?_
            refine VL_store (b := b2) (o := 2) (vs := [.bool ((bs.getD 1 0) == 1)]) (by kernel_rfl) (by kernel_rfl) ho4 (Nat.le_of_ble_eq_true (by kernel_rfl)) ?_
            intro w18 hw9
            replace hS := Step.transNew hS hw9.step (fun _ _ _ => by omega)
            replace hA := hA.keepB hw9.step (show ¬ sb1 = b2 by omega)
            replace ho1 := ho1.step hw9.step (show ¬ b1 = b2 by omega)
            replace hbase2 := Nat.le_trans hbase2 (hw9.step).size
            have ho11 : Own w18 b2 #[.int .i64 (IntKind.wrap .i64 ((IntKind.wrap .i64 (bs.getD 0 0)) - 16)), .int .u8 0, .bool ((bs.getD 1 0) == 1), .int .u32 0, .int .u8 0, .int .u8 0, .int .u8 0, .int .u8 0, .int .u8 0, .int .u8 0, .int .u8 0, .int .u8 0, .int .u8 0, .int .u8 0, .int .u8 0, .int .u8 0, .int .u8 0, .int .u8 0, .int .u8 0, .int .u8 0, .int .u8 0, .int .u8 0, .int .u8 0, .int .u8 0, .int .u8 0, .int .u8 0, .int .u8 0, .int .u8 0, .int .u8 0, .int .u8 0, .int .u8 0, .int .u8 0, .int .u8 0, .int .u8 0, .int .u8 0, .int .u8 0] 25 := Own.cast hw9.own (by kernel_rfl)
            have hzhw9 := hw9.same
            refine VL_end (by kernel_rfl) ?_
            refine VQ_next ?_
            refine VC_seq ?_
            refine VC_det [[], [0], [0, 1], [0, 1, 2], [0, 1, 2, 3], [], [5], [5, 6], [5, 6, 7], [5, 6, 7, 8], [0, 1, 2, 3, 4, 5, 6, 7, 8, 9], [], [11], [11, 12], [11, 12, 13], [11, 12, 13, 14], [0, 1, 2, 3, 4, 5, 6, 7, 8, 9, 10, 11, 12, 13, 14, 15], [], [17], [17, 18], [17, 18, 19], [0, 1, 2, 3, 4, 5, 6, 7, 8, 9, 10, 11, 12, 13, 14, 15, 16, 17, 18, 19, 20], [0, 1, 2, 3, 4, 5, 6, 7, 8, 9, 10, 11, 12, 13, 14, 15, 16, 17, 18, 19, 20, 21], [0, 1, 2, 3, 4, 5, 6, 7, 8, 9, 10, 11, 12, 13, 14, 15, 16, 17, 18, 19, 20, 21, 22]] 21 [.slice (some ⟨sb1, so1, none⟩) 48 c, .pointer (some ⟨sb1, so1 + 2, none⟩), .int .u8 (bs.getD 2 0), .int .u32 (IntKind.wrap .u32 (bs.getD 2 0)), .int .u32 (IntKind.wrap .u32 ((IntKind.wrap .u32 (bs.getD 2 0)) * 16777216)), .slice (some ⟨sb1, so1, none⟩) 48 c, .pointer (some ⟨sb1, so1 + 3, none⟩), .int .u8 (bs.getD 3 0), .int .u32 (IntKind.wrap .u32 (bs.getD 3 0)), .int .u32 (IntKind.wrap .u32 ((IntKind.wrap .u32 (bs.getD 3 0)) * 65536)), .int .u32 (IntKind.wrap .u32 ((IntKind.wrap .u32 ((IntKind.wrap .u32 (bs.getD 2 0)) * 16777216)) + (IntKind.wrap .u32 ((IntKind.wrap .u32 (bs.getD 3 0)) * 65536)))), .slice (some ⟨sb1, so1, none⟩) 48 c, .pointer (some ⟨sb1, so1 + 4, none⟩), .int .u8 (bs.getD 4 0), .int .u32 (IntKind.wrap .u32 (bs.getD 4 0)), .int .u32 (IntKind.wrap .u32 ((IntKind.wrap .u32 (bs.getD 4 0)) * 256)), .int .u32 (IntKind.wrap .u32 ((IntKind.wrap .u32 ((IntKind.wrap .u32 ((IntKind.wrap .u32 (bs.getD 2 0)) * 16777216)) + (IntKind.wrap .u32 ((IntKind.wrap .u32 (bs.getD 3 0)) * 65536)))) + (IntKind.wrap .u32 ((IntKind.wrap .u32 (bs.getD 4 0)) * 256)))), .slice (some ⟨sb1, so1, none⟩) 48 c, .pointer (some ⟨sb1, so1 + 5, none⟩), .int .u8 (bs.getD 5 0), .int .u32 (IntKind.wrap .u32 (bs.getD 5 0))] [0, 3, 4, 5, 8, 9, 10, 11, 14, 15, 16, 17, 20] [1, 2, 6, 7, 12, 13, 18, 19] (by kernel_rfl) (by kernel_rfl) (by kernel_rfl) (by kernel_rfl) ?_ ?_
            · intro w19 hs1
              replace hS := Step.trans hS hs1
              replace hA := hA.no hs1
              replace ho1 := ho1.no hs1
              replace hbase2 := Nat.le_trans hbase2 (hs1).size
              replace ho11 := ho11.no hs1
              exact ⟨Det1_index (d := 41) (b := sb1) (o := so1) (len := 48) (sz := 1) (m := 2) (by kernel_rfl) (by kernel_rfl) 2 (by rfl) (by omega) (so1 + 2) (by omega), Det1_load (d := 42) (t := 5) (a := ⟨sb1, so1 + 2, none⟩) (by kernel_rfl) (by kernel_rfl) (Sl.ldI hA (by kernel_rfl) 2 (by (try simp only [List.length_set, List.length_append, List.length_map, List.length_replicate, List.length_cons, List.length_nil, List.length_take, List.length_drop, List.length_range]) <;> omega)), Det1_index (d := 46) (b := sb1) (o := so1) (len := 48) (sz := 1) (m := 3) (by kernel_rfl) (by kernel_rfl) 3 (by rfl) (by omega) (so1 + 3) (by omega), Det1_load (d := 47) (t := 5) (a := ⟨sb1, so1 + 3, none⟩) (by kernel_rfl) (by kernel_rfl) (Sl.ldI hA (by kernel_rfl) 3 (by (try simp only [List.length_set, List.length_append, List.length_map, List.length_replicate, List.length_cons, List.length_nil, List.length_take, List.length_drop, List.length_range]) <;> omega)), Det1_index (d := 52) (b := sb1) (o := so1) (len := 48) (sz := 1) (m := 4) (by kernel_rfl) (by kernel_rfl) 4 (by rfl) (by omega) (so1 + 4) (by omega), Det1_load (d := 53) (t := 5) (a := ⟨sb1, so1 + 4, none⟩) (by kernel_rfl) (by kernel_rfl) (Sl.ldI hA (by kernel_rfl) 4 (by (try simp only [List.length_set, List.length_append, List.length_map, List.length_replicate, List.length_cons, List.length_nil, List.length_take, List.length_drop, List.length_range]) <;> omega)), Det1_index (d := 58) (b := sb1) (o := so1) (len := 48) (sz := 1) (m := 5) (by kernel_rfl) (by kernel_rfl) 5 (by rfl) (by omega) (so1 + 5) (by omega), Det1_load (d := 59) (t := 5) (a := ⟨sb1, so1 + 5, none⟩) (by kernel_rfl) (by kernel_rfl) (Sl.ldI hA (by kernel_rfl) 5 (by (try simp only [List.length_set, List.length_append, List.length_map, List.length_replicate, List.length_cons, List.length_nil, List.length_take, List.length_drop, List.length_range]) <;> omega)), trivial⟩
            intro w19 hs1
            replace hS := Step.trans hS hs1
            replace hA := hA.no hs1
            replace ho1 := ho1.no hs1
            replace hbase2 := Nat.le_trans hbase2 (hs1).size
            replace ho11 := ho11.no hs1
            refine VL_keep [0, 2, 4, 56, 60] [(0, .slice (some ⟨sb1, so1, none⟩) 48 c), (2, .pointer (some ⟨b1, 0, none⟩)), (4, .pointer (some ⟨b2, 0, none⟩)), (56, .int .u32 (IntKind.wrap .u32 ((IntKind.wrap .u32 ((IntKind.wrap .u32 ((IntKind.wrap .u32 (bs.getD 2 0)) * 16777216)) + (IntKind.wrap .u32 ((IntKind.wrap .u32 (bs.getD 3 0)) * 65536)))) + (IntKind.wrap .u32 ((IntKind.wrap .u32 (bs.getD 4 0)) * 256))))), (60, .int .u32 (IntKind.wrap .u32 (bs.getD 5 0)))] (by kernel_rfl) ?_
            refine VL_pure 23 [0, 2, 4, 61, 62] [(0, .slice (some ⟨sb1, so1, none⟩) 48 c), (2, .pointer (some ⟨b1, 0, none⟩)), (4, .pointer (some ⟨b2, 0, none⟩)), (61, .int .u32 (IntKind.wrap .u32 ((IntKind.wrap .u32 ((IntKind.wrap .u32 ((IntKind.wrap .u32 ((IntKind.wrap .u32 (bs.getD 2 0)) * 16777216)) + (IntKind.wrap .u32 ((IntKind.wrap .u32 (bs.getD 3 0)) * 65536)))) + (IntKind.wrap .u32 ((IntKind.wrap .u32 (bs.getD 4 0)) * 256)))) + (IntKind.wrap .u32 (bs.getD 5 0))))), (62, .pointer (some ⟨b2, 3, none⟩))] (by kernel_rfl) rfl ?_
            refine VL_store (b := b2) (o := 3) (vs := [.int .u32 (IntKind.wrap .u32 ((IntKind.wrap .u32 ((IntKind.wrap .u32 ((IntKind.wrap .u32 ((IntKind.wrap .u32 (bs.getD 2 0)) * 16777216)) + (IntKind.wrap .u32 ((IntKind.wrap .u32 (bs.getD 3 0)) * 65536)))) + (IntKind.wrap .u32 ((IntKind.wrap .u32 (bs.getD 4 0)) * 256)))) + (IntKind.wrap .u32 (bs.getD 5 0))))]) (by kernel_rfl) (by kernel_rfl) ho11 (Nat.le_of_ble_eq_true (by kernel_rfl)) ?_
            intro w20 hw10
            replace hS := Step.transNew hS hw10.step (fun _ _ _ => by omega)
            replace hA := hA.keepB hw10.step (show ¬ sb1 = b2 by omega)
            replace ho1 := ho1.step hw10.step (show ¬ b1 = b2 by omega)
            replace hbase2 := Nat.le_trans hbase2 (hw10.step).size
            have ho12 : Own w20 b2 #[.int .i64 (IntKind.wrap .i64 ((IntKind.wrap .i64 (bs.getD 0 0)) - 16)), .int .u8 0, .bool ((bs.getD 1 0) == 1), .int .u32 (IntKind.wrap .u32 ((IntKind.wrap .u32 ((IntKind.wrap .u32 ((IntKind.wrap .u32 ((IntKind.wrap .u32 (bs.getD 2 0)) * 16777216)) + (IntKind.wrap .u32 ((IntKind.wrap .u32 (bs.getD 3 0)) * 65536)))) + (IntKind.wrap .u32 ((IntKind.wrap .u32 (bs.getD 4 0)) * 256)))) + (IntKind.wrap .u32 (bs.getD 5 0)))), .int .u8 0, .int .u8 0, .int .u8 0, .int .u8 0, .int .u8 0, .int .u8 0, .int .u8 0, .int .u8 0, .int .u8 0, .int .u8 0, .int .u8 0, .int .u8 0, .int .u8 0, .int .u8 0, .int .u8 0, .int .u8 0, .int .u8 0, .int .u8 0, .int .u8 0, .int .u8 0, .int .u8 0, .int .u8 0, .int .u8 0, .int .u8 0, .int .u8 0, .int .u8 0, .int .u8 0, .int .u8 0, .int .u8 0, .int .u8 0, .int .u8 0, .int .u8 0] 25 := Own.cast hw10.own (by kernel_rfl)
            have hzhw10 := hw10.same
            refine VL_end (by kernel_rfl) ?_
            refine VQ_next ?_
            refine VC_seq ?_
            refine VC_region ?_
            refine VL_pure 1 [0, 2, 4, 63] [(0, .slice (some ⟨sb1, so1, none⟩) 48 c), (2, .pointer (some ⟨b1, 0, none⟩)), (4, .pointer (some ⟨b2, 0, none⟩)), (63, .slice (some ⟨sb1, so1, none⟩) 48 c)] (by kernel_rfl) rfl ?_
            obtain ⟨so3, hso3⟩ : ∃ x, (if c = 6 then so1 else so1 + 6 * 1) = x := ⟨_, rfl⟩
            refine VL_slice (d := 64) (b := sb1) (o := so1) (sz := 1) (len := 48) (cap := c) (lo := (some 6)) (hi := (some 22)) (mx := none) (by kernel_rfl) (by kernel_rfl) (fun h => by first | exact absurd rfl h | exact (fun h => by cases h)) 6 22 c rfl rfl rfl (by omega) (by omega) (by omega) so3 hso3 16 (by omega) (c - 6) (by omega) ?_
            have hsl2 := Sl.cutI (H := 22) hA hso3 (by omega)
            have hzs10 := hS.size
            have hzl14 := ho1.lt
            have hzl15 := ho12.lt
            refine VL_call (d := 65) (f := 24) (by kernel_rfl) (by kernel_rfl) (by kernel_rfl) Try.call24 (sixteen_sub (some ⟨sb1, so3, none⟩) (c - 6) _ bs 6 _ (by omega) hsl2 (by first | exact Nat.le_refl _ | omega)) ?_
            rintro _ w21 ⟨rfl, hc8⟩
            replace hS := Step.trans hS hc8
            replace hA := hA.no hc8
            replace ho1 := ho1.no hc8
            replace hbase2 := Nat.le_trans hbase2 (hc8).size
            replace ho12 := ho12.no hc8
            replace hsl2 := hsl2.no hc8
            refine VL_pure 4 [0, 2, 4, 65, 66] [(0, .slice (some ⟨sb1, so1, none⟩) 48 c), (2, .pointer (some ⟨b1, 0, none⟩)), (4, .pointer (some ⟨b2, 0, none⟩)), (65, .agg #[.int .u8 (bs.getD 6 0), .int .u8 (bs.getD 7 0), .int .u8 (bs.getD 8 0), .int .u8 (bs.getD 9 0), .int .u8 (bs.getD 10 0), .int .u8 (bs.getD 11 0), .int .u8 (bs.getD 12 0), .int .u8 (bs.getD 13 0), .int .u8 (bs.getD 14 0), .int .u8 (bs.getD 15 0), .int .u8 (bs.getD 16 0), .int .u8 (bs.getD 17 0), .int .u8 (bs.getD 18 0), .int .u8 (bs.getD 19 0), .int .u8 (bs.getD 20 0), .int .u8 (bs.getD 21 0)]), (66, .pointer (some ⟨b2, 4, none⟩))] (by kernel_rfl) rfl ?_
            refine VL_store (b := b2) (o := 4) (vs := [.int .u8 (bs.getD 6 0), .int .u8 (bs.getD 7 0), .int .u8 (bs.getD 8 0), .int .u8 (bs.getD 9 0), .int .u8 (bs.getD 10 0), .int .u8 (bs.getD 11 0), .int .u8 (bs.getD 12 0), .int .u8 (bs.getD 13 0), .int .u8 (bs.getD 14 0), .int .u8 (bs.getD 15 0), .int .u8 (bs.getD 16 0), .int .u8 (bs.getD 17 0), .int .u8 (bs.getD 18 0), .int .u8 (bs.getD 19 0), .int .u8 (bs.getD 20 0), .int .u8 (bs.getD 21 0)]) (by kernel_rfl) (by kernel_rfl) ho12 (Nat.le_of_ble_eq_true (by kernel_rfl)) ?_
            intro w22 hw11
            replace hS := Step.transNew hS hw11.step (fun _ _ _ => by omega)
            replace hA := hA.keepB hw11.step (show ¬ sb1 = b2 by omega)
            replace ho1 := ho1.step hw11.step (show ¬ b1 = b2 by omega)
            replace hbase2 := Nat.le_trans hbase2 (hw11.step).size
            replace hsl2 := hsl2.keepB hw11.step (show ¬ sb1 = b2 by omega)
            have ho13 : Own w22 b2 #[.int .i64 (IntKind.wrap .i64 ((IntKind.wrap .i64 (bs.getD 0 0)) - 16)), .int .u8 0, .bool ((bs.getD 1 0) == 1), .int .u32 (IntKind.wrap .u32 ((IntKind.wrap .u32 ((IntKind.wrap .u32 ((IntKind.wrap .u32 ((IntKind.wrap .u32 (bs.getD 2 0)) * 16777216)) + (IntKind.wrap .u32 ((IntKind.wrap .u32 (bs.getD 3 0)) * 65536)))) + (IntKind.wrap .u32 ((IntKind.wrap .u32 (bs.getD 4 0)) * 256)))) + (IntKind.wrap .u32 (bs.getD 5 0)))), .int .u8 (bs.getD 6 0), .int .u8 (bs.getD 7 0), .int .u8 (bs.getD 8 0), .int .u8 (bs.getD 9 0), .int .u8 (bs.getD 10 0), .int .u8 (bs.getD 11 0), .int .u8 (bs.getD 12 0), .int .u8 (bs.getD 13 0), .int .u8 (bs.getD 14 0), .int .u8 (bs.getD 15 0), .int .u8 (bs.getD 16 0), .int .u8 (bs.getD 17 0), .int .u8 (bs.getD 18 0), .int .u8 (bs.getD 19 0), .int .u8 (bs.getD 20 0), .int .u8 (bs.getD 21 0), .int .u8 0, .int .u8 0, .int .u8 0, .int .u8 0, .int .u8 0, .int .u8 0, .int .u8 0, .int .u8 0, .int .u8 0, .int .u8 0, .int .u8 0, .int .u8 0, .int .u8 0, .int .u8 0, .int .u8 0, .int .u8 0] 25 := Own.cast hw11.own (by kernel_rfl)
            have hzhw11 := hw11.same
            refine VL_end (by kernel_rfl) ?_
            refine VQ_next ?_
            refine VC_region ?_
            refine VL_pure 1 [0, 2, 4, 67] [(0, .slice (some ⟨sb1, so1, none⟩) 48 c), (2, .pointer (some ⟨b1, 0, none⟩)), (4, .pointer (some ⟨b2, 0, none⟩)), (67, .slice (some ⟨sb1, so1, none⟩) 48 c)] (by kernel_rfl) rfl ?_
            obtain ⟨so4, hso4⟩ : ∃ x, (if c = 22 then so1 else so1 + 22 * 1) = x := ⟨_, rfl⟩
            refine VL_slice (d := 68) (b := sb1) (o := so1) (sz := 1) (len := 48) (cap := c) (lo := (some 22)) (hi := (some 38)) (mx := none) (by kernel_rfl) (by kernel_rfl) (fun h => by first | exact absurd rfl h | exact (fun h => by cases h)) 22 38 c rfl rfl rfl (by omega) (by omega) (by omega) so4 hso4 16 (by omega) (c - 22) (by omega) ?_
            have hsl3 := Sl.cutI (H := 38) hA hso4 (by omega)
            have hzs11 := hS.size
            have hzl16 := ho1.lt
            have hzl17 := ho13.lt
            refine VL_call (d := 69) (f := 24) (by kernel_rfl) (by kernel_rfl) (by kernel_rfl) Try.call24 (sixteen_sub (some ⟨sb1, so4, none⟩) (c - 22) _ bs 22 _ (by omega) hsl3 (by first | exact Nat.le_refl _ | omega)) ?_
            rintro _ w23 ⟨rfl, hc9⟩
            replace hS := Step.trans hS hc9
            replace hA := hA.no hc9
            replace ho1 := ho1.no hc9
            replace hbase2 := Nat.le_trans hbase2 (hc9).size
            replace hsl2 := hsl2.no hc9
            replace ho13 := ho13.no hc9
            replace hsl3 := hsl3.no hc9
            refine VL_pure 4 [0, 2, 4, 69, 70] [(0, .slice (some ⟨sb1, so1, none⟩) 48 c), (2, .pointer (some ⟨b1, 0, none⟩)), (4, .pointer (some ⟨b2, 0, none⟩)), (69, .agg #[.int .u8 (bs.getD 22 0), .int .u8 (bs.getD 23 0), .int .u8 (bs.getD 24 0), .int .u8 (bs.getD 25 0), .int .u8 (bs.getD 26 0), .int .u8 (bs.getD 27 0), .int .u8 (bs.getD 28 0), .int .u8 (bs.getD 29 0), .int .u8 (bs.getD 30 0), .int .u8 (bs.getD 31 0), .int .u8 (bs.getD 32 0), .int .u8 (bs.getD 33 0), .int .u8 (bs.getD 34 0), .int .u8 (bs.getD 35 0), .int .u8 (bs.getD 36 0), .int .u8 (bs.getD 37 0)]), (70, .pointer (some ⟨b2, 20, none⟩))] (by kernel_rfl) rfl ?_
            refine VL_store (b := b2) (o := 20) (vs := [.int .u8 (bs.getD 22 0), .int .u8 (bs.getD 23 0), .int .u8 (bs.getD 24 0), .int .u8 (bs.getD 25 0), .int .u8 (bs.getD 26 0), .int .u8 (bs.getD 27 0), .int .u8 (bs.getD 28 0), .int .u8 (bs.getD 29 0), .int .u8 (bs.getD 30 0), .int .u8 (bs.getD 31 0), .int .u8 (bs.getD 32 0), .int .u8 (bs.getD 33 0), .int .u8 (bs.getD 34 0), .int .u8 (bs.getD 35 0), .int .u8 (bs.getD 36 0), .int .u8 (bs.getD 37 0)]) (by kernel_rfl) (by kernel_rfl) ho13 (Nat.le_of_ble_eq_true (by kernel_rfl)) ?_
            intro w24 hw12
            replace hS := Step.transNew hS hw12.step (fun _ _ _ => by omega)
            replace hA := hA.keepB hw12.step (show ¬ sb1 = b2 by omega)
            replace ho1 := ho1.step hw12.step (show ¬ b1 = b2 by omega)
            replace hbase2 := Nat.le_trans hbase2 (hw12.step).size
            replace hsl2 := hsl2.keepB hw12.step (show ¬ sb1 = b2 by omega)
            replace hsl3 := hsl3.keepB hw12.step (show ¬ sb1 = b2 by omega)
            have ho14 : Own w24 b2 #[.int .i64 (IntKind.wrap .i64 ((IntKind.wrap .i64 (bs.getD 0 0)) - 16)), .int .u8 0, .bool ((bs.getD 1 0) == 1), .int .u32 (IntKind.wrap .u32 ((IntKind.wrap .u32 ((IntKind.wrap .u32 ((IntKind.wrap .u32 ((IntKind.wrap .u32 (bs.getD 2 0)) * 16777216)) + (IntKind.wrap .u32 ((IntKind.wrap .u32 (bs.getD 3 0)) * 65536)))) + (IntKind.wrap .u32 ((IntKind.wrap .u32 (bs.getD 4 0)) * 256)))) + (IntKind.wrap .u32 (bs.getD 5 0)))), .int .u8 (bs.getD 6 0), .int .u8 (bs.getD 7 0), .int .u8 (bs.getD 8 0), .int .u8 (bs.getD 9 0), .int .u8 (bs.getD 10 0), .int .u8 (bs.getD 11 0), .int .u8 (bs.getD 12 0), .int .u8 (bs.getD 13 0), .int .u8 (bs.getD 14 0), .int .u8 (bs.getD 15 0), .int .u8 (bs.getD 16 0), .int .u8 (bs.getD 17 0), .int .u8 (bs.getD 18 0), .int .u8 (bs.getD 19 0), .int .u8 (bs.getD 20 0), .int .u8 (bs.getD 21 0), .int .u8 (bs.getD 22 0), .int .u8 (bs.getD 23 0), .int .u8 (bs.getD 24 0), .int .u8 (bs.getD 25 0), .int .u8 (bs.getD 26 0), .int .u8 (bs.getD 27 0), .int .u8 (bs.getD 28 0), .int .u8 (bs.getD 29 0), .int .u8 (bs.getD 30 0), .int .u8 (bs.getD 31 0), .int .u8 (bs.getD 32 0), .int .u8 (bs.getD 33 0), .int .u8 (bs.getD 34 0), .int .u8 (bs.getD 35 0), .int .u8 (bs.getD 36 0), .int .u8 (bs.getD 37 0)] 25 := Own.cast hw12.own (by kernel_rfl)
            have hzhw12 := hw12.same
            refine VL_end (by kernel_rfl) ?_
            refine VQ_block_normal ?_
            refine VQ_next ?_
            refine VC_seq ?_
            refine VC_seq ?_
            refine VC_region ?_
            refine VL_load (d := 71) (t := 25) (a := ⟨b2, 0, none⟩) (v := .agg #[.int .i64 (IntKind.wrap .i64 ((IntKind.wrap .i64 (bs.getD 0 0)) - 16)), .int .u8 0, .bool ((bs.getD 1 0) == 1), .int .u32 (IntKind.wrap .u32 ((IntKind.wrap .u32 ((IntKind.wrap .u32 ((IntKind.wrap .u32 ((IntKind.wrap .u32 (bs.getD 2 0)) * 16777216)) + (IntKind.wrap .u32 ((IntKind.wrap .u32 (bs.getD 3 0)) * 65536)))) + (IntKind.wrap .u32 ((IntKind.wrap .u32 (bs.getD 4 0)) * 256)))) + (IntKind.wrap .u32 (bs.getD 5 0)))), .int .u8 (bs.getD 6 0), .int .u8 (bs.getD 7 0), .int .u8 (bs.getD 8 0), .int .u8 (bs.getD 9 0), .int .u8 (bs.getD 10 0), .int .u8 (bs.getD 11 0), .int .u8 (bs.getD 12 0), .int .u8 (bs.getD 13 0), .int .u8 (bs.getD 14 0), .int .u8 (bs.getD 15 0), .int .u8 (bs.getD 16 0), .int .u8 (bs.getD 17 0), .int .u8 (bs.getD 18 0), .int .u8 (bs.getD 19 0), .int .u8 (bs.getD 20 0), .int .u8 (bs.getD 21 0), .int .u8 (bs.getD 22 0), .int .u8 (bs.getD 23 0), .int .u8 (bs.getD 24 0), .int .u8 (bs.getD 25 0), .int .u8 (bs.getD 26 0), .int .u8 (bs.getD 27 0), .int .u8 (bs.getD 28 0), .int .u8 (bs.getD 29 0), .int .u8 (bs.getD 30 0), .int .u8 (bs.getD 31 0), .int .u8 (bs.getD 32 0), .int .u8 (bs.getD 33 0), .int .u8 (bs.getD 34 0), .int .u8 (bs.getD 35 0), .int .u8 (bs.getD 36 0), .int .u8 (bs.getD 37 0)]) (by kernel_rfl) (by kernel_rfl) (Loads.ownL ho14 (n := 36) (by kernel_rfl) (by kernel_rfl) (by kernel_rfl)) ?_
            have hzs12 := hS.size
            have hzl18 := ho1.lt
            have hzl19 := ho14.lt
            refine VL_call (d := 72) (f := 11) (by kernel_rfl) (by kernel_rfl) (by kernel_rfl) Try.call11 (rpack_any (⟨IntKind.wrap .i64 ((IntKind.wrap .i64 (bs.getD 0 0)) - 16), 0, (bs.getD 1 0) == 1, IntKind.wrap .u32 ((IntKind.wrap .u32 ((IntKind.wrap .u32 ((IntKind.wrap .u32 ((IntKind.wrap .u32 (bs.getD 2 0)) * 16777216)) + (IntKind.wrap .u32 ((IntKind.wrap .u32 (bs.getD 3 0)) * 65536)))) + (IntKind.wrap .u32 ((IntKind.wrap .u32 (bs.getD 4 0)) * 256)))) + (IntKind.wrap .u32 (bs.getD 5 0))), (plG bs 6), (plG bs 22)⟩ : Om) _) ?_
            rintro _ w25 ⟨A5, c5, rfl, hr5, hc10⟩
            replace hS := Step.trans hS hc10
            replace hA := hA.no hc10
            replace ho1 := ho1.no hc10
            replace hbase2 := Nat.le_trans hbase2 (hc10).size
            replace hsl2 := hsl2.no hc10
            replace hsl3 := hsl3.no hc10
            replace ho14 := ho14.no hc10
            obtain ⟨base5, hbase5E⟩ : ∃ x, x = w24.heap.size := ⟨_, rfl⟩
            rw [← hbase5E] at hr5
            have hbase5 : base5 ≤ w25.heap.size := by rw [hbase5E]; exact hc10.size
            have hrpn := rpackN_le (⟨IntKind.wrap .i64 ((IntKind.wrap .i64 (bs.getD 0 0)) - 16), 0, (bs.getD 1 0) == 1, IntKind.wrap .u32 ((IntKind.wrap .u32 ((IntKind.wrap .u32 ((IntKind.wrap .u32 ((IntKind.wrap .u32 (bs.getD 2 0)) * 16777216)) + (IntKind.wrap .u32 ((IntKind.wrap .u32 (bs.getD 3 0)) * 65536)))) + (IntKind.wrap .u32 ((IntKind.wrap .u32 (bs.getD 4 0)) * 256)))) + (IntKind.wrap .u32 (bs.getD 5 0))), (plG bs 6), (plG bs 22)⟩ : Om)
            refine VL_pure 3 [2, 4, 72, 73] [(2, .pointer (some ⟨b1, 0, none⟩)), (4, .pointer (some ⟨b2, 0, none⟩)), (72, .slice A5 (rpackN (⟨IntKind.wrap .i64 ((IntKind.wrap .i64 (bs.getD 0 0)) - 16), 0, (bs.getD 1 0) == 1, IntKind.wrap .u32 ((IntKind.wrap .u32 ((IntKind.wrap .u32 ((IntKind.wrap .u32 ((IntKind.wrap .u32 (bs.getD 2 0)) * 16777216)) + (IntKind.wrap .u32 ((IntKind.wrap .u32 (bs.getD 3 0)) * 65536)))) + (IntKind.wrap .u32 ((IntKind.wrap .u32 (bs.getD 4 0)) * 256)))) + (IntKind.wrap .u32 (bs.getD 5 0))), (plG bs 6), (plG bs 22)⟩ : Om)) c5), (73, .slice (some ⟨sb1, so1, none⟩) 48 c)] (by kernel_rfl) rfl ?_
            have hzs13 := hS.size
            have hzl20 := ho1.lt
            have hzl21 := ho14.lt
            refine VL_call (d := 74) (f := 15) (args := #[.slice A5 (rpackN (⟨IntKind.wrap .i64 ((IntKind.wrap .i64 (bs.getD 0 0)) - 16), 0, (bs.getD 1 0) == 1, IntKind.wrap .u32 ((IntKind.wrap .u32 ((IntKind.wrap .u32 ((IntKind.wrap .u32 ((IntKind.wrap .u32 (bs.getD 2 0)) * 16777216)) + (IntKind.wrap .u32 ((IntKind.wrap .u32 (bs.getD 3 0)) * 65536)))) + (IntKind.wrap .u32 ((IntKind.wrap .u32 (bs.getD 4 0)) * 256)))) + (IntKind.wrap .u32 (bs.getD 5 0))), (plG bs 6), (plG bs 22)⟩ : Om)) c5, .slice (some ⟨sb1, so1, none⟩) 48 c]) (by kernel_rfl) (by kernel_rfl) (by kernel_rfl) Try.call15 (same_any A5 (rpackN (⟨IntKind.wrap .i64 ((IntKind.wrap .i64 (bs.getD 0 0)) - 16), 0, (bs.getD 1 0) == 1, IntKind.wrap .u32 ((IntKind.wrap .u32 ((IntKind.wrap .u32 ((IntKind.wrap .u32 ((IntKind.wrap .u32 (bs.getD 2 0)) * 16777216)) + (IntKind.wrap .u32 ((IntKind.wrap .u32 (bs.getD 3 0)) * 65536)))) + (IntKind.wrap .u32 ((IntKind.wrap .u32 (bs.getD 4 0)) * 256)))) + (IntKind.wrap .u32 (bs.getD 5 0))), (plG bs 6), (plG bs 22)⟩ : Om)) c5 _ (rpackV (⟨IntKind.wrap .i64 ((IntKind.wrap .i64 (bs.getD 0 0)) - 16), 0, (bs.getD 1 0) == 1, IntKind.wrap .u32 ((IntKind.wrap .u32 ((IntKind.wrap .u32 ((IntKind.wrap .u32 ((IntKind.wrap .u32 (bs.getD 2 0)) * 16777216)) + (IntKind.wrap .u32 ((IntKind.wrap .u32 (bs.getD 3 0)) * 65536)))) + (IntKind.wrap .u32 ((IntKind.wrap .u32 (bs.getD 4 0)) * 256)))) + (IntKind.wrap .u32 (bs.getD 5 0))), (plG bs 6), (plG bs 22)⟩ : Om)) (some ⟨sb1, so1, none⟩) 48 c _ bs _ (Rw.lenI hr5) (Rw.slI hr5) hn hA (by omega) (by omega) (by first | exact Nat.le_refl _ | omega) (by first | exact Nat.le_refl _ | omega)) ?_
            rintro _ w26 ⟨rfl, hc11⟩
            replace hS := Step.trans hS hc11
            replace hA := hA.no hc11
            replace ho1 := ho1.no hc11
            replace hbase2 := Nat.le_trans hbase2 (hc11).size
            replace hsl2 := hsl2.no hc11
            replace hsl3 := hsl3.no hc11
            replace ho14 := ho14.no hc11
            replace hbase5 := Nat.le_trans hbase5 (hc11).size
            replace hr5 := hr5.no hc11
            refine VL_pure 5 [2, 4, 75] [(2, .pointer (some ⟨b1, 0, none⟩)), (4, .pointer (some ⟨b2, 0, none⟩)), (75, .bool (!((rpackV (⟨IntKind.wrap .i64 ((IntKind.wrap .i64 (bs.getD 0 0)) - 16), 0, (bs.getD 1 0) == 1, IntKind.wrap .u32 ((IntKind.wrap .u32 ((IntKind.wrap .u32 ((IntKind.wrap .u32 ((IntKind.wrap .u32 (bs.getD 2 0)) * 16777216)) + (IntKind.wrap .u32 ((IntKind.wrap .u32 (bs.getD 3 0)) * 65536)))) + (IntKind.wrap .u32 ((IntKind.wrap .u32 (bs.getD 4 0)) * 256)))) + (IntKind.wrap .u32 (bs.getD 5 0))), (plG bs 6), (plG bs 22)⟩ : Om)) == bs)))] (by kernel_rfl) rfl ?_
            refine VL_end (by kernel_rfl) ?_
            refine VQ_next ?_
            refine VC_cond (!((rpackV (⟨IntKind.wrap .i64 ((IntKind.wrap .i64 (bs.getD 0 0)) - 16), 0, (bs.getD 1 0) == 1, IntKind.wrap .u32 ((IntKind.wrap .u32 ((IntKind.wrap .u32 ((IntKind.wrap .u32 ((IntKind.wrap .u32 (bs.getD 2 0)) * 16777216)) + (IntKind.wrap .u32 ((IntKind.wrap .u32 (bs.getD 3 0)) * 65536)))) + (IntKind.wrap .u32 ((IntKind.wrap .u32 (bs.getD 4 0)) * 256)))) + (IntKind.wrap .u32 (bs.getD 5 0))), (plG bs 6), (plG bs 22)⟩ : Om)) == bs)) (by kernel_rfl) (fun h8 => ?_) (fun h8 => ?_)
            · try simp only [Bool.and_eq_true, Bool.or_eq_true, decide_eq_true_eq, Bool.not_eq_true', decide_eq_false_iff_not, Bool.and_eq_false_iff, Bool.or_eq_false_iff, beq_iff_eq, bne_iff_ne, beq_eq_false_iff_ne, bne_eq_false_iff_eq, Bool.not_eq_eq_eq_not, Bool.not_true, Bool.not_false] at h8
              refine VC_seq ?_
              refine VC_region ?_
              refine VL_pure 1 [2, 76] [(2, .pointer (some ⟨b1, 0, none⟩)), (76, .agg #[.int .i64 0, .int .u8 0, .bool false, .int .u32 0, .int .u8 0, .int .u8 0, .int .u8 0, .int .u8 0, .int .u8 0, .int .u8 0, .int .u8 0, .int .u8 0, .int .u8 0, .int .u8 0, .int .u8 0, .int .u8 0, .int .u8 0, .int .u8 0, .int .u8 0, .int .u8 0, .int .u8 0, .int .u8 0, .int .u8 0, .int .u8 0, .int .u8 0, .int .u8 0, .int .u8 0, .int .u8 0, .int .u8 0, .int .u8 0, .int .u8 0, .int .u8 0, .int .u8 0, .int .u8 0, .int .u8 0, .int .u8 0])] (by kernel_rfl) rfl ?_
              refine VL_store (b := b1) (o := 0) (vs := [.int .i64 0, .int .u8 0, .bool false, .int .u32 0, .int .u8 0, .int .u8 0, .int .u8 0, .int .u8 0, .int .u8 0, .int .u8 0, .int .u8 0, .int .u8 0, .int .u8 0, .int .u8 0, .int .u8 0, .int .u8 0, .int .u8 0, .int .u8 0, .int .u8 0, .int .u8 0, .int .u8 0, .int .u8 0, .int .u8 0, .int .u8 0, .int .u8 0, .int .u8 0, .int .u8 0, .int .u8 0, .int .u8 0, .int .u8 0, .int .u8 0, .int .u8 0, .int .u8 0, .int .u8 0, .int .u8 0, .int .u8 0]) (by kernel_rfl) (by kernel_rfl) ho1 (Nat.le_of_ble_eq_true (by kernel_rfl)) ?_
              intro w27 hw13
              replace hS := Step.transNew hS hw13.step (fun _ _ _ => by omega)
              replace hA := hA.keepB hw13.step (show ¬ sb1 = b1 by omega)
              replace hbase2 := Nat.le_trans hbase2 (hw13.step).size
              replace hsl2 := hsl2.keepB hw13.step (show ¬ sb1 = b1 by omega)
              replace hsl3 := hsl3.keepB hw13.step (show ¬ sb1 = b1 by omega)
              replace ho14 := ho14.step hw13.step (show ¬ b2 = b1 by omega)
              replace hbase5 := Nat.le_trans hbase5 (hw13.step).size
              have ho15 : Own w27 b1 #[.int .i64 0, .int .u8 0, .bool false, .int .u32 0, .int .u8 0, .int .u8 0, .int .u8 0, .int .u8 0, .int .u8 0, .int .u8 0, .int .u8 0, .int .u8 0, .int .u8 0, .int .u8 0, .int .u8 0, .int .u8 0, .int .u8 0, .int .u8 0, .int .u8 0, .int .u8 0, .int .u8 0, .int .u8 0, .int .u8 0, .int .u8 0, .int .u8 0, .int .u8 0, .int .u8 0, .int .u8 0, .int .u8 0, .int .u8 0, .int .u8 0, .int .u8 0, .int .u8 0, .int .u8 0, .int .u8 0, .int .u8 0] 25 := Own.cast hw13.own (by kernel_rfl)
              have hzhw13 := hw13.same
              refine VL_pure 3 [2, 3] [(2, .pointer (some ⟨b1, 0, none⟩)), (3, .int .i64 5)] (by kernel_rfl) rfl ?_
              refine VL_end (by kernel_rfl) ?_
              refine VQ_next ?_
              refine VC_ret ?_
              refine VQ_then_ret ?_
              refine VQ_retC1T1 (T := 25) (.agg #[.int .i64 0, .int .u8 0, .bool false, .int .u32 0, .int .u8 0, .int .u8 0, .int .u8 0, .int .u8 0, .int .u8 0, .int .u8 0, .int .u8 0, .int .u8 0, .int .u8 0, .int .u8 0, .int .u8 0, .int .u8 0, .int .u8 0, .int .u8 0, .int .u8 0, .int .u8 0, .int .u8 0, .int .u8 0, .int .u8 0, .int .u8 0, .int .u8 0, .int .u8 0, .int .u8 0, .int .u8 0, .int .u8 0, .int .u8 0, .int .u8 0, .int .u8 0, .int .u8 0, .int .u8 0, .int .u8 0, .int .u8 0]) (.int .i64 5) (.inr rfl) rfl rfl rfl (Loads.ownL ho15 (n := 36) (by kernel_rfl) (by kernel_rfl) (by kernel_rfl)) ?_
              obtain ⟨e1, e2⟩ := runp_5 (bs := bs) (runpO_8 (by simp only [kOf]; omega)) ‹_› (by unfold kindB; simp only [kOf]; omega) ‹_›
              exact ⟨by rw [e1, e2]; rfl, hS⟩
            · try simp only [Bool.and_eq_true, Bool.or_eq_true, decide_eq_true_eq, Bool.not_eq_true', decide_eq_false_iff_not, Bool.and_eq_false_iff, Bool.or_eq_false_iff, beq_iff_eq, bne_iff_ne, beq_eq_false_iff_ne, bne_eq_false_iff_eq, Bool.not_eq_eq_eq_not, Bool.not_true, Bool.not_false] at h8
              refine VC_skip ?_
              refine VQ_next ?_
              refine VC_seq ?_
              refine VC_region ?_
              refine VL_load (d := 77) (t := 25) (a := ⟨b2, 0, none⟩) (v := .agg #[.int .i64 (IntKind.wrap .i64 ((IntKind.wrap .i64 (bs.getD 0 0)) - 16)), .int .u8 0, .bool ((bs.getD 1 0) == 1), .int .u32 (IntKind.wrap .u32 ((IntKind.wrap .u32 ((IntKind.wrap .u32 ((IntKind.wrap .u32 ((IntKind.wrap .u32 (bs.getD 2 0)) * 16777216)) + (IntKind.wrap .u32 ((IntKind.wrap .u32 (bs.getD 3 0)) * 65536)))) + (IntKind.wrap .u32 ((IntKind.wrap .u32 (bs.getD 4 0)) * 256)))) + (IntKind.wrap .u32 (bs.getD 5 0)))), .int .u8 (bs.getD 6 0), .int .u8 (bs.getD 7 0), .int .u8 (bs.getD 8 0), .int .u8 (bs.getD 9 0), .int .u8 (bs.getD 10 0), .int .u8 (bs.getD 11 0), .int .u8 (bs.getD 12 0), .int .u8 (bs.getD 13 0), .int .u8 (bs.getD 14 0), .int .u8 (bs.getD 15 0), .int .u8 (bs.getD 16 0), .int .u8 (bs.getD 17 0), .int .u8 (bs.getD 18 0), .int .u8 (bs.getD 19 0), .int .u8 (bs.getD 20 0), .int .u8 (bs.getD 21 0), .int .u8 (bs.getD 22 0), .int .u8 (bs.getD 23 0), .int .u8 (bs.getD 24 0), .int .u8 (bs.getD 25 0), .int .u8 (bs.getD 26 0), .int .u8 (bs.getD 27 0), .int .u8 (bs.getD 28 0), .int .u8 (bs.getD 29 0), .int .u8 (bs.getD 30 0), .int .u8 (bs.getD 31 0), .int .u8 (bs.getD 32 0), .int .u8 (bs.getD 33 0), .int .u8 (bs.getD 34 0), .int .u8 (bs.getD 35 0), .int .u8 (bs.getD 36 0), .int .u8 (bs.getD 37 0)]) (by kernel_rfl) (by kernel_rfl) (Loads.ownL ho14 (n := 36) (by kernel_rfl) (by kernel_rfl) (by kernel_rfl)) ?_
              refine VL_store (b := b1) (o := 0) (vs := [.int .i64 (IntKind.wrap .i64 ((IntKind.wrap .i64 (bs.getD 0 0)) - 16)), .int .u8 0, .bool ((bs.getD 1 0) == 1), .int .u32 (IntKind.wrap .u32 ((IntKind.wrap .u32 ((IntKind.wrap .u32 ((IntKind.wrap .u32 ((IntKind.wrap .u32 (bs.getD 2 0)) * 16777216)) + (IntKind.wrap .u32 ((IntKind.wrap .u32 (bs.getD 3 0)) * 65536)))) + (IntKind.wrap .u32 ((IntKind.wrap .u32 (bs.getD 4 0)) * 256)))) + (IntKind.wrap .u32 (bs.getD 5 0)))), .int .u8 (bs.getD 6 0), .int .u8 (bs.getD 7 0), .int .u8 (bs.getD 8 0), .int .u8 (bs.getD 9 0), .int .u8 (bs.getD 10 0), .int .u8 (bs.getD 11 0), .int .u8 (bs.getD 12 0), .int .u8 (bs.getD 13 0), .int .u8 (bs.getD 14 0), .int .u8 (bs.getD 15 0), .int .u8 (bs.getD 16 0), .int .u8 (bs.getD 17 0), .int .u8 (bs.getD 18 0), .int .u8 (bs.getD 19 0), .int .u8 (bs.getD 20 0), .int .u8 (bs.getD 21 0), .int .u8 (bs.getD 22 0), .int .u8 (bs.getD 23 0), .int .u8 (bs.getD 24 0), .int .u8 (bs.getD 25 0), .int .u8 (bs.getD 26 0), .int .u8 (bs.getD 27 0), .int .u8 (bs.getD 28 0), .int .u8 (bs.getD 29 0), .int .u8 (bs.getD 30 0), .int .u8 (bs.getD 31 0), .int .u8 (bs.getD 32 0), .int .u8 (bs.getD 33 0), .int .u8 (bs.getD 34 0), .int .u8 (bs.getD 35 0), .int .u8 (bs.getD 36 0), .int .u8 (bs.getD 37 0)]) (by kernel_rfl) (by kernel_rfl) ho1 (Nat.le_of_ble_eq_true (by kernel_rfl)) ?_
              intro w28 hw14
              replace hS := Step.transNew hS hw14.step (fun _ _ _ => by omega)
              replace hA := hA.keepB hw14.step (show ¬ sb1 = b1 by omega)
              replace hbase2 := Nat.le_trans hbase2 (hw14.step).size
              replace hsl2 := hsl2.keepB hw14.step (show ¬ sb1 = b1 by omega)
              replace hsl3 := hsl3.keepB hw14.step (show ¬ sb1 = b1 by omega)
              replace ho14 := ho14.step hw14.step (show ¬ b2 = b1 by omega)
              replace hbase5 := Nat.le_trans hbase5 (hw14.step).size
              have ho16 : Own w28 b1 #[.int .i64 (IntKind.wrap .i64 ((IntKind.wrap .i64 (bs.getD 0 0)) - 16)), .int .u8 0, .bool ((bs.getD 1 0) == 1), .int .u32 (IntKind.wrap .u32 ((IntKind.wrap .u32 ((IntKind.wrap .u32 ((IntKind.wrap .u32 ((IntKind.wrap .u32 (bs.getD 2 0)) * 16777216)) + (IntKind.wrap .u32 ((IntKind.wrap .u32 (bs.getD 3 0)) * 65536)))) + (IntKind.wrap .u32 ((IntKind.wrap .u32 (bs.getD 4 0)) * 256)))) + (IntKind.wrap .u32 (bs.getD 5 0)))), .int .u8 (bs.getD 6 0), .int .u8 (bs.getD 7 0), .int .u8 (bs.getD 8 0), .int .u8 (bs.getD 9 0), .int .u8 (bs.getD 10 0), .int .u8 (bs.getD 11 0), .int .u8 (bs.getD 12 0), .int .u8 (bs.getD 13 0), .int .u8 (bs.getD 14 0), .int .u8 (bs.getD 15 0), .int .u8 (bs.getD 16 0), .int .u8 (bs.getD 17 0), .int .u8 (bs.getD 18 0), .int .u8 (bs.getD 19 0), .int .u8 (bs.getD 20 0), .int .u8 (bs.getD 21 0), .int .u8 (bs.getD 22 0), .int .u8 (bs.getD 23 0), .int .u8 (bs.getD 24 0), .int .u8 (bs.getD 25 0), .int .u8 (bs.getD 26 0), .int .u8 (bs.getD 27 0), .int .u8 (bs.getD 28 0), .int .u8 (bs.getD 29 0), .int .u8 (bs.getD 30 0), .int .u8 (bs.getD 31 0), .int .u8 (bs.getD 32 0), .int .u8 (bs.getD 33 0), .int .u8 (bs.getD 34 0), .int .u8 (bs.getD 35 0), .int .u8 (bs.getD 36 0), .int .u8 (bs.getD 37 0)] 25 := Own.cast hw14.own (by kernel_rfl)
              have hzhw14 := hw14.same
              refine VL_pure 3 [2, 3] [(2, .pointer (some ⟨b1, 0, none⟩)), (3, .int .i64 0)] (by kernel_rfl) rfl ?_
              refine VL_end (by kernel_rfl) ?_
              refine VQ_next ?_
              refine VC_ret ?_
              refine VQ_retC1T1 (T := 25) (.agg #[.int .i64 (IntKind.wrap .i64 ((IntKind.wrap .i64 (bs.getD 0 0)) - 16)), .int .u8 0, .bool ((bs.getD 1 0) == 1), .int .u32 (IntKind.wrap .u32 ((IntKind.wrap .u32 ((IntKind.wrap .u32 ((IntKind.wrap .u32 ((IntKind.wrap .u32 (bs.getD 2 0)) * 16777216)) + (IntKind.wrap .u32 ((IntKind.wrap .u32 (bs.getD 3 0)) * 65536)))) + (IntKind.wrap .u32 ((IntKind.wrap .u32 (bs.getD 4 0)) * 256)))) + (IntKind.wrap .u32 (bs.getD 5 0)))), .int .u8 (bs.getD 6 0), .int .u8 (bs.getD 7 0), .int .u8 (bs.getD 8 0), .int .u8 (bs.getD 9 0), .int .u8 (bs.getD 10 0), .int .u8 (bs.getD 11 0), .int .u8 (bs.getD 12 0), .int .u8 (bs.getD 13 0), .int .u8 (bs.getD 14 0), .int .u8 (bs.getD 15 0), .int .u8 (bs.getD 16 0), .int .u8 (bs.getD 17 0), .int .u8 (bs.getD 18 0), .int .u8 (bs.getD 19 0), .int .u8 (bs.getD 20 0), .int .u8 (bs.getD 21 0), .int .u8 (bs.getD 22 0), .int .u8 (bs.getD 23 0), .int .u8 (bs.getD 24 0), .int .u8 (bs.getD 25 0), .int .u8 (bs.getD 26 0), .int .u8 (bs.getD 27 0), .int .u8 (bs.getD 28 0), .int .u8 (bs.getD 29 0), .int .u8 (bs.getD 30 0), .int .u8 (bs.getD 31 0), .int .u8 (bs.getD 32 0), .int .u8 (bs.getD 33 0), .int .u8 (bs.getD 34 0), .int .u8 (bs.getD 35 0), .int .u8 (bs.getD 36 0), .int .u8 (bs.getD 37 0)]) (.int .i64 0) (.inr rfl) rfl rfl rfl (Loads.ownL ho16 (n := 36) (by kernel_rfl) (by kernel_rfl) (by kernel_rfl)) ?_
              obtain ⟨e1, e2⟩ := runp_0 (bs := bs) (runpO_8 (by simp only [kOf]; omega)) ‹_› (by unfold kindB; simp only [kOf]; omega) ‹_›
              exact ⟨by rw [e1, e2]; rfl, hS⟩
          · refine VC_seq ?_
            refine VC_region ?_
            refine VL_pure 1 [2, 19] [(2, .pointer (some ⟨b1, 0, none⟩)), (19, .agg #[.int .i64 0, .int .u8 0, .bool false, .int .u32 0, .int .u8 0, .int .u8 0, .int .u8 0, .int .u8 0, .int .u8 0, .int .u8 0, .int .u8 0, .int .u8 0, .int .u8 0, .int .u8 0, .int .u8 0, .int .u8 0, .int .u8 0, .int .u8 0, .int .u8 0, .int .u8 0, .int .u8 0, .int .u8 0, .int .u8 0, .int .u8 0, .int .u8 0, .int .u8 0, .int .u8 0, .int .u8 0, .int .u8 0, .int .u8 0, .int .u8 0, .int .u8 0, .int .u8 0, .int .u8 0, .int .u8 0, .int .u8 0])] (by kernel_rfl) rfl ?_
            refine VL_store (b := b1) (o := 0) (vs := [.int .i64 0, .int .u8 0, .bool false, .int .u32 0, .int .u8 0, .int .u8 0, .int .u8 0, .int .u8 0, .int .u8 0, .int .u8 0, .int .u8 0, .int .u8 0, .int .u8 0, .int .u8 0, .int .u8 0, .int .u8 0, .int .u8 0, .int .u8 0, .int .u8 0, .int .u8 0, .int .u8 0, .int .u8 0, .int .u8 0, .int .u8 0, .int .u8 0, .int .u8 0, .int .u8 0, .int .u8 0, .int .u8 0, .int .u8 0, .int .u8 0, .int .u8 0, .int .u8 0, .int .u8 0, .int .u8 0, .int .u8 0]) (by kernel_rfl) (by kernel_rfl) ho1 (Nat.le_of_ble_eq_true (by kernel_rfl)) ?_
            intro w29 hw15
            replace hS := Step.transNew hS hw15.step (fun _ _ _ => by omega)
            replace hA := hA.keepB hw15.step (show ¬ sb1 = b1 by omega)
            replace hbase2 := Nat.le_trans hbase2 (hw15.step).size
            replace ho4 := ho4.step hw15.step (show ¬ b2 = b1 by omega)
            have ho17 : Own w29 b1 #[.int .i64 0, .int .u8 0, .bool false, .int .u32 0, .int .u8 0, .int .u8 0, .int .u8 0, .int .u8 0, .int .u8 0, .int .u8 0, .int .u8 0, .int .u8 0, .int .u8 0, .int .u8 0, .int .u8 0, .int .u8 0, .int .u8 0, .int .u8 0, .int .u8 0, .int .u8 0, .int .u8 0, .int .u8 0, .int .u8 0, .int .u8 0, .int .u8 0, .int .u8 0, .int .u8 0, .int .u8 0, .int .u8 0, .int .u8 0, .int .u8 0, .int .u8 0, .int .u8 0, .int .u8 0, .int .u8 0, .int .u8 0] 25 := Own.cast hw15.own (by kernel_rfl)
            have hzhw15 := hw15.same
            refine VL_pure 3 [2, 3] [(2, .pointer (some ⟨b1, 0, none⟩)), (3, .int .i64 12)] (by kernel_rfl) rfl ?_
            refine VL_end (by kernel_rfl) ?_
            refine VQ_next ?_
            refine VC_ret ?_
            refine VQ_block_ret ?_
            refine VQ_then_ret ?_
            refine VQ_retC1T1 (T := 25) (.agg #[.int .i64 0, .int .u8 0, .bool false, .int .u32 0, .int .u8 0, .int .u8 0, .int .u8 0, .int .u8 0, .int .u8 0, .int .u8 0, .int .u8 0, .int .u8 0, .int .u8 0, .int .u8 0, .int .u8 0, .int .u8 0, .int .u8 0, .int .u8 0, .int .u8 0, .int .u8 0, .int .u8 0, .int .u8 0, .int .u8 0, .int .u8 0, .int .u8 0, .int .u8 0, .int .u8 0, .int .u8 0, .int .u8 0, .int .u8 0, .int .u8 0, .int .u8 0, .int .u8 0, .int .u8 0, .int .u8 0, .int .u8 0]) (.int .i64 12) (.inr rfl) rfl rfl rfl (Loads.ownL ho17 (n := 36) (by kernel_rfl) (by kernel_rfl) (by kernel_rfl)) ?_
            obtain ⟨e1, e2⟩ := runp_12 (bs := bs) ‹_› (by unfold kindB; simp only [kOf]; omega)
            exact ⟨by rw [e1, e2]; rfl, hS⟩
    · refine VC_region ?_
      refine VL_pure 2 [0, 2, 4, 18, 20] [(0, .slice (some ⟨sb1, so1, none⟩) 48 c), (2, .pointer (some ⟨b1, 0, none⟩)), (4, .pointer (some ⟨b2, 0, none⟩)), (18, .int .i64 (IntKind.wrap .i64 ((IntKind.wrap .i64 (bs.getD 0 0)) - 16))), (20, .bool ((IntKind.wrap .i64 ((IntKind.wrap .i64 (bs.getD 0 0)) - 16)) == 1))] (by kernel_rfl) rfl ?_
      refine VL_end (by kernel_rfl) ?_
      refine VQ_next ?_
      refine VC_eq (IntKind.wrap .i64 ((IntKind.wrap .i64 (bs.getD 0 0)) - 16)) 1 (by kernel_rfl) (fun h9 => ?_) (fun h9 => ?_)
      · refine VC_seq ?_
        refine VC_region ?_
        refine VL_pure 1 [0, 2, 4, 23] [(0, .slice (some ⟨sb1, so1, none⟩) 48 c), (2, .pointer (some ⟨b1, 0, none⟩)), (4, .pointer (some ⟨b2, 0, none⟩)), (23, .slice (some ⟨sb1, so1, none⟩) 48 c)] (by kernel_rfl) rfl ?_
        refine VL_index (d := 24) (b := sb1) (o := so1) (len := 48) (sz := 1) (m := 1) (by kernel_rfl) (by kernel_rfl) 1 (by rfl) (by omega) (so1 + 1) (by omega) ?_
        refine VL_load (d := 25) (t := 5) (a := ⟨sb1, so1 + 1, none⟩) (v := .int .u8 (bs.getD 1 0)) (by kernel_rfl) (by kernel_rfl) (Sl.ldI hA (by kernel_rfl) 1 (by (try simp only [List.length_set, List.length_append, List.length_map, List.length_replicate, List.length_cons, List.length_nil, List.length_take, List.length_drop, List.length_range]) <;> omega)) ?_
        refine VL_pure 4 [0, 2, 4, 25, 26] [(0, .slice (some ⟨sb1, so1, none⟩) 48 c), (2, .pointer (some ⟨b1, 0, none⟩)), (4, .pointer (some ⟨b2, 0, none⟩)), (25, .int .u8 (bs.getD 1 0)), (26, .pointer (some ⟨b2, 1, none⟩))] (by kernel_rfl) rfl ?_
        refine VL_store (b := b2) (o := 1) (vs := [.int .u8 (bs.getD 1 0)]) (by kernel_rfl) (by kernel_rfl) ho4 (Nat.le_of_ble_eq_true (by kernel_rfl)) ?_
        intro w30 hw16
        replace hS := Step.transNew hS hw16.step (fun _ _ _ => by omega)
        replace hA := hA.keepB hw16.step (show ¬ sb1 = b2 by omega)
        replace ho1 := ho1.step hw16.step (show ¬ b1 = b2 by omega)
        replace hbase2 := Nat.le_trans hbase2 (hw16.step).size
        have ho18 : Own w30 b2 #[.int .i64 (IntKind.wrap .i64 ((IntKind.wrap .i64 (bs.getD 0 0)) - 16)), .int .u8 (bs.getD 1 0), .bool false, .int .u32 0, .int .u8 0, .int .u8 0, .int .u8 0, .int .u8 0, .int .u8 0, .int .u8 0, .int .u8 0, .int .u8 0, .int .u8 0, .int .u8 0, .int .u8 0, .int .u8 0, .int .u8 0, .int .u8 0, .int .u8 0, .int .u8 0, .int .u8 0, .int .u8 0, .int .u8 0, .int .u8 0, .int .u8 0, .int .u8 0, .int .u8 0, .int .u8 0, .int .u8 0, .int .u8 0, .int .u8 0, .int .u8 0, .int .u8 0, .int .u8 0, .int .u8 0, .int .u8 0] 25 := Own.cast hw16.own (by kernel_rfl)
        have hzhw16 := hw16.same
        refine VL_end (by kernel_rfl) ?_
        refine VQ_next ?_
        refine VC_region ?_
        refine VL_pure 1 [0, 2, 4, 27] [(0, .slice (some ⟨sb1, so1, none⟩) 48 c), (2, .pointer (some ⟨b1, 0, none⟩)), (4, .pointer (some ⟨b2, 0, none⟩)), (27, .slice (some ⟨sb1, so1, none⟩) 48 c)] (by kernel_rfl) rfl ?_
        obtain ⟨so5, hso5⟩ : ∃ x, (if c = 2 then so1 else so1 + 2 * 1) = x := ⟨_, rfl⟩
        refine VL_slice (d := 28) (b := sb1) (o := so1) (sz := 1) (len := 48) (cap := c) (lo := (some 2)) (hi := (some 18)) (mx := none) (by kernel_rfl) (by kernel_rfl) (fun h => by first | exact absurd rfl h | exact (fun h => by cases h)) 2 18 c rfl rfl rfl (by omega) (by omega) (by omega) so5 hso5 16 (by omega) (c - 2) (by omega) ?_
        have hsl4 := Sl.cutI (H := 18) hA hso5 (by omega)
        have hzs14 := hS.size
        have hzl22 := ho1.lt
        have hzl23 := ho18.lt
        refine VL_call (d := 29) (f := 24) (by kernel_rfl) (by kernel_rfl) (by kernel_rfl) Try.call24 (sixteen_sub (some ⟨sb1, so5, none⟩) (c - 2) _ bs 2 _ (by omega) hsl4 (by first | exact Nat.le_refl _ | omega)) ?_
        rintro _ w31 ⟨rfl, hc12⟩
        replace hS := Step.trans hS hc12
        replace hA := hA.no hc12
        replace ho1 := ho1.no hc12
        replace hbase2 := Nat.le_trans hbase2 (hc12).size
        replace ho18 := ho18.no hc12
        replace hsl4 := hsl4.no hc12
        refine VL_pure 4 [0, 2, 4, 29, 30] [(0, .slice (some ⟨sb1, so1, none⟩) 48 c), (2, .pointer (some ⟨b1, 0, none⟩)), (4, .pointer (some ⟨b2, 0, none⟩)), (29, .agg #[.int .u8 (bs.getD 2 0), .int .u8 (bs.getD 3 0), .int .u8 (bs.getD 4 0), .int .u8 (bs.getD 5 0), .int .u8 (bs.getD 6 0), .int .u8 (bs.getD 7 0), .int .u8 (bs.getD 8 0), .int .u8 (bs.getD 9 0), .int .u8 (bs.getD 10 0), .int .u8 (bs.getD 11 0), .int .u8 (bs.getD 12 0), .int .u8 (bs.getD 13 0), .int .u8 (bs.getD 14 0), .int .u8 (bs.getD 15 0), .int .u8 (bs.getD 16 0), .int .u8 (bs.getD 17 0)]), (30, .pointer (some ⟨b2, 4, none⟩))] (by kernel_rfl) rfl ?_
        refine VL_store (b := b2) (o := 4) (vs := [.int .u8 (bs.getD 2 0), .int .u8 (bs.getD 3 0), .int .u8 (bs.getD 4 0), .int .u8 (bs.getD 5 0), .int .u8 (bs.getD 6 0), .int .u8 (bs.getD 7 0), .int .u8 (bs.getD 8 0), .int .u8 (bs.getD 9 0), .int .u8 (bs.getD 10 0), .int .u8 (bs.getD 11 0), .int .u8 (bs.getD 12 0), .int .u8 (bs.getD 13 0), .int .u8 (bs.getD 14 0), .int .u8 (bs.getD 15 0), .int .u8 (bs.getD 16 0), .int .u8 (bs.getD 17 0)]) (by kernel_rfl) (by kernel_rfl) ho18 (Nat.le_of_ble_eq_true (by kernel_rfl)) ?_
        intro w32 hw17
        replace hS := Step.transNew hS hw17.step (fun _ _ _ => by omega)
        replace hA := hA.keepB hw17.step (show ¬ sb1 = b2 by omega)
        replace ho1 := ho1.step hw17.step (show ¬ b1 = b2 by omega)
        replace hbase2 := Nat.le_trans hbase2 (hw17.step).size
        replace hsl4 := hsl4.keepB hw17.step (show ¬ sb1 = b2 by omega)
        have ho19 : Own w32 b2 #[.int .i64 (IntKind.wrap .i64 ((IntKind.wrap .i64 (bs.getD 0 0)) - 16)), .int .u8 (bs.getD 1 0), .bool false, .int .u32 0, .int .u8 (bs.getD 2 0), .int .u8 (bs.getD 3 0), .int .u8 (bs.getD 4 0), .int .u8 (bs.getD 5 0), .int .u8 (bs.getD 6 0), .int .u8 (bs.getD 7 0), .int .u8 (bs.getD 8 0), .int .u8 (bs.getD 9 0), .int .u8 (bs.getD 10 0), .int .u8 (bs.getD 11 0), .int .u8 (bs.getD 12 0), .int .u8 (bs.getD 13 0), .int .u8 (bs.getD 14 0), .int .u8 (bs.getD 15 0), .int .u8 (bs.getD 16 0), .int .u8 (bs.getD 17 0), .int .u8 0, .int .u8 0, .int .u8 0, .int .u8 0, .int .u8 0, .int .u8 0, .int .u8 0, .int .u8 0, .int .u8 0, .int .u8 0, .int .u8 0, .int .u8 0, .int .u8 0, .int .u8 0, .int .u8 0, .int .u8 0] 25 := Own.cast hw17.own (by kernel_rfl)
        have hzhw17 := hw17.same
        refine VL_end (by kernel_rfl) ?_
        refine VQ_block_normal ?_
        refine VQ_next ?_
        refine VC_seq ?_
        refine VC_seq ?_
        refine VC_region ?_
        refine VL_load (d := 71) (t := 25) (a := ⟨b2, 0, none⟩) (v := .agg #[.int .i64 (IntKind.wrap .i64 ((IntKind.wrap .i64 (bs.getD 0 0)) - 16)), .int .u8 (bs.getD 1 0), .bool false, .int .u32 0, .int .u8 (bs.getD 2 0), .int .u8 (bs.getD 3 0), .int .u8 (bs.getD 4 0), .int .u8 (bs.getD 5 0), .int .u8 (bs.getD 6 0), .int .u8 (bs.getD 7 0), .int .u8 (bs.getD 8 0), .int .u8 (bs.getD 9 0), .int .u8 (bs.getD 10 0), .int .u8 (bs.getD 11 0), .int .u8 (bs.getD 12 0), .int .u8 (bs.getD 13 0), .int .u8 (bs.getD 14 0), .int .u8 (bs.getD 15 0), .int .u8 (bs.getD 16 0), .int .u8 (bs.getD 17 0), .int .u8 0, .int .u8 0, .int .u8 0, .int .u8 0, .int .u8 0, .int .u8 0, .int .u8 0, .int .u8 0, .int .u8 0, .int .u8 0, .int .u8 0, .int .u8 0, .int .u8 0, .int .u8 0, .int .u8 0, .int .u8 0]) (by kernel_rfl) (by kernel_rfl) (Loads.ownL ho19 (n := 36) (by kernel_rfl) (by kernel_rfl) (by kernel_rfl)) ?_
        have hzs15 := hS.size
        have hzl24 := ho1.lt
        have hzl25 := ho19.lt
        refine VL_call (d := 72) (f := 11) (by kernel_rfl) (by kernel_rfl) (by kernel_rfl) Try.call11 (rpack_any (⟨IntKind.wrap .i64 ((IntKind.wrap .i64 (bs.getD 0 0)) - 16), bs.getD 1 0, false, 0, (plG bs 2), zp⟩ : Om) _) ?_
        rintro _ w33 ⟨A6, c6, rfl, hr6, hc13⟩
        replace hS := Step.trans hS hc13
        replace hA := hA.no hc13
        replace ho1 := ho1.no hc13
        replace hbase2 := Nat.le_trans hbase2 (hc13).size
        replace hsl4 := hsl4.no hc13
        replace ho19 := ho19.no hc13
        obtain ⟨base6, hbase6E⟩ : ∃ x, x = w32.heap.size := ⟨_, rfl⟩
        rw [← hbase6E] at hr6
        have hbase6 : base6 ≤ w33.heap.size := by rw [hbase6E]; exact hc13.size
        have hrpn := rpackN_le (⟨IntKind.wrap .i64 ((IntKind.wrap .i64 (bs.getD 0 0)) - 16), bs.getD 1 0, false, 0, (plG bs 2), zp⟩ : Om)
        refine VL_pure 3 [2, 4, 72, 73] [(2, .pointer (some ⟨b1, 0, none⟩)), (4, .pointer (some ⟨b2, 0, none⟩)), (72, .slice A6 (rpackN (⟨IntKind.wrap .i64 ((IntKind.wrap .i64 (bs.getD 0 0)) - 16), bs.getD 1 0, false, 0, (plG bs 2), zp⟩ : Om)) c6), (73, .slice (some ⟨sb1, so1, none⟩) 48 c)] (by kernel_rfl) rfl ?_
        have hzs16 := hS.size
        have hzl26 := ho1.lt
        have hzl27 := ho19.lt
        refine VL_call (d := 74) (f := 15) (args := #[.slice A6 (rpackN (⟨IntKind.wrap .i64 ((IntKind.wrap .i64 (bs.getD 0 0)) - 16), bs.getD 1 0, false, 0, (plG bs 2), zp⟩ : Om)) c6, .slice (some ⟨sb1, so1, none⟩) 48 c]) (by kernel_rfl) (by kernel_rfl) (by kernel_rfl) Try.call15 (same_any A6 (rpackN (⟨IntKind.wrap .i64 ((IntKind.wrap .i64 (bs.getD 0 0)) - 16), bs.getD 1 0, false, 0, (plG bs 2), zp⟩ : Om)) c6 _ (rpackV (⟨IntKind.wrap .i64 ((IntKind.wrap .i64 (bs.getD 0 0)) - 16), bs.getD 1 0, false, 0, (plG bs 2), zp⟩ : Om)) (some ⟨sb1, so1, none⟩) 48 c _ bs _ (Rw.lenI hr6) (Rw.slI hr6) hn hA (by omega) (by omega) (by first | exact Nat.le_refl _ | omega) (by first | exact Nat.le_refl _ | omega)) ?_
        rintro _ w34 ⟨rfl, hc14⟩
        replace hS := Step.trans hS hc14
        replace hA := hA.no hc14
        replace ho1 := ho1.no hc14
        replace hbase2 := Nat.le_trans hbase2 (hc14).size
        replace hsl4 := hsl4.no hc14
        replace ho19 := ho19.no hc14
        replace hbase6 := Nat.le_trans hbase6 (hc14).size
        replace hr6 := hr6.no hc14
        refine VL_pure 5 [2, 4, 75] [(2, .pointer (some ⟨b1, 0, none⟩)), (4, .pointer (some ⟨b2, 0, none⟩)), (75, .bool (!((rpackV (⟨IntKind.wrap .i64 ((IntKind.wrap .i64 (bs.getD 0 0)) - 16), bs.getD 1 0, false, 0, (plG bs 2), zp⟩ : Om)) == bs)))] (by kernel_rfl) rfl ?_
        refine VL_end (by kernel_rfl) ?_
        refine VQ_next ?_
        refine VC_cond (!((rpackV (⟨IntKind.wrap .i64 ((IntKind.wrap .i64 (bs.getD 0 0)) - 16), bs.getD 1 0, false, 0, (plG bs 2), zp⟩ : Om)) == bs)) (by kernel_rfl) (fun h10 => ?_) (fun h10 => ?_)
        · try simp only [Bool.and_eq_true, Bool.or_eq_true, decide_eq_true_eq, Bool.not_eq_true', decide_eq_false_iff_not, Bool.and_eq_false_iff, Bool.or_eq_false_iff, beq_iff_eq, bne_iff_ne, beq_eq_false_iff_ne, bne_eq_false_iff_eq, Bool.not_eq_eq_eq_not, Bool.not_true, Bool.not_false] at h10
          refine VC_seq ?_
          refine VC_region ?_
          refine VL_pure 1 [2, 76] [(2, .pointer (some ⟨b1, 0, none⟩)), (76, .agg #[.int .i64 0, .int .u8 0, .bool false, .int .u32 0, .int .u8 0, .int .u8 0, .int .u8 0, .int .u8 0, .int .u8 0, .int .u8 0, .int .u8 0, .int .u8 0, .int .u8 0, .int .u8 0, .int .u8 0, .int .u8 0, .int .u8 0, .int .u8 0, .int .u8 0, .int .u8 0, .int .u8 0, .int .u8 0, .int .u8 0, .int .u8 0, .int .u8 0, .int .u8 0, .int .u8 0, .int .u8 0, .int .u8 0, .int .u8 0, .int .u8 0, .int .u8 0, .int .u8 0, .int .u8 0, .int .u8 0, .int .u8 0])] (by kernel_rfl) rfl ?_
          refine VL_store (b := b1) (o := 0) (vs := [.int .i64 0, .int .u8 0, .bool false, .int .u32 0, .int .u8 0, .int .u8 0, .int .u8 0, .int .u8 0, .int .u8 0, .int .u8 0, .int .u8 0, .int .u8 0, .int .u8 0, .int .u8 0, .int .u8 0, .int .u8 0, .int .u8 0, .int .u8 0, .int .u8 0, .int .u8 0, .int .u8 0, .int .u8 0, .int .u8 0, .int .u8 0, .int .u8 0, .int .u8 0, .int .u8 0, .int .u8 0, .int .u8 0, .int .u8 0, .int .u8 0, .int .u8 0, .int .u8 0, .int .u8 0, .int .u8 0, .int .u8 0]) (by kernel_rfl) (by kernel_rfl) ho1 (Nat.le_of_ble_eq_true (by kernel_rfl)) ?_
          intro w35 hw18
          replace hS := Step.transNew hS hw18.step (fun _ _ _ => by omega)
          replace hA := hA.keepB hw18.step (show ¬ sb1 = b1 by omega)
          replace hbase2 := Nat.le_trans hbase2 (hw18.step).size
          replace hsl4 := hsl4.keepB hw18.step (show ¬ sb1 = b1 by omega)
          replace ho19 := ho19.step hw18.step (show ¬ b2 = b1 by omega)
          replace hbase6 := Nat.le_trans hbase6 (hw18.step).size
          have ho20 : Own w35 b1 #[.int .i64 0, .int .u8 0, .bool false, .int .u32 0, .int .u8 0, .int .u8 0, .int .u8 0, .int .u8 0, .int .u8 0, .int .u8 0, .int .u8 0, .int .u8 0, .int .u8 0, .int .u8 0, .int .u8 0, .int .u8 0, .int .u8 0, .int .u8 0, .int .u8 0, .int .u8 0, .int .u8 0, .int .u8 0, .int .u8 0, .int .u8 0, .int .u8 0, .int .u8 0, .int .u8 0, .int .u8 0, .int .u8 0, .int .u8 0, .int .u8 0, .int .u8 0, .int .u8 0, .int .u8 0, .int .u8 0, .int .u8 0] 25 := Own.cast hw18.own (by kernel_rfl)
          have hzhw18 := hw18.same
          refine VL_pure 3 [2, 3] [(2, .pointer (some ⟨b1, 0, none⟩)), (3, .int .i64 5)] (by kernel_rfl) rfl ?_
          refine VL_end (by kernel_rfl) ?_
          refine VQ_next ?_
          refine VC_ret ?_
          refine VQ_then_ret ?_
          refine VQ_retC1T1 (T := 25) (.agg #[.int .i64 0, .int .u8 0, .bool false, .int .u32 0, .int .u8 0, .int .u8 0, .int .u8 0, .int .u8 0, .int .u8 0, .int .u8 0, .int .u8 0, .int .u8 0, .int .u8 0, .int .u8 0, .int .u8 0, .int .u8 0, .int .u8 0, .int .u8 0, .int .u8 0, .int .u8 0, .int .u8 0, .int .u8 0, .int .u8 0, .int .u8 0, .int .u8 0, .int .u8 0, .int .u8 0, .int .u8 0, .int .u8 0, .int .u8 0, .int .u8 0, .int .u8 0, .int .u8 0, .int .u8 0, .int .u8 0, .int .u8 0]) (.int .i64 5) (.inr rfl) rfl rfl rfl (Loads.ownL ho20 (n := 36) (by kernel_rfl) (by kernel_rfl) (by kernel_rfl)) ?_
          obtain ⟨e1, e2⟩ := runp_5 (bs := bs) (runpO_01 (by simp only [kOf]; omega)) ‹_› (by unfold kindB; simp only [kOf]; omega) ‹_›
          exact ⟨by rw [e1, e2]; rfl, hS⟩
        · try simp only [Bool.and_eq_true, Bool.or_eq_true, decide_eq_true_eq, Bool.not_eq_true', decide_eq_false_iff_not, Bool.and_eq_false_iff, Bool.or_eq_false_iff, beq_iff_eq, bne_iff_ne, beq_eq_false_iff_ne, bne_eq_false_iff_eq, Bool.not_eq_eq_eq_not, Bool.not_true, Bool.not_false] at h10
          refine VC_skip ?_
          refine VQ_next ?_
          refine VC_seq ?_
          refine VC_region ?_
          refine VL_load (d := 77) (t := 25) (a := ⟨b2, 0, none⟩) (v := .agg #[.int .i64 (IntKind.wrap .i64 ((IntKind.wrap .i64 (bs.getD 0 0)) - 16)), .int .u8 (bs.getD 1 0), .bool false, .int .u32 0, .int .u8 (bs.getD 2 0), .int .u8 (bs.getD 3 0), .int .u8 (bs.getD 4 0), .int .u8 (bs.getD 5 0), .int .u8 (bs.getD 6 0), .int .u8 (bs.getD 7 0), .int .u8 (bs.getD 8 0), .int .u8 (bs.getD 9 0), .int .u8 (bs.getD 10 0), .int .u8 (bs.getD 11 0), .int .u8 (bs.getD 12 0), .int .u8 (bs.getD 13 0), .int .u8 (bs.getD 14 0), .int .u8 (bs.getD 15 0), .int .u8 (bs.getD 16 0), .int .u8 (bs.getD 17 0), .int .u8 0, .int .u8 0, .int .u8 0, .int .u8 0, .int .u8 0, .int .u8 0, .int .u8 0, .int .u8 0, .int .u8 0, .int .u8 0, .int .u8 0, .int .u8 0, .int .u8 0, .int .u8 0, .int .u8 0, .int .u8 0]) (by kernel_rfl) (by kernel_rfl) (Loads.ownL ho19 (n := 36) (by kernel_rfl) (by kernel_rfl) (by kernel_rfl)) ?_
          refine VL_store (b := b1) (o := 0) (vs := [.int .i64 (IntKind.wrap .i64 ((IntKind.wrap .i64 (bs.getD 0 0)) - 16)), .int .u8 (bs.getD 1 0), .bool false, .int .u32 0, .int .u8 (bs.getD 2 0), .int .u8 (bs.getD 3 0), .int .u8 (bs.getD 4 0), .int .u8 (bs.getD 5 0), .int .u8 (bs.getD 6 0), .int .u8 (bs.getD 7 0), .int .u8 (bs.getD 8 0), .int .u8 (bs.getD 9 0), .int .u8 (bs.getD 10 0), .int .u8 (bs.getD 11 0), .int .u8 (bs.getD 12 0), .int .u8 (bs.getD 13 0), .int .u8 (bs.getD 14 0), .int .u8 (bs.getD 15 0), .int .u8 (bs.getD 16 0), .int .u8 (bs.getD 17 0), .int .u8 0, .int .u8 0, .int .u8 0, .int .u8 0, .int .u8 0, .int .u8 0, .int .u8 0, .int .u8 0, .int .u8 0, .int .u8 0, .int .u8 0, .int .u8 0, .int .u8 0, .int .u8 0, .int .u8 0, .int .u8 0]) (by kernel_rfl) (by kernel_rfl) ho1 (Nat.le_of_ble_eq_true (by kernel_rfl)) ?_
          intro w36 hw19
          replace hS := Step.transNew hS hw19.step (fun _ _ _ => by omega)
          replace hA := hA.keepB hw19.step (show ¬ sb1 = b1 by omega)
          replace hbase2 := Nat.le_trans hbase2 (hw19.step).size
          replace hsl4 := hsl4.keepB hw19.step (show ¬ sb1 = b1 by omega)
          replace ho19 := ho19.step hw19.step (show ¬ b2 = b1 by omega)
          replace hbase6 := Nat.le_trans hbase6 (hw19.step).size
          have ho21 : Own w36 b1 #[.int .i64 (IntKind.wrap .i64 ((IntKind.wrap .i64 (bs.getD 0 0)) - 16)), .int .u8 (bs.getD 1 0), .bool false, .int .u32 0, .int .u8 (bs.getD 2 0), .int .u8 (bs.getD 3 0), .int .u8 (bs.getD 4 0), .int .u8 (bs.getD 5 0), .int .u8 (bs.getD 6 0), .int .u8 (bs.getD 7 0), .int .u8 (bs.getD 8 0), .int .u8 (bs.getD 9 0), .int .u8 (bs.getD 10 0), .int .u8 (bs.getD 11 0), .int .u8 (bs.getD 12 0), .int .u8 (bs.getD 13 0), .int .u8 (bs.getD 14 0), .int .u8 (bs.getD 15 0), .int .u8 (bs.getD 16 0), .int .u8 (bs.getD 17 0), .int .u8 0, .int .u8 0, .int .u8 0, .int .u8 0, .int .u8 0, .int .u8 0, .int .u8 0, .int .u8 0, .int .u8 0, .int .u8 0, .int .u8 0, .int .u8 0, .int .u8 0, .int .u8 0, .int .u8 0, .int .u8 0] 25 := Own.cast hw19.own (by kernel_rfl)
          have hzhw19 := hw19.same
          refine VL_pure 3 [2, 3] [(2, .pointer (some ⟨b1, 0, none⟩)), (3, .int .i64 0)] (by kernel_rfl) rfl ?_
          refine VL_end (by kernel_rfl) ?_
          refine VQ_next ?_
          refine VC_ret ?_
          refine VQ_retC1T1 (T := 25) (.agg #[.int .i64 (IntKind.wrap .i64 ((IntKind.wrap .i64 (bs.getD 0 0)) - 16)), .int .u8 (bs.getD 1 0), .bool false, .int .u32 0, .int .u8 (bs.getD 2 0), .int .u8 (bs.getD 3 0), .int .u8 (bs.getD 4 0), .int .u8 (bs.getD 5 0), .int .u8 (bs.getD 6 0), .int .u8 (bs.getD 7 0), .int .u8 (bs.getD 8 0), .int .u8 (bs.getD 9 0), .int .u8 (bs.getD 10 0), .int .u8 (bs.getD 11 0), .int .u8 (bs.getD 12 0), .int .u8 (bs.getD 13 0), .int .u8 (bs.getD 14 0), .int .u8 (bs.getD 15 0), .int .u8 (bs.getD 16 0), .int .u8 (bs.getD 17 0), .int .u8 0, .int .u8 0, .int .u8 0, .int .u8 0, .int .u8 0, .int .u8 0, .int .u8 0, .int .u8 0, .int .u8 0, .int .u8 0, .int .u8 0, .int .u8 0, .int .u8 0, .int .u8 0, .int .u8 0, .int .u8 0]) (.int .i64 0) (.inr rfl) rfl rfl rfl (Loads.ownL ho21 (n := 36) (by kernel_rfl) (by kernel_rfl) (by kernel_rfl)) ?_
          obtain ⟨e1, e2⟩ := runp_0 (bs := bs) (runpO_01 (by simp only [kOf]; omega)) ‹_› (by unfold kindB; simp only [kOf]; omega) ‹_›
          exact ⟨by rw [e1, e2]; rfl, hS⟩
      · refine VC_seq ?_
        refine VC_region ?_
        refine VL_pure 2 [0, 2, 4, 18, 31] [(0, .slice (some ⟨sb1, so1, none⟩) 48 c), (2, .pointer (some ⟨b1, 0, none⟩)), (4, .pointer (some ⟨b2, 0, none⟩)), (18, .int .i64 (IntKind.wrap .i64 ((IntKind.wrap .i64 (bs.getD 0 0)) - 16))), (31, .bool ((IntKind.wrap .i64 ((IntKind.wrap .i64 (bs.getD 0 0)) - 16)) == 4))] (by kernel_rfl) rfl ?_
        refine VL_end (by kernel_rfl) ?_
        refine VQ_next ?_
        refine VC_eq (IntKind.wrap .i64 ((IntKind.wrap .i64 (bs.getD 0 0)) - 16)) 4 (by kernel_rfl) (fun h11 => ?_) (fun h11 => ?_)
        · refine VC_skip ?_
          refine VQ_block_normal ?_
          refine VQ_next ?_
          refine VC_seq ?_
          refine VC_seq ?_
          refine VC_region ?_
          refine VL_load (d := 71) (t := 25) (a := ⟨b2, 0, none⟩) (v := .agg #[.int .i64 (IntKind.wrap .i64 ((IntKind.wrap .i64 (bs.getD 0 0)) - 16)), .int .u8 0, .bool false, .int .u32 0, .int .u8 0, .int .u8 0, .int .u8 0, .int .u8 0, .int .u8 0, .int .u8 0, .int .u8 0, .int .u8 0, .int .u8 0, .int .u8 0, .int .u8 0, .int .u8 0, .int .u8 0, .int .u8 0, .int .u8 0, .int .u8 0, .int .u8 0, .int .u8 0, .int .u8 0, .int .u8 0, .int .u8 0, .int .u8 0, .int .u8 0, .int .u8 0, .int .u8 0, .int .u8 0, .int .u8 0, .int .u8 0, .int .u8 0, .int .u8 0, .int .u8 0, .int .u8 0]) (by kernel_rfl) (by kernel_rfl) (Loads.ownL ho4 (n := 36) (by kernel_rfl) (by kernel_rfl) (by kernel_rfl)) ?_
          have hzs17 := hS.size
          have hzl28 := ho1.lt
          have hzl29 := ho4.lt
          refine VL_call (d := 72) (f := 11) (by kernel_rfl) (by kernel_rfl) (by kernel_rfl) Try.call11 (rpack_any (⟨IntKind.wrap .i64 ((IntKind.wrap .i64 (bs.getD 0 0)) - 16), 0, false, 0, zp, zp⟩ : Om) _) ?_
          rintro _ w37 ⟨A7, c7, rfl, hr7, hc15⟩
          replace hS := Step.trans hS hc15
          replace hA := hA.no hc15
          replace ho1 := ho1.no hc15
          replace hbase2 := Nat.le_trans hbase2 (hc15).size
          replace ho4 := ho4.no hc15
          obtain ⟨base7, hbase7E⟩ : ∃ x, x = w6.heap.size := ⟨_, rfl⟩
          rw [← hbase7E] at hr7
          have hbase7 : base7 ≤ w37.heap.size := by rw [hbase7E]; exact hc15.size
          have hrpn := rpackN_le (⟨IntKind.wrap .i64 ((IntKind.wrap .i64 (bs.getD 0 0)) - 16), 0, false, 0, zp, zp⟩ : Om)
          refine VL_pure 3 [2, 4, 72, 73] [(2, .pointer (some ⟨b1, 0, none⟩)), (4, .pointer (some ⟨b2, 0, none⟩)), (72, .slice A7 (rpackN (⟨IntKind.wrap .i64 ((IntKind.wrap .i64 (bs.getD 0 0)) - 16), 0, false, 0, zp, zp⟩ : Om)) c7), (73, .slice (some ⟨sb1, so1, none⟩) 48 c)] (by kernel_rfl) rfl ?_
          have hzs18 := hS.size
          have hzl30 := ho1.lt
          have hzl31 := ho4.lt
          refine VL_call (d := 74) (f := 15) (args := #[.slice A7 (rpackN (⟨IntKind.wrap .i64 ((IntKind.wrap .i64 (bs.getD 0 0)) - 16), 0, false, 0, zp, zp⟩ : Om)) c7, .slice (some ⟨sb1, so1, none⟩) 48 c]) (by kernel_rfl) (by kernel_rfl) (by kernel_rfl) Try.call15 (same_any A7 (rpackN (⟨IntKind.wrap .i64 ((IntKind.wrap .i64 (bs.getD 0 0)) - 16), 0, false, 0, zp, zp⟩ : Om)) c7 _ (rpackV (⟨IntKind.wrap .i64 ((IntKind.wrap .i64 (bs.getD 0 0)) - 16), 0, false, 0, zp, zp⟩ : Om)) (some ⟨sb1, so1, none⟩) 48 c _ bs _ (Rw.lenI hr7) (Rw.slI hr7) hn hA (by omega) (by omega) (by first | exact Nat.le_refl _ | omega) (by first | exact Nat.le_refl _ | omega)) ?_
          rintro _ w38 ⟨rfl, hc16⟩
          replace hS := Step.trans hS hc16
          replace hA := hA.no hc16
          replace ho1 := ho1.no hc16
          replace hbase2 := Nat.le_trans hbase2 (hc16).size
          replace ho4 := ho4.no hc16
          replace hbase7 := Nat.le_trans hbase7 (hc16).size
          replace hr7 := hr7.no hc16
          refine VL_pure 5 [2, 4, 75] [(2, .pointer (some ⟨b1, 0, none⟩)), (4, .pointer (some ⟨b2, 0, none⟩)), (75, .bool (!((rpackV (⟨IntKind.wrap .i64 ((IntKind.wrap .i64 (bs.getD 0 0)) - 16), 0, false, 0, zp, zp⟩ : Om)) == bs)))] (by kernel_rfl) rfl ?_
          refine VL_end (by kernel_rfl) ?_
          refine VQ_next ?_
          refine VC_cond (!((rpackV (⟨IntKind.wrap .i64 ((IntKind.wrap .i64 (bs.getD 0 0)) - 16), 0, false, 0, zp, zp⟩ : Om)) == bs)) (by kernel_rfl) (fun h12 => ?_) (fun h12 => ?_)
          · try simp only [Bool.and_eq_true, Bool.or_eq_true, decide_eq_true_eq, Bool.not_eq_true', decide_eq_false_iff_not, Bool.and_eq_false_iff, Bool.or_eq_false_iff, beq_iff_eq, bne_iff_ne, beq_eq_false_iff_ne, bne_eq_false_iff_eq, Bool.not_eq_eq_eq_not, Bool.not_true, Bool.not_false] at h12
            refine VC_seq ?_
            refine VC_region ?_
            refine VL_pure 1 [2, 76] [(2, .pointer (some ⟨b1, 0, none⟩)), (76, .agg #[.int .i64 0, .int .u8 0, .bool false, .int .u32 0, .int .u8 0, .int .u8 0, .int .u8 0, .int .u8 0, .int .u8 0, .int .u8 0, .int .u8 0, .int .u8 0, .int .u8 0, .int .u8 0, .int .u8 0, .int .u8 0, .int .u8 0, .int .u8 0, .int .u8 0, .int .u8 0, .int .u8 0, .int .u8 0, .int .u8 0, .int .u8 0, .int .u8 0, .int .u8 0, .int .u8 0, .int .u8 0, .int .u8 0, .int .u8 0, .int .u8 0, .int .u8 0, .int .u8 0, .int .u8 0, .int .u8 0, .int .u8 0])] (by kernel_rfl) rfl ?_
            refine VL_store (b := b1) (o := 0) (vs := [.int .i64 0, .int .u8 0, .bool false, .int .u32 0, .int .u8 0, .int .u8 0, .int .u8 0, .int .u8 0, .int .u8 0, .int .u8 0, .int .u8 0, .int .u8 0, .int .u8 0, .int .u8 0, .int .u8 0, .int .u8 0, .int .u8 0, .int .u8 0, .int .u8 0, .int .u8 0, .int .u8 0, .int .u8 0, .int .u8 0, .int .u8 0, .int .u8 0, .int .u8 0, .int .u8 0, .int .u8 0, .int .u8 0, .int .u8 0, .int .u8 0, .int .u8 0, .int .u8 0, .int .u8 0, .int .u8 0, .int .u8 0]) (by kernel_rfl) (by kernel_rfl) ho1 (Nat.le_of_ble_eq_true (by kernel_rfl)) ?_
            intro w39 hw20
            replace hS := Step.transNew hS hw20.step (fun _ _ _ => by omega)
            replace hA := hA.keepB hw20.step (show ¬ sb1 = b1 by omega)
            replace hbase2 := Nat.le_trans hbase2 (hw20.step).size
            replace ho4 := ho4.step hw20.step (show ¬ b2 = b1 by omega)
            replace hbase7 := Nat.le_trans hbase7 (hw20.step).size
            have ho22 : Own w39 b1 #[.int .i64 0, .int .u8 0, .bool false, .int .u32 0, .int .u8 0, .int .u8 0, .int .u8 0, .int .u8 0, .int .u8 0, .int .u8 0, .int .u8 0, .int .u8 0, .int .u8 0, .int .u8 0, .int .u8 0, .int .u8 0, .int .u8 0, .int .u8 0, .int .u8 0, .int .u8 0, .int .u8 0, .int .u8 0, .int .u8 0, .int .u8 0, .int .u8 0, .int .u8 0, .int .u8 0, .int .u8 0, .int .u8 0, .int .u8 0, .int .u8 0, .int .u8 0, .int .u8 0, .int .u8 0, .int .u8 0, .int .u8 0] 25 := Own.cast hw20.own (by kernel_rfl)
            have hzhw20 := hw20.same
            refine VL_pure 3 [2, 3] [(2, .pointer (some ⟨b1, 0, none⟩)), (3, .int .i64 5)] (by kernel_rfl) rfl ?_
            refine VL_end (by kernel_rfl) ?_
            refine VQ_next ?_
            refine VC_ret ?_
            refine VQ_then_ret ?_
            refine VQ_retC1T1 (T := 25) (.agg #[.int .i64 0, .int .u8 0, .bool false, .int .u32 0, .int .u8 0, .int .u8 0, .int .u8 0, .int .u8 0, .int .u8 0, .int .u8 0, .int .u8 0, .int .u8 0, .int .u8 0, .int .u8 0, .int .u8 0, .int .u8 0, .int .u8 0, .int .u8 0, .int .u8 0, .int .u8 0, .int .u8 0, .int .u8 0, .int .u8 0, .int .u8 0, .int .u8 0, .int .u8 0, .int .u8 0, .int .u8 0, .int .u8 0, .int .u8 0, .int .u8 0, .int .u8 0, .int .u8 0, .int .u8 0, .int .u8 0, .int .u8 0]) (.int .i64 5) (.inr rfl) rfl rfl rfl (Loads.ownL ho22 (n := 36) (by kernel_rfl) (by kernel_rfl) (by kernel_rfl)) ?_
            obtain ⟨e1, e2⟩ := runp_5 (bs := bs) (runpO_4 (by simp only [kOf]; omega)) ‹_› (by unfold kindB; simp only [kOf]; omega) ‹_›
            exact ⟨by rw [e1, e2]; rfl, hS⟩
          · try simp only [Bool.and_eq_true, Bool.or_eq_true, decide_eq_true_eq, Bool.not_eq_true', decide_eq_false_iff_not, Bool.and_eq_false_iff, Bool.or_eq_false_iff, beq_iff_eq, bne_iff_ne, beq_eq_false_iff_ne, bne_eq_false_iff_eq, Bool.not_eq_eq_eq_not, Bool.not_true, Bool.not_false] at h12
            refine VC_skip ?_
            refine VQ_next ?_
            refine VC_seq ?_
            refine VC_region ?_
            refine VL_load (d := 77) (t := 25) (a := ⟨b2, 0, none⟩) (v := .agg #[.int .i64 (IntKind.wrap .i64 ((IntKind.wrap .i64 (bs.getD 0 0)) - 16)), .int .u8 0, .bool false, .int .u32 0, .int .u8 0, .int .u8 0, .int .u8 0, .int .u8 0, .int .u8 0, .int .u8 0, .int .u8 0, .int .u8 0, .int .u8 0, .int .u8 0, .int .u8 0, .int .u8 0, .int .u8 0, .int .u8 0, .int .u8 0, .int .u8 0, .int .u8 0, .int .u8 0, .int .u8 0, .int .u8 0, .int .u8 0, .int .u8 0, .int .u8 0, .int .u8 0, .int .u8 0, .int .u8 0, .int .u8 0, .int .u8 0, .int .u8 0, .int .u8 0, .int .u8 0, .int .u8 0]) (by kernel_rfl) (by kernel_rfl) (Loads.ownL ho4 (n := 36) (by kernel_rfl) (by kernel_rfl) (by kernel_rfl)) ?_
            refine VL_store (b := b1) (o := 0) (vs := [.int .i64 (IntKind.wrap .i64 ((IntKind.wrap .i64 (bs.getD 0 0)) - 16)), .int .u8 0, .bool false, .int .u32 0, .int .u8 0, .int .u8 0, .int .u8 0, .int .u8 0, .int .u8 0, .int .u8 0, .int .u8 0, .int .u8 0, .int .u8 0, .int .u8 0, .int .u8 0, .int .u8 0, .int .u8 0, .int .u8 0, .int .u8 0, .int .u8 0, .int .u8 0, .int .u8 0, .int .u8 0, .int .u8 0, .int .u8 0, .int .u8 0, .int .u8 0, .int .u8 0, .int .u8 0, .int .u8 0, .int .u8 0, .int .u8 0, .int .u8 0, .int .u8 0, .int .u8 0, .int .u8 0]) (by kernel_rfl) (by kernel_rfl) ho1 (Nat.le_of_ble_eq_true (by kernel_rfl)) ?_
            intro w40 hw21
            replace hS := Step.transNew hS hw21.step (fun _ _ _ => by omega)
            replace hA := hA.keepB hw21.step (show ¬ sb1 = b1 by omega)
            replace hbase2 := Nat.le_trans hbase2 (hw21.step).size
            replace ho4 := ho4.step hw21.step (show ¬ b2 = b1 by omega)
            replace hbase7 := Nat.le_trans hbase7 (hw21.step).size
            have ho23 : Own w40 b1 #[.int .i64 (IntKind.wrap .i64 ((IntKind.wrap .i64 (bs.getD 0 0)) - 16)), .int .u8 0, .bool false, .int .u32 0, .int .u8 0, .int .u8 0, .int .u8 0, .int .u8 0, .int .u8 0, .int .u8 0, .int .u8 0, .int .u8 0, .int .u8 0, .int .u8 0, .int .u8 0, .int .u8 0, .int .u8 0, .int .u8 0, .int .u8 0, .int .u8 0, .int .u8 0, .int .u8 0, .int .u8 0, .int .u8 0, .int .u8 0, .int .u8 0, .int .u8 0, .int .u8 0, .int .u8 0, .int .u8 0, .int .u8 0, .int .u8 0, .int .u8 0, .int .u8 0, .int .u8 0, .int .u8 0] 25 := Own.cast hw21.own (by kernel_rfl)
            have hzhw21 := hw21.same
            refine VL_pure 3 [2, 3] [(2, .pointer (some ⟨b1, 0, none⟩)), (3, .int .i64 0)] (by kernel_rfl) rfl ?_
            refine VL_end (by kernel_rfl) ?_
            refine VQ_next ?_
            refine VC_ret ?_
            refine VQ_retC1T1 (T := 25) (.agg #[.int .i64 (IntKind.wrap .i64 ((IntKind.wrap .i64 (bs.getD 0 0)) - 16)), .int .u8 0, .bool false, .int .u32 0, .int .u8 0, .int .u8 0, .int .u8 0, .int .u8 0, .int .u8 0, .int .u8 0, .int .u8 0, .int .u8 0, .int .u8 0, .int .u8 0, .int .u8 0, .int .u8 0, .int .u8 0, .int .u8 0, .int .u8 0, .int .u8 0, .int .u8 0, .int .u8 0, .int .u8 0, .int .u8 0, .int .u8 0, .int .u8 0, .int .u8 0, .int .u8 0, .int .u8 0, .int .u8 0, .int .u8 0, .int .u8 0, .int .u8 0, .int .u8 0, .int .u8 0, .int .u8 0]) (.int .i64 0) (.inr rfl) rfl rfl rfl (Loads.ownL ho23 (n := 36) (by kernel_rfl) (by kernel_rfl) (by kernel_rfl)) ?_
            obtain ⟨e1, e2⟩ := runp_0 (bs := bs) (runpO_4 (by simp only [kOf]; omega)) ‹_› (by unfold kindB; simp only [kOf]; omega) ‹_›
            exact ⟨by rw [e1, e2]; rfl, hS⟩
        · refine VC_seq ?_
          refine VC_region ?_
          refine VL_pure 2 [0, 2, 4, 33] [(0, .slice (some ⟨sb1, so1, none⟩) 48 c), (2, .pointer (some ⟨b1, 0, none⟩)), (4, .pointer (some ⟨b2, 0, none⟩)), (33, .bool ((IntKind.wrap .i64 ((IntKind.wrap .i64 (bs.getD 0 0)) - 16)) == 8))] (by kernel_rfl) rfl ?_
          refine VL_end (by kernel_rfl) ?_
          refine VQ_next ?_
          refine VC_eq (IntKind.wrap .i64 ((IntKind.wrap .i64 (bs.getD 0 0)) - 16)) 8 (by kernel_rfl) (fun h13 => ?_) (fun h13 => ?_)
          · refine VC_seq ?_
            refine VC_region ?_
            refine VL_pure 1 [0, 2, 4, 35] [(0, .slice (some ⟨sb1, so1, none⟩) 48 c), (2, .pointer (some ⟨b1, 0, none⟩)), (4, .pointer (some ⟨b2, 0, none⟩)), (35, .slice (some ⟨sb1, so1, none⟩) 48 c)] (by kernel_rfl) rfl ?_
            refine VL_index (d := 36) (b := sb1) (o := so1) (len := 48) (sz := 1) (m := 1) (by kernel_rfl) (by kernel_rfl) 1 (by rfl) (by omega) (so1 + 1) (by omega) ?_
            refine VL_load (d := 37) (t := 5) (a := ⟨sb1, so1 + 1, none⟩) (v := .int .u8 (bs.getD 1 0)) (by kernel_rfl) (by kernel_rfl) (Sl.ldI hA (by kernel_rfl) 1 (by (try simp only [List.length_set, List.length_append, List.length_map, List.length_replicate, List.length_cons, List.length_nil, List.length_take, List.length_drop, List.length_range]) <;> omega)) ?_
            refine VL_pure 5 [0, 2, 4, 38, 39] [(0, .slice (some ⟨sb1, so1, none⟩) 48 c), (2, .pointer (some ⟨b1, 0, none⟩)), (4, .pointer (some ⟨b2, 0, none⟩)), (38, .bool ((bs.getD 1 0) == 1)), (39, .pointer (some ⟨b2, 2, none⟩))] (by kernel_rfl) rfl ?_
            refine VL_store (b := b2) (o := 2) (vs := [.bool ((bs.getD 1 0) == 1)]) (by kernel_rfl) (by kernel_rfl) ho4 (Nat.le_of_ble_eq_true (by kernel_rfl)) ?_
            intro w41 hw22
            replace hS := Step.transNew hS hw22.step (fun _ _ _ => by omega)
            replace hA := hA.keepB hw22.step (show ¬ sb1 = b2 by omega)
            replace ho1 := ho1.step hw22.step (show ¬ b1 = b2 by omega)
            replace hbase2 := Nat.le_trans hbase2 (hw22.step).size
            have ho24 : Own w41 b2 #[.int .i64 (IntKind.wrap .i64 ((IntKind.wrap .i64 (bs.getD 0 0)) - 16)), .int .u8 0, .bool ((bs.getD 1 0) == 1), .int .u32 0, .int .u8 0, .int .u8 0, .int .u8 0, .int .u8 0, .int .u8 0, .int .u8 0, .int .u8 0, .int .u8 0, .int .u8 0, .int .u8 0, .int .u8 0, .int .u8 0, .int .u8 0, .int .u8 0, .int .u8 0, .int .u8 0, .int .u8 0, .int .u8 0, .int .u8 0, .int .u8 0, .int .u8 0, .int .u8 0, .int .u8 0, .int .u8 0, .int .u8 0, .int .u8 0, .int .u8 0, .int .u8 0, .int .u8 0, .int .u8 0, .int .u8 0, .int .u8 0] 25 := Own.cast hw22.own (by kernel_rfl)
            have hzhw22 := hw22.same
            refine VL_end (by kernel_rfl) ?_
            refine VQ_next ?_
            refine VC_seq ?_
            refine VC_det [[], [0], [0, 1], [0, 1, 2], [0, 1, 2, 3], [], [5], [5, 6], [5, 6, 7], [5, 6, 7, 8], [0, 1, 2, 3, 4, 5, 6, 7, 8, 9], [], [11], [11, 12], [11, 12, 13], [11, 12, 13, 14], [0, 1, 2, 3, 4, 5, 6, 7, 8, 9, 10, 11, 12, 13, 14, 15], [], [17], [17, 18], [17, 18, 19], [0, 1, 2, 3, 4, 5, 6, 7, 8, 9, 10, 11, 12, 13, 14, 15, 16, 17, 18, 19, 20], [0, 1, 2, 3, 4, 5, 6, 7, 8, 9, 10, 11, 12, 13, 14, 15, 16, 17, 18, 19, 20, 21], [0, 1, 2, 3, 4, 5, 6, 7, 8, 9, 10, 11, 12, 13, 14, 15, 16, 17, 18, 19, 20, 21, 22]] 21 [.slice (some ⟨sb1, so1, none⟩) 48 c, .pointer (some ⟨sb1, so1 + 2, none⟩), .int .u8 (bs.getD 2 0), .int .u32 (IntKind.wrap .u32 (bs.getD 2 0)), .int .u32 (IntKind.wrap .u32 ((IntKind.wrap .u32 (bs.getD 2 0)) * 16777216)), .slice (some ⟨sb1, so1, none⟩) 48 c, .pointer (some ⟨sb1, so1 + 3, none⟩), .int .u8 (bs.getD 3 0), .int .u32 (IntKind.wrap .u32 (bs.getD 3 0)), .int .u32 (IntKind.wrap .u32 ((IntKind.wrap .u32 (bs.getD 3 0)) * 65536)), .int .u32 (IntKind.wrap .u32 ((IntKind.wrap .u32 ((IntKind.wrap .u32 (bs.getD 2 0)) * 16777216)) + (IntKind.wrap .u32 ((IntKind.wrap .u32 (bs.getD 3 0)) * 65536)))), .slice (some ⟨sb1, so1, none⟩) 48 c, .pointer (some ⟨sb1, so1 + 4, none⟩), .int .u8 (bs.getD 4 0), .int .u32 (IntKind.wrap .u32 (bs.getD 4 0)), .int .u32 (IntKind.wrap .u32 ((IntKind.wrap .u32 (bs.getD 4 0)) * 256)), .int .u32 (IntKind.wrap .u32 ((IntKind.wrap .u32 ((IntKind.wrap .u32 ((IntKind.wrap .u32 (bs.getD 2 0)) * 16777216)) + (IntKind.wrap .u32 ((IntKind.wrap .u32 (bs.getD 3 0)) * 65536)))) + (IntKind.wrap .u32 ((IntKind.wrap .u32 (bs.getD 4 0)) * 256)))), .slice (some ⟨sb1, so1, none⟩) 48 c, .pointer (some ⟨sb1, so1 + 5, none⟩), .int .u8 (bs.getD 5 0), .int .u32 (IntKind.wrap .u32 (bs.getD 5 0))] [0, 3, 4, 5, 8, 9, 10, 11, 14, 15, 16, 17, 20] [1, 2, 6, 7, 12, 13, 18, 19] (by kernel_rfl) (by kernel_rfl) (by kernel_rfl) (by kernel_rfl) ?_ ?_
            · intro w42 hs2
              replace hS := Step.trans hS hs2
              replace hA := hA.no hs2
              replace ho1 := ho1.no hs2
              replace hbase2 := Nat.le_trans hbase2 (hs2).size
              replace ho24 := ho24.no hs2
              exact ⟨Det1_index (d := 41) (b := sb1) (o := so1) (len := 48) (sz := 1) (m := 2) (by kernel_rfl) (by kernel_rfl) 2 (by rfl) (by omega) (so1 + 2) (by omega), Det1_load (d := 42) (t := 5) (a := ⟨sb1, so1 + 2, none⟩) (by kernel_rfl) (by kernel_rfl) (Sl.ldI hA (by kernel_rfl) 2 (by (try simp only [List.length_set, List.length_append, List.length_map, List.length_replicate, List.length_cons, List.length_nil, List.length_take, List.length_drop, List.length_range]) <;> omega)), Det1_index (d := 46) (b := sb1) (o := so1) (len := 48) (sz := 1) (m := 3) (by kernel_rfl) (by kernel_rfl) 3 (by rfl) (by omega) (so1 + 3) (by omega), Det1_load (d := 47) (t := 5) (a := ⟨sb1, so1 + 3, none⟩) (by kernel_rfl) (by kernel_rfl) (Sl.ldI hA (by kernel_rfl) 3 (by (try simp only [List.length_set, List.length_append, List.length_map, List.length_replicate, List.length_cons, List.length_nil, List.length_take, List.length_drop, List.length_range]) <;> omega)), Det1_index (d := 52) (b := sb1) (o := so1) (len := 48) (sz := 1) (m := 4) (by kernel_rfl) (by kernel_rfl) 4 (by rfl) (by omega) (so1 + 4) (by omega), Det1_load (d := 53) (t := 5) (a := ⟨sb1, so1 + 4, none⟩) (by kernel_rfl) (by kernel_rfl) (Sl.ldI hA (by kernel_rfl) 4 (by (try simp only [List.length_set, List.length_append, List.length_map, List.length_replicate, List.length_cons, List.length_nil, List.length_take, List.length_drop, List.length_range]) <;> omega)), Det1_index (d := 58) (b := sb1) (o := so1) (len := 48) (sz := 1) (m := 5) (by kernel_rfl) (by kernel_rfl) 5 (by rfl) (by omega) (so1 + 5) (by omega), Det1_load (d := 59) (t := 5) (a := ⟨sb1, so1 + 5, none⟩) (by kernel_rfl) (by kernel_rfl) (Sl.ldI hA (by kernel_rfl) 5 (by (try simp only [List.length_set, List.length_append, List.length_map, List.length_replicate, List.length_cons, List.length_nil, List.length_take, List.length_drop, List.length_range]) <;> omega)), trivial⟩
            intro w42 hs2
            replace hS := Step.trans hS hs2
            replace hA := hA.no hs2
            replace ho1 := ho1.no hs2
            replace hbase2 := Nat.le_trans hbase2 (hs2).size
            replace ho24 := ho24.no hs2
            refine VL_keep [0, 2, 4, 56, 60] [(0, .slice (some ⟨sb1, so1, none⟩) 48 c), (2, .pointer (some ⟨b1, 0, none⟩)), (4, .pointer (some ⟨b2, 0, none⟩)), (56, .int .u32 (IntKind.wrap .u32 ((IntKind.wrap .u32 ((IntKind.wrap .u32 ((IntKind.wrap .u32 (bs.getD 2 0)) * 16777216)) + (IntKind.wrap .u32 ((IntKind.wrap .u32 (bs.getD 3 0)) * 65536)))) + (IntKind.wrap .u32 ((IntKind.wrap .u32 (bs.getD 4 0)) * 256))))), (60, .int .u32 (IntKind.wrap .u32 (bs.getD 5 0)))] (by kernel_rfl) ?_
            refine VL_pure 23 [0, 2, 4, 61, 62] [(0, .slice (some ⟨sb1, so1, none⟩) 48 c), (2, .pointer (some ⟨b1, 0, none⟩)), (4, .pointer (some ⟨b2, 0, none⟩)), (61, .int .u32 (IntKind.wrap .u32 ((IntKind.wrap .u32 ((IntKind.wrap .u32 ((IntKind.wrap .u32 ((IntKind.wrap .u32 (bs.getD 2 0)) * 16777216)) + (IntKind.wrap .u32 ((IntKind.wrap .u32 (bs.getD 3 0)) * 65536)))) + (IntKind.wrap .u32 ((IntKind.wrap .u32 (bs.getD 4 0)) * 256)))) + (IntKind.wrap .u32 (bs.getD 5 0))))), (62, .pointer (some ⟨b2, 3, none⟩))] (by kernel_rfl) rfl ?_
            refine VL_store (b := b2) (o := 3) (vs := [.int .u32 (IntKind.wrap .u32 ((IntKind.wrap .u32 ((IntKind.wrap .u32 ((IntKind.wrap .u32 ((IntKind.wrap .u32 (bs.getD 2 0)) * 16777216)) + (IntKind.wrap .u32 ((IntKind.wrap .u32 (bs.getD 3 0)) * 65536)))) + (IntKind.wrap .u32 ((IntKind.wrap .u32 (bs.getD 4 0)) * 256)))) + (IntKind.wrap .u32 (bs.getD 5 0))))]) (by kernel_rfl) (by kernel_rfl) ho24 (Nat.le_of_ble_eq_true (by kernel_rfl)) ?_
            intro w43 hw23
            replace hS := Step.transNew hS hw23.step (fun _ _ _ => by omega)
            replace hA := hA.keepB hw23.step (show ¬ sb1 = b2 by omega)
            replace ho1 := ho1.step hw23.step (show ¬ b1 = b2 by omega)
            replace hbase2 := Nat.le_trans hbase2 (hw23.step).size
            have ho25 : Own w43 b2 #[.int .i64 (IntKind.wrap .i64 ((IntKind.wrap .i64 (bs.getD 0 0)) - 16)), .int .u8 0, .bool ((bs.getD 1 0) == 1), .int .u32 (IntKind.wrap .u32 ((IntKind.wrap .u32 ((IntKind.wrap .u32 ((IntKind.wrap .u32 ((IntKind.wrap .u32 (bs.getD 2 0)) * 16777216)) + (IntKind.wrap .u32 ((IntKind.wrap .u32 (bs.getD 3 0)) * 65536)))) + (IntKind.wrap .u32 ((IntKind.wrap .u32 (bs.getD 4 0)) * 256)))) + (IntKind.wrap .u32 (bs.getD 5 0)))), .int .u8 0, .int .u8 0, .int .u8 0, .int .u8 0, .int .u8 0, .int .u8 0, .int .u8 0, .int .u8 0, .int .u8 0, .int .u8 0, .int .u8 0, .int .u8 0, .int .u8 0, .int .u8 0, .int .u8 0, .int .u8 0, .int .u8 0, .int .u8 0, .int .u8 0, .int .u8 0, .int .u8 0, .int .u8 0, .int .u8 0, .int .u8 0, .int .u8 0, .int .u8 0, .int .u8 0, .int .u8 0, .int .u8 0, .int .u8 0, .int .u8 0, .int .u8 0] 25 := Own.cast hw23.own (by kernel_rfl)
            have hzhw23 := hw23.same
            refine VL_end (by kernel_rfl) ?_
            refine VQ_next ?_
            refine VC_seq ?_
            refine VC_region ?_
            refine VL_pure 1 [0, 2, 4, 63] [(0, .slice (some ⟨sb1, so1, none⟩) 48 c), (2, .pointer (some ⟨b1, 0, none⟩)), (4, .pointer (some ⟨b2, 0, none⟩)), (63, .slice (some ⟨sb1, so1, none⟩) 48 c)] (by kernel_rfl) rfl ?_
            obtain ⟨so6, hso6⟩ : ∃ x, (if c = 6 then so1 else so1 + 6 * 1) = x := ⟨_, rfl⟩
            refine VL_slice (d := 64) (b := sb1) (o := so1) (sz := 1) (len := 48) (cap := c) (lo := (some 6)) (hi := (some 22)) (mx := none) (by kernel_rfl) (by kernel_rfl) (fun h => by first | exact absurd rfl h | exact (fun h => by cases h)) 6 22 c rfl rfl rfl (by omega) (by omega) (by omega) so6 hso6 16 (by omega) (c - 6) (by omega) ?_
            have hsl5 := Sl.cutI (H := 22) hA hso6 (by omega)
            have hzs19 := hS.size
            have hzl32 := ho1.lt
            have hzl33 := ho25.lt
            refine VL_call (d := 65) (f := 24) (by kernel_rfl) (by kernel_rfl) (by kernel_rfl) Try.call24 (sixteen_sub (some ⟨sb1, so6, none⟩) (c - 6) _ bs 6 _ (by omega) hsl5 (by first | exact Nat.le_refl _ | omega)) ?_
            rintro _ w44 ⟨rfl, hc17⟩
            replace hS := Step.trans hS hc17
            replace hA := hA.no hc17
            replace ho1 := ho1.no hc17
            replace hbase2 := Nat.le_trans hbase2 (hc17).size
            replace ho25 := ho25.no hc17
            replace hsl5 := hsl5.no hc17
            refine VL_pure 4 [0, 2, 4, 65, 66] [(0, .slice (some ⟨sb1, so1, none⟩) 48 c), (2, .pointer (some ⟨b1, 0, none⟩)), (4, .pointer (some ⟨b2, 0, none⟩)), (65, .agg #[.int .u8 (bs.getD 6 0), .int .u8 (bs.getD 7 0), .int .u8 (bs.getD 8 0), .int .u8 (bs.getD 9 0), .int .u8 (bs.getD 10 0), .int .u8 (bs.getD 11 0), .int .u8 (bs.getD 12 0), .int .u8 (bs.getD 13 0), .int .u8 (bs.getD 14 0), .int .u8 (bs.getD 15 0), .int .u8 (bs.getD 16 0), .int .u8 (bs.getD 17 0), .int .u8 (bs.getD 18 0), .int .u8 (bs.getD 19 0), .int .u8 (bs.getD 20 0), .int .u8 (bs.getD 21 0)]), (66, .pointer (some ⟨b2, 4, none⟩))] (by kernel_rfl) rfl ?_
            refine VL_store (b := b2) (o := 4) (vs := [.int .u8 (bs.getD 6 0), .int .u8 (bs.getD 7 0), .int .u8 (bs.getD 8 0), .int .u8 (bs.getD 9 0), .int .u8 (bs.getD 10 0), .int .u8 (bs.getD 11 0), .int .u8 (bs.getD 12 0), .int .u8 (bs.getD 13 0), .int .u8 (bs.getD 14 0), .int .u8 (bs.getD 15 0), .int .u8 (bs.getD 16 0), .int .u8 (bs.getD 17 0), .int .u8 (bs.getD 18 0), .int .u8 (bs.getD 19 0), .int .u8 (bs.getD 20 0), .int .u8 (bs.getD 21 0)]) (by kernel_rfl) (by kernel_rfl) ho25 (Nat.le_of_ble_eq_true (by kernel_rfl)) ?_
            intro w45 hw24
            replace hS := Step.transNew hS hw24.step (fun _ _ _ => by omega)
            replace hA := hA.keepB hw24.step (show ¬ sb1 = b2 by omega)
            replace ho1 := ho1.step hw24.step (show ¬ b1 = b2 by omega)
            replace hbase2 := Nat.le_trans hbase2 (hw24.step).size
            replace hsl5 := hsl5.keepB hw24.step (show ¬ sb1 = b2 by omega)
            have ho26 : Own w45 b2 #[.int .i64 (IntKind.wrap .i64 ((IntKind.wrap .i64 (bs.getD 0 0)) - 16)), .int .u8 0, .bool ((bs.getD 1 0) == 1), .int .u32 (IntKind.wrap .u32 ((IntKind.wrap .u32 ((IntKind.wrap .u32 ((IntKind.wrap .u32 ((IntKind.wrap .u32 (bs.getD 2 0)) * 16777216)) + (IntKind.wrap .u32 ((IntKind.wrap .u32 (bs.getD 3 0)) * 65536)))) + (IntKind.wrap .u32 ((IntKind.wrap .u32 (bs.getD 4 0)) * 256)))) + (IntKind.wrap .u32 (bs.getD 5 0)))), .int .u8 (bs.getD 6 0), .int .u8 (bs.getD 7 0), .int .u8 (bs.getD 8 0), .int .u8 (bs.getD 9 0), .int .u8 (bs.getD 10 0), .int .u8 (bs.getD 11 0), .int .u8 (bs.getD 12 0), .int .u8 (bs.getD 13 0), .int .u8 (bs.getD 14 0), .int .u8 (bs.getD 15 0), .int .u8 (bs.getD 16 0), .int .u8 (bs.getD 17 0), .int .u8 (bs.getD 18 0), .int .u8 (bs.getD 19 0), .int .u8 (bs.getD 20 0), .int .u8 (bs.getD 21 0), .int .u8 0, .int .u8 0, .int .u8 0, .int .u8 0, .int .u8 0, .int .u8 0, .int .u8 0, .int .u8 0, .int .u8 0, .int .u8 0, .int .u8 0, .int .u8 0, .int .u8 0, .int .u8 0, .int .u8 0, .int .u8 0] 25 := Own.cast hw24.own (by kernel_rfl)
            have hzhw24 := hw24.same
            refine VL_end (by kernel_rfl) ?_
            refine VQ_next ?_
            refine VC_region ?_
            refine VL_pure 1 [0, 2, 4, 67] [(0, .slice (some ⟨sb1, so1, none⟩) 48 c), (2, .pointer (some ⟨b1, 0, none⟩)), (4, .pointer (some ⟨b2, 0, none⟩)), (67, .slice (some ⟨sb1, so1, none⟩) 48 c)] (by kernel_rfl) rfl ?_
            obtain ⟨so7, hso7⟩ : ∃ x, (if c = 22 then so1 else so1 + 22 * 1) = x := ⟨_, rfl⟩
            refine VL_slice (d := 68) (b := sb1) (o := so1) (sz := 1) (len := 48) (cap := c) (lo := (some 22)) (hi := (some 38)) (mx := none) (by kernel_rfl) (by kernel_rfl) (fun h => by first | exact absurd rfl h | exact (fun h => by cases h)) 22 38 c rfl rfl rfl (by omega) (by omega) (by omega) so7 hso7 16 (by omega) (c - 22) (by omega) ?_
            have hsl6 := Sl.cutI (H := 38) hA hso7 (by omega)
            have hzs20 := hS.size
            have hzl34 := ho1.lt
            have hzl35 := ho26.lt
            refine VL_call (d := 69) (f := 24) (by kernel_rfl) (by kernel_rfl) (by kernel_rfl) Try.call24 (sixteen_sub (some ⟨sb1, so7, none⟩) (c - 22) _ bs 22 _ (by omega) hsl6 (by first | exact Nat.le_refl _ | omega)) ?_
            rintro _ w46 ⟨rfl, hc18⟩
            replace hS := Step.trans hS hc18
            replace hA := hA.no hc18
            replace ho1 := ho1.no hc18
            replace hbase2 := Nat.le_trans hbase2 (hc18).size
            replace hsl5 := hsl5.no hc18
            replace ho26 := ho26.no hc18
            replace hsl6 := hsl6.no hc18
            refine VL_pure 4 [0, 2, 4, 69, 70] [(0, .slice (some ⟨sb1, so1, none⟩) 48 c), (2, .pointer (some ⟨b1, 0, none⟩)), (4, .pointer (some ⟨b2, 0, none⟩)), (69, .agg #[.int .u8 (bs.getD 22 0), .int .u8 (bs.getD 23 0), .int .u8 (bs.getD 24 0), .int .u8 (bs.getD 25 0), .int .u8 (bs.getD 26 0), .int .u8 (bs.getD 27 0), .int .u8 (bs.getD 28 0), .int .u8 (bs.getD 29 0), .int .u8 (bs.getD 30 0), .int .u8 (bs.getD 31 0), .int .u8 (bs.getD 32 0), .int .u8 (bs.getD 33 0), .int .u8 (bs.getD 34 0), .int .u8 (bs.getD 35 0), .int .u8 (bs.getD 36 0), .int .u8 (bs.getD 37 0)]), (70, .pointer (some ⟨b2, 20, none⟩))] (by kernel_rfl) rfl ?_
            refine VL_store (b := b2) (o := 20) (vs := [.int .u8 (bs.getD 22 0), .int .u8 (bs.getD 23 0), .int .u8 (bs.getD 24 0), .int .u8 (bs.getD 25 0), .int .u8 (bs.getD 26 0), .int .u8 (bs.getD 27 0), .int .u8 (bs.getD 28 0), .int .u8 (bs.getD 29 0), .int .u8 (bs.getD 30 0), .int .u8 (bs.getD 31 0), .int .u8 (bs.getD 32 0), .int .u8 (bs.getD 33 0), .int .u8 (bs.getD 34 0), .int .u8 (bs.getD 35 0), .int .u8 (bs.getD 36 0), .int .u8 (bs.getD 37 0)]) (by kernel_rfl) (by kernel_rfl) ho26 (Nat.le_of_ble_eq_true (by kernel_rfl)) ?_
            intro w47 hw25
            replace hS := Step.transNew hS hw25.step (fun _ _ _ => by omega)
            replace hA := hA.keepB hw25.step (show ¬ sb1 = b2 by omega)
            replace ho1 := ho1.step hw25.step (show ¬ b1 = b2 by omega)
            replace hbase2 := Nat.le_trans hbase2 (hw25.step).size
            replace hsl5 := hsl5.keepB hw25.step (show ¬ sb1 = b2 by omega)
            replace hsl6 := hsl6.keepB hw25.step (show ¬ sb1 = b2 by omega)
            have ho27 : Own w47 b2 #[.int .i64 (IntKind.wrap .i64 ((IntKind.wrap .i64 (bs.getD 0 0)) - 16)), .int .u8 0, .bool ((bs.getD 1 0) == 1), .int .u32 (IntKind.wrap .u32 ((IntKind.wrap .u32 ((IntKind.wrap .u32 ((IntKind.wrap .u32 ((IntKind.wrap .u32 (bs.getD 2 0)) * 16777216)) + (IntKind.wrap .u32 ((IntKind.wrap .u32 (bs.getD 3 0)) * 65536)))) + (IntKind.wrap .u32 ((IntKind.wrap .u32 (bs.getD 4 0)) * 256)))) + (IntKind.wrap .u32 (bs.getD 5 0)))), .int .u8 (bs.getD 6 0), .int .u8 (bs.getD 7 0), .int .u8 (bs.getD 8 0), .int .u8 (bs.getD 9 0), .int .u8 (bs.getD 10 0), .int .u8 (bs.getD 11 0), .int .u8 (bs.getD 12 0), .int .u8 (bs.getD 13 0), .int .u8 (bs.getD 14 0), .int .u8 (bs.getD 15 0), .int .u8 (bs.getD 16 0), .int .u8 (bs.getD 17 0), .int .u8 (bs.getD 18 0), .int .u8 (bs.getD 19 0), .int .u8 (bs.getD 20 0), .int .u8 (bs.getD 21 0), .int .u8 (bs.getD 22 0), .int .u8 (bs.getD 23 0), .int .u8 (bs.getD 24 0), .int .u8 (bs.getD 25 0), .int .u8 (bs.getD 26 0), .int .u8 (bs.getD 27 0), .int .u8 (bs.getD 28 0), .int .u8 (bs.getD 29 0), .int .u8 (bs.getD 30 0), .int .u8 (bs.getD 31 0), .int .u8 (bs.getD 32 0), .int .u8 (bs.getD 33 0), .int .u8 (bs.getD 34 0), .int .u8 (bs.getD 35 0), .int .u8 (bs.getD 36 0), .int .u8 (bs.getD 37 0)] 25 := Own.cast hw25.own (by kernel_rfl)
            have hzhw25 := hw25.same
            refine VL_end (by kernel_rfl) ?_
            refine VQ_block_normal ?_
            refine VQ_next ?_
            refine VC_seq ?_
            refine VC_seq ?_
            refine VC_region ?_
            refine VL_load (d := 71) (t := 25) (a := ⟨b2, 0, none⟩) (v := .agg #[.int .i64 (IntKind.wrap .i64 ((IntKind.wrap .i64 (bs.getD 0 0)) - 16)), .int .u8 0, .bool ((bs.getD 1 0) == 1), .int .u32 (IntKind.wrap .u32 ((IntKind.wrap .u32 ((IntKind.wrap .u32 ((IntKind.wrap .u32 ((IntKind.wrap .u32 (bs.getD 2 0)) * 16777216)) + (IntKind.wrap .u32 ((IntKind.wrap .u32 (bs.getD 3 0)) * 65536)))) + (IntKind.wrap .u32 ((IntKind.wrap .u32 (bs.getD 4 0)) * 256)))) + (IntKind.wrap .u32 (bs.getD 5 0)))), .int .u8 (bs.getD 6 0), .int .u8 (bs.getD 7 0), .int .u8 (bs.getD 8 0), .int .u8 (bs.getD 9 0), .int .u8 (bs.getD 10 0), .int .u8 (bs.getD 11 0), .int .u8 (bs.getD 12 0), .int .u8 (bs.getD 13 0), .int .u8 (bs.getD 14 0), .int .u8 (bs.getD 15 0), .int .u8 (bs.getD 16 0), .int .u8 (bs.getD 17 0), .int .u8 (bs.getD 18 0), .int .u8 (bs.getD 19 0), .int .u8 (bs.getD 20 0), .int .u8 (bs.getD 21 0), .int .u8 (bs.getD 22 0), .int .u8 (bs.getD 23 0), .int .u8 (bs.getD 24 0), .int .u8 (bs.getD 25 0), .int .u8 (bs.getD 26 0), .int .u8 (bs.getD 27 0), .int .u8 (bs.getD 28 0), .int .u8 (bs.getD 29 0), .int .u8 (bs.getD 30 0), .int .u8 (bs.getD 31 0), .int .u8 (bs.getD 32 0), .int .u8 (bs.getD 33 0), .int .u8 (bs.getD 34 0), .int .u8 (bs.getD 35 0), .int .u8 (bs.getD 36 0), .int .u8 (bs.getD 37 0)]) (by kernel_rfl) (by kernel_rfl) (Loads.ownL ho27 (n := 36) (by kernel_rfl) (by kernel_rfl) (by kernel_rfl)) ?_
            have hzs21 := hS.size
            have hzl36 := ho1.lt
            have hzl37 := ho27.lt
            refine VL_call (d := 72) (f := 11) (by kernel_rfl) (by kernel_rfl) (by kernel_rfl) Try.call11 (rpack_any (⟨IntKind.wrap .i64 ((IntKind.wrap .i64 (bs.getD 0 0)) - 16), 0, (bs.getD 1 0) == 1, IntKind.wrap .u32 ((IntKind.wrap .u32 ((IntKind.wrap .u32 ((IntKind.wrap .u32 ((IntKind.wrap .u32 (bs.getD 2 0)) * 16777216)) + (IntKind.wrap .u32 ((IntKind.wrap .u32 (bs.getD 3 0)) * 65536)))) + (IntKind.wrap .u32 ((IntKind.wrap .u32 (bs.getD 4 0)) * 256)))) + (IntKind.wrap .u32 (bs.getD 5 0))), (plG bs 6), (plG bs 22)⟩ : Om) _) ?_
            rintro _ w48 ⟨A8, c8, rfl, hr8, hc19⟩
            replace hS := Step.trans hS hc19
            replace hA := hA.no hc19
            replace ho1 := ho1.no hc19
            replace hbase2 := Nat.le_trans hbase2 (hc19).size
            replace hsl5 := hsl5.no hc19
            replace hsl6 := hsl6.no hc19
            replace ho27 := ho27.no hc19
            obtain ⟨base8, hbase8E⟩ : ∃ x, x = w47.heap.size := ⟨_, rfl⟩
            rw [← hbase8E] at hr8
            have hbase8 : base8 ≤ w48.heap.size := by rw [hbase8E]; exact hc19.size
            have hrpn := rpackN_le (⟨IntKind.wrap .i64 ((IntKind.wrap .i64 (bs.getD 0 0)) - 16), 0, (bs.getD 1 0) == 1, IntKind.wrap .u32 ((IntKind.wrap .u32 ((IntKind.wrap .u32 ((IntKind.wrap .u32 ((IntKind.wrap .u32 (bs.getD 2 0)) * 16777216)) + (IntKind.wrap .u32 ((IntKind.wrap .u32 (bs.getD 3 0)) * 65536)))) + (IntKind.wrap .u32 ((IntKind.wrap .u32 (bs.getD 4 0)) * 256)))) + (IntKind.wrap .u32 (bs.getD 5 0))), (plG bs 6), (plG bs 22)⟩ : Om)
            refine VL_pure 3 [2, 4, 72, 73] [(2, .pointer (some ⟨b1, 0, none⟩)), (4, .pointer (some ⟨b2, 0, none⟩)), (72, .slice A8 (rpackN (⟨IntKind.wrap .i64 ((IntKind.wrap .i64 (bs.getD 0 0)) - 16), 0, (bs.getD 1 0) == 1, IntKind.wrap .u32 ((IntKind.wrap .u32 ((IntKind.wrap .u32 ((IntKind.wrap .u32 ((IntKind.wrap .u32 (bs.getD 2 0)) * 16777216)) + (IntKind.wrap .u32 ((IntKind.wrap .u32 (bs.getD 3 0)) * 65536)))) + (IntKind.wrap .u32 ((IntKind.wrap .u32 (bs.getD 4 0)) * 256)))) + (IntKind.wrap .u32 (bs.getD 5 0))), (plG bs 6), (plG bs 22)⟩ : Om)) c8), (73, .slice (some ⟨sb1, so1, none⟩) 48 c)] (by kernel_rfl) rfl ?_
            have hzs22 := hS.size
            have hzl38 := ho1.lt
            have hzl39 := ho27.lt
            refine VL_call (d := 74) (f := 15) (args := #[.slice A8 (rpackN (⟨IntKind.wrap .i64 ((IntKind.wrap .i64 (bs.getD 0 0)) - 16), 0, (bs.getD 1 0) == 1, IntKind.wrap .u32 ((IntKind.wrap .u32 ((IntKind.wrap .u32 ((IntKind.wrap .u32 ((IntKind.wrap .u32 (bs.getD 2 0)) * 16777216)) + (IntKind.wrap .u32 ((IntKind.wrap .u32 (bs.getD 3 0)) * 65536)))) + (IntKind.wrap .u32 ((IntKind.wrap .u32 (bs.getD 4 0)) * 256)))) + (IntKind.wrap .u32 (bs.getD 5 0))), (plG bs 6), (plG bs 22)⟩ : Om)) c8, .slice (some ⟨sb1, so1, none⟩) 48 c]) (by kernel_rfl) (by kernel_rfl) (by kernel_rfl) Try.call15 (same_any A8 (rpackN (⟨IntKind.wrap .i64 ((IntKind.wrap .i64 (bs.getD 0 0)) - 16), 0, (bs.getD 1 0) == 1, IntKind.wrap .u32 ((IntKind.wrap .u32 ((IntKind.wrap .u32 ((IntKind.wrap .u32 ((IntKind.wrap .u32 (bs.getD 2 0)) * 16777216)) + (IntKind.wrap .u32 ((IntKind.wrap .u32 (bs.getD 3 0)) * 65536)))) + (IntKind.wrap .u32 ((IntKind.wrap .u32 (bs.getD 4 0)) * 256)))) + (IntKind.wrap .u32 (bs.getD 5 0))), (plG bs 6), (plG bs 22)⟩ : Om)) c8 _ (rpackV (⟨IntKind.wrap .i64 ((IntKind.wrap .i64 (bs.getD 0 0)) - 16), 0, (bs.getD 1 0) == 1, IntKind.wrap .u32 ((IntKind.wrap .u32 ((IntKind.wrap .u32 ((IntKind.wrap .u32 ((IntKind.wrap .u32 (bs.getD 2 0)) * 16777216)) + (IntKind.wrap .u32 ((IntKind.wrap .u32 (bs.getD 3 0)) * 65536)))) + (IntKind.wrap .u32 ((IntKind.wrap .u32 (bs.getD 4 0)) * 256)))) + (IntKind.wrap .u32 (bs.getD 5 0))), (plG bs 6), (plG bs 22)⟩ : Om)) (some ⟨sb1, so1, none⟩) 48 c _ bs _ (Rw.lenI hr8) (Rw.slI hr8) hn hA (by omega) (by omega) (by first | exact Nat.le_refl _ | omega) (by first | exact Nat.le_refl _ | omega)) ?_
            rintro _ w49 ⟨rfl, hc20⟩
            replace hS := Step.trans hS hc20
            replace hA := hA.no hc20
            replace ho1 := ho1.no hc20
            replace hbase2 := Nat.le_trans hbase2 (hc20).size
            replace hsl5 := hsl5.no hc20
            replace hsl6 := hsl6.no hc20
            replace ho27 := ho27.no hc20
            replace hbase8 := Nat.le_trans hbase8 (hc20).size
            replace hr8 := hr8.no hc20
            refine VL_pure 5 [2, 4, 75] [(2, .pointer (some ⟨b1, 0, none⟩)), (4, .pointer (some ⟨b2, 0, none⟩)), (75, .bool (!((rpackV (⟨IntKind.wrap .i64 ((IntKind.wrap .i64 (bs.getD 0 0)) - 16), 0, (bs.getD 1 0) == 1, IntKind.wrap .u32 ((IntKind.wrap .u32 ((IntKind.wrap .u32 ((IntKind.wrap .u32 ((IntKind.wrap .u32 (bs.getD 2 0)) * 16777216)) + (IntKind.wrap .u32 ((IntKind.wrap .u32 (bs.getD 3 0)) * 65536)))) + (IntKind.wrap .u32 ((IntKind.wrap .u32 (bs.getD 4 0)) * 256)))) + (IntKind.wrap .u32 (bs.getD 5 0))), (plG bs 6), (plG bs 22)⟩ : Om)) == bs)))] (by kernel_rfl) rfl ?_
            refine VL_end (by kernel_rfl) ?_
            refine VQ_next ?_
            refine VC_cond (!((rpackV (⟨IntKind.wrap .i64 ((IntKind.wrap .i64 (bs.getD 0 0)) - 16), 0, (bs.getD 1 0) == 1, IntKind.wrap .u32 ((IntKind.wrap .u32 ((IntKind.wrap .u32 ((IntKind.wrap .u32 ((IntKind.wrap .u32 (bs.getD 2 0)) * 16777216)) + (IntKind.wrap .u32 ((IntKind.wrap .u32 (bs.getD 3 0)) * 65536)))) + (IntKind.wrap .u32 ((IntKind.wrap .u32 (bs.getD 4 0)) * 256)))) + (IntKind.wrap .u32 (bs.getD 5 0))), (plG bs 6), (plG bs 22)⟩ : Om)) == bs)) (by kernel_rfl) (fun h14 => ?_) (fun h14 => ?_)
            · try simp only [Bool.and_eq_true, Bool.or_eq_true, decide_eq_true_eq, Bool.not_eq_true', decide_eq_false_iff_not, Bool.and_eq_false_iff, Bool.or_eq_false_iff, beq_iff_eq, bne_iff_ne, beq_eq_false_iff_ne, bne_eq_false_iff_eq, Bool.not_eq_eq_eq_not, Bool.not_true, Bool.not_false] at h14
              refine VC_seq ?_
              refine VC_region ?_
              refine VL_pure 1 [2, 76] [(2, .pointer (some ⟨b1, 0, none⟩)), (76, .agg #[.int .i64 0, .int .u8 0, .bool false, .int .u32 0, .int .u8 0, .int .u8 0, .int .u8 0, .int .u8 0, .int .u8 0, .int .u8 0, .int .u8 0, .int .u8 0, .int .u8 0, .int .u8 0, .int .u8 0, .int .u8 0, .int .u8 0, .int .u8 0, .int .u8 0, .int .u8 0, .int .u8 0, .int .u8 0, .int .u8 0, .int .u8 0, .int .u8 0, .int .u8 0, .int .u8 0, .int .u8 0, .int .u8 0, .int .u8 0, .int .u8 0, .int .u8 0, .int .u8 0, .int .u8 0, .int .u8 0, .int .u8 0])] (by kernel_rfl) rfl ?_
              refine VL_store (b := b1) (o := 0) (vs := [.int .i64 0, .int .u8 0, .bool false, .int .u32 0, .int .u8 0, .int .u8 0, .int .u8 0, .int .u8 0, .int .u8 0, .int .u8 0, .int .u8 0, .int .u8 0, .int .u8 0, .int .u8 0, .int .u8 0, .int .u8 0, .int .u8 0, .int .u8 0, .int .u8 0, .int .u8 0, .int .u8 0, .int .u8 0, .int .u8 0, .int .u8 0, .int .u8 0, .int .u8 0, .int .u8 0, .int .u8 0, .int .u8 0, .int .u8 0, .int .u8 0, .int .u8 0, .int .u8 0, .int .u8 0, .int .u8 0, .int .u8 0]) (by kernel_rfl) (by kernel_rfl) ho1 (Nat.le_of_ble_eq_true (by kernel_rfl)) ?_
              intro w50 hw26
              replace hS := Step.transNew hS hw26.step (fun _ _ _ => by omega)
              replace hA := hA.keepB hw26.step (show ¬ sb1 = b1 by omega)
              replace hbase2 := Nat.le_trans hbase2 (hw26.step).size
              replace hsl5 := hsl5.keepB hw26.step (show ¬ sb1 = b1 by omega)
              replace hsl6 := hsl6.keepB hw26.step (show ¬ sb1 = b1 by omega)
              replace ho27 := ho27.step hw26.step (show ¬ b2 = b1 by omega)
              replace hbase8 := Nat.le_trans hbase8 (hw26.step).size
              have ho28 : Own w50 b1 #[.int .i64 0, .int .u8 0, .bool false, .int .u32 0, .int .u8 0, .int .u8 0, .int .u8 0, .int .u8 0, .int .u8 0, .int .u8 0, .int .u8 0, .int .u8 0, .int .u8 0, .int .u8 0, .int .u8 0, .int .u8 0, .int .u8 0, .int .u8 0, .int .u8 0, .int .u8 0, .int .u8 0, .int .u8 0, .int .u8 0, .int .u8 0, .int .u8 0, .int .u8 0, .int .u8 0, .int .u8 0, .int .u8 0, .int .u8 0, .int .u8 0, .int .u8 0, .int .u8 0, .int .u8 0, .int .u8 0, .int .u8 0] 25 := Own.cast hw26.own (by kernel_rfl)
              have hzhw26 := hw26.same
              refine VL_pure 3 [2, 3] [(2, .pointer (some ⟨b1, 0, none⟩)), (3, .int .i64 5)] (by kernel_rfl) rfl ?_
              refine VL_end (by kernel_rfl) ?_
              refine VQ_next ?_
              refine VC_ret ?_
              refine VQ_then_ret ?_
              refine VQ_retC1T1 (T := 25) (.agg #[.int .i64 0, .int .u8 0, .bool false, .int .u32 0, .int .u8 0, .int .u8 0, .int .u8 0, .int .u8 0, .int .u8 0, .int .u8 0, .int .u8 0, .int .u8 0, .int .u8 0, .int .u8 0, .int .u8 0, .int .u8 0, .int .u8 0, .int .u8 0, .int .u8 0, .int .u8 0, .int .u8 0, .int .u8 0, .int .u8 0, .int .u8 0, .int .u8 0, .int .u8 0, .int .u8 0, .int .u8 0, .int .u8 0, .int .u8 0, .int .u8 0, .int .u8 0, .int .u8 0, .int .u8 0, .int .u8 0, .int .u8 0]) (.int .i64 5) (.inr rfl) rfl rfl rfl (Loads.ownL ho28 (n := 36) (by kernel_rfl) (by kernel_rfl) (by kernel_rfl)) ?_
              obtain ⟨e1, e2⟩ := runp_5 (bs := bs) (runpO_8 (by simp only [kOf]; omega)) ‹_› (by unfold kindB; simp only [kOf]; omega) ‹_›
              exact ⟨by rw [e1, e2]; rfl, hS⟩
            · try simp only [Bool.and_eq_true, Bool.or_eq_true, decide_eq_true_eq, Bool.not_eq_true', decide_eq_false_iff_not, Bool.and_eq_false_iff, Bool.or_eq_false_iff, beq_iff_eq, bne_iff_ne, beq_eq_false_iff_ne, bne_eq_false_iff_eq, Bool.not_eq_eq_eq_not, Bool.not_true, Bool.not_false] at h14
              refine VC_skip ?_
              refine VQ_next ?_
              refine VC_seq ?_
              refine VC_region ?_
              refine VL_load (d := 77) (t := 25) (a := ⟨b2, 0, none⟩) (v := .agg #[.int .i64 (IntKind.wrap .i64 ((IntKind.wrap .i64 (bs.getD 0 0)) - 16)), .int .u8 0, .bool ((bs.getD 1 0) == 1), .int .u32 (IntKind.wrap .u32 ((IntKind.wrap .u32 ((IntKind.wrap .u32 ((IntKind.wrap .u32 ((IntKind.wrap .u32 (bs.getD 2 0)) * 16777216)) + (IntKind.wrap .u32 ((IntKind.wrap .u32 (bs.getD 3 0)) * 65536)))) + (IntKind.wrap .u32 ((IntKind.wrap .u32 (bs.getD 4 0)) * 256)))) + (IntKind.wrap .u32 (bs.getD 5 0)))), .int .u8 (bs.getD 6 0), .int .u8 (bs.getD 7 0), .int .u8 (bs.getD 8 0), .int .u8 (bs.getD 9 0), .int .u8 (bs.getD 10 0), .int .u8 (bs.getD 11 0), .int .u8 (bs.getD 12 0), .int .u8 (bs.getD 13 0), .int .u8 (bs.getD 14 0), .int .u8 (bs.getD 15 0), .int .u8 (bs.getD 16 0), .int .u8 (bs.getD 17 0), .int .u8 (bs.getD 18 0), .int .u8 (bs.getD 19 0), .int .u8 (bs.getD 20 0), .int .u8 (bs.getD 21 0), .int .u8 (bs.getD 22 0), .int .u8 (bs.getD 23 0), .int .u8 (bs.getD 24 0), .int .u8 (bs.getD 25 0), .int .u8 (bs.getD 26 0), .int .u8 (bs.getD 27 0), .int .u8 (bs.getD 28 0), .int .u8 (bs.getD 29 0), .int .u8 (bs.getD 30 0), .int .u8 (bs.getD 31 0), .int .u8 (bs.getD 32 0), .int .u8 (bs.getD 33 0), .int .u8 (bs.getD 34 0), .int .u8 (bs.getD 35 0), .int .u8 (bs.getD 36 0), .int .u8 (bs.getD 37 0)]) (by kernel_rfl) (by kernel_rfl) (Loads.ownL ho27 (n := 36) (by kernel_rfl) (by kernel_rfl) (by kernel_rfl)) ?_
              refine VL_store (b := b1) (o := 0) (vs := [.int .i64 (IntKind.wrap .i64 ((IntKind.wrap .i64 (bs.getD 0 0)) - 16)), .int .u8 0, .bool ((bs.getD 1 0) == 1), .int .u32 (IntKind.wrap .u32 ((IntKind.wrap .u32 ((IntKind.wrap .u32 ((IntKind.wrap .u32 ((IntKind.wrap .u32 (bs.getD 2 0)) * 16777216)) + (IntKind.wrap .u32 ((IntKind.wrap .u32 (bs.getD 3 0)) * 65536)))) + (IntKind.wrap .u32 ((IntKind.wrap .u32 (bs.getD 4 0)) * 256)))) + (IntKind.wrap .u32 (bs.getD 5 0)))), .int .u8 (bs.getD 6 0), .int .u8 (bs.getD 7 0), .int .u8 (bs.getD 8 0), .int .u8 (bs.getD 9 0), .int .u8 (bs.getD 10 0), .int .u8 (bs.getD 11 0), .int .u8 (bs.getD 12 0), .int .u8 (bs.getD 13 0), .int .u8 (bs.getD 14 0), .int .u8 (bs.getD 15 0), .int .u8 (bs.getD 16 0), .int .u8 (bs.getD 17 0), .int .u8 (bs.getD 18 0), .int .u8 (bs.getD 19 0), .int .u8 (bs.getD 20 0), .int .u8 (bs.getD 21 0), .int .u8 (bs.getD 22 0), .int .u8 (bs.getD 23 0), .int .u8 (bs.getD 24 0), .int .u8 (bs.getD 25 0), .int .u8 (bs.getD 26 0), .int .u8 (bs.getD 27 0), .int .u8 (bs.getD 28 0), .int .u8 (bs.getD 29 0), .int .u8 (bs.getD 30 0), .int .u8 (bs.getD 31 0), .int .u8 (bs.getD 32 0), .int .u8 (bs.getD 33 0), .int .u8 (bs.getD 34 0), .int .u8 (bs.getD 35 0), .int .u8 (bs.getD 36 0), .int .u8 (bs.getD 37 0)]) (by kernel_rfl) (by kernel_rfl) ho1 (Nat.le_of_ble_eq_true (by kernel_rfl)) ?_
              intro w51 hw27
              replace hS := Step.transNew hS hw27.step (fun _ _ _ => by omega)
              replace hA := hA.keepB hw27.step (show ¬ sb1 = b1 by omega)
              replace hbase2 := Nat.le_trans hbase2 (hw27.step).size
              replace hsl5 := hsl5.keepB hw27.step (show ¬ sb1 = b1 by omega)
              replace hsl6 := hsl6.keepB hw27.step (show ¬ sb1 = b1 by omega)
              replace ho27 := ho27.step hw27.step (show ¬ b2 = b1 by omega)
              replace hbase8 := Nat.le_trans hbase8 (hw27.step).size
              have ho29 : Own w51 b1 #[.int .i64 (IntKind.wrap .i64 ((IntKind.wrap .i64 (bs.getD 0 0)) - 16)), .int .u8 0, .bool ((bs.getD 1 0) == 1), .int .u32 (IntKind.wrap .u32 ((IntKind.wrap .u32 ((IntKind.wrap .u32 ((IntKind.wrap .u32 ((IntKind.wrap .u32 (bs.getD 2 0)) * 16777216)) + (IntKind.wrap .u32 ((IntKind.wrap .u32 (bs.getD 3 0)) * 65536)))) + (IntKind.wrap .u32 ((IntKind.wrap .u32 (bs.getD 4 0)) * 256)))) + (IntKind.wrap .u32 (bs.getD 5 0)))), .int .u8 (bs.getD 6 0), .int .u8 (bs.getD 7 0), .int .u8 (bs.getD 8 0), .int .u8 (bs.getD 9 0), .int .u8 (bs.getD 10 0), .int .u8 (bs.getD 11 0), .int .u8 (bs.getD 12 0), .int .u8 (bs.getD 13 0), .int .u8 (bs.getD 14 0), .int .u8 (bs.getD 15 0), .int .u8 (bs.getD 16 0), .int .u8 (bs.getD 17 0), .int .u8 (bs.getD 18 0), .int .u8 (bs.getD 19 0), .int .u8 (bs.getD 20 0), .int .u8 (bs.getD 21 0), .int .u8 (bs.getD 22 0), .int .u8 (bs.getD 23 0), .int .u8 (bs.getD 24 0), .int .u8 (bs.getD 25 0), .int .u8 (bs.getD 26 0), .int .u8 (bs.getD 27 0), .int .u8 (bs.getD 28 0), .int .u8 (bs.getD 29 0), .int .u8 (bs.getD 30 0), .int .u8 (bs.getD 31 0), .int .u8 (bs.getD 32 0), .int .u8 (bs.getD 33 0), .int .u8 (bs.getD 34 0), .int .u8 (bs.getD 35 0), .int .u8 (bs.getD 36 0), .int .u8 (bs.getD 37 0)] 25 := Own.cast hw27.own (by kernel_rfl)
              have hzhw27 := hw27.same
              refine VL_pure 3 [2, 3] [(2, .pointer (some ⟨b1, 0, none⟩)), (3, .int .i64 0)] (by kernel_rfl) rfl ?_
              refine VL_end (by kernel_rfl) ?_
              refine VQ_next ?_
              refine VC_ret ?_
              refine VQ_retC1T1 (T := 25) (.agg #[.int .i64 (IntKind.wrap .i64 ((IntKind.wrap .i64 (bs.getD 0 0)) - 16)), .int .u8 0, .bool ((bs.getD 1 0) == 1), .int .u32 (IntKind.wrap .u32 ((IntKind.wrap .u32 ((IntKind.wrap .u32 ((IntKind.wrap .u32 ((IntKind.wrap .u32 (bs.getD 2 0)) * 16777216)) + (IntKind.wrap .u32 ((IntKind.wrap .u32 (bs.getD 3 0)) * 65536)))) + (IntKind.wrap .u32 ((IntKind.wrap .u32 (bs.getD 4 0)) * 256)))) + (IntKind.wrap .u32 (bs.getD 5 0)))), .int .u8 (bs.getD 6 0), .int .u8 (bs.getD 7 0), .int .u8 (bs.getD 8 0), .int .u8 (bs.getD 9 0), .int .u8 (bs.getD 10 0), .int .u8 (bs.getD 11 0), .int .u8 (bs.getD 12 0), .int .u8 (bs.getD 13 0), .int .u8 (bs.getD 14 0), .int .u8 (bs.getD 15 0), .int .u8 (bs.getD 16 0), .int .u8 (bs.getD 17 0), .int .u8 (bs.getD 18 0), .int .u8 (bs.getD 19 0), .int .u8 (bs.getD 20 0), .int .u8 (bs.getD 21 0), .int .u8 (bs.getD 22 0), .int .u8 (bs.getD 23 0), .int .u8 (bs.getD 24 0), .int .u8 (bs.getD 25 0), .int .u8 (bs.getD 26 0), .int .u8 (bs.getD 27 0), .int .u8 (bs.getD 28 0), .int .u8 (bs.getD 29 0), .int .u8 (bs.getD 30 0), .int .u8 (bs.getD 31 0), .int .u8 (bs.getD 32 0), .int .u8 (bs.getD 33 0), .int .u8 (bs.getD 34 0), .int .u8 (bs.getD 35 0), .int .u8 (bs.getD 36 0), .int .u8 (bs.getD 37 0)]) (.int .i64 0) (.inr rfl) rfl rfl rfl (Loads.ownL ho29 (n := 36) (by kernel_rfl) (by kernel_rfl) (by kernel_rfl)) ?_
              obtain ⟨e1, e2⟩ := runp_0 (bs := bs) (runpO_8 (by simp only [kOf]; omega)) ‹_› (by unfold kindB; simp only [kOf]; omega) ‹_›
              exact ⟨by rw [e1, e2]; rfl, hS⟩
          · refine VC_seq ?_
            refine VC_region ?_
            refine VL_pure 1 [2, 19] [(2, .pointer (some ⟨b1, 0, none⟩)), (19, .agg #[.int .i64 0, .int .u8 0, .bool false, .int .u32 0, .int .u8 0, .int .u8 0, .int .u8 0, .int .u8 0, .int .u8 0, .int .u8 0, .int .u8 0, .int .u8 0, .int .u8 0, .int .u8 0, .int .u8 0, .int .u8 0, .int .u8 0, .int .u8 0, .int .u8 0, .int .u8 0, .int .u8 0, .int .u8 0, .int .u8 0, .int .u8 0, .int .u8 0, .int .u8 0, .int .u8 0, .int .u8 0, .int .u8 0, .int .u8 0, .int .u8 0, .int .u8 0, .int .u8 0, .int .u8 0, .int .u8 0, .int .u8 0])] (by kernel_rfl) rfl ?_
            refine VL_store (b := b1) (o := 0) (vs := [.int .i64 0, .int .u8 0, .bool false, .int .u32 0, .int .u8 0, .int .u8 0, .int .u8 0, .int .u8 0, .int .u8 0, .int .u8 0, .int .u8 0, .int .u8 0, .int .u8 0, .int .u8 0, .int .u8 0, .int .u8 0, .int .u8 0, .int .u8 0, .int .u8 0, .int .u8 0, .int .u8 0, .int .u8 0, .int .u8 0, .int .u8 0, .int .u8 0, .int .u8 0, .int .u8 0, .int .u8 0, .int .u8 0, .int .u8 0, .int .u8 0, .int .u8 0, .int .u8 0, .int .u8 0, .int .u8 0, .int .u8 0]) (by kernel_rfl) (by kernel_rfl) ho1 (Nat.le_of_ble_eq_true (by kernel_rfl)) ?_
            intro w52 hw28
            replace hS := Step.transNew hS hw28.step (fun _ _ _ => by omega)
            replace hA := hA.keepB hw28.step (show ¬ sb1 = b1 by omega)
            replace hbase2 := Nat.le_trans hbase2 (hw28.step).size
            replace ho4 := ho4.step hw28.step (show ¬ b2 = b1 by omega)
            have ho30 : Own w52 b1 #[.int .i64 0, .int .u8 0, .bool false, .int .u32 0, .int .u8 0, .int .u8 0, .int .u8 0, .int .u8 0, .int .u8 0, .int .u8 0, .int .u8 0, .int .u8 0, .int .u8 0, .int .u8 0, .int .u8 0, .int .u8 0, .int .u8 0, .int .u8 0, .int .u8 0, .int .u8 0, .int .u8 0, .int .u8 0, .int .u8 0, .int .u8 0, .int .u8 0, .int .u8 0, .int .u8 0, .int .u8 0, .int .u8 0, .int .u8 0, .int .u8 0, .int .u8 0, .int .u8 0, .int .u8 0, .int .u8 0, .int .u8 0] 25 := Own.cast hw28.own (by kernel_rfl)
            have hzhw28 := hw28.same
            refine VL_pure 3 [2, 3] [(2, .pointer (some ⟨b1, 0, none⟩)), (3, .int .i64 12)] (by kernel_rfl) rfl ?_
            refine VL_end (by kernel_rfl) ?_
            refine VQ_next ?_
            refine VC_ret ?_
            refine VQ_block_ret ?_
            refine VQ_then_ret ?_
            refine VQ_retC1T1 (T := 25) (.agg #[.int .i64 0, .int .u8 0, .bool false, .int .u32 0, .int .u8 0, .int .u8 0, .int .u8 0, .int .u8 0, .int .u8 0, .int .u8 0, .int .u8 0, .int .u8 0, .int .u8 0, .int .u8 0, .int .u8 0, .int .u8 0, .int .u8 0, .int .u8 0, .int .u8 0, .int .u8 0, .int .u8 0, .int .u8 0, .int .u8 0, .int .u8 0, .int .u8 0, .int .u8 0, .int .u8 0, .int .u8 0, .int .u8 0, .int .u8 0, .int .u8 0, .int .u8 0, .int .u8 0, .int .u8 0, .int .u8 0, .int .u8 0]) (.int .i64 12) (.inr rfl) rfl rfl rfl (Loads.ownL ho30 (n := 36) (by kernel_rfl) (by kernel_rfl) (by kernel_rfl)) ?_
            obtain ⟨e1, e2⟩ := runp_12 (bs := bs) ‹_› (by unfold kindB; simp only [kOf]; omega)
            exact ⟨by rw [e1, e2]; rfl, hS⟩

end Go.Proofs.Yteipakmfiiccpaa
