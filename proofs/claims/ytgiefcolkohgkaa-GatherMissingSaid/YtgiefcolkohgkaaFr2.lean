/- Layer 10: Many, sum, Pack. -/
import Derived.Test.YtgiefcolkohgkaaProg
import Derived.Test.YtgiefcolkohgkaaFr1
import Derived.Test.YtgiefcolkohgkaaRf7
set_option linter.unusedVariables false
set_option linter.unusedSimpArgs false
namespace Go.Proofs.Ytgiefcolkohgkaa
open Go.Vc Go.RowKit

theorem many_nat (n : Nat) (w : World) (h : n < 1099511627776) :
    CV Try.prog 22 #[.int .i64 ((n : Nat) : Int)] w (fun x w1 => x = .int .i64 ((manyN n : Nat) : Int) ∧ Step No w w1) := by
  have hS : Step No w w := Step.refl _ _
  refine CV_enter Try.f22 _ 10 [(0, .int .i64 ((n : Nat) : Int))] Try.func22 rfl rfl (by kernel_rfl) rfl ?_
  refine VC_seq ?_
  refine VC_region ?_
  refine VL_pure 1 [0] [(0, .int .i64 ((n : Nat) : Int))] (by kernel_rfl) rfl ?_
  refine VL_end (by kernel_rfl) ?_
  refine VQ_next ?_
  refine VC_seq ?_
  refine VC_seq ?_
  refine VC_region ?_
  refine VL_pure 2 [0, 4] [(0, .int .i64 ((n : Nat) : Int)), (4, .bool (decide (((n : Nat) : Int) < 1)))] (by kernel_rfl) rfl ?_
  refine VL_end (by kernel_rfl) ?_
  refine VQ_next ?_
  refine VC_dec (((n : Nat) : Int) < 1) (by kernel_rfl) (fun h1 => ?_) (fun h1 => ?_)
  · refine VC_seq ?_
    refine VC_region ?_
    refine VL_pure 1 [2] [(2, .int .i64 0)] (by kernel_rfl) rfl ?_
    refine VL_end (by kernel_rfl) ?_
    refine VQ_next ?_
    refine VC_ret ?_
    refine VQ_then_ret ?_
    refine VQ_ret1 (.int .i64 0) (.inr rfl) rfl rfl ?_
    exact ⟨by unfold manyN; rw [if_pos (by omega)]; rfl, hS⟩
  · refine VC_skip ?_
    refine VQ_next ?_
    refine VC_seq ?_
    refine VC_region ?_
    refine VL_pure 2 [6] [(6, .int .i64 (IntKind.wrap .i64 (((n : Nat) : Int) + 8)))] (by kernel_rfl) rfl ?_
    have he1 : IntKind.wrap .i64 (((n : Nat) : Int) + 8) = ((n + 8 : Nat) : Int) := (by rw [wrap_i64 _ (by omega) (by omega)]; omega)
    refine VL_eq [(6, .int .i64 ((n + 8 : Nat) : Int))] (by rw [he1]) ?_
    refine VL_pure 3 [7] [(7, .int .i64 (IntKind.wrap .i64 (((n + 8 : Nat) : Int) + 48)))] (by kernel_rfl) rfl ?_
    have he2 : IntKind.wrap .i64 (((n + 8 : Nat) : Int) + 48) = ((n + 8 + 48 : Nat) : Int) := (by rw [wrap_i64 _ (by omega) (by omega)]; omega)
    refine VL_eq [(7, .int .i64 ((n + 8 + 48 : Nat) : Int))] (by rw [he2]) ?_
    refine VL_pure 4 [8] [(8, .int .i64 (IntKind.wrap .i64 (((n + 8 + 48 : Nat) : Int) - 1)))] (by kernel_rfl) rfl ?_
    have he3 : IntKind.wrap .i64 (((n + 8 + 48 : Nat) : Int) - 1) = (((n + 8 + 48) - 1 : Nat) : Int) := (by rw [wrap_i64 _ (by omega) (by omega)]; omega)
    refine VL_eq [(8, .int .i64 (((n + 8 + 48) - 1 : Nat) : Int))] (by rw [he3]) ?_
    refine VL_pure 5 [9] [(9, .int .i64 (IntKind.wrap .i64 ((((n + 8 + 48) - 1 : Nat) : Int).tdiv 48)))] (by kernel_rfl) rfl ?_
    have he4 : IntKind.wrap .i64 ((((n + 8 + 48) - 1 : Nat) : Int).tdiv 48) = ((((n + 8 + 48) - 1) / 48 : Nat) : Int) := (by rw [show (((n + 8 + 48) - 1 : Nat) : Int).tdiv 48 = ((((n + 8 + 48) - 1) / 48 : Nat) : Int) from tdiv_nat ((n + 8 + 48) - 1) 48, wrap_i64 _ (by omega) (by omega)])
    refine VL_eq [(9, .int .i64 ((((n + 8 + 48) - 1) / 48 : Nat) : Int))] (by rw [he4]) ?_
    refine VL_pure 6 [2] [(2, .int .i64 ((((n + 8 + 48) - 1) / 48 : Nat) : Int))] (by kernel_rfl) rfl ?_
    refine VL_end (by kernel_rfl) ?_
    refine VQ_next ?_
    refine VC_ret ?_
    refine VQ_ret1 (.int .i64 ((((n + 8 + 48) - 1) / 48 : Nat) : Int)) (.inr rfl) rfl rfl ?_
    exact ⟨by unfold manyN; rw [if_neg (by omega)]; exact congrArg (fun n : Nat => Value.int .i64 (n : Int)) (by omega), hS⟩

theorem many_neg (n : Int) (w : World) (h : n < 1) :
    CV Try.prog 22 #[.int .i64 n] w (fun x w1 => x = .int .i64 0 ∧ Step No w w1) := by
  have hS : Step No w w := Step.refl _ _
  refine CV_enter Try.f22 _ 10 [(0, .int .i64 n)] Try.func22 rfl rfl (by kernel_rfl) rfl ?_
  refine VC_seq ?_
  refine VC_region ?_
  refine VL_pure 1 [0] [(0, .int .i64 n)] (by kernel_rfl) rfl ?_
  refine VL_end (by kernel_rfl) ?_
  refine VQ_next ?_
  refine VC_seq ?_
  refine VC_seq ?_
  refine VC_region ?_
  refine VL_pure 2 [0, 4] [(0, .int .i64 n), (4, .bool (decide (n < 1)))] (by kernel_rfl) rfl ?_
  refine VL_end (by kernel_rfl) ?_
  refine VQ_next ?_
  refine VC_dec (n < 1) (by kernel_rfl) (fun h1 => ?_) (fun h1 => ?_)
  · refine VC_seq ?_
    refine VC_region ?_
    refine VL_pure 1 [2] [(2, .int .i64 0)] (by kernel_rfl) rfl ?_
    refine VL_end (by kernel_rfl) ?_
    refine VQ_next ?_
    refine VC_ret ?_
    refine VQ_then_ret ?_
    refine VQ_ret1 (.int .i64 0) (.inr rfl) rfl rfl ?_
    exact ⟨rfl, hS⟩
  · exfalso; omega

set_option maxRecDepth 100000 in
set_option maxHeartbeats 4000000 in
theorem sum_any (A : Option Addr) (n c Bd : Nat) (bs : List Int) (w : World) (hn : bs.length = n) (hA : Sl w Bd A (iL .u8 bs)) (hlen : n ≤ 10000) (hBd : Bd ≤ w.heap.size) :
    CV Try.prog 27 #[.slice A n c] w (fun x w1 => ∃ g, x = .slice (some ⟨g, 0, none⟩) 4 4 ∧ w.heap.size ≤ g ∧ Own w1 g (iA .u8 (sumL bs)) 5 ∧ Step No w w1) := by
  have hS : Step No w w := Step.refl _ _
  refine CV_enter Try.f27 _ 18 [(0, .slice A n c)] Try.func27 rfl rfl (by kernel_rfl) rfl ?_
  refine VC_seq ?_
  refine VC_region ?_
  refine VL_pure 1 [0] [(0, .slice A n c)] (by kernel_rfl) rfl ?_
  refine VL_end (by kernel_rfl) ?_
  refine VQ_next ?_
  refine VC_seq ?_
  refine VC_region ?_
  refine VL_pure 1 [4] [(4, .slice A n c)] (by kernel_rfl) rfl ?_
  have hzs1 := hS.size
  refine VL_call (d := 5) (f := 34) (args := #[.slice A n c]) (by kernel_rfl) (by kernel_rfl) (by kernel_rfl) Try.call34 (long_any A n c _ bs _ hn hA (by omega) (by first | exact Nat.le_refl _ | omega)) ?_
  rintro _ w1 ⟨rfl, hc1⟩
  replace hS := Step.trans hS hc1
  replace hA := hA.no hc1
  refine VL_pure 3 [3] [(3, .int .u32 (longB bs))] (by kernel_rfl) rfl ?_
  refine VL_end (by kernel_rfl) ?_
  refine VQ_next ?_
  refine VC_seq ?_
  refine VC_region ?_
  refine VL_pure 11 [8, 11, 14, 16] [(8, .int .u8 (IntKind.wrap .u8 ((longB bs).fdiv (2 ^ 24)))), (11, .int .u8 (IntKind.wrap .u8 ((longB bs).fdiv (2 ^ 16)))), (14, .int .u8 (IntKind.wrap .u8 ((longB bs).fdiv (2 ^ 8)))), (16, .int .u8 (IntKind.wrap .u8 (longB bs)))] (by kernel_rfl) rfl ?_
  have hzs2 := hS.size
  refine VL_bs (d := 17) (e := 5) (c := #[.int .u8 (IntKind.wrap .u8 ((longB bs).fdiv (2 ^ 24))), .int .u8 (IntKind.wrap .u8 ((longB bs).fdiv (2 ^ 16))), .int .u8 (IntKind.wrap .u8 ((longB bs).fdiv (2 ^ 8))), .int .u8 (IntKind.wrap .u8 (longB bs))]) (len := 4) (by kernel_rfl) (by kernel_rfl) ?_
  intro b1 w2 hn1
  replace hS := Step.trans hS (hn1.step No)
  replace hA := hA.no (hn1.step No)
  have ho1 := hn1.own
  have hzhn1 := hn1.size
  have hqhn1 := hn1.eqb
  refine VL_pure 13 [2] [(2, .slice (some ⟨b1, 0, none⟩) 4 4)] (by kernel_rfl) rfl ?_
  refine VL_end (by kernel_rfl) ?_
  refine VQ_next ?_
  refine VC_ret ?_
  refine VQ_ret1 (.slice (some ⟨b1, 0, none⟩) 4 4) (.inr rfl) rfl rfl ?_
  exact ⟨b1, rfl, by omega, ho1, hS⟩

set_option maxRecDepth 100000 in
set_option maxHeartbeats 4000000 in
theorem pack_0 (A : Option Addr) (n c Bd : Nat) (bs : List Int) (w : World) (hn : bs.length = n) (hA : Sl w Bd A (iL .u8 bs)) (m : Int) (hBd : Bd ≤ w.heap.size) (h0 : n = 0) :
    CV Try.prog 20 #[.slice A n c, .int .u8 m] w (fun x w1 => x = .tuple #[.slice none 0 0, .int .i64 1] ∧ Step No w w1) := by
  have hS : Step No w w := Step.refl _ _
  refine CV_enter Try.f20 _ 37 [(0, .slice A n c), (1, .int .u8 m)] Try.func20 rfl rfl (by kernel_rfl) rfl ?_
  refine VC_seq ?_
  refine VC_region ?_
  refine VL_pure 2 [0, 1] [(0, .slice A n c), (1, .int .u8 m)] (by kernel_rfl) rfl ?_
  refine VL_end (by kernel_rfl) ?_
  refine VQ_next ?_
  refine VC_seq ?_
  refine VC_region ?_
  refine VL_pure 3 [0, 1, 6] [(0, .slice A n c), (1, .int .u8 m), (6, .int .i64 ((n : Nat) : Int))] (by kernel_rfl) rfl ?_
  refine VL_end (by kernel_rfl) ?_
  refine VQ_next ?_
  refine VC_seq ?_
  refine VC_block ?_
  refine VC_seq ?_
  refine VC_region ?_
  refine VL_pure 3 [0, 1, 6, 10] [(0, .slice A n c), (1, .int .u8 m), (6, .int .i64 ((n : Nat) : Int)), (10, .bool (((n : Nat) : Int) == 0))] (by kernel_rfl) rfl ?_
  refine VL_end (by kernel_rfl) ?_
  refine VQ_next ?_
  refine VC_is (b := ((n : Nat) : Int) == 0) true (by kernel_rfl) (by simp [h0]) ?_
  refine VC_ite_true ?_
  refine VC_seq ?_
  refine VC_region ?_
  refine VL_pure 2 [4, 5] [(4, .slice none 0 0), (5, .int .i64 1)] (by kernel_rfl) rfl ?_
  refine VL_end (by kernel_rfl) ?_
  refine VQ_next ?_
  refine VC_ret ?_
  refine VQ_block_ret ?_
  refine VQ_then_ret ?_
  refine VQ_ret2 (.slice none 0 0) (.int .i64 1) (.inr rfl) rfl rfl rfl ?_
  exact ⟨rfl, hS⟩

set_option maxRecDepth 100000 in
set_option maxHeartbeats 4000000 in
theorem pack_long (A : Option Addr) (n c Bd : Nat) (bs : List Int) (w : World) (hn : bs.length = n) (hA : Sl w Bd A (iL .u8 bs)) (m : Int) (hBd : Bd ≤ w.heap.size) (h0 : 1000 < n) :
    CV Try.prog 20 #[.slice A n c, .int .u8 m] w (fun x w1 => x = .tuple #[.slice none 0 0, .int .i64 6] ∧ Step No w w1) := by
  have hS : Step No w w := Step.refl _ _
  refine CV_enter Try.f20 _ 37 [(0, .slice A n c), (1, .int .u8 m)] Try.func20 rfl rfl (by kernel_rfl) rfl ?_
  refine VC_seq ?_
  refine VC_region ?_
  refine VL_pure 2 [0, 1] [(0, .slice A n c), (1, .int .u8 m)] (by kernel_rfl) rfl ?_
  refine VL_end (by kernel_rfl) ?_
  refine VQ_next ?_
  refine VC_seq ?_
  refine VC_region ?_
  refine VL_pure 3 [0, 1, 6] [(0, .slice A n c), (1, .int .u8 m), (6, .int .i64 ((n : Nat) : Int))] (by kernel_rfl) rfl ?_
  refine VL_end (by kernel_rfl) ?_
  refine VQ_next ?_
  refine VC_seq ?_
  refine VC_block ?_
  refine VC_seq ?_
  refine VC_region ?_
  refine VL_pure 3 [0, 1, 6, 10] [(0, .slice A n c), (1, .int .u8 m), (6, .int .i64 ((n : Nat) : Int)), (10, .bool (((n : Nat) : Int) == 0))] (by kernel_rfl) rfl ?_
  refine VL_end (by kernel_rfl) ?_
  refine VQ_next ?_
  refine VC_is (b := ((n : Nat) : Int) == 0) false (by kernel_rfl) (by simp; omega) ?_
  refine VC_ite_false ?_
  refine VC_seq ?_
  refine VC_region ?_
  refine VL_pure 3 [0, 1, 6, 13] [(0, .slice A n c), (1, .int .u8 m), (6, .int .i64 ((n : Nat) : Int)), (13, .bool (decide (((n : Nat) : Int) > 1000)))] (by kernel_rfl) rfl ?_
  refine VL_end (by kernel_rfl) ?_
  refine VQ_next ?_
  refine VC_is (b := decide (((n : Nat) : Int) > 1000)) true (by kernel_rfl) (by simp; omega) ?_
  refine VC_ite_true ?_
  refine VC_seq ?_
  refine VC_region ?_
  refine VL_pure 2 [4, 5] [(4, .slice none 0 0), (5, .int .i64 6)] (by kernel_rfl) rfl ?_
  refine VL_end (by kernel_rfl) ?_
  refine VQ_next ?_
  refine VC_ret ?_
  refine VQ_block_ret ?_
  refine VQ_then_ret ?_
  refine VQ_ret2 (.slice none 0 0) (.int .i64 6) (.inr rfl) rfl rfl rfl ?_
  exact ⟨rfl, hS⟩

set_option maxRecDepth 100000 in
set_option maxHeartbeats 4000000 in
theorem pack_yes (A : Option Addr) (n c Bd : Nat) (bs : List Int) (w : World) (hn : bs.length = n) (hA : Sl w Bd A (iL .u8 bs)) (m : Int) (hBd : Bd ≤ w.heap.size) (h0 : 0 < n) (h1 : n ≤ 1000) :
    CV Try.prog 20 #[.slice A n c, .int .u8 m] w (fun x w1 => ∃ g' c', x = .tuple #[.slice (some ⟨g', 0, none⟩) (48 * manyN n) c', .int .i64 0] ∧ w.heap.size ≤ g' ∧ Rw w1 w.heap.size 5 (some ⟨g', 0, none⟩) (48 * manyN n) c' (iL .u8 (frameF bs m)) ∧ Step No w w1) := by
  have hS : Step No w w := Step.refl _ _
  refine CV_enter Try.f20 _ 37 [(0, .slice A n c), (1, .int .u8 m)] Try.func20 rfl rfl (by kernel_rfl) rfl ?_
  refine VC_seq ?_
  refine VC_region ?_
  refine VL_pure 2 [0, 1] [(0, .slice A n c), (1, .int .u8 m)] (by kernel_rfl) rfl ?_
  refine VL_end (by kernel_rfl) ?_
  refine VQ_next ?_
  refine VC_seq ?_
  refine VC_region ?_
  refine VL_pure 3 [0, 1, 6] [(0, .slice A n c), (1, .int .u8 m), (6, .int .i64 ((n : Nat) : Int))] (by kernel_rfl) rfl ?_
  refine VL_end (by kernel_rfl) ?_
  refine VQ_next ?_
  refine VC_seq ?_
  refine VC_block ?_
  refine VC_seq ?_
  refine VC_region ?_
  refine VL_pure 3 [0, 1, 6, 10] [(0, .slice A n c), (1, .int .u8 m), (6, .int .i64 ((n : Nat) : Int)), (10, .bool (((n : Nat) : Int) == 0))] (by kernel_rfl) rfl ?_
  refine VL_end (by kernel_rfl) ?_
  refine VQ_next ?_
  refine VC_is (b := ((n : Nat) : Int) == 0) false (by kernel_rfl) (by simp; omega) ?_
  refine VC_ite_false ?_
  refine VC_seq ?_
  refine VC_region ?_
  refine VL_pure 3 [0, 1, 6, 13] [(0, .slice A n c), (1, .int .u8 m), (6, .int .i64 ((n : Nat) : Int)), (13, .bool (decide (((n : Nat) : Int) > 1000)))] (by kernel_rfl) rfl ?_
  refine VL_end (by kernel_rfl) ?_
  refine VQ_next ?_
  refine VC_is (b := decide (((n : Nat) : Int) > 1000)) false (by kernel_rfl) (by simp; omega) ?_
  refine VC_ite_false ?_
  refine VC_skip ?_
  refine VQ_block_normal ?_
  refine VQ_next ?_
  refine VC_seq ?_
  refine VC_region ?_
  refine VL_pure 1 [0, 1, 6, 16] [(0, .slice A n c), (1, .int .u8 m), (6, .int .i64 ((n : Nat) : Int)), (16, .int .i64 ((n : Nat) : Int))] (by kernel_rfl) rfl ?_
  have hzs1 := hS.size
  refine VL_call (d := 17) (f := 22) (args := #[.int .i64 ((n : Nat) : Int)]) (by kernel_rfl) (by kernel_rfl) (by kernel_rfl) Try.call22 (many_nat n _ (by omega)) ?_
  rintro _ w1 ⟨rfl, hc1⟩
  replace hS := Step.trans hS hc1
  replace hA := hA.no hc1
  have hmnq1 := many_le n
  refine VL_pure 3 [0, 1, 6, 18] [(0, .slice A n c), (1, .int .u8 m), (6, .int .i64 ((n : Nat) : Int)), (18, .int .i64 (IntKind.wrap .i64 (48 * ((manyN n : Nat) : Int))))] (by kernel_rfl) rfl ?_
  have he1 : IntKind.wrap .i64 (48 * ((manyN n : Nat) : Int)) = ((48 * (manyN n) : Nat) : Int) := (by rw [wrap_i64 _ (by omega) (by omega)]; omega)
  refine VL_eq [(0, .slice A n c), (1, .int .u8 m), (6, .int .i64 ((n : Nat) : Int)), (18, .int .i64 ((48 * (manyN n) : Nat) : Int))] (by rw [he1]) ?_
  refine VL_pure 4 [0, 1, 6, 19] [(0, .slice A n c), (1, .int .u8 m), (6, .int .i64 ((n : Nat) : Int)), (19, .int .i64 (IntKind.wrap .i64 (((48 * (manyN n) : Nat) : Int) - 8)))] (by kernel_rfl) rfl ?_
  have he2 : IntKind.wrap .i64 (((48 * (manyN n) : Nat) : Int) - 8) = (((48 * (manyN n)) - 8 : Nat) : Int) := (by rw [wrap_i64 _ (by omega) (by omega)]; omega)
  refine VL_eq [(0, .slice A n c), (1, .int .u8 m), (6, .int .i64 ((n : Nat) : Int)), (19, .int .i64 (((48 * (manyN n)) - 8 : Nat) : Int))] (by rw [he2]) ?_
  have hzs2 := hS.size
  refine VL_make (t := 32) (a := (((48 * (manyN n)) - 8 : Nat) : Int)) (b := (((48 * (manyN n)) - 8 : Nat) : Int)) (e := 5) (d := 20) (k := .u8) (bytes := 1) (by kernel_rfl) (by kernel_rfl) (by kernel_rfl) (by kernel_rfl) ((48 * (manyN n)) - 8) rfl rfl (by omega) (by omega) ?_
  intro g1 w2 hn1
  replace hS := Step.trans hS (hn1.step No)
  replace hA := hA.no (hn1.step No)
  have hzhn1 := hn1.size
  have hqhn1 := hn1.eqb
  have hr1 := Rw.made hn1.own (by simp only [maxLen]; omega)
  have hbase1 : g1 ≤ w2.heap.size := by omega
  have hglg1 : g1 < w2.heap.size := by omega
  refine VL_pure 6 [0, 1, 6, 7] [(0, .slice A n c), (1, .int .u8 m), (6, .int .i64 ((n : Nat) : Int)), (7, .slice (some ⟨g1, 0, none⟩) ((48 * (manyN n)) - 8) ((48 * (manyN n)) - 8))] (by kernel_rfl) rfl ?_
  refine VL_end (by kernel_rfl) ?_
  refine VQ_next ?_
  refine VC_seq ?_
  have hmnP := (many_le n).2 h0
  refine VC_region ?_
  refine VL_pure 2 [1, 6, 7, 21, 22] [(1, .int .u8 m), (6, .int .i64 ((n : Nat) : Int)), (7, .slice (some ⟨g1, 0, none⟩) ((48 * (manyN n)) - 8) ((48 * (manyN n)) - 8)), (21, .slice (some ⟨g1, 0, none⟩) ((48 * (manyN n)) - 8) ((48 * (manyN n)) - 8)), (22, .slice A n c)] (by kernel_rfl) rfl ?_
  refine VL_copyR (d := 23) (b := g1) (o := 0) (dl := ((48 * (manyN n)) - 8)) (A2 := A) (sl := n) (k := .u8) (bs := (List.replicate ((48 * (manyN n)) - 8) 0)) (vs := bs) (by kernel_rfl) (by kernel_rfl) hn (by omega) hA hr1 (by omega) ?_
  intro w3 hr2 hw1 hzhw1
  replace hS := Step.transNew hS hw1 (fun _ _ _ => by omega)
  replace hA := hA.step hw1 (fun k hk (hF : k = g1) => by omega)
  replace hbase1 := Nat.le_trans hbase1 (hw1).size
  replace hglg1 := Nat.lt_of_lt_of_le hglg1 (hw1).size
  refine VL_end (by kernel_rfl) ?_
  refine VQ_next ?_
  refine VC_seq ?_
  refine VC_region ?_
  refine VL_pure 7 [24, 25, 28, 30] [(24, .slice (some ⟨g1, 0, none⟩) ((48 * (manyN n)) - 8) ((48 * (manyN n)) - 8)), (25, .int .u8 m), (28, .int .u8 (IntKind.wrap .u8 (((n : Nat) : Int).fdiv (2 ^ 8)))), (30, .int .u8 (IntKind.wrap .u8 ((n : Nat) : Int)))] (by kernel_rfl) rfl ?_
  have hzs3 := hS.size
  have hzk1 := hbase1
  have hzk2 := hglg1
  refine VL_bs (d := 31) (e := 5) (c := #[.int .u8 m, .int .u8 0, .int .u8 (IntKind.wrap .u8 (((n : Nat) : Int).fdiv (2 ^ 8))), .int .u8 (IntKind.wrap .u8 ((n : Nat) : Int))]) (len := 4) (by kernel_rfl) (by kernel_rfl) ?_
  intro b1 w4 hn2
  replace hS := Step.trans hS (hn2.step No)
  replace hA := hA.no (hn2.step No)
  replace hbase1 := Nat.le_trans hbase1 (hn2.step No).size
  replace hglg1 := Nat.lt_of_lt_of_le hglg1 (hn2.step No).size
  replace hr2 := hr2.no (hn2.step No)
  have ho1 := hn2.own
  have hzhn2 := hn2.size
  have hqhn2 := hn2.eqb
  have hzs4 := hS.size
  have hzk3 := hbase1
  have hzk4 := hglg1
  have hzl1 := ho1.lt
  refine VL_appendS (d := 32) (e := 5) (A := (some ⟨g1, 0, none⟩)) (m := ((48 * (manyN n)) - 8)) (c := ((48 * (manyN n)) - 8)) (A2 := (some ⟨b1, 0, none⟩)) (m2 := 4) (c2 := 4) (bytes := 1) (by kernel_rfl) (by kernel_rfl) (by kernel_rfl) g1 w4.heap.size (iL .u8 (putL (List.replicate ((48 * (manyN n)) - 8) 0) 0 bs)) (iL .u8 ([m, 0, IntKind.wrap .u8 (((n : Nat) : Int).fdiv (2 ^ 8)), IntKind.wrap .u8 ((n : Nat) : Int)])) hr2 (by rw [iL_length]; first | done | exact rfl) (Sl.mono (Own.sl ho1 ho1.lt) (by first | exact Nat.le_refl _ | omega)) iL_one (((48 * (manyN n)) - 8) + 4) (by omega) (by simp only [maxLen]; omega) (by omega) (by omega) ?_
  intro A1 c1 w5 hr3 hg1
  replace hr3 : Rw w5 g1 5 A1 (((48 * (manyN n)) - 8) + 4) c1 (iL .u8 ((putL (List.replicate ((48 * (manyN n)) - 8) 0) 0 bs) ++ ([m, 0, IntKind.wrap .u8 (((n : Nat) : Int).fdiv (2 ^ 8)), IntKind.wrap .u8 ((n : Nat) : Int)]))) := Rw.cast hr3 rfl (by simp only [iL, List.map_append, List.map_cons, List.map_nil, List.append_assoc, List.cons_append, List.nil_append, List.append_nil])
  have hzhg1 := hg1.size
  replace hS := Step.transNew hS hg1 (fun i hi hG => by (try simp only at hG); omega)
  replace hA := hA.step hg1 (fun k hk hG => by (try simp only at hG); omega)
  replace hbase1 := Nat.le_trans hbase1 (hg1).size
  replace hglg1 := Nat.lt_of_lt_of_le hglg1 (hg1).size
  refine VL_pure 10 [7] [(7, .slice A1 (((48 * (manyN n)) - 8) + 4) c1)] (by kernel_rfl) rfl ?_
  refine VL_end (by kernel_rfl) ?_
  refine VQ_next ?_
  refine VC_seq ?_
  refine VC_region ?_
  refine VL_pure 2 [33, 34] [(33, .slice A1 (((48 * (manyN n)) - 8) + 4) c1), (34, .slice A1 (((48 * (manyN n)) - 8) + 4) c1)] (by kernel_rfl) rfl ?_
  have hzs5 := hS.size
  refine VL_call (d := 35) (f := 27) (args := #[.slice A1 (((48 * (manyN n)) - 8) + 4) c1]) (by kernel_rfl) (by kernel_rfl) (by kernel_rfl) Try.call27 (sum_any A1 (((48 * (manyN n)) - 8) + 4) c1 _ ((putL (List.replicate ((48 * (manyN n)) - 8) 0) 0 bs) ++ ([m, 0, IntKind.wrap .u8 (((n : Nat) : Int).fdiv (2 ^ 8)), IntKind.wrap .u8 ((n : Nat) : Int)])) _ (Rw.lenI hr3) (Rw.slI hr3) (by omega) (by first | exact Nat.le_refl _ | omega)) ?_
  rintro _ w6 ⟨sg1, rfl, hggsg1, ho2, hc2⟩
  replace hS := Step.trans hS hc2
  replace hA := hA.no hc2
  replace hbase1 := Nat.le_trans hbase1 (hc2).size
  replace hglg1 := Nat.lt_of_lt_of_le hglg1 (hc2).size
  replace hr3 := hr3.no hc2
  have hzgsg1 := ho2.lt
  have hzs6 := hS.size
  have hzk5 := hbase1
  have hzk6 := hglg1
  have hzl2 := ho2.lt
  refine VL_appendS (d := 36) (e := 5) (A := A1) (m := (((48 * (manyN n)) - 8) + 4)) (c := c1) (A2 := (some ⟨sg1, 0, none⟩)) (m2 := 4) (c2 := 4) (bytes := 1) (by kernel_rfl) (by kernel_rfl) (by kernel_rfl) g1 w6.heap.size (iL .u8 ((putL (List.replicate ((48 * (manyN n)) - 8) 0) 0 bs) ++ ([m, 0, IntKind.wrap .u8 (((n : Nat) : Int).fdiv (2 ^ 8)), IntKind.wrap .u8 ((n : Nat) : Int)]))) (iL .u8 ([IntKind.wrap .u8 ((longB ((putL (List.replicate ((48 * (manyN n)) - 8) 0) 0 bs) ++ ([m, 0, IntKind.wrap .u8 (((n : Nat) : Int).fdiv (2 ^ 8)), IntKind.wrap .u8 ((n : Nat) : Int)]))).fdiv (2 ^ 24)), IntKind.wrap .u8 ((longB ((putL (List.replicate ((48 * (manyN n)) - 8) 0) 0 bs) ++ ([m, 0, IntKind.wrap .u8 (((n : Nat) : Int).fdiv (2 ^ 8)), IntKind.wrap .u8 ((n : Nat) : Int)]))).fdiv (2 ^ 16)), IntKind.wrap .u8 ((longB ((putL (List.replicate ((48 * (manyN n)) - 8) 0) 0 bs) ++ ([m, 0, IntKind.wrap .u8 (((n : Nat) : Int).fdiv (2 ^ 8)), IntKind.wrap .u8 ((n : Nat) : Int)]))).fdiv (2 ^ 8)), IntKind.wrap .u8 (longB ((putL (List.replicate ((48 * (manyN n)) - 8) 0) 0 bs) ++ ([m, 0, IntKind.wrap .u8 (((n : Nat) : Int).fdiv (2 ^ 8)), IntKind.wrap .u8 ((n : Nat) : Int)])))])) hr3 (by rw [iL_length]; first | done | exact rfl) (Sl.mono (Own.sl ho2 ho2.lt) (by first | exact Nat.le_refl _ | omega)) iL_one ((((48 * (manyN n)) - 8) + 4) + 4) (by omega) (by simp only [maxLen]; omega) (by omega) (by omega) ?_
  intro A2 c2 w7 hr4 hg2
  replace hr4 : Rw w7 g1 5 A2 ((((48 * (manyN n)) - 8) + 4) + 4) c2 (iL .u8 (((putL (List.replicate ((48 * (manyN n)) - 8) 0) 0 bs) ++ ([m, 0, IntKind.wrap .u8 (((n : Nat) : Int).fdiv (2 ^ 8)), IntKind.wrap .u8 ((n : Nat) : Int)])) ++ ([IntKind.wrap .u8 ((longB ((putL (List.replicate ((48 * (manyN n)) - 8) 0) 0 bs) ++ ([m, 0, IntKind.wrap .u8 (((n : Nat) : Int).fdiv (2 ^ 8)), IntKind.wrap .u8 ((n : Nat) : Int)]))).fdiv (2 ^ 24)), IntKind.wrap .u8 ((longB ((putL (List.replicate ((48 * (manyN n)) - 8) 0) 0 bs) ++ ([m, 0, IntKind.wrap .u8 (((n : Nat) : Int).fdiv (2 ^ 8)), IntKind.wrap .u8 ((n : Nat) : Int)]))).fdiv (2 ^ 16)), IntKind.wrap .u8 ((longB ((putL (List.replicate ((48 * (manyN n)) - 8) 0) 0 bs) ++ ([m, 0, IntKind.wrap .u8 (((n : Nat) : Int).fdiv (2 ^ 8)), IntKind.wrap .u8 ((n : Nat) : Int)]))).fdiv (2 ^ 8)), IntKind.wrap .u8 (longB ((putL (List.replicate ((48 * (manyN n)) - 8) 0) 0 bs) ++ ([m, 0, IntKind.wrap .u8 (((n : Nat) : Int).fdiv (2 ^ 8)), IntKind.wrap .u8 ((n : Nat) : Int)])))]))) := Rw.cast hr4 rfl (by simp only [iL, List.map_append, List.map_cons, List.map_nil, List.append_assoc, List.cons_append, List.nil_append, List.append_nil])
  have hzhg2 := hg2.size
  replace hS := Step.transNew hS hg2 (fun i hi hG => by (try simp only at hG); omega)
  replace hA := hA.step hg2 (fun k hk hG => by (try simp only at hG); omega)
  replace hbase1 := Nat.le_trans hbase1 (hg2).size
  replace hglg1 := Nat.lt_of_lt_of_le hglg1 (hg2).size
  refine VL_pure 6 [4, 5] [(4, .slice A2 ((((48 * (manyN n)) - 8) + 4) + 4) c2), (5, .int .i64 0)] (by kernel_rfl) rfl ?_
  refine VL_end (by kernel_rfl) ?_
  refine VQ_next ?_
  refine VC_ret ?_
  refine VQ_ret2 (.slice A2 ((((48 * (manyN n)) - 8) + 4) + 4) c2) (.int .i64 0) (.inr rfl) rfl rfl rfl ?_
  have hmn := (many_le n).2 (by omega)
  obtain ⟨g9, cur9, rfl, hb9, -⟩ := hr4.open (by omega)
  refine ⟨g9, c2, by rw [show (((48 * (manyN n)) - 8) + 4) + 4 = 48 * manyN n by omega], by omega, Rw.low (Rw.cast hr4 (by omega) ?_) (by omega), hS⟩
  subst hn
  rw [putL_rep]; simp only [frameF, headF, padF, sumL, lenB, List.append_assoc, List.cons_append, List.nil_append]

end Go.Proofs.Ytgiefcolkohgkaa
