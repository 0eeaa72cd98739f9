/- Layer 10: Cells. -/
import Derived.Test.YtgiefcolkohgkaaProg
import Derived.Test.YtgiefcolkohgkaaCe0
set_option linter.unusedVariables false
set_option linter.unusedSimpArgs false
namespace Go.Proofs.Ytgiefcolkohgkaa
open Go.Vc Go.RowKit

set_option maxRecDepth 100000 in
set_option maxHeartbeats 4000000 in
theorem cells1_any (L : Nat) (B n c Bd : Nat) (A : Option Addr) (bs : List Int) (hn : bs.length = n) (w : World) (J Jx : Nat → Nat → World → Prop) (M : Nat) (hJn : ∀ M k W W', J M k W → Step No W W' → J M k W') (hrd : ∀ M k W, J M k W → Own W B #[.slice A n c] 32 ∧ Sl W Bd A (iL .u8 bs)) (hJ : J M 0 w) (hlen : n < 1152921504606846976) (hc : n ≤ c) (hy : ∀ k W args, M ≤ W.heap.size → (cellsV bs)[k]? = some args → J M k W → YV Try.prog L args W fun v W' => Step (fun i => i < w.heap.size ∨ M ≤ i) W W' ∧ (v = .bool true ∧ J M (k + 1) W' ∨ v = .bool false ∧ Jx M (k + 1) W')) (hM : M ≤ w.heap.size) :
    CV Try.prog 28 #[.func (.yield L) #[] #[], .pointer (some ⟨B, 0, none⟩)] w (fun _ w1 => J M (cellsV bs).length w1 ∨ ∃ k, k ≤ (cellsV bs).length ∧ Jx M k w1) := by
  obtain ⟨hB, hA⟩ := hrd _ _ _ hJ
  have hMz := hM
  refine CV_enter Try.f28 _ 19 [(0, .func (.yield L) #[] #[]), (1, .pointer (some ⟨B, 0, none⟩))] Try.func28 rfl rfl (by kernel_rfl) rfl ?_
  refine VC_seq ?_
  refine VC_region ?_
  refine VL_load (d := 4) (t := 32) (a := ⟨B, 0, none⟩) (v := .slice A n c) (by kernel_rfl) (by kernel_rfl) (Loads.own1 hB (by kernel_rfl) (by rfl)) ?_
  refine VL_pure 2 [0, 3] [(0, .func (.yield L) #[] #[]), (3, .slice A n c)] (by kernel_rfl) rfl ?_
  refine VL_end (by kernel_rfl) ?_
  refine VQ_next ?_
  refine VC_block ?_
  refine VC_loop (σ := Nat × (Option Addr) × Nat) (fun σs => [(0, .func (.yield L) #[] #[]), (3, .slice σs.2.1 (n - 48 * σs.1) σs.2.2)]) (fun σs wr => 48 * σs.1 ≤ n ∧ n - 48 * σs.1 ≤ σs.2.2 ∧ (∀ W, Sl W Bd A (iL .u8 bs) → Sl W Bd σs.2.1 (iL .u8 (bs.drop (48 * σs.1)))) ∧ J M σs.1 wr ∧ M ≤ wr.heap.size ∧ Own wr B #[.slice A n c] 32 ∧ Sl wr Bd A (iL .u8 bs)) (fun σs wr => n - 48 * σs.1) ⟨0, A, c⟩ ⟨rfl, rfl, trivial⟩ ?_ ?_
  · exact ⟨by omega, by omega, fun _ h => h, hJ, hM, hB, hA⟩
  rintro ⟨j, A1, c1⟩ wr ⟨hj0, hcc, hA1, hJ, hMz, hB, hA⟩
  try dsimp only at hj0 hcc hA1 hJ hMz hB hA ⊢
  have hA1v := hA1 _ hA
  refine VC_seq ?_
  refine VC_seq ?_
  refine VC_region ?_
  refine VL_pure 3 [0, 3, 7] [(0, .func (.yield L) #[] #[]), (3, .slice A1 (n - 48 * j) c1), (7, .bool (decide (((n - 48 * j : Nat) : Int) ≥ 48)))] (by kernel_rfl) rfl ?_
  refine VL_end (by kernel_rfl) ?_
  refine VQ_next ?_
  refine VC_dec (((n - 48 * j : Nat) : Int) ≥ 48) (by kernel_rfl) (fun h1 => ?_) (fun h1 => ?_)
  · refine VC_skip ?_
    refine VQ_next ?_
    refine VC_seq ?_
    refine VC_block ?_
    refine VC_seq ?_
    refine VC_region ?_
    refine VL_pure 2 [0, 3, 10, 11] [(0, .func (.yield L) #[] #[]), (3, .slice A1 (n - 48 * j) c1), (10, .func (.yield L) #[] #[]), (11, .slice A1 (n - 48 * j) c1)] (by kernel_rfl) rfl ?_
    obtain ⟨sb1, so1, rfl, hlbsb1⟩ := hA1v.open (by simp only [iL_length, List.length_drop]; omega)
    refine VL_stap (d := 12) (A := some ⟨sb1, so1, none⟩) (len := (n - 48 * j)) (N := 48) (by kernel_rfl) (by kernel_rfl) (by omega) ?_
    refine VL_load (d := 13) (t := 28) (a := ⟨sb1, so1, none⟩) (v := .agg (iA .u8 ((bs.drop (48 * j)).take 48))) (by kernel_rfl) (by kernel_rfl) (Loads.slArr hA1v (by kernel_rfl) (by have hq9 : (bs.drop (48 * j)).length = n - 48 * j := (by rw [List.length_drop]; omega); omega)) ?_
    refine VL_pure 7 [0, 3, 10, 13, 16] [(0, .func (.yield L) #[] #[]), (3, .slice (some ⟨sb1, so1, none⟩) (n - 48 * j) c1), (10, .func (.yield L) #[] #[]), (13, .agg (iA .u8 ((bs.drop (48 * j)).take 48))), (16, .bool (((n - 48 * j : Nat) : Int) == 48))] (by kernel_rfl) rfl ?_
    have hzk1 := hMz
    have hzl1 := hB.lt
    refine VL_yield (d := 17) (L := L) (args := #[.agg (iA .u8 ((bs.drop (48 * j)).take 48)), .bool (((n - 48 * j : Nat) : Int) == 48)]) (by kernel_rfl) (by kernel_rfl) (by kernel_rfl) (hy j _ _ hMz (cellsV_get hn (by omega)) hJ) ?_
    rintro _ w1 ⟨hshy1, (⟨rfl, hy1⟩ | ⟨rfl, hy1⟩)⟩
    · replace hMz := Nat.le_trans hMz hshy1.size
      have hJ := hy1
      obtain ⟨hB, hA⟩ := hrd _ _ _ hJ
      have hA1v := hA1 _ hA
      refine VL_pure 9 [0, 3, 18] [(0, .func (.yield L) #[] #[]), (3, .slice (some ⟨sb1, so1, none⟩) (n - 48 * j) c1), (18, .bool false)] (by kernel_rfl) rfl ?_
      refine VL_end (by kernel_rfl) ?_
      refine VQ_next ?_
      refine VC_false (by kernel_rfl) ?_
      refine VC_skip ?_
      refine VQ_block_normal ?_
      refine VQ_next ?_
      refine VC_region ?_
      refine VL_pure 1 [0, 8] [(0, .func (.yield L) #[] #[]), (8, .slice (some ⟨sb1, so1, none⟩) (n - 48 * j) c1)] (by kernel_rfl) rfl ?_
      obtain ⟨so2, hso2⟩ : ∃ x, (if c1 = 48 then so1 else so1 + 48 * 1) = x := ⟨_, rfl⟩
      refine VL_slice (d := 9) (b := sb1) (o := so1) (sz := 1) (len := (n - 48 * j)) (cap := c1) (lo := (some 48)) (hi := none) (mx := none) (by kernel_rfl) (by kernel_rfl) (fun h => by first | exact absurd rfl h | exact (fun h => by cases h)) 48 (n - 48 * j) c1 rfl rfl rfl (by omega) (by omega) (by omega) so2 hso2 ((n - 48 * j) - 48) (by omega) (c1 - 48) (by omega) ?_
      have hsl1 := Sl.cutI (H := n - 48 * j) hA1v hso2 (by omega)
      refine VL_pure 3 [0, 3] [(0, .func (.yield L) #[] #[]), (3, .slice (some ⟨sb1, so2, none⟩) ((n - 48 * j) - 48) (c1 - 48))] (by kernel_rfl) rfl ?_
      refine VL_end (by kernel_rfl) ?_
      refine VQ_again (⟨j + 1, (some ⟨sb1, so2, none⟩), (c1 - 48)⟩) ⟨rfl, rfl, trivial⟩ ?_ ?_
      · exact ⟨(by (try dsimp only); omega), (by (try dsimp only); omega), fun W h => Sl.cast (Sl.cutI (H := n - 48 * j) (hA1 W h) hso2 (by omega)) (by rw [List.drop_drop, List.take_of_length_le (by rw [List.length_drop]; omega)]; rfl), hJ, hMz, hB, hA⟩
      · (try dsimp only); omega
    · refine VL_pure 9 [0, 3, 18] [(0, .func (.yield L) #[] #[]), (3, .slice (some ⟨sb1, so1, none⟩) (n - 48 * j) c1), (18, .bool true)] (by kernel_rfl) rfl ?_
      refine VL_end (by kernel_rfl) ?_
      refine VQ_next ?_
      refine VC_true (by kernel_rfl) ?_
      refine VC_ret ?_
      refine VQ_block_ret ?_
      refine VQ_then_ret ?_
      refine VQ_then_ret ?_
      refine VQ_block_ret ?_
      refine VQ_ret0 (.inr rfl) rfl ?_
      exact .inr ⟨_, by rw [cellsV_len]; omega, hy1⟩
  · refine VC_exit ?_
    refine VQ_then_exit ?_
    refine VQ_then_exit ?_
    refine VQ_block_hit ?_
    refine VQ_ret0 (.inl rfl) rfl ?_
    obtain rfl : j = n / 48 := by omega
    exact .inl (by rw [cellsV_len, hn]; exact hJ)

theorem cells_iter (B n c Bd : Nat) (A : Option Addr) (bs : List Int) (hn : bs.length = n) (hlen : n < 1152921504606846976) (hc : n ≤ c) :
    IterC Try.prog 28 #[.pointer (some ⟨B, 0, none⟩)] (cellsV bs) (fun _ W => Own W B #[.slice A n c] 32 ∧ Sl W Bd A (iL .u8 bs)) := by
  intro L W0 J Jx hJn hJxn hrd hrd0 h0 hy
  refine CV.mono (cells1_any L B n c Bd A bs hn W0 J Jx W0.heap.size hJn hrd (h0 _ _ (Nat.le_refl _) (Nat.le_refl _) (Step.refl _ _)) hlen hc (fun k W args hM hx hj => hy _ k W args (Nat.le_refl _) hM hx hj) (Nat.le_refl _)) fun v W' hh => ⟨_, Nat.le_refl _, hh⟩
set_option maxRecDepth 100000 in
set_option maxHeartbeats 4000000 in
theorem cells_any (A : Option Addr) (n c : Nat) (w : World) :
    CV Try.prog 21 #[.slice A n c] w (fun x w1 => ∃ B, x = .func (.func 28) #[] #[.pointer (some ⟨B, 0, none⟩)] ∧ ¬ B < w.heap.size ∧ Own w1 B #[.slice A n c] 32 ∧ Step No w w1) := by
  have hS : Step No w w := Step.refl _ _
  refine CV_enter Try.f21 _ 4 [(0, .slice A n c)] Try.func21 rfl rfl (by kernel_rfl) rfl ?_
  refine VC_seq ?_
  refine VC_region ?_
  have hzs1 := hS.size
  refine VL_box (d := 1) (t := 32) (c := #[.slice A n c]) (by kernel_rfl) (by kernel_rfl) ?_
  intro b1 w1 hn1
  replace hS := Step.trans hS (hn1.step No)
  have ho1 := hn1.own
  have hzhn1 := hn1.size
  have hqhn1 := hn1.eqb
  refine VL_pure 2 [1] [(1, .pointer (some ⟨b1, 0, none⟩))] (by kernel_rfl) rfl ?_
  refine VL_end (by kernel_rfl) ?_
  refine VQ_next ?_
  refine VC_seq ?_
  refine VC_region ?_
  refine VL_pure 2 [2] [(2, .func (.func 28) #[] #[.pointer (some ⟨b1, 0, none⟩)])] (by kernel_rfl) rfl ?_
  refine VL_end (by kernel_rfl) ?_
  refine VQ_next ?_
  refine VC_ret ?_
  refine VQ_ret1 (.func (.func 28) #[] #[.pointer (some ⟨b1, 0, none⟩)]) (.inr rfl) rfl rfl ?_
  exact ⟨b1, rfl, by omega, ho1, hS⟩

end Go.Proofs.Ytgiefcolkohgkaa
