/- Layer 1: bits, rest, Ten. -/
import Derived.Test.YtgiefcolkohgkaaProg
import Derived.Test.YtgiefcolkohgkaaSm0
set_option linter.unusedVariables false
set_option linter.unusedSimpArgs false
namespace Go.Proofs.Ytgiefcolkohgkaa
open Go.Vc Go.RowKit

set_option maxRecDepth 100000 in
set_option maxHeartbeats 4000000 in
theorem bits1_any (L : Nat) (B n c Bd : Nat) (A : Option Addr) (bs : List Int) (hn : bs.length = n) (w : World) (J Jx : Nat → Nat → World → Prop) (M : Nat) (hJn : ∀ M k W W', J M k W → Step No W W' → J M k W') (hrd : ∀ M k W, J M k W → Own W B #[.slice A n c] 32 ∧ Sl W Bd A (iL .u8 bs)) (hJ : J M 0 w) (hlen : n < 1152921504606846976) (hy : ∀ k W args, M ≤ W.heap.size → (bitsV bs)[k]? = some args → J M k W → YV Try.prog L args W fun v W' => Step (fun i => i < w.heap.size ∨ M ≤ i) W W' ∧ (v = .bool true ∧ J M (k + 1) W' ∨ v = .bool false ∧ Jx M (k + 1) W')) (hM : M ≤ w.heap.size) :
    CV Try.prog 40 #[.func (.yield L) #[] #[], .pointer (some ⟨B, 0, none⟩)] w (fun _ w1 => J M (bitsV bs).length w1 ∨ ∃ k, k ≤ (bitsV bs).length ∧ Jx M k w1) := by
  obtain ⟨hB, hA⟩ := hrd _ _ _ hJ
  have hMz := hM
  refine CV_enter Try.f40 _ 25 [(0, .func (.yield L) #[] #[]), (1, .pointer (some ⟨B, 0, none⟩))] Try.func40 rfl rfl (by kernel_rfl) rfl ?_
  refine VC_seq ?_
  refine VC_region ?_
  refine VL_load (d := 6) (t := 32) (a := ⟨B, 0, none⟩) (v := .slice A n c) (by kernel_rfl) (by kernel_rfl) (Loads.own1 hB (by kernel_rfl) (by rfl)) ?_
  refine VL_pure 3 [0, 6, 7, 8] [(0, .func (.yield L) #[] #[]), (6, .slice A n c), (7, .int .i64 ((n : Nat) : Int)), (8, .int .i64 0)] (by kernel_rfl) rfl ?_
  refine VL_end (by kernel_rfl) ?_
  refine VQ_next ?_
  refine VC_block ?_
  refine VC_loop (σ := Nat) (fun σs => [(0, .func (.yield L) #[] #[]), (6, .slice A n c), (7, .int .i64 ((n : Nat) : Int)), (8, .int .i64 ((σs : Nat) : Int))]) (fun σs wr => σs ≤ n ∧ J M (8 * σs) wr ∧ M ≤ wr.heap.size ∧ Own wr B #[.slice A n c] 32 ∧ Sl wr Bd A (iL .u8 bs)) (fun σs wr => n - σs) 0 ⟨rfl, rfl, rfl, rfl, trivial⟩ ?_ ?_
  · exact ⟨Nat.zero_le _, hJ, hM, hB, hA⟩
  rintro j wr ⟨hj0, hJ, hMz, hB, hA⟩
  try dsimp only at hj0 hJ hMz hB hA ⊢
  refine VC_seq ?_
  refine VC_region ?_
  refine VL_pure 1 [0, 6, 7, 8, 9] [(0, .func (.yield L) #[] #[]), (6, .slice A n c), (7, .int .i64 ((n : Nat) : Int)), (8, .int .i64 ((j : Nat) : Int)), (9, .bool (decide (((j : Nat) : Int) < ((n : Nat) : Int))))] (by kernel_rfl) rfl ?_
  refine VL_end (by kernel_rfl) ?_
  refine VQ_next ?_
  refine VC_seq ?_
  refine VC_dec (((j : Nat) : Int) < ((n : Nat) : Int)) (by kernel_rfl) (fun h1 => ?_) (fun h1 => ?_)
  · refine VC_skip ?_
    refine VQ_next ?_
    refine VC_seq ?_
    refine VC_block ?_
    refine VC_seq ?_
    refine VC_region ?_
    obtain ⟨sb1, so1, rfl, hlbsb1⟩ := hA.open (by simp only [iL_length]; omega)
    refine VL_index (d := 10) (b := sb1) (o := so1) (len := n) (sz := 1) (m := ((j : Nat) : Int)) (by kernel_rfl) (by kernel_rfl) j (by rfl) (by omega) (so1 + j) (by omega) ?_
    refine VL_load (d := 11) (t := 5) (a := ⟨sb1, so1 + j, none⟩) (v := .int .u8 (bs.getD j 0)) (by kernel_rfl) (by kernel_rfl) (Sl.ldI hA (by kernel_rfl) j (by (try simp only [List.length_set, List.length_append, List.length_map, List.length_replicate, List.length_cons, List.length_nil, List.length_take, List.length_drop, List.length_range]) <;> omega)) ?_
    refine VL_pure 3 [0, 6, 7, 8, 4] [(0, .func (.yield L) #[] #[]), (6, .slice (some ⟨sb1, so1, none⟩) n c), (7, .int .i64 ((n : Nat) : Int)), (8, .int .i64 ((j : Nat) : Int)), (4, .int .u8 (bs.getD j 0))] (by kernel_rfl) rfl ?_
    refine VL_end (by kernel_rfl) ?_
    refine VQ_next ?_
    refine VC_seq ?_
    refine VC_region ?_
    refine VL_pure 1 [0, 6, 7, 8, 4, 5] [(0, .func (.yield L) #[] #[]), (6, .slice (some ⟨sb1, so1, none⟩) n c), (7, .int .i64 ((n : Nat) : Int)), (8, .int .i64 ((j : Nat) : Int)), (4, .int .u8 (bs.getD j 0)), (5, .int .i64 7)] (by kernel_rfl) rfl ?_
    refine VL_end (by kernel_rfl) ?_
    refine VQ_next ?_
    refine VC_block ?_
    refine VC_rounds ?_
    refine VCL_round ?_
    refine VC_seq ?_
    refine VC_seq ?_
    refine VC_region ?_
    refine VL_pure 2 [0, 6, 7, 8, 4, 5, 13] [(0, .func (.yield L) #[] #[]), (6, .slice (some ⟨sb1, so1, none⟩) n c), (7, .int .i64 ((n : Nat) : Int)), (8, .int .i64 ((j : Nat) : Int)), (4, .int .u8 (bs.getD j 0)), (5, .int .i64 7), (13, .bool true)] (by kernel_rfl) rfl ?_
    refine VL_end (by kernel_rfl) ?_
    refine VQ_next ?_
    refine VC_true (by kernel_rfl) ?_
    refine VC_skip ?_
    refine VQ_next ?_
    refine VC_seq ?_
    refine VC_block ?_
    refine VC_seq ?_
    refine VC_region ?_
    refine VL_pure 6 [0, 6, 7, 8, 4, 5, 16, 21] [(0, .func (.yield L) #[] #[]), (6, .slice (some ⟨sb1, so1, none⟩) n c), (7, .int .i64 ((n : Nat) : Int)), (8, .int .i64 ((j : Nat) : Int)), (4, .int .u8 (bs.getD j 0)), (5, .int .i64 7), (16, .func (.yield L) #[] #[]), (21, .bool ((bAnd .u8 ((bs.getD j 0).fdiv (2 ^ 7)) 1) == 1))] (by kernel_rfl) rfl ?_
    have hzk1 := hMz
    have hzl1 := hB.lt
    refine VL_yield (d := 22) (L := L) (args := #[.bool ((bAnd .u8 ((bs.getD j 0).fdiv (2 ^ 7)) 1) == 1)]) (by kernel_rfl) (by kernel_rfl) (by kernel_rfl) (hy (8 * j + 0) _ _ hMz (bitsV_get (i := 0) (by omega) (by decide) rfl) hJ) ?_
    rintro _ w1 ⟨hshy1, (⟨rfl, hy1⟩ | ⟨rfl, hy1⟩)⟩
    · replace hMz := Nat.le_trans hMz hshy1.size
      have hJ := hy1
      obtain ⟨hB, hA⟩ := hrd _ _ _ hJ
      refine VL_pure 8 [0, 6, 7, 8, 4, 5, 23] [(0, .func (.yield L) #[] #[]), (6, .slice (some ⟨sb1, so1, none⟩) n c), (7, .int .i64 ((n : Nat) : Int)), (8, .int .i64 ((j : Nat) : Int)), (4, .int .u8 (bs.getD j 0)), (5, .int .i64 7), (23, .bool false)] (by kernel_rfl) rfl ?_
      refine VL_end (by kernel_rfl) ?_
      refine VQ_next ?_
      refine VC_false (by kernel_rfl) ?_
      refine VC_skip ?_
      refine VQ_block_normal ?_
      refine VQ_next ?_
      refine VC_region ?_
      refine VL_pure 3 [0, 6, 7, 8, 4, 5] [(0, .func (.yield L) #[] #[]), (6, .slice (some ⟨sb1, so1, none⟩) n c), (7, .int .i64 ((n : Nat) : Int)), (8, .int .i64 ((j : Nat) : Int)), (4, .int .u8 (bs.getD j 0)), (5, .int .i64 6)] (by kernel_rfl) rfl ?_
      refine VL_end (by kernel_rfl) ?_
      refine VQ_round ?_
      refine VCL_round ?_
      refine VC_seq ?_
      refine VC_seq ?_
      refine VC_region ?_
      refine VL_pure 2 [0, 6, 7, 8, 4, 5, 13] [(0, .func (.yield L) #[] #[]), (6, .slice (some ⟨sb1, so1, none⟩) n c), (7, .int .i64 ((n : Nat) : Int)), (8, .int .i64 ((j : Nat) : Int)), (4, .int .u8 (bs.getD j 0)), (5, .int .i64 6), (13, .bool true)] (by kernel_rfl) rfl ?_
      refine VL_end (by kernel_rfl) ?_
      refine VQ_next ?_
      refine VC_true (by kernel_rfl) ?_
      refine VC_skip ?_
      refine VQ_next ?_
      refine VC_seq ?_
      refine VC_block ?_
      refine VC_seq ?_
      refine VC_region ?_
      refine VL_pure 6 [0, 6, 7, 8, 4, 5, 16, 21] [(0, .func (.yield L) #[] #[]), (6, .slice (some ⟨sb1, so1, none⟩) n c), (7, .int .i64 ((n : Nat) : Int)), (8, .int .i64 ((j : Nat) : Int)), (4, .int .u8 (bs.getD j 0)), (5, .int .i64 6), (16, .func (.yield L) #[] #[]), (21, .bool ((bAnd .u8 ((bs.getD j 0).fdiv (2 ^ 6)) 1) == 1))] (by kernel_rfl) rfl ?_
      have hzk2 := hMz
      have hzl2 := hB.lt
      refine VL_yield (d := 22) (L := L) (args := #[.bool ((bAnd .u8 ((bs.getD j 0).fdiv (2 ^ 6)) 1) == 1)]) (by kernel_rfl) (by kernel_rfl) (by kernel_rfl) (hy (8 * j + 1) _ _ hMz (bitsV_get (i := 1) (by omega) (by decide) rfl) hJ) ?_
      rintro _ w2 ⟨hshy2, (⟨rfl, hy2⟩ | ⟨rfl, hy2⟩)⟩
      · replace hMz := Nat.le_trans hMz hshy2.size
        have hJ := hy2
        obtain ⟨hB, hA⟩ := hrd _ _ _ hJ
        refine VL_pure 8 [0, 6, 7, 8, 4, 5, 23] [(0, .func (.yield L) #[] #[]), (6, .slice (some ⟨sb1, so1, none⟩) n c), (7, .int .i64 ((n : Nat) : Int)), (8, .int .i64 ((j : Nat) : Int)), (4, .int .u8 (bs.getD j 0)), (5, .int .i64 6), (23, .bool false)] (by kernel_rfl) rfl ?_
        refine VL_end (by kernel_rfl) ?_
        refine VQ_next ?_
        refine VC_false (by kernel_rfl) ?_
        refine VC_skip ?_
        refine VQ_block_normal ?_
        refine VQ_next ?_
        refine VC_region ?_
        refine VL_pure 3 [0, 6, 7, 8, 4, 5] [(0, .func (.yield L) #[] #[]), (6, .slice (some ⟨sb1, so1, none⟩) n c), (7, .int .i64 ((n : Nat) : Int)), (8, .int .i64 ((j : Nat) : Int)), (4, .int .u8 (bs.getD j 0)), (5, .int .i64 5)] (by kernel_rfl) rfl ?_
        refine VL_end (by kernel_rfl) ?_
        refine VQ_round ?_
        refine VCL_round ?_
        refine VC_seq ?_
        refine VC_seq ?_
        refine VC_region ?_
        refine VL_pure 2 [0, 6, 7, 8, 4, 5, 13] [(0, .func (.yield L) #[] #[]), (6, .slice (some ⟨sb1, so1, none⟩) n c), (7, .int .i64 ((n : Nat) : Int)), (8, .int .i64 ((j : Nat) : Int)), (4, .int .u8 (bs.getD j 0)), (5, .int .i64 5), (13, .bool true)] (by kernel_rfl) rfl ?_
        refine VL_end (by kernel_rfl) ?_
        refine VQ_next ?_
        refine VC_true (by kernel_rfl) ?_
        refine VC_skip ?_
        refine VQ_next ?_
        refine VC_seq ?_
        refine VC_block ?_
        refine VC_seq ?_
        refine VC_region ?_
        refine VL_pure 6 [0, 6, 7, 8, 4, 5, 16, 21] [(0, .func (.yield L) #[] #[]), (6, .slice (some ⟨sb1, so1, none⟩) n c), (7, .int .i64 ((n : Nat) : Int)), (8, .int .i64 ((j : Nat) : Int)), (4, .int .u8 (bs.getD j 0)), (5, .int .i64 5), (16, .func (.yield L) #[] #[]), (21, .bool ((bAnd .u8 ((bs.getD j 0).fdiv (2 ^ 5)) 1) == 1))] (by kernel_rfl) rfl ?_
        have hzk3 := hMz
        have hzl3 := hB.lt
        refine VL_yield (d := 22) (L := L) (args := #[.bool ((bAnd .u8 ((bs.getD j 0).fdiv (2 ^ 5)) 1) == 1)]) (by kernel_rfl) (by kernel_rfl) (by kernel_rfl) (hy (8 * j + 2) _ _ hMz (bitsV_get (i := 2) (by omega) (by decide) rfl) hJ) ?_
        rintro _ w3 ⟨hshy3, (⟨rfl, hy3⟩ | ⟨rfl, hy3⟩)⟩
        · replace hMz := Nat.le_trans hMz hshy3.size
          have hJ := hy3
          obtain ⟨hB, hA⟩ := hrd _ _ _ hJ
          refine VL_pure 8 [0, 6, 7, 8, 4, 5, 23] [(0, .func (.yield L) #[] #[]), (6, .slice (some ⟨sb1, so1, none⟩) n c), (7, .int .i64 ((n : Nat) : Int)), (8, .int .i64 ((j : Nat) : Int)), (4, .int .u8 (bs.getD j 0)), (5, .int .i64 5), (23, .bool false)] (by kernel_rfl) rfl ?_
          refine VL_end (by kernel_rfl) ?_
          refine VQ_next ?_
          refine VC_false (by kernel_rfl) ?_
          refine VC_skip ?_
          refine VQ_block_normal ?_
          refine VQ_next ?_
          refine VC_region ?_
          refine VL_pure 3 [0, 6, 7, 8, 4, 5] [(0, .func (.yield L) #[] #[]), (6, .slice (some ⟨sb1, so1, none⟩) n c), (7, .int .i64 ((n : Nat) : Int)), (8, .int .i64 ((j : Nat) : Int)), (4, .int .u8 (bs.getD j 0)), (5, .int .i64 4)] (by kernel_rfl) rfl ?_
          refine VL_end (by kernel_rfl) ?_
          refine VQ_round ?_
          refine VCL_round ?_
          refine VC_seq ?_
          refine VC_seq ?_
          refine VC_region ?_
          refine VL_pure 2 [0, 6, 7, 8, 4, 5, 13] [(0, .func (.yield L) #[] #[]), (6, .slice (some ⟨sb1, so1, none⟩) n c), (7, .int .i64 ((n : Nat) : Int)), (8, .int .i64 ((j : Nat) : Int)), (4, .int .u8 (bs.getD j 0)), (5, .int .i64 4), (13, .bool true)] (by kernel_rfl) rfl ?_
          refine VL_end (by kernel_rfl) ?_
          refine VQ_next ?_
          refine VC_true (by kernel_rfl) ?_
          refine VC_skip ?_
          refine VQ_next ?_
          refine VC_seq ?_
          refine VC_block ?_
          refine VC_seq ?_
          refine VC_region ?_
          refine VL_pure 6 [0, 6, 7, 8, 4, 5, 16, 21] [(0, .func (.yield L) #[] #[]), (6, .slice (some ⟨sb1, so1, none⟩) n c), (7, .int .i64 ((n : Nat) : Int)), (8, .int .i64 ((j : Nat) : Int)), (4, .int .u8 (bs.getD j 0)), (5, .int .i64 4), (16, .func (.yield L) #[] #[]), (21, .bool ((bAnd .u8 ((bs.getD j 0).fdiv (2 ^ 4)) 1) == 1))] (by kernel_rfl) rfl ?_
          have hzk4 := hMz
          have hzl4 := hB.lt
          refine VL_yield (d := 22) (L := L) (args := #[.bool ((bAnd .u8 ((bs.getD j 0).fdiv (2 ^ 4)) 1) == 1)]) (by kernel_rfl) (by kernel_rfl) (by kernel_rfl) (hy (8 * j + 3) _ _ hMz (bitsV_get (i := 3) (by omega) (by decide) rfl) hJ) ?_
          rintro _ w4 ⟨hshy4, (⟨rfl, hy4⟩ | ⟨rfl, hy4⟩)⟩
          · replace hMz := Nat.le_trans hMz hshy4.size
            have hJ := hy4
            obtain ⟨hB, hA⟩ := hrd _ _ _ hJ
            refine VL_pure 8 [0, 6, 7, 8, 4, 5, 23] [(0, .func (.yield L) #[] #[]), (6, .slice (some ⟨sb1, so1, none⟩) n c), (7, .int .i64 ((n : Nat) : Int)), (8, .int .i64 ((j : Nat) : Int)), (4, .int .u8 (bs.getD j 0)), (5, .int .i64 4), (23, .bool false)] (by kernel_rfl) rfl ?_
            refine VL_end (by kernel_rfl) ?_
            refine VQ_next ?_
            refine VC_false (by kernel_rfl) ?_
            refine VC_skip ?_
            refine VQ_block_normal ?_
            refine VQ_next ?_
            refine VC_region ?_
            refine VL_pure 3 [0, 6, 7, 8, 4, 5] [(0, .func (.yield L) #[] #[]), (6, .slice (some ⟨sb1, so1, none⟩) n c), (7, .int .i64 ((n : Nat) : Int)), (8, .int .i64 ((j : Nat) : Int)), (4, .int .u8 (bs.getD j 0)), (5, .int .i64 3)] (by kernel_rfl) rfl ?_
            refine VL_end (by kernel_rfl) ?_
            refine VQ_round ?_
            refine VCL_round ?_
            refine VC_seq ?_
            refine VC_seq ?_
            refine VC_region ?_
            refine VL_pure 2 [0, 6, 7, 8, 4, 5, 13] [(0, .func (.yield L) #[] #[]), (6, .slice (some ⟨sb1, so1, none⟩) n c), (7, .int .i64 ((n : Nat) : Int)), (8, .int .i64 ((j : Nat) : Int)), (4, .int .u8 (bs.getD j 0)), (5, .int .i64 3), (13, .bool true)] (by kernel_rfl) rfl ?_
            refine VL_end (by kernel_rfl) ?_
            refine VQ_next ?_
            refine VC_true (by kernel_rfl) ?_
            refine VC_skip ?_
            refine VQ_next ?_
            refine VC_seq ?_
            refine VC_block ?_
            refine VC_seq ?_
            refine VC_region ?_
            refine VL_pure 6 [0, 6, 7, 8, 4, 5, 16, 21] [(0, .func (.yield L) #[] #[]), (6, .slice (some ⟨sb1, so1, none⟩) n c), (7, .int .i64 ((n : Nat) : Int)), (8, .int .i64 ((j : Nat) : Int)), (4, .int .u8 (bs.getD j 0)), (5, .int .i64 3), (16, .func (.yield L) #[] #[]), (21, .bool ((bAnd .u8 ((bs.getD j 0).fdiv (2 ^ 3)) 1) == 1))] (by kernel_rfl) rfl ?_
            have hzk5 := hMz
            have hzl5 := hB.lt
            refine VL_yield (d := 22) (L := L) (args := #[.bool ((bAnd .u8 ((bs.getD j 0).fdiv (2 ^ 3)) 1) == 1)]) (by kernel_rfl) (by kernel_rfl) (by kernel_rfl) (hy (8 * j + 4) _ _ hMz (bitsV_get (i := 4) (by omega) (by decide) rfl) hJ) ?_
            rintro _ w5 ⟨hshy5, (⟨rfl, hy5⟩ | ⟨rfl, hy5⟩)⟩
            · replace hMz := Nat.le_trans hMz hshy5.size
              have hJ := hy5
              obtain ⟨hB, hA⟩ := hrd _ _ _ hJ
              refine VL_pure 8 [0, 6, 7, 8, 4, 5, 23] [(0, .func (.yield L) #[] #[]), (6, .slice (some ⟨sb1, so1, none⟩) n c), (7, .int .i64 ((n : Nat) : Int)), (8, .int .i64 ((j : Nat) : Int)), (4, .int .u8 (bs.getD j 0)), (5, .int .i64 3), (23, .bool false)] (by kernel_rfl) rfl ?_
              refine VL_end (by kernel_rfl) ?_
              refine VQ_next ?_
              refine VC_false (by kernel_rfl) ?_
              refine VC_skip ?_
              refine VQ_block_normal ?_
              refine VQ_next ?_
              refine VC_region ?_
              refine VL_pure 3 [0, 6, 7, 8, 4, 5] [(0, .func (.yield L) #[] #[]), (6, .slice (some ⟨sb1, so1, none⟩) n c), (7, .int .i64 ((n : Nat) : Int)), (8, .int .i64 ((j : Nat) : Int)), (4, .int .u8 (bs.getD j 0)), (5, .int .i64 2)] (by kernel_rfl) rfl ?_
              refine VL_end (by kernel_rfl) ?_
              refine VQ_round ?_
              refine VCL_round ?_
              refine VC_seq ?_
              refine VC_seq ?_
              refine VC_region ?_
              refine VL_pure 2 [0, 6, 7, 8, 4, 5, 13] [(0, .func (.yield L) #[] #[]), (6, .slice (some ⟨sb1, so1, none⟩) n c), (7, .int .i64 ((n : Nat) : Int)), (8, .int .i64 ((j : Nat) : Int)), (4, .int .u8 (bs.getD j 0)), (5, .int .i64 2), (13, .bool true)] (by kernel_rfl) rfl ?_
              refine VL_end (by kernel_rfl) ?_
              refine VQ_next ?_
              refine VC_true (by kernel_rfl) ?_
              refine VC_skip ?_
              refine VQ_next ?_
              refine VC_seq ?_
              refine VC_block ?_
              refine VC_seq ?_
              refine VC_region ?_
              refine VL_pure 6 [0, 6, 7, 8, 4, 5, 16, 21] [(0, .func (.yield L) #[] #[]), (6, .slice (some ⟨sb1, so1, none⟩) n c), (7, .int .i64 ((n : Nat) : Int)), (8, .int .i64 ((j : Nat) : Int)), (4, .int .u8 (bs.getD j 0)), (5, .int .i64 2), (16, .func (.yield L) #[] #[]), (21, .bool ((bAnd .u8 ((bs.getD j 0).fdiv (2 ^ 2)) 1) == 1))] (by kernel_rfl) rfl ?_
              have hzk6 := hMz
              have hzl6 := hB.lt
              refine VL_yield (d := 22) (L := L) (args := #[.bool ((bAnd .u8 ((bs.getD j 0).fdiv (2 ^ 2)) 1) == 1)]) (by kernel_rfl) (by kernel_rfl) (by kernel_rfl) (hy (8 * j + 5) _ _ hMz (bitsV_get (i := 5) (by omega) (by decide) rfl) hJ) ?_
              rintro _ w6 ⟨hshy6, (⟨rfl, hy6⟩ | ⟨rfl, hy6⟩)⟩
              · replace hMz := Nat.le_trans hMz hshy6.size
                have hJ := hy6
                obtain ⟨hB, hA⟩ := hrd _ _ _ hJ
                refine VL_pure 8 [0, 6, 7, 8, 4, 5, 23] [(0, .func (.yield L) #[] #[]), (6, .slice (some ⟨sb1, so1, none⟩) n c), (7, .int .i64 ((n : Nat) : Int)), (8, .int .i64 ((j : Nat) : Int)), (4, .int .u8 (bs.getD j 0)), (5, .int .i64 2), (23, .bool false)] (by kernel_rfl) rfl ?_
                refine VL_end (by kernel_rfl) ?_
                refine VQ_next ?_
                refine VC_false (by kernel_rfl) ?_
                refine VC_skip ?_
                refine VQ_block_normal ?_
                refine VQ_next ?_
                refine VC_region ?_
                refine VL_pure 3 [0, 6, 7, 8, 4, 5] [(0, .func (.yield L) #[] #[]), (6, .slice (some ⟨sb1, so1, none⟩) n c), (7, .int .i64 ((n : Nat) : Int)), (8, .int .i64 ((j : Nat) : Int)), (4, .int .u8 (bs.getD j 0)), (5, .int .i64 1)] (by kernel_rfl) rfl ?_
                refine VL_end (by kernel_rfl) ?_
                refine VQ_round ?_
                refine VCL_round ?_
                refine VC_seq ?_
                refine VC_seq ?_
                refine VC_region ?_
                refine VL_pure 2 [0, 6, 7, 8, 4, 5, 13] [(0, .func (.yield L) #[] #[]), (6, .slice (some ⟨sb1, so1, none⟩) n c), (7, .int .i64 ((n : Nat) : Int)), (8, .int .i64 ((j : Nat) : Int)), (4, .int .u8 (bs.getD j 0)), (5, .int .i64 1), (13, .bool true)] (by kernel_rfl) rfl ?_
                refine VL_end (by kernel_rfl) ?_
                refine VQ_next ?_
                refine VC_true (by kernel_rfl) ?_
                refine VC_skip ?_
                refine VQ_next ?_
                refine VC_seq ?_
                refine VC_block ?_
                refine VC_seq ?_
                refine VC_region ?_
                refine VL_pure 6 [0, 6, 7, 8, 4, 5, 16, 21] [(0, .func (.yield L) #[] #[]), (6, .slice (some ⟨sb1, so1, none⟩) n c), (7, .int .i64 ((n : Nat) : Int)), (8, .int .i64 ((j : Nat) : Int)), (4, .int .u8 (bs.getD j 0)), (5, .int .i64 1), (16, .func (.yield L) #[] #[]), (21, .bool ((bAnd .u8 ((bs.getD j 0).fdiv (2 ^ 1)) 1) == 1))] (by kernel_rfl) rfl ?_
                have hzk7 := hMz
                have hzl7 := hB.lt
                refine VL_yield (d := 22) (L := L) (args := #[.bool ((bAnd .u8 ((bs.getD j 0).fdiv (2 ^ 1)) 1) == 1)]) (by kernel_rfl) (by kernel_rfl) (by kernel_rfl) (hy (8 * j + 6) _ _ hMz (bitsV_get (i := 6) (by omega) (by decide) rfl) hJ) ?_
                rintro _ w7 ⟨hshy7, (⟨rfl, hy7⟩ | ⟨rfl, hy7⟩)⟩
                · replace hMz := Nat.le_trans hMz hshy7.size
                  have hJ := hy7
                  obtain ⟨hB, hA⟩ := hrd _ _ _ hJ
                  refine VL_pure 8 [0, 6, 7, 8, 4, 5, 23] [(0, .func (.yield L) #[] #[]), (6, .slice (some ⟨sb1, so1, none⟩) n c), (7, .int .i64 ((n : Nat) : Int)), (8, .int .i64 ((j : Nat) : Int)), (4, .int .u8 (bs.getD j 0)), (5, .int .i64 1), (23, .bool false)] (by kernel_rfl) rfl ?_
                  refine VL_end (by kernel_rfl) ?_
                  refine VQ_next ?_
                  refine VC_false (by kernel_rfl) ?_
                  refine VC_skip ?_
                  refine VQ_block_normal ?_
                  refine VQ_next ?_
                  refine VC_region ?_
                  refine VL_pure 3 [0, 6, 7, 8, 4, 5] [(0, .func (.yield L) #[] #[]), (6, .slice (some ⟨sb1, so1, none⟩) n c), (7, .int .i64 ((n : Nat) : Int)), (8, .int .i64 ((j : Nat) : Int)), (4, .int .u8 (bs.getD j 0)), (5, .int .i64 0)] (by kernel_rfl) rfl ?_
                  refine VL_end (by kernel_rfl) ?_
                  refine VQ_round ?_
                  refine VCL_round ?_
                  refine VC_seq ?_
                  refine VC_seq ?_
                  refine VC_region ?_
                  refine VL_pure 2 [0, 6, 7, 8, 4, 5, 13] [(0, .func (.yield L) #[] #[]), (6, .slice (some ⟨sb1, so1, none⟩) n c), (7, .int .i64 ((n : Nat) : Int)), (8, .int .i64 ((j : Nat) : Int)), (4, .int .u8 (bs.getD j 0)), (5, .int .i64 0), (13, .bool true)] (by kernel_rfl) rfl ?_
                  refine VL_end (by kernel_rfl) ?_
                  refine VQ_next ?_
                  refine VC_true (by kernel_rfl) ?_
                  refine VC_skip ?_
                  refine VQ_next ?_
                  refine VC_seq ?_
                  refine VC_block ?_
                  refine VC_seq ?_
                  refine VC_region ?_
                  refine VL_pure 6 [0, 6, 7, 8, 4, 5, 16, 21] [(0, .func (.yield L) #[] #[]), (6, .slice (some ⟨sb1, so1, none⟩) n c), (7, .int .i64 ((n : Nat) : Int)), (8, .int .i64 ((j : Nat) : Int)), (4, .int .u8 (bs.getD j 0)), (5, .int .i64 0), (16, .func (.yield L) #[] #[]), (21, .bool ((bAnd .u8 ((bs.getD j 0).fdiv (2 ^ 0)) 1) == 1))] (by kernel_rfl) rfl ?_
                  have hzk8 := hMz
                  have hzl8 := hB.lt
                  refine VL_yield (d := 22) (L := L) (args := #[.bool ((bAnd .u8 ((bs.getD j 0).fdiv (2 ^ 0)) 1) == 1)]) (by kernel_rfl) (by kernel_rfl) (by kernel_rfl) (hy (8 * j + 7) _ _ hMz (bitsV_get (i := 7) (by omega) (by decide) rfl) hJ) ?_
                  rintro _ w8 ⟨hshy8, (⟨rfl, hy8⟩ | ⟨rfl, hy8⟩)⟩
                  · replace hMz := Nat.le_trans hMz hshy8.size
                    have hJ := hy8
                    obtain ⟨hB, hA⟩ := hrd _ _ _ hJ
                    refine VL_pure 8 [0, 6, 7, 8, 4, 5, 23] [(0, .func (.yield L) #[] #[]), (6, .slice (some ⟨sb1, so1, none⟩) n c), (7, .int .i64 ((n : Nat) : Int)), (8, .int .i64 ((j : Nat) : Int)), (4, .int .u8 (bs.getD j 0)), (5, .int .i64 0), (23, .bool false)] (by kernel_rfl) rfl ?_
                    refine VL_end (by kernel_rfl) ?_
                    refine VQ_next ?_
                    refine VC_false (by kernel_rfl) ?_
                    refine VC_skip ?_
                    refine VQ_block_normal ?_
                    refine VQ_next ?_
                    refine VC_region ?_
                    refine VL_pure 3 [0, 6, 7, 8, 4, 5] [(0, .func (.yield L) #[] #[]), (6, .slice (some ⟨sb1, so1, none⟩) n c), (7, .int .i64 ((n : Nat) : Int)), (8, .int .i64 ((j : Nat) : Int)), (4, .int .u8 (bs.getD j 0)), (5, .int .i64 (-1))] (by kernel_rfl) rfl ?_
                    refine VL_end (by kernel_rfl) ?_
                    refine VQ_round ?_
                    refine VCL_round ?_
                    refine VC_seq ?_
                    refine VC_seq ?_
                    refine VC_region ?_
                    refine VL_pure 2 [0, 6, 7, 8, 4, 5, 13] [(0, .func (.yield L) #[] #[]), (6, .slice (some ⟨sb1, so1, none⟩) n c), (7, .int .i64 ((n : Nat) : Int)), (8, .int .i64 ((j : Nat) : Int)), (4, .int .u8 (bs.getD j 0)), (5, .int .i64 (-1)), (13, .bool false)] (by kernel_rfl) rfl ?_
                    refine VL_end (by kernel_rfl) ?_
                    refine VQ_next ?_
                    refine VC_false (by kernel_rfl) ?_
                    refine VC_exit ?_
                    refine VQ_then_exit ?_
                    refine VQ_then_exit ?_
                    refine VQ_block_hit ?_
                    refine VQ_block_normal ?_
                    refine VQ_next ?_
                    refine VC_region ?_
                    refine VL_pure 1 [0, 6, 7, 24] [(0, .func (.yield L) #[] #[]), (6, .slice (some ⟨sb1, so1, none⟩) n c), (7, .int .i64 ((n : Nat) : Int)), (24, .int .i64 (IntKind.wrap .i64 (((j : Nat) : Int) + 1)))] (by kernel_rfl) rfl ?_
                    have he1 : IntKind.wrap .i64 (((j : Nat) : Int) + 1) = ((j + 1 : Nat) : Int) := (by rw [wrap_i64 _ (by omega) (by omega)]; omega)
                    refine VL_eq [(0, .func (.yield L) #[] #[]), (6, .slice (some ⟨sb1, so1, none⟩) n c), (7, .int .i64 ((n : Nat) : Int)), (24, .int .i64 ((j + 1 : Nat) : Int))] (by rw [he1]) ?_
                    refine VL_pure 2 [0, 6, 7, 8] [(0, .func (.yield L) #[] #[]), (6, .slice (some ⟨sb1, so1, none⟩) n c), (7, .int .i64 ((n : Nat) : Int)), (8, .int .i64 ((j + 1 : Nat) : Int))] (by kernel_rfl) rfl ?_
                    refine VL_end (by kernel_rfl) ?_
                    refine VQ_again (j + 1) ⟨rfl, rfl, rfl, rfl, trivial⟩ ?_ ?_
                    · exact ⟨by omega, hJ, hMz, hB, hA⟩
                    · (try dsimp only); omega
                  · refine VL_pure 8 [0, 6, 7, 8, 4, 5, 23] [(0, .func (.yield L) #[] #[]), (6, .slice (some ⟨sb1, so1, none⟩) n c), (7, .int .i64 ((n : Nat) : Int)), (8, .int .i64 ((j : Nat) : Int)), (4, .int .u8 (bs.getD j 0)), (5, .int .i64 0), (23, .bool true)] (by kernel_rfl) rfl ?_
                    refine VL_end (by kernel_rfl) ?_
                    refine VQ_next ?_
                    refine VC_true (by kernel_rfl) ?_
                    refine VC_ret ?_
                    refine VQ_block_ret ?_
                    refine VQ_then_ret ?_
                    refine VQ_then_ret ?_
                    refine VQ_block_ret ?_
                    refine VQ_block_ret ?_
                    refine VQ_then_ret ?_
                    refine VQ_then_ret ?_
                    refine VQ_block_ret ?_
                    refine VQ_ret0 (.inr rfl) rfl ?_
                    exact .inr ⟨_, by rw [bitsV_len]; omega, hy8⟩
                · refine VL_pure 8 [0, 6, 7, 8, 4, 5, 23] [(0, .func (.yield L) #[] #[]), (6, .slice (some ⟨sb1, so1, none⟩) n c), (7, .int .i64 ((n : Nat) : Int)), (8, .int .i64 ((j : Nat) : Int)), (4, .int .u8 (bs.getD j 0)), (5, .int .i64 1), (23, .bool true)] (by kernel_rfl) rfl ?_
                  refine VL_end (by kernel_rfl) ?_
                  refine VQ_next ?_
                  refine VC_true (by kernel_rfl) ?_
                  refine VC_ret ?_
                  refine VQ_block_ret ?_
                  refine VQ_then_ret ?_
                  refine VQ_then_ret ?_
                  refine VQ_block_ret ?_
                  refine VQ_block_ret ?_
                  refine VQ_then_ret ?_
                  refine VQ_then_ret ?_
                  refine VQ_block_ret ?_
                  refine VQ_ret0 (.inr rfl) rfl ?_
                  exact .inr ⟨_, by rw [bitsV_len]; omega, hy7⟩
              · refine VL_pure 8 [0, 6, 7, 8, 4, 5, 23] [(0, .func (.yield L) #[] #[]), (6, .slice (some ⟨sb1, so1, none⟩) n c), (7, .int .i64 ((n : Nat) : Int)), (8, .int .i64 ((j : Nat) : Int)), (4, .int .u8 (bs.getD j 0)), (5, .int .i64 2), (23, .bool true)] (by kernel_rfl) rfl ?_
                refine VL_end (by kernel_rfl) ?_
                refine VQ_next ?_
                refine VC_true (by kernel_rfl) ?_
                refine VC_ret ?_
                refine VQ_block_ret ?_
                refine VQ_then_ret ?_
                refine VQ_then_ret ?_
                refine VQ_block_ret ?_
                refine VQ_block_ret ?_
                refine VQ_then_ret ?_
                refine VQ_then_ret ?_
                refine VQ_block_ret ?_
                refine VQ_ret0 (.inr rfl) rfl ?_
                exact .inr ⟨_, by rw [bitsV_len]; omega, hy6⟩
            · refine VL_pure 8 [0, 6, 7, 8, 4, 5, 23] [(0, .func (.yield L) #[] #[]), (6, .slice (some ⟨sb1, so1, none⟩) n c), (7, .int .i64 ((n : Nat) : Int)), (8, .int .i64 ((j : Nat) : Int)), (4, .int .u8 (bs.getD j 0)), (5, .int .i64 3), (23, .bool true)] (by kernel_rfl) rfl ?_
              refine VL_end (by kernel_rfl) ?_
              refine VQ_next ?_
              refine VC_true (by kernel_rfl) ?_
              refine VC_ret ?_
              refine VQ_block_ret ?_
              refine VQ_then_ret ?_
              refine VQ_then_ret ?_
              refine VQ_block_ret ?_
              refine VQ_block_ret ?_
              refine VQ_then_ret ?_
              refine VQ_then_ret ?_
              refine VQ_block_ret ?_
              refine VQ_ret0 (.inr rfl) rfl ?_
              exact .inr ⟨_, by rw [bitsV_len]; omega, hy5⟩
          · refine VL_pure 8 [0, 6, 7, 8, 4, 5, 23] [(0, .func (.yield L) #[] #[]), (6, .slice (some ⟨sb1, so1, none⟩) n c), (7, .int .i64 ((n : Nat) : Int)), (8, .int .i64 ((j : Nat) : Int)), (4, .int .u8 (bs.getD j 0)), (5, .int .i64 4), (23, .bool true)] (by kernel_rfl) rfl ?_
            refine VL_end (by kernel_rfl) ?_
            refine VQ_next ?_
            refine VC_true (by kernel_rfl) ?_
            refine VC_ret ?_
            refine VQ_block_ret ?_
            refine VQ_then_ret ?_
            refine VQ_then_ret ?_
            refine VQ_block_ret ?_
            refine VQ_block_ret ?_
            refine VQ_then_ret ?_
            refine VQ_then_ret ?_
            refine VQ_block_ret ?_
            refine VQ_ret0 (.inr rfl) rfl ?_
            exact .inr ⟨_, by rw [bitsV_len]; omega, hy4⟩
        · refine VL_pure 8 [0, 6, 7, 8, 4, 5, 23] [(0, .func (.yield L) #[] #[]), (6, .slice (some ⟨sb1, so1, none⟩) n c), (7, .int .i64 ((n : Nat) : Int)), (8, .int .i64 ((j : Nat) : Int)), (4, .int .u8 (bs.getD j 0)), (5, .int .i64 5), (23, .bool true)] (by kernel_rfl) rfl ?_
          refine VL_end (by kernel_rfl) ?_
          refine VQ_next ?_
          refine VC_true (by kernel_rfl) ?_
          refine VC_ret ?_
          refine VQ_block_ret ?_
          refine VQ_then_ret ?_
          refine VQ_then_ret ?_
          refine VQ_block_ret ?_
          refine VQ_block_ret ?_
          refine VQ_then_ret ?_
          refine VQ_then_ret ?_
          refine VQ_block_ret ?_
          refine VQ_ret0 (.inr rfl) rfl ?_
          exact .inr ⟨_, by rw [bitsV_len]; omega, hy3⟩
      · refine VL_pure 8 [0, 6, 7, 8, 4, 5, 23] [(0, .func (.yield L) #[] #[]), (6, .slice (some ⟨sb1, so1, none⟩) n c), (7, .int .i64 ((n : Nat) : Int)), (8, .int .i64 ((j : Nat) : Int)), (4, .int .u8 (bs.getD j 0)), (5, .int .i64 6), (23, .bool true)] (by kernel_rfl) rfl ?_
        refine VL_end (by kernel_rfl) ?_
        refine VQ_next ?_
        refine VC_true (by kernel_rfl) ?_
        refine VC_ret ?_
        refine VQ_block_ret ?_
        refine VQ_then_ret ?_
        refine VQ_then_ret ?_
        refine VQ_block_ret ?_
        refine VQ_block_ret ?_
        refine VQ_then_ret ?_
        refine VQ_then_ret ?_
        refine VQ_block_ret ?_
        refine VQ_ret0 (.inr rfl) rfl ?_
        exact .inr ⟨_, by rw [bitsV_len]; omega, hy2⟩
    · refine VL_pure 8 [0, 6, 7, 8, 4, 5, 23] [(0, .func (.yield L) #[] #[]), (6, .slice (some ⟨sb1, so1, none⟩) n c), (7, .int .i64 ((n : Nat) : Int)), (8, .int .i64 ((j : Nat) : Int)), (4, .int .u8 (bs.getD j 0)), (5, .int .i64 7), (23, .bool true)] (by kernel_rfl) rfl ?_
      refine VL_end (by kernel_rfl) ?_
      refine VQ_next ?_
      refine VC_true (by kernel_rfl) ?_
      refine VC_ret ?_
      refine VQ_block_ret ?_
      refine VQ_then_ret ?_
      refine VQ_then_ret ?_
      refine VQ_block_ret ?_
      refine VQ_block_ret ?_
      refine VQ_then_ret ?_
      refine VQ_then_ret ?_
      refine VQ_block_ret ?_
      refine VQ_ret0 (.inr rfl) rfl ?_
      exact .inr ⟨_, by rw [bitsV_len]; omega, hy1⟩
  · refine VC_exit ?_
    refine VQ_then_exit ?_
    refine VQ_then_exit ?_
    refine VQ_block_hit ?_
    refine VQ_ret0 (.inl rfl) rfl ?_
    obtain rfl : j = n := by omega
    exact .inl (by rw [bitsV_len, hn]; exact hJ)

theorem bits_iter (B n c Bd : Nat) (A : Option Addr) (bs : List Int) (hn : bs.length = n) (hlen : n < 1152921504606846976) :
    IterC Try.prog 40 #[.pointer (some ⟨B, 0, none⟩)] (bitsV bs) (fun _ W => Own W B #[.slice A n c] 32 ∧ Sl W Bd A (iL .u8 bs)) := by
  intro L W0 J Jx hJn hJxn hrd hrd0 h0 hy
  refine CV.mono (bits1_any L B n c Bd A bs hn W0 J Jx W0.heap.size hJn hrd (h0 _ _ (Nat.le_refl _) (Nat.le_refl _) (Step.refl _ _)) hlen (fun k W args hM hx hj => hy _ k W args (Nat.le_refl _) hM hx hj) (Nat.le_refl _)) fun v W' hh => ⟨_, Nat.le_refl _, hh⟩
set_option maxRecDepth 100000 in
set_option maxHeartbeats 4000000 in
theorem bits_any (A : Option Addr) (n c : Nat) (w : World) :
    CV Try.prog 39 #[.slice A n c] w (fun x w1 => ∃ B, x = .func (.func 40) #[] #[.pointer (some ⟨B, 0, none⟩)] ∧ ¬ B < w.heap.size ∧ Own w1 B #[.slice A n c] 32 ∧ Step No w w1) := by
  have hS : Step No w w := Step.refl _ _
  refine CV_enter Try.f39 _ 4 [(0, .slice A n c)] Try.func39 rfl rfl (by kernel_rfl) rfl ?_
  refine VC_seq ?_
  refine VC_region ?_
  have hzs1 := hS.size
  refine VL_box (d := 1) (t := 32) (c := #[.slice A n c]) (by kernel_rfl) (by kernel_rfl) ?_
  intro b1 w1 hn1
  replace hS := Step.trans hS (hn1.step No)
  have ho1 := hn1.own
  have hzhn1 := hn1.size
  have hqhn1 := hn1.eqb
  refine VL_pure 2 [1] [(1, .pointer (some ⟨b1, 0, none⟩))] (by kernel_rfl) rfl ?_
  refine VL_end (by kernel_rfl) ?_
  refine VQ_next ?_
  refine VC_seq ?_
  refine VC_region ?_
  refine VL_pure 2 [2] [(2, .func (.func 40) #[] #[.pointer (some ⟨b1, 0, none⟩)])] (by kernel_rfl) rfl ?_
  refine VL_end (by kernel_rfl) ?_
  refine VQ_next ?_
  refine VC_ret ?_
  refine VQ_ret1 (.func (.func 40) #[] #[.pointer (some ⟨b1, 0, none⟩)]) (.inr rfl) rfl rfl ?_
  exact ⟨b1, rfl, by omega, ho1, hS⟩

set_option maxRecDepth 100000 in
set_option maxHeartbeats 4000000 in
theorem rest_any (A : Option Addr) (n c Bd : Nat) (bs : List Int) (w : World) (hn : bs.length = n) (hA : Sl w Bd A (iL .u8 bs)) (r top by_ : Int) (hlen : n < 1152921504606846976) (hBd : Bd ≤ w.heap.size) :
    CV Try.prog 38 #[.slice A n c, .int .u32 r, .int .u32 top, .int .u32 by_] w (fun x w1 => x = .int .u32 (restB bs r top by_) ∧ Step No w w1) := by
  have hS : Step No w w := Step.refl _ _
  refine CV_enterM Try.f38 _ 33 [(0, .slice A n c), (1, .int .u32 r), (2, .int .u32 top), (3, .int .u32 by_)] Try.func38 rfl rfl (by kernel_rfl) rfl ?_
  refine VC_seq ?_
  refine VC_region ?_
  have hzs1 := hS.size
  refine VL_box (d := 5) (t := 44) (c := #[.int .u32 r]) (by kernel_rfl) (by kernel_rfl) ?_
  intro b1 w1 hn1
  replace hS := Step.trans hS (hn1.step No)
  replace hA := hA.no (hn1.step No)
  have ho1 := hn1.own
  have hzhn1 := hn1.size
  have hqhn1 := hn1.eqb
  have hzs2 := hS.size
  have hzl1 := ho1.lt
  refine VL_box (d := 6) (t := 44) (c := #[.int .u32 top]) (by kernel_rfl) (by kernel_rfl) ?_
  intro b2 w2 hn2
  replace hS := Step.trans hS (hn2.step No)
  replace hA := hA.no (hn2.step No)
  replace ho1 := ho1.no (hn2.step No)
  have ho2 := hn2.own
  have hzhn2 := hn2.size
  have hqhn2 := hn2.eqb
  have hzs3 := hS.size
  have hzl2 := ho1.lt
  have hzl3 := ho2.lt
  refine VL_box (d := 7) (t := 44) (c := #[.int .u32 by_]) (by kernel_rfl) (by kernel_rfl) ?_
  intro b3 w3 hn3
  replace hS := Step.trans hS (hn3.step No)
  replace hA := hA.no (hn3.step No)
  replace ho1 := ho1.no (hn3.step No)
  replace ho2 := ho2.no (hn3.step No)
  have ho3 := hn3.own
  have hzhn3 := hn3.size
  have hqhn3 := hn3.eqb
  refine VL_pure 4 [0, 5, 6, 7, 8] [(0, .slice A n c), (5, .pointer (some ⟨b1, 0, none⟩)), (6, .pointer (some ⟨b2, 0, none⟩)), (7, .pointer (some ⟨b3, 0, none⟩)), (8, .int .u32 0)] (by kernel_rfl) rfl ?_
  refine VL_end (by kernel_rfl) ?_
  refine VQ_next ?_
  refine VC_scope ?_
  refine VC_seq ?_
  refine VC_region ?_
  refine VL_load (d := 12) (t := 44) (a := ⟨b2, 0, none⟩) (v := .int .u32 top) (by kernel_rfl) (by kernel_rfl) (Loads.own1 ho2 (by kernel_rfl) (by rfl)) ?_
  refine VL_pure 3 [0, 5, 6, 7, 8, 14] [(0, .slice A n c), (5, .pointer (some ⟨b1, 0, none⟩)), (6, .pointer (some ⟨b2, 0, none⟩)), (7, .pointer (some ⟨b3, 0, none⟩)), (8, .int .u32 0), (14, .int .u32 (IntKind.wrap .u32 ((IntKind.wrap .u32 (top * 2 ^ 1)) - 1)))] (by kernel_rfl) rfl ?_
  have hzs4 := hS.size
  have hzl4 := ho1.lt
  have hzl5 := ho2.lt
  have hzl6 := ho3.lt
  refine VL_box (d := 9) (t := 44) (c := #[.int .u32 0]) (by kernel_rfl) (by kernel_rfl) ?_
  intro b4 w4 hn4
  replace hS := Step.trans hS (hn4.step No)
  replace hA := hA.no (hn4.step No)
  replace ho1 := ho1.no (hn4.step No)
  replace ho2 := ho2.no (hn4.step No)
  replace ho3 := ho3.no (hn4.step No)
  have ho4 := hn4.own
  have hzhn4 := hn4.size
  have hqhn4 := hn4.eqb
  refine VL_store (b := b4) (o := 0) (vs := [.int .u32 (IntKind.wrap .u32 ((IntKind.wrap .u32 (top * 2 ^ 1)) - 1))]) (by kernel_rfl) (by kernel_rfl) ho4 (Nat.le_of_ble_eq_true (by kernel_rfl)) ?_
  intro w5 hw1
  replace hS := Step.transNew hS hw1.step (fun _ _ _ => by omega)
  replace hA := hA.step hw1.step (fun k hk (hF : k = b4) => by omega)
  replace ho1 := ho1.step hw1.step (show ¬ b1 = b4 by omega)
  replace ho2 := ho2.step hw1.step (show ¬ b2 = b4 by omega)
  replace ho3 := ho3.step hw1.step (show ¬ b3 = b4 by omega)
  have ho5 : Own w5 b4 #[.int .u32 (IntKind.wrap .u32 ((IntKind.wrap .u32 (top * 2 ^ 1)) - 1))] 44 := Own.cast hw1.own (by kernel_rfl)
  have hzhw1 := hw1.same
  refine VL_end (by kernel_rfl) ?_
  refine VQ_next ?_
  refine VC_seq ?_
  refine VC_label ?_
  refine VQ_next ?_
  refine VC_seq ?_
  refine VC_seq ?_
  refine VC_region ?_
  refine VL_pure 1 [5, 6, 7, 8, 9, 15] [(5, .pointer (some ⟨b1, 0, none⟩)), (6, .pointer (some ⟨b2, 0, none⟩)), (7, .pointer (some ⟨b3, 0, none⟩)), (8, .int .u32 0), (9, .pointer (some ⟨b4, 0, none⟩)), (15, .slice A n c)] (by kernel_rfl) rfl ?_
  have hzs5 := hS.size
  have hzl7 := ho1.lt
  have hzl8 := ho2.lt
  have hzl9 := ho3.lt
  have hzl10 := ho5.lt
  refine VL_call (d := 16) (f := 39) (args := #[.slice A n c]) (by kernel_rfl) (by kernel_rfl) (by kernel_rfl) Try.call39 (bits_any A n c _) ?_
  rintro _ w6 ⟨bb1, rfl, hfbb1, hbb1, hc1⟩
  replace hS := Step.trans hS hc1
  replace hA := hA.no hc1
  replace ho1 := ho1.no hc1
  replace ho2 := ho2.no hc1
  replace ho3 := ho3.no hc1
  replace ho5 := ho5.no hc1
  have hzbb1 := hbb1.lt
  refine VL_end (by kernel_rfl) ?_
  refine VQ_next ?_
  refine VC_block ?_
  have hzs6 := hS.size
  have hzl11 := ho1.lt
  have hzl12 := ho2.lt
  have hzl13 := ho3.lt
  have hzl14 := ho5.lt
  have hzl15 := hbb1.lt
  refine VC_range (gf := 40) (lb := #[.pointer (some ⟨bb1, 0, none⟩)]) (xs := (bitsV bs)) (by kernel_rfl) Try.call40 (bits_iter bb1 n c Bd A bs hn hlen) (fun a ha => by obtain ⟨x, _, rfl⟩ := List.mem_map.1 ha; rfl) (by kernel_rfl) (fun _ i => i = b1) (fun M i hi => by have : i = b1 := hi; omega) (fun _ k W => (Step No w W) ∧ (Sl W Bd A (iL .u8 bs)) ∧ (Own W b1 #[.int .u32 (((bitsL bs).take k).foldl (stepB top by_) r)] 44) ∧ (Own W b2 #[.int .u32 top] 44) ∧ (Own W b3 #[.int .u32 by_] 44) ∧ (Own W b4 #[.int .u32 (IntKind.wrap .u32 ((IntKind.wrap .u32 (top * 2 ^ 1)) - 1))] 44) ∧ (Own W bb1 #[.slice A n c] 32)) (fun _ _ => False) (by rintro M k W W' ⟨hS, hA, ho1, ho2, ho3, ho5, hbb1⟩ hs; exact ⟨Step.transNew hS hs (fun i hi hG => by have : i = (w6.heap.size + 1) := hG; omega), hA.step hs (fun k hk (hF : k = (w6.heap.size + 1)) => by omega), ho1.step hs (show ¬ b1 = (w6.heap.size + 1) by omega), ho2.step hs (show ¬ b2 = (w6.heap.size + 1) by omega), ho3.step hs (show ¬ b3 = (w6.heap.size + 1) by omega), ho5.step hs (show ¬ b4 = (w6.heap.size + 1) by omega), hbb1.step hs (show ¬ bb1 = (w6.heap.size + 1) by omega)⟩) (fun _ _ _ h _ => h.elim) (by rintro M k W W' ⟨hS, hA, ho1, ho2, ho3, ho5, hbb1⟩ hs; exact ⟨Step.trans hS hs, hA.no hs, ho1.no hs, ho2.no hs, ho3.no hs, ho5.no hs, hbb1.no hs⟩) (fun _ _ _ h _ => h.elim) (by rintro M k W ⟨hS, hA, ho1, ho2, ho3, ho5, hbb1⟩; exact ⟨hbb1, hA⟩) (fun W hs => ⟨hbb1.no hs, hA.no hs⟩) (fun M W hM hM2 hs _ => ⟨Step.trans hS hs, hA.no hs, ho1.no hs, ho2.no hs, ho3.no hs, ho5.no hs, hbb1.no hs⟩) ?_ ?_ ?_
  · intro M k w7 args hM hM2 hx hJ0 hsz
    obtain ⟨hS, hA, ho1, ho2, ho3, ho5, hbb1⟩ := hJ0
    obtain ⟨bit, hbit, rfl⟩ : ∃ bit, (bitsL bs)[k]? = some bit ∧ args = #[.bool bit] := by
      rw [bitsV, List.getElem?_map] at hx
      obtain ⟨x, h1, h2⟩ := Option.map_eq_some_iff.1 hx
      exact ⟨x, h1, h2.symm⟩
    refine VC_keep [5, 6, 7, 9, 17] [(5, .pointer (some ⟨b1, 0, none⟩)), (6, .pointer (some ⟨b2, 0, none⟩)), (7, .pointer (some ⟨b3, 0, none⟩)), (9, .pointer (some ⟨b4, 0, none⟩)), (17, .bool bit)] (by kernel_rfl) ?_
    refine VC_region ?_
    refine VL_pure 1 [5, 6, 7, 9, 17, 10] [(5, .pointer (some ⟨b1, 0, none⟩)), (6, .pointer (some ⟨b2, 0, none⟩)), (7, .pointer (some ⟨b3, 0, none⟩)), (9, .pointer (some ⟨b4, 0, none⟩)), (17, .bool bit), (10, .bool bit)] (by kernel_rfl) rfl ?_
    refine VL_end (by kernel_rfl) ?_
    refine VQ_begin (Step.refl _ _) ?_
    intro w8 hb1 hzhb1
    have hzs7 := hS.size
    have hzl16 := ho1.lt
    have hzl17 := ho2.lt
    have hzl18 := ho3.lt
    have hzl19 := ho5.lt
    have hzl20 := hbb1.lt
    replace hS := Step.transNew hS hb1 (fun _ _ _ => by omega)
    replace hA := hA.step hb1 (fun k hk (hF : k = (w6.heap.size + 1)) => by omega)
    replace ho1 := ho1.step hb1 (show ¬ b1 = (w6.heap.size + 1) by omega)
    replace ho2 := ho2.step hb1 (show ¬ b2 = (w6.heap.size + 1) by omega)
    replace ho3 := ho3.step hb1 (show ¬ b3 = (w6.heap.size + 1) by omega)
    replace ho5 := ho5.step hb1 (show ¬ b4 = (w6.heap.size + 1) by omega)
    replace hbb1 := hbb1.step hb1 (show ¬ bb1 = (w6.heap.size + 1) by omega)
    have hR1 : Step ((fun _ i => i = b1) M) w8 w8 := Step.refl _ _
    refine VC_block ?_
    refine VC_seq ?_
    refine VC_region ?_
    refine VL_load (d := 18) (t := 44) (a := ⟨b1, 0, none⟩) (v := .int .u32 (((bitsL bs).take k).foldl (stepB top by_) r)) (by kernel_rfl) (by kernel_rfl) (Loads.own1 ho1 (by kernel_rfl) (by rfl)) ?_
    refine VL_load (d := 19) (t := 44) (a := ⟨b2, 0, none⟩) (v := .int .u32 top) (by kernel_rfl) (by kernel_rfl) (Loads.own1 ho2 (by kernel_rfl) (by rfl)) ?_
    refine VL_pure 5 [5, 7, 9, 10, 11] [(5, .pointer (some ⟨b1, 0, none⟩)), (7, .pointer (some ⟨b3, 0, none⟩)), (9, .pointer (some ⟨b4, 0, none⟩)), (10, .bool bit), (11, .bool ((bAnd .u32 (((bitsL bs).take k).foldl (stepB top by_) r) top) != 0))] (by kernel_rfl) rfl ?_
    refine VL_end (by kernel_rfl) ?_
    refine VQ_next ?_
    refine VC_seq ?_
    refine VC_region ?_
    refine VL_load (d := 22) (t := 44) (a := ⟨b1, 0, none⟩) (v := .int .u32 (((bitsL bs).take k).foldl (stepB top by_) r)) (by kernel_rfl) (by kernel_rfl) (Loads.own1 ho1 (by kernel_rfl) (by rfl)) ?_
    refine VL_pure 2 [5, 7, 9, 10, 11, 23] [(5, .pointer (some ⟨b1, 0, none⟩)), (7, .pointer (some ⟨b3, 0, none⟩)), (9, .pointer (some ⟨b4, 0, none⟩)), (10, .bool bit), (11, .bool ((bAnd .u32 (((bitsL bs).take k).foldl (stepB top by_) r) top) != 0)), (23, .int .u32 (IntKind.wrap .u32 ((((bitsL bs).take k).foldl (stepB top by_) r) * 2 ^ 1)))] (by kernel_rfl) rfl ?_
    refine VL_load (d := 24) (t := 44) (a := ⟨b4, 0, none⟩) (v := .int .u32 (IntKind.wrap .u32 ((IntKind.wrap .u32 (top * 2 ^ 1)) - 1))) (by kernel_rfl) (by kernel_rfl) (Loads.own1 ho5 (by kernel_rfl) (by rfl)) ?_
    refine VL_pure 4 [5, 7, 10, 11, 25] [(5, .pointer (some ⟨b1, 0, none⟩)), (7, .pointer (some ⟨b3, 0, none⟩)), (10, .bool bit), (11, .bool ((bAnd .u32 (((bitsL bs).take k).foldl (stepB top by_) r) top) != 0)), (25, .int .u32 (bAnd .u32 (IntKind.wrap .u32 ((((bitsL bs).take k).foldl (stepB top by_) r) * 2 ^ 1)) (IntKind.wrap .u32 ((IntKind.wrap .u32 (top * 2 ^ 1)) - 1))))] (by kernel_rfl) rfl ?_
    refine VL_store (b := b1) (o := 0) (vs := [.int .u32 (bAnd .u32 (IntKind.wrap .u32 ((((bitsL bs).take k).foldl (stepB top by_) r) * 2 ^ 1)) (IntKind.wrap .u32 ((IntKind.wrap .u32 (top * 2 ^ 1)) - 1)))]) (by kernel_rfl) (by kernel_rfl) ho1 (Nat.le_of_ble_eq_true (by kernel_rfl)) ?_
    intro w9 hw2
    replace hS := Step.transNew hS hw2.step (fun _ _ _ => by omega)
    replace hA := hA.step hw2.step (fun k hk (hF : k = b1) => by omega)
    replace ho2 := ho2.step hw2.step (show ¬ b2 = b1 by omega)
    replace ho3 := ho3.step hw2.step (show ¬ b3 = b1 by omega)
    replace ho5 := ho5.step hw2.step (show ¬ b4 = b1 by omega)
    replace hbb1 := hbb1.step hw2.step (show ¬ bb1 = b1 by omega)
    replace hR1 := Step.trans hR1 (Step.mono hw2.step (by intro i hi; first | exact hi | (have hi9 : i = b1 := hi; (first | show _ ∨ _ | show _ = _); omega)))
    have ho6 : Own w9 b1 #[.int .u32 (bAnd .u32 (IntKind.wrap .u32 ((((bitsL bs).take k).foldl (stepB top by_) r) * 2 ^ 1)) (IntKind.wrap .u32 ((IntKind.wrap .u32 (top * 2 ^ 1)) - 1)))] 44 := Own.cast hw2.own (by kernel_rfl)
    have hzhw2 := hw2.same
    refine VL_end (by kernel_rfl) ?_
    refine VQ_next ?_
    refine VC_seq ?_
    refine VC_seq ?_
    refine VC_region ?_
    refine VL_pure 3 [5, 7, 28] [(5, .pointer (some ⟨b1, 0, none⟩)), (7, .pointer (some ⟨b3, 0, none⟩)), (28, .bool (((bAnd .u32 (((bitsL bs).take k).foldl (stepB top by_) r) top) != 0) == bit))] (by kernel_rfl) rfl ?_
    refine VL_end (by kernel_rfl) ?_
    refine VQ_next ?_
    refine VC_cond (((bAnd .u32 (((bitsL bs).take k).foldl (stepB top by_) r) top) != 0) == bit) (by kernel_rfl) (fun h1 => ?_) (fun h1 => ?_)
    · try simp only [Bool.and_eq_true, Bool.or_eq_true, decide_eq_true_eq, Bool.not_eq_true', decide_eq_false_iff_not, Bool.and_eq_false_iff, Bool.or_eq_false_iff, beq_iff_eq, bne_iff_ne, beq_eq_false_iff_ne, bne_eq_false_iff_eq, Bool.not_eq_eq_eq_not, Bool.not_true, Bool.not_false] at h1
      refine VC_exit ?_
      refine VQ_then_exit ?_
      refine VQ_block_hit ?_
      exact VQ_round_end hR1 ⟨hS, hA, (Own.cast ho6 (by rw [foldl_take_succ _ _ _ _ _ hbit, stepB]; rw [if_pos (beq_iff_eq.2 h1)]; rfl)), ho2, ho3, ho5, hbb1⟩
    · try simp only [Bool.and_eq_true, Bool.or_eq_true, decide_eq_true_eq, Bool.not_eq_true', decide_eq_false_iff_not, Bool.and_eq_false_iff, Bool.or_eq_false_iff, beq_iff_eq, bne_iff_ne, beq_eq_false_iff_ne, bne_eq_false_iff_eq, Bool.not_eq_eq_eq_not, Bool.not_true, Bool.not_false] at h1
      refine VC_skip ?_
      refine VQ_next ?_
      refine VC_region ?_
      refine VL_load (d := 29) (t := 44) (a := ⟨b1, 0, none⟩) (v := .int .u32 (bAnd .u32 (IntKind.wrap .u32 ((((bitsL bs).take k).foldl (stepB top by_) r) * 2 ^ 1)) (IntKind.wrap .u32 ((IntKind.wrap .u32 (top * 2 ^ 1)) - 1)))) (by kernel_rfl) (by kernel_rfl) (Loads.own1 ho6 (by kernel_rfl) (by rfl)) ?_
      refine VL_load (d := 30) (t := 44) (a := ⟨b3, 0, none⟩) (v := .int .u32 by_) (by kernel_rfl) (by kernel_rfl) (Loads.own1 ho3 (by kernel_rfl) (by rfl)) ?_
      refine VL_pure 3 [5, 31] [(5, .pointer (some ⟨b1, 0, none⟩)), (31, .int .u32 (bXor .u32 (bAnd .u32 (IntKind.wrap .u32 ((((bitsL bs).take k).foldl (stepB top by_) r) * 2 ^ 1)) (IntKind.wrap .u32 ((IntKind.wrap .u32 (top * 2 ^ 1)) - 1))) by_))] (by kernel_rfl) rfl ?_
      refine VL_store (b := b1) (o := 0) (vs := [.int .u32 (bXor .u32 (bAnd .u32 (IntKind.wrap .u32 ((((bitsL bs).take k).foldl (stepB top by_) r) * 2 ^ 1)) (IntKind.wrap .u32 ((IntKind.wrap .u32 (top * 2 ^ 1)) - 1))) by_)]) (by kernel_rfl) (by kernel_rfl) ho6 (Nat.le_of_ble_eq_true (by kernel_rfl)) ?_
      intro w10 hw3
      replace hS := Step.transNew hS hw3.step (fun _ _ _ => by omega)
      replace hA := hA.step hw3.step (fun k hk (hF : k = b1) => by omega)
      replace ho2 := ho2.step hw3.step (show ¬ b2 = b1 by omega)
      replace ho3 := ho3.step hw3.step (show ¬ b3 = b1 by omega)
      replace ho5 := ho5.step hw3.step (show ¬ b4 = b1 by omega)
      replace hbb1 := hbb1.step hw3.step (show ¬ bb1 = b1 by omega)
      replace hR1 := Step.trans hR1 (Step.mono hw3.step (by intro i hi; first | exact hi | (have hi9 : i = b1 := hi; (first | show _ ∨ _ | show _ = _); omega)))
      have ho7 : Own w10 b1 #[.int .u32 (bXor .u32 (bAnd .u32 (IntKind.wrap .u32 ((((bitsL bs).take k).foldl (stepB top by_) r) * 2 ^ 1)) (IntKind.wrap .u32 ((IntKind.wrap .u32 (top * 2 ^ 1)) - 1))) by_)] 44 := Own.cast hw3.own (by kernel_rfl)
      have hzhw3 := hw3.same
      refine VL_end (by kernel_rfl) ?_
      refine VQ_block_normal ?_
      exact VQ_round_end hR1 ⟨hS, hA, (Own.cast ho7 (by rw [foldl_take_succ _ _ _ _ _ hbit, stepB]; rw [if_neg (fun e => h1 (beq_iff_eq.1 e))]; rfl)), ho2, ho3, ho5, hbb1⟩
  · intro M w11 hM hzM hJ0 hD
    obtain ⟨hS, hA, ho1, ho2, ho3, ho5, hbb1⟩ := hJ0
    replace ho1 : Own w11 b1 #[.int .u32 (restB bs r top by_)] 44 := Own.cast ho1 (by rw [bitsV_len, ← bitsL_len, List.take_length]; rfl)
    have hmk1 := hD
    refine VQ_block_normal ?_
    refine VQ_next ?_
    refine VC_seq ?_
    refine VC_region ?_
    refine VL_load (d := 32) (t := 44) (a := ⟨b1, 0, none⟩) (v := .int .u32 (restB bs r top by_)) (by kernel_rfl) (by kernel_rfl) (Loads.own1 ho1 (by kernel_rfl) (by rfl)) ?_
    refine VL_pure 2 [8] [(8, .int .u32 (restB bs r top by_))] (by kernel_rfl) rfl ?_
    refine VL_end (by kernel_rfl) ?_
    refine VQ_next ?_
    refine VC_ret ?_
    refine VQ_scope_ret ?_
    have hzs8 := hS.size
    have hzl21 := ho1.lt
    have hzl22 := ho2.lt
    have hzl23 := ho3.lt
    have hzl24 := ho5.lt
    have hzl25 := hbb1.lt
    have hzl26 := hmk1.lt
    refine VQ_retM1 (.int .u32 (restB bs r top by_)) [w6.heap.size] (.inr rfl) rfl rfl ⟨hmk1, (by simp), trivial⟩ ?_
    intro w12 hq1
    replace hq1 : Step (Just w6.heap.size) w11 w12 := Step.mono hq1 (fun i hi => by simpa using hi)
    replace hS := Step.transNew hS hq1 (fun _ _ _ => by omega)
    replace hA := hA.step hq1 (fun k hk (hF : k = w6.heap.size) => by omega)
    replace ho1 := ho1.step hq1 (show ¬ b1 = w6.heap.size by omega)
    replace ho2 := ho2.step hq1 (show ¬ b2 = w6.heap.size by omega)
    replace ho3 := ho3.step hq1 (show ¬ b3 = w6.heap.size by omega)
    replace ho5 := ho5.step hq1 (show ¬ b4 = w6.heap.size by omega)
    replace hbb1 := hbb1.step hq1 (show ¬ bb1 = w6.heap.size by omega)
    exact ⟨rfl, hS⟩
  · intro e W _ hF _; exact hF.elim

end Go.Proofs.Ytgiefcolkohgkaa
