/- Layer 10, the document's: Pack, Unpack. -/
import Derived.Test.YtgiefcolkohgkaaProg
import Derived.Test.YtgiefcolkohgkaaFr5
import Derived.Test.YtgiefcolkohgkaaRf7
set_option linter.unusedVariables false
set_option linter.unusedSimpArgs false
namespace Go.Proofs.Ytgiefcolkohgkaa
open Go.Vc Go.RowKit

set_option maxRecDepth 100000 in
set_option maxHeartbeats 4000000 in
theorem runpack_any (A : Option Addr) (n c Bd : Nat) (bs : List Int) (w : World) (hn : bs.length = n) (hA : Sl w Bd A (iL .u8 bs)) (hb : Bytes bs) (hBd : Bd ≤ w.heap.size) (hlen : n ≤ 10000) (hc : n ≤ c) :
    CV Try.prog 26 #[.slice A n c] w (fun x w1 => ∃ A' c', x = .tuple #[.slice A' (runT bs).length c', .int .u8 (runM bs), .int .i64 (runE bs)] ∧ Rw w1 w.heap.size 5 A' (runT bs).length c' (iL .u8 (runT bs)) ∧ Step No w w1) := by
  have hS : Step No w w := Step.refl _ _
  refine CV_enter Try.f26 _ 105 [(0, .slice A n c)] Try.func26 rfl rfl (by kernel_rfl) rfl ?_
  refine VC_seq ?_
  refine VC_region ?_
  refine VL_pure 3 [0] [(0, .slice A n c)] (by kernel_rfl) rfl ?_
  refine VL_end (by kernel_rfl) ?_
  refine VQ_next ?_
  refine VC_seq ?_
  refine VC_region ?_
  refine VL_pure 3 [0, 5] [(0, .slice A n c), (5, .int .i64 ((n : Nat) : Int))] (by kernel_rfl) rfl ?_
  refine VL_end (by kernel_rfl) ?_
  refine VQ_next ?_
  refine VC_seq ?_
  refine VC_seq ?_
  refine VC_region ?_
  refine VL_pure 3 [0, 5, 13] [(0, .slice A n c), (5, .int .i64 ((n : Nat) : Int)), (13, .bool (((n : Nat) : Int) == 0))] (by kernel_rfl) rfl ?_
  refine VL_beq ((n : Nat) : Int) 0 (fun bV => [(0, .slice A n c), (5, .int .i64 ((n : Nat) : Int)), (13, .bool bV)]) rfl (fun hg1 => ?_) (fun hg1 => ?_)
  · refine VL_pure 7 [0, 5, 17] [(0, .slice A n c), (5, .int .i64 ((n : Nat) : Int)), (17, .bool true)] (by kernel_rfl) rfl ?_
    refine VL_end (by kernel_rfl) ?_
    refine VQ_next ?_
    refine VC_true (by kernel_rfl) ?_
    refine VC_seq ?_
    refine VC_region ?_
    refine VL_pure 3 [2, 3, 4] [(2, .slice none 0 0), (3, .int .u8 0), (4, .int .i64 5)] (by kernel_rfl) rfl ?_
    refine VL_end (by kernel_rfl) ?_
    refine VQ_next ?_
    refine VC_ret ?_
    refine VQ_then_ret ?_
    refine VQ_ret3 (.slice none 0 0) (.int .u8 0) (.int .i64 5) (.inr rfl) rfl rfl rfl rfl ?_
    have e0 : runE bs = 5 := (by first | exact run_5a (by omega) | exact run_5b hn (by omega) (by omega) ‹_› (by first | exact .inl ‹_› | (right; omega)) | exact run_5c hn (by omega) (by omega) ‹_› ‹_› (by omega) (by omega) (by omega) hk0 (by omega) ‹_›)
    obtain ⟨e1, e2⟩ := run_err e0 (by decide)
    exact ⟨none, 0, by (rw [e0, e1, e2] <;> rfl), by rw [e1]; exact Rw.nil _ _ _, hS⟩
  · refine VL_pure 5 [0, 5, 13, 15] [(0, .slice A n c), (5, .int .i64 ((n : Nat) : Int)), (13, .bool false), (15, .int .i64 (((n : Nat) : Int).tmod 48))] (by kernel_rfl) rfl ?_
    have he1 : ((n : Nat) : Int).tmod 48 = ((n % 48 : Nat) : Int) := (tmod_nat n 48)
    refine VL_eq [(0, .slice A n c), (5, .int .i64 ((n : Nat) : Int)), (13, .bool false), (15, .int .i64 ((n % 48 : Nat) : Int))] (by rw [he1]) ?_
    refine VL_pure 7 [0, 5, 17] [(0, .slice A n c), (5, .int .i64 ((n : Nat) : Int)), (17, .bool (((n % 48 : Nat) : Int) != 0))] (by kernel_rfl) rfl ?_
    refine VL_end (by kernel_rfl) ?_
    refine VQ_next ?_
    refine VC_ne ((n % 48 : Nat) : Int) 0 (by kernel_rfl) (fun h1 => ?_) (fun h1 => ?_)
    · refine VC_seq ?_
      refine VC_region ?_
      refine VL_pure 3 [2, 3, 4] [(2, .slice none 0 0), (3, .int .u8 0), (4, .int .i64 5)] (by kernel_rfl) rfl ?_
      refine VL_end (by kernel_rfl) ?_
      refine VQ_next ?_
      refine VC_ret ?_
      refine VQ_then_ret ?_
      refine VQ_ret3 (.slice none 0 0) (.int .u8 0) (.int .i64 5) (.inr rfl) rfl rfl rfl rfl ?_
      have e0 : runE bs = 5 := (by first | exact run_5a (by omega) | exact run_5b hn (by omega) (by omega) ‹_› (by first | exact .inl ‹_› | (right; omega)) | exact run_5c hn (by omega) (by omega) ‹_› ‹_› (by omega) (by omega) (by omega) hk0 (by omega) ‹_›)
      obtain ⟨e1, e2⟩ := run_err e0 (by decide)
      exact ⟨none, 0, by (rw [e0, e1, e2] <;> rfl), by rw [e1]; exact Rw.nil _ _ _, hS⟩
    · refine VC_skip ?_
      refine VQ_next ?_
      refine VC_seq ?_
      refine VC_region ?_
      refine VL_pure 3 [0, 5, 18, 20] [(0, .slice A n c), (5, .int .i64 ((n : Nat) : Int)), (18, .slice A n c), (20, .int .i64 (IntKind.wrap .i64 (((n : Nat) : Int) - 4)))] (by kernel_rfl) rfl ?_
      have he2 : IntKind.wrap .i64 (((n : Nat) : Int) - 4) = ((n - 4 : Nat) : Int) := (by rw [wrap_i64 _ (by omega) (by omega)]; omega)
      refine VL_eq [(0, .slice A n c), (5, .int .i64 ((n : Nat) : Int)), (18, .slice A n c), (20, .int .i64 ((n - 4 : Nat) : Int))] (by rw [he2]) ?_
      obtain ⟨sb1, so1, rfl, hlbsb1⟩ := hA.open (by simp only [iL_length]; omega)
      refine VL_slice (d := 21) (b := sb1) (o := so1) (sz := 1) (len := n) (cap := c) (lo := none) (hi := (some ((n - 4 : Nat) : Int))) (mx := none) (by kernel_rfl) (by kernel_rfl) (fun h => by first | exact absurd rfl h | exact (fun h => by cases h)) 0 (n - 4) c rfl rfl rfl (by omega) (by omega) (by omega) so1 (by split <;> omega) (n - 4) (by omega) c (by omega) ?_
      have hsl1 := Sl.takeI hA (n - 4)
      have hzs1 := hS.size
      refine VL_call (d := 22) (f := 33) (args := #[.slice (some ⟨sb1, so1, none⟩) (n - 4) c]) (by kernel_rfl) (by kernel_rfl) (by kernel_rfl) Try.call33 (rlong_any (some ⟨sb1, so1, none⟩) (n - 4) c _ (bs.take (n - 4)) _ (by simp only [List.length_take, List.length_drop]; omega) hsl1 (by omega) (by first | exact Nat.le_refl _ | omega)) ?_
      rintro _ w1 ⟨rfl, hc1⟩
      replace hS := Step.trans hS hc1
      replace hA := hA.no hc1
      replace hsl1 := hsl1.no hc1
      refine VL_pure 6 [0, 5, 6] [(0, .slice (some ⟨sb1, so1, none⟩) n c), (5, .int .i64 ((n : Nat) : Int)), (6, .int .u32 (rlongB (bs.take (n - 4))))] (by kernel_rfl) rfl ?_
      refine VL_end (by kernel_rfl) ?_
      refine VQ_next ?_
      refine VC_seq ?_
      refine VC_seq ?_
      refine VC_region ?_
      refine VL_pure 3 [0, 5, 6, 23, 25] [(0, .slice (some ⟨sb1, so1, none⟩) n c), (5, .int .i64 ((n : Nat) : Int)), (6, .int .u32 (rlongB (bs.take (n - 4)))), (23, .slice (some ⟨sb1, so1, none⟩) n c), (25, .int .i64 (IntKind.wrap .i64 (((n : Nat) : Int) - 4)))] (by kernel_rfl) rfl ?_
      have he3 : IntKind.wrap .i64 (((n : Nat) : Int) - 4) = ((n - 4 : Nat) : Int) := (by rw [wrap_i64 _ (by omega) (by omega)]; omega)
      refine VL_eq [(0, .slice (some ⟨sb1, so1, none⟩) n c), (5, .int .i64 ((n : Nat) : Int)), (6, .int .u32 (rlongB (bs.take (n - 4)))), (23, .slice (some ⟨sb1, so1, none⟩) n c), (25, .int .i64 ((n - 4 : Nat) : Int))] (by rw [he3]) ?_
      obtain ⟨so2, hso2⟩ : ∃ x, (if c = (n - 4) then so1 else so1 + (n - 4) * 1) = x := ⟨_, rfl⟩
      refine VL_slice (d := 26) (b := sb1) (o := so1) (sz := 1) (len := n) (cap := c) (lo := (some ((n - 4 : Nat) : Int))) (hi := none) (mx := none) (by kernel_rfl) (by kernel_rfl) (fun h => by first | exact absurd rfl h | exact (fun h => by cases h)) (n - 4) n c rfl rfl rfl (by omega) (by omega) (by omega) so2 hso2 (n - (n - 4)) (by omega) (c - (n - 4)) (by omega) ?_
      have hsl2 := Sl.cutI (H := n) hA hso2 (by omega)
      refine VL_pure 18 [0, 5, 26, 29, 33, 37, 40] [(0, .slice (some ⟨sb1, so1, none⟩) n c), (5, .int .i64 ((n : Nat) : Int)), (26, .slice (some ⟨sb1, so2, none⟩) (n - (n - 4)) (c - (n - 4))), (29, .int .u8 (IntKind.wrap .u8 (IntKind.wrap .u32 ((rlongB (bs.take (n - 4))).tdiv 16777216)))), (33, .int .u8 (IntKind.wrap .u8 ((IntKind.wrap .u32 ((rlongB (bs.take (n - 4))).tdiv 65536)).tmod 256))), (37, .int .u8 (IntKind.wrap .u8 ((IntKind.wrap .u32 ((rlongB (bs.take (n - 4))).tdiv 256)).tmod 256))), (40, .int .u8 (IntKind.wrap .u8 ((rlongB (bs.take (n - 4))).tmod 256)))] (by kernel_rfl) rfl ?_
      have hzs2 := hS.size
      refine VL_bs (d := 41) (e := 5) (c := #[.int .u8 (IntKind.wrap .u8 (IntKind.wrap .u32 ((rlongB (bs.take (n - 4))).tdiv 16777216))), .int .u8 (IntKind.wrap .u8 ((IntKind.wrap .u32 ((rlongB (bs.take (n - 4))).tdiv 65536)).tmod 256)), .int .u8 (IntKind.wrap .u8 ((IntKind.wrap .u32 ((rlongB (bs.take (n - 4))).tdiv 256)).tmod 256)), .int .u8 (IntKind.wrap .u8 ((rlongB (bs.take (n - 4))).tmod 256))]) (len := 4) (by kernel_rfl) (by kernel_rfl) ?_
      intro b1 w2 hn1
      replace hS := Step.trans hS (hn1.step No)
      replace hA := hA.no (hn1.step No)
      replace hsl1 := hsl1.no (hn1.step No)
      replace hsl2 := hsl2.no (hn1.step No)
      have ho1 := hn1.own
      have hzhn1 := hn1.size
      have hqhn1 := hn1.eqb
      have hzs3 := hS.size
      have hzl1 := ho1.lt
      refine VL_call (d := 42) (f := 17) (args := #[.slice (some ⟨sb1, so2, none⟩) (n - (n - 4)) (c - (n - 4)), .slice (some ⟨b1, 0, none⟩) 4 4]) (by kernel_rfl) (by kernel_rfl) (by kernel_rfl) Try.call17 (same_any (some ⟨sb1, so2, none⟩) (n - (n - 4)) (c - (n - 4)) _ ((bs.drop (n - 4)).take (n - (n - 4))) (some ⟨b1, 0, none⟩) 4 4 _ (rsumL (bs.take (n - 4))) _ (by simp only [List.length_take, List.length_drop]; omega) hsl2 (show (rsumL (bs.take (n - 4))).length = 4 from rfl) (Sl.cast (Own.sl ho1 ho1.lt) (by rfl)) (by omega) (by omega) (by first | exact Nat.le_refl _ | omega) (by first | exact Nat.le_refl _ | omega)) ?_
      rintro _ w3 ⟨rfl, hc2⟩
      replace hS := Step.trans hS hc2
      replace hA := hA.no hc2
      replace hsl1 := hsl1.no hc2
      replace hsl2 := hsl2.no hc2
      replace ho1 := ho1.no hc2
      refine VL_pure 21 [0, 5, 43] [(0, .slice (some ⟨sb1, so1, none⟩) n c), (5, .int .i64 ((n : Nat) : Int)), (43, .bool (!(((bs.drop (n - 4)).take (n - (n - 4))) == rsumL (bs.take (n - 4)))))] (by kernel_rfl) rfl ?_
      refine VL_end (by kernel_rfl) ?_
      refine VQ_next ?_
      refine VC_cond (!(((bs.drop (n - 4)).take (n - (n - 4))) == rsumL (bs.take (n - 4)))) (by kernel_rfl) (fun h2 => ?_) (fun h2 => ?_)
      · try simp only [Bool.and_eq_true, Bool.or_eq_true, decide_eq_true_eq, Bool.not_eq_true', decide_eq_false_iff_not, Bool.and_eq_false_iff, Bool.or_eq_false_iff, beq_iff_eq, bne_iff_ne, beq_eq_false_iff_ne, bne_eq_false_iff_eq, Bool.not_eq_eq_eq_not, Bool.not_true, Bool.not_false] at h2
        refine VC_seq ?_
        refine VC_region ?_
        refine VL_pure 3 [2, 3, 4] [(2, .slice none 0 0), (3, .int .u8 0), (4, .int .i64 4)] (by kernel_rfl) rfl ?_
        refine VL_end (by kernel_rfl) ?_
        refine VQ_next ?_
        refine VC_ret ?_
        refine VQ_then_ret ?_
        refine VQ_ret3 (.slice none 0 0) (.int .u8 0) (.int .i64 4) (.inr rfl) rfl rfl rfl rfl ?_
        have e0 : runE bs = 4 := run_4 hn (by omega) (by omega) ‹_›
        obtain ⟨e1, e2⟩ := run_err e0 (by decide)
        exact ⟨none, 0, by (rw [e0, e1, e2] <;> rfl), by rw [e1]; exact Rw.nil _ _ _, hS⟩
      · try simp only [Bool.and_eq_true, Bool.or_eq_true, decide_eq_true_eq, Bool.not_eq_true', decide_eq_false_iff_not, Bool.and_eq_false_iff, Bool.or_eq_false_iff, beq_iff_eq, bne_iff_ne, beq_eq_false_iff_ne, bne_eq_false_iff_eq, Bool.not_eq_eq_eq_not, Bool.not_true, Bool.not_false] at h2
        refine VC_skip ?_
        refine VQ_next ?_
        refine VC_seq ?_
        refine VC_det [[], [], [1], [0, 1, 2], [0, 1, 2, 3], [0, 1, 2, 3, 4], [0, 1, 2, 3, 4, 5], [], [], [8], [7, 8, 9], [7, 8, 9, 10], [7, 8, 9, 10, 11], [0, 1, 2, 3, 4, 5, 6, 7, 8, 9, 10, 11, 12], [0, 1, 2, 3, 4, 5, 6, 7, 8, 9, 10, 11, 12, 13]] 13 [.slice (some ⟨sb1, so1, none⟩) n c, .int .i64 ((n : Nat) : Int), .int .i64 (IntKind.wrap .i64 (((n : Nat) : Int) - 6)), .pointer (some ⟨sb1, so1 + (n - 6), none⟩), .int .u8 (bs.getD (n - 6) 0), .int .i64 (IntKind.wrap .i64 (bs.getD (n - 6) 0)), .int .i64 (IntKind.wrap .i64 ((IntKind.wrap .i64 (bs.getD (n - 6) 0)) * 256)), .slice (some ⟨sb1, so1, none⟩) n c, .int .i64 ((n : Nat) : Int), .int .i64 (IntKind.wrap .i64 (((n : Nat) : Int) - 5)), .pointer (some ⟨sb1, so1 + (n - 5), none⟩), .int .u8 (bs.getD (n - 5) 0), .int .i64 (IntKind.wrap .i64 (bs.getD (n - 5) 0))] [0, 1, 2, 5, 6, 7, 8, 9, 12] [3, 4, 10, 11] (by kernel_rfl) (by kernel_rfl) (by kernel_rfl) (by kernel_rfl) ?_ ?_
        · intro w4 hs1
          replace hS := Step.trans hS hs1
          replace hA := hA.no hs1
          replace hsl1 := hsl1.no hs1
          replace hsl2 := hsl2.no hs1
          replace ho1 := ho1.no hs1
          exact ⟨Det1_index (d := 47) (b := sb1) (o := so1) (len := n) (sz := 1) (m := (IntKind.wrap .i64 (((n : Nat) : Int) - 6))) (by kernel_rfl) (by kernel_rfl) (n - 6) (by rw [wrap_i64 _ (by omega) (by omega)]; omega) (by omega) (so1 + (n - 6)) (by omega), Det1_load (d := 48) (t := 5) (a := ⟨sb1, so1 + (n - 6), none⟩) (by kernel_rfl) (by kernel_rfl) (Sl.ldI hA (by kernel_rfl) (n - 6) (by first | omega | (simp only [List.length_take, List.length_drop]; omega))), Det1_index (d := 54) (b := sb1) (o := so1) (len := n) (sz := 1) (m := (IntKind.wrap .i64 (((n : Nat) : Int) - 5))) (by kernel_rfl) (by kernel_rfl) (n - 5) (by rw [wrap_i64 _ (by omega) (by omega)]; omega) (by omega) (so1 + (n - 5)) (by omega), Det1_load (d := 55) (t := 5) (a := ⟨sb1, so1 + (n - 5), none⟩) (by kernel_rfl) (by kernel_rfl) (Sl.ldI hA (by kernel_rfl) (n - 5) (by first | omega | (simp only [List.length_take, List.length_drop]; omega))), trivial⟩
        intro w4 hs1
        replace hS := Step.trans hS hs1
        replace hA := hA.no hs1
        replace hsl1 := hsl1.no hs1
        replace hsl2 := hsl2.no hs1
        replace ho1 := ho1.no hs1
        refine VL_keep [0, 5, 50, 56] [(0, .slice (some ⟨sb1, so1, none⟩) n c), (5, .int .i64 ((n : Nat) : Int)), (50, .int .i64 (IntKind.wrap .i64 ((IntKind.wrap .i64 (bs.getD (n - 6) 0)) * 256))), (56, .int .i64 (IntKind.wrap .i64 (bs.getD (n - 5) 0)))] (by kernel_rfl) ?_
        refine VL_pure 15 [0, 5, 7] [(0, .slice (some ⟨sb1, so1, none⟩) n c), (5, .int .i64 ((n : Nat) : Int)), (7, .int .i64 (IntKind.wrap .i64 ((IntKind.wrap .i64 ((IntKind.wrap .i64 (bs.getD (n - 6) 0)) * 256)) + (IntKind.wrap .i64 (bs.getD (n - 5) 0)))))] (by kernel_rfl) rfl ?_
        refine VL_end (by kernel_rfl) ?_
        refine VQ_next ?_
        refine VC_seq ?_
        refine VC_seq ?_
        have hlq := rlenF_lt (n := n) hb
        refine VC_eqL [(0, .slice (some ⟨sb1, so1, none⟩) n c), (5, .int .i64 ((n : Nat) : Int)), (7, .int .i64 ((rlenF bs n : Nat) : Int))] (by rw [← rlenF_eq hb]) ?_
        refine VC_region ?_
        refine VL_pure 3 [0, 5, 7, 58, 60] [(0, .slice (some ⟨sb1, so1, none⟩) n c), (5, .int .i64 ((n : Nat) : Int)), (7, .int .i64 ((rlenF bs n : Nat) : Int)), (58, .slice (some ⟨sb1, so1, none⟩) n c), (60, .int .i64 (IntKind.wrap .i64 (((n : Nat) : Int) - 7)))] (by kernel_rfl) rfl ?_
        have he4 : IntKind.wrap .i64 (((n : Nat) : Int) - 7) = ((n - 7 : Nat) : Int) := (by rw [wrap_i64 _ (by omega) (by omega)]; omega)
        refine VL_eq [(0, .slice (some ⟨sb1, so1, none⟩) n c), (5, .int .i64 ((n : Nat) : Int)), (7, .int .i64 ((rlenF bs n : Nat) : Int)), (58, .slice (some ⟨sb1, so1, none⟩) n c), (60, .int .i64 ((n - 7 : Nat) : Int))] (by rw [he4]) ?_
        refine VL_index (d := 61) (b := sb1) (o := so1) (len := n) (sz := 1) (m := ((n - 7 : Nat) : Int)) (by kernel_rfl) (by kernel_rfl) (n - 7) (by rfl) (by omega) (so1 + (n - 7)) (by omega) ?_
        refine VL_load (d := 62) (t := 5) (a := ⟨sb1, so1 + (n - 7), none⟩) (v := .int .u8 (bs.getD (n - 7) 0)) (by kernel_rfl) (by kernel_rfl) (Sl.ldI hA (by kernel_rfl) (n - 7) (by first | omega | (simp only [List.length_take, List.length_drop]; omega))) ?_
        refine VL_pure 7 [0, 5, 7, 64] [(0, .slice (some ⟨sb1, so1, none⟩) n c), (5, .int .i64 ((n : Nat) : Int)), (7, .int .i64 ((rlenF bs n : Nat) : Int)), (64, .bool ((bs.getD (n - 7) 0) != 0))] (by kernel_rfl) rfl ?_
        refine VL_bne (bs.getD (n - 7) 0) 0 (fun bV => [(0, .slice (some ⟨sb1, so1, none⟩) n c), (5, .int .i64 ((n : Nat) : Int)), (7, .int .i64 ((rlenF bs n : Nat) : Int)), (64, .bool bV)]) rfl (fun hg2 => ?_) (fun hg2 => ?_)
        · refine VL_pure 23 [0, 5, 7, 80] [(0, .slice (some ⟨sb1, so1, none⟩) n c), (5, .int .i64 ((n : Nat) : Int)), (7, .int .i64 ((rlenF bs n : Nat) : Int)), (80, .bool true)] (by kernel_rfl) rfl ?_
          refine VL_end (by kernel_rfl) ?_
          refine VQ_next ?_
          refine VC_true (by kernel_rfl) ?_
          refine VC_seq ?_
          refine VC_region ?_
          refine VL_pure 3 [2, 3, 4] [(2, .slice none 0 0), (3, .int .u8 0), (4, .int .i64 5)] (by kernel_rfl) rfl ?_
          refine VL_end (by kernel_rfl) ?_
          refine VQ_next ?_
          refine VC_ret ?_
          refine VQ_then_ret ?_
          refine VQ_ret3 (.slice none 0 0) (.int .u8 0) (.int .i64 5) (.inr rfl) rfl rfl rfl rfl ?_
          have e0 : runE bs = 5 := (by first | exact run_5a (by omega) | exact run_5b hn (by omega) (by omega) ‹_› (by first | exact .inl ‹_› | (right; omega)) | exact run_5c hn (by omega) (by omega) ‹_› ‹_› (by omega) (by omega) (by omega) hk0 (by omega) ‹_›)
          obtain ⟨e1, e2⟩ := run_err e0 (by decide)
          exact ⟨none, 0, by (rw [e0, e1, e2] <;> rfl), by rw [e1]; exact Rw.nil _ _ _, hS⟩
        · refine VL_pure 11 [0, 5, 7, 68] [(0, .slice (some ⟨sb1, so1, none⟩) n c), (5, .int .i64 ((n : Nat) : Int)), (7, .int .i64 ((rlenF bs n : Nat) : Int)), (68, .bool (((rlenF bs n : Nat) : Int) == 0))] (by kernel_rfl) rfl ?_
          refine VL_beq ((rlenF bs n : Nat) : Int) 0 (fun bV => [(0, .slice (some ⟨sb1, so1, none⟩) n c), (5, .int .i64 ((n : Nat) : Int)), (7, .int .i64 ((rlenF bs n : Nat) : Int)), (68, .bool bV)]) rfl (fun hg3 => ?_) (fun hg3 => ?_)
          · refine VL_pure 23 [0, 5, 7, 80] [(0, .slice (some ⟨sb1, so1, none⟩) n c), (5, .int .i64 ((n : Nat) : Int)), (7, .int .i64 ((rlenF bs n : Nat) : Int)), (80, .bool true)] (by kernel_rfl) rfl ?_
            refine VL_end (by kernel_rfl) ?_
            refine VQ_next ?_
            refine VC_true (by kernel_rfl) ?_
            refine VC_seq ?_
            refine VC_region ?_
            refine VL_pure 3 [2, 3, 4] [(2, .slice none 0 0), (3, .int .u8 0), (4, .int .i64 5)] (by kernel_rfl) rfl ?_
            refine VL_end (by kernel_rfl) ?_
            refine VQ_next ?_
            refine VC_ret ?_
            refine VQ_then_ret ?_
            refine VQ_ret3 (.slice none 0 0) (.int .u8 0) (.int .i64 5) (.inr rfl) rfl rfl rfl rfl ?_
            have e0 : runE bs = 5 := (by first | exact run_5a (by omega) | exact run_5b hn (by omega) (by omega) ‹_› (by first | exact .inl ‹_› | (right; omega)) | exact run_5c hn (by omega) (by omega) ‹_› ‹_› (by omega) (by omega) (by omega) hk0 (by omega) ‹_›)
            obtain ⟨e1, e2⟩ := run_err e0 (by decide)
            exact ⟨none, 0, by (rw [e0, e1, e2] <;> rfl), by rw [e1]; exact Rw.nil _ _ _, hS⟩
          · refine VL_pure 14 [0, 5, 7, 68, 69, 71] [(0, .slice (some ⟨sb1, so1, none⟩) n c), (5, .int .i64 ((n : Nat) : Int)), (7, .int .i64 ((rlenF bs n : Nat) : Int)), (68, .bool false), (69, .int .i64 ((rlenF bs n : Nat) : Int)), (71, .int .i64 (IntKind.wrap .i64 (((n : Nat) : Int) - 8)))] (by kernel_rfl) rfl ?_
            have he5 : IntKind.wrap .i64 (((n : Nat) : Int) - 8) = ((n - 8 : Nat) : Int) := (by rw [wrap_i64 _ (by omega) (by omega)]; omega)
            refine VL_eq [(0, .slice (some ⟨sb1, so1, none⟩) n c), (5, .int .i64 ((n : Nat) : Int)), (7, .int .i64 ((rlenF bs n : Nat) : Int)), (68, .bool false), (69, .int .i64 ((rlenF bs n : Nat) : Int)), (71, .int .i64 ((n - 8 : Nat) : Int))] (by rw [he5]) ?_
            refine VL_pure 17 [0, 5, 7, 74] [(0, .slice (some ⟨sb1, so1, none⟩) n c), (5, .int .i64 ((n : Nat) : Int)), (7, .int .i64 ((rlenF bs n : Nat) : Int)), (74, .bool (decide (((rlenF bs n : Nat) : Int) > ((n - 8 : Nat) : Int))))] (by kernel_rfl) rfl ?_
            refine VL_dec (((rlenF bs n : Nat) : Int) > ((n - 8 : Nat) : Int)) (fun bV => [(0, .slice (some ⟨sb1, so1, none⟩) n c), (5, .int .i64 ((n : Nat) : Int)), (7, .int .i64 ((rlenF bs n : Nat) : Int)), (74, .bool bV)]) rfl (fun hg4 => ?_) (fun hg4 => ?_)
            · refine VL_pure 23 [0, 5, 7, 80] [(0, .slice (some ⟨sb1, so1, none⟩) n c), (5, .int .i64 ((n : Nat) : Int)), (7, .int .i64 ((rlenF bs n : Nat) : Int)), (80, .bool true)] (by kernel_rfl) rfl ?_
              refine VL_end (by kernel_rfl) ?_
              refine VQ_next ?_
              refine VC_true (by kernel_rfl) ?_
              refine VC_seq ?_
              refine VC_region ?_
              refine VL_pure 3 [2, 3, 4] [(2, .slice none 0 0), (3, .int .u8 0), (4, .int .i64 5)] (by kernel_rfl) rfl ?_
              refine VL_end (by kernel_rfl) ?_
              refine VQ_next ?_
              refine VC_ret ?_
              refine VQ_then_ret ?_
              refine VQ_ret3 (.slice none 0 0) (.int .u8 0) (.int .i64 5) (.inr rfl) rfl rfl rfl rfl ?_
              have e0 : runE bs = 5 := (by first | exact run_5a (by omega) | exact run_5b hn (by omega) (by omega) ‹_› (by first | exact .inl ‹_› | (right; omega)) | exact run_5c hn (by omega) (by omega) ‹_› ‹_› (by omega) (by omega) (by omega) hk0 (by omega) ‹_›)
              obtain ⟨e1, e2⟩ := run_err e0 (by decide)
              exact ⟨none, 0, by (rw [e0, e1, e2] <;> rfl), by rw [e1]; exact Rw.nil _ _ _, hS⟩
            · refine VL_pure 19 [0, 5, 7, 74, 76] [(0, .slice (some ⟨sb1, so1, none⟩) n c), (5, .int .i64 ((n : Nat) : Int)), (7, .int .i64 ((rlenF bs n : Nat) : Int)), (74, .bool false), (76, .int .i64 (IntKind.wrap .i64 (((n : Nat) : Int) - 8)))] (by kernel_rfl) rfl ?_
              have he6 : IntKind.wrap .i64 (((n : Nat) : Int) - 8) = ((n - 8 : Nat) : Int) := (by rw [wrap_i64 _ (by omega) (by omega)]; omega)
              refine VL_eq [(0, .slice (some ⟨sb1, so1, none⟩) n c), (5, .int .i64 ((n : Nat) : Int)), (7, .int .i64 ((rlenF bs n : Nat) : Int)), (74, .bool false), (76, .int .i64 ((n - 8 : Nat) : Int))] (by rw [he6]) ?_
              refine VL_pure 21 [0, 5, 7, 74, 78] [(0, .slice (some ⟨sb1, so1, none⟩) n c), (5, .int .i64 ((n : Nat) : Int)), (7, .int .i64 ((rlenF bs n : Nat) : Int)), (74, .bool false), (78, .int .i64 (IntKind.wrap .i64 (((n - 8 : Nat) : Int) - ((rlenF bs n : Nat) : Int))))] (by kernel_rfl) rfl ?_
              have he7 : IntKind.wrap .i64 (((n - 8 : Nat) : Int) - ((rlenF bs n : Nat) : Int)) = (((n - 8) - (rlenF bs n) : Nat) : Int) := (by rw [wrap_i64 _ (by omega) (by omega)]; omega)
              refine VL_eq [(0, .slice (some ⟨sb1, so1, none⟩) n c), (5, .int .i64 ((n : Nat) : Int)), (7, .int .i64 ((rlenF bs n : Nat) : Int)), (74, .bool false), (78, .int .i64 (((n - 8) - (rlenF bs n) : Nat) : Int))] (by rw [he7]) ?_
              refine VL_pure 23 [0, 5, 7, 80] [(0, .slice (some ⟨sb1, so1, none⟩) n c), (5, .int .i64 ((n : Nat) : Int)), (7, .int .i64 ((rlenF bs n : Nat) : Int)), (80, .bool (decide ((((n - 8) - (rlenF bs n) : Nat) : Int) > 47)))] (by kernel_rfl) rfl ?_
              refine VL_end (by kernel_rfl) ?_
              refine VQ_next ?_
              refine VC_dec ((((n - 8) - (rlenF bs n) : Nat) : Int) > 47) (by kernel_rfl) (fun h3 => ?_) (fun h3 => ?_)
              · refine VC_seq ?_
                refine VC_region ?_
                refine VL_pure 3 [2, 3, 4] [(2, .slice none 0 0), (3, .int .u8 0), (4, .int .i64 5)] (by kernel_rfl) rfl ?_
                refine VL_end (by kernel_rfl) ?_
                refine VQ_next ?_
                refine VC_ret ?_
                refine VQ_then_ret ?_
                refine VQ_ret3 (.slice none 0 0) (.int .u8 0) (.int .i64 5) (.inr rfl) rfl rfl rfl rfl ?_
                have e0 : runE bs = 5 := (by first | exact run_5a (by omega) | exact run_5b hn (by omega) (by omega) ‹_› (by first | exact .inl ‹_› | (right; omega)) | exact run_5c hn (by omega) (by omega) ‹_› ‹_› (by omega) (by omega) (by omega) hk0 (by omega) ‹_›)
                obtain ⟨e1, e2⟩ := run_err e0 (by decide)
                exact ⟨none, 0, by (rw [e0, e1, e2] <;> rfl), by rw [e1]; exact Rw.nil _ _ _, hS⟩
              · refine VC_skip ?_
                refine VQ_next ?_
                refine VC_seq ?_
                refine VC_seq ?_
                refine VC_region ?_
                refine VL_pure 2 [0, 5, 7, 8] [(0, .slice (some ⟨sb1, so1, none⟩) n c), (5, .int .i64 ((n : Nat) : Int)), (7, .int .i64 ((rlenF bs n : Nat) : Int)), (8, .int .i64 ((rlenF bs n : Nat) : Int))] (by kernel_rfl) rfl ?_
                refine VL_end (by kernel_rfl) ?_
                refine VQ_next ?_
                refine VC_block ?_
                refine VC_loop (σ := Nat) (fun σs => [(0, .slice (some ⟨sb1, so1, none⟩) n c), (5, .int .i64 ((n : Nat) : Int)), (7, .int .i64 ((rlenF bs n : Nat) : Int)), (8, .int .i64 ((σs : Nat) : Int))]) (fun σs w5 => (σs ≤ n - 8) ∧ (rlenF bs n ≤ σs) ∧ (∀ i, rlenF bs n ≤ i → i < σs → bs.getD i 0 = 0) ∧ (Step No w w5) ∧ (Sl w5 Bd (some ⟨sb1, so1, none⟩) (iL .u8 bs)) ∧ (Sl w5 Bd (some ⟨sb1, so1, none⟩) (iL .u8 (bs.take (n - 4)))) ∧ (Sl w5 Bd (some ⟨sb1, so2, none⟩) (iL .u8 ((bs.drop (n - 4)).take (n - (n - 4))))) ∧ (Own w5 b1 #[.int .u8 (IntKind.wrap .u8 (IntKind.wrap .u32 ((rlongB (bs.take (n - 4))).tdiv 16777216))), .int .u8 (IntKind.wrap .u8 ((IntKind.wrap .u32 ((rlongB (bs.take (n - 4))).tdiv 65536)).tmod 256)), .int .u8 (IntKind.wrap .u8 ((IntKind.wrap .u32 ((rlongB (bs.take (n - 4))).tdiv 256)).tmod 256)), .int .u8 (IntKind.wrap .u8 ((rlongB (bs.take (n - 4))).tmod 256))] 5)) (fun σs w5 => n - 8 - σs) (rlenF bs n) ⟨rfl, rfl, rfl, rfl, trivial⟩ ?_ ?_
                · exact ⟨(by omega), Nat.le_refl _, fun i h1 h2 => absurd h1 (by omega), hS, hA, hsl1, hsl2, ho1⟩
                rintro k w5 ⟨hk, hk0, hz, hS, hA, hsl1, hsl2, ho1⟩
                try dsimp only at hk hk0 hz hS hA hsl1 hsl2 ho1 ⊢
                refine VC_seq ?_
                refine VC_seq ?_
                refine VC_region ?_
                refine VL_pure 3 [0, 5, 7, 8, 82, 84] [(0, .slice (some ⟨sb1, so1, none⟩) n c), (5, .int .i64 ((n : Nat) : Int)), (7, .int .i64 ((rlenF bs n : Nat) : Int)), (8, .int .i64 ((k : Nat) : Int)), (82, .int .i64 ((k : Nat) : Int)), (84, .int .i64 (IntKind.wrap .i64 (((n : Nat) : Int) - 8)))] (by kernel_rfl) rfl ?_
                have he8 : IntKind.wrap .i64 (((n : Nat) : Int) - 8) = ((n - 8 : Nat) : Int) := (by rw [wrap_i64 _ (by omega) (by omega)]; omega)
                refine VL_eq [(0, .slice (some ⟨sb1, so1, none⟩) n c), (5, .int .i64 ((n : Nat) : Int)), (7, .int .i64 ((rlenF bs n : Nat) : Int)), (8, .int .i64 ((k : Nat) : Int)), (82, .int .i64 ((k : Nat) : Int)), (84, .int .i64 ((n - 8 : Nat) : Int))] (by rw [he8]) ?_
                refine VL_pure 4 [0, 5, 7, 8, 85] [(0, .slice (some ⟨sb1, so1, none⟩) n c), (5, .int .i64 ((n : Nat) : Int)), (7, .int .i64 ((rlenF bs n : Nat) : Int)), (8, .int .i64 ((k : Nat) : Int)), (85, .bool (decide (((k : Nat) : Int) < ((n - 8 : Nat) : Int))))] (by kernel_rfl) rfl ?_
                refine VL_end (by kernel_rfl) ?_
                refine VQ_next ?_
                refine VC_dec (((k : Nat) : Int) < ((n - 8 : Nat) : Int)) (by kernel_rfl) (fun h4 => ?_) (fun h4 => ?_)
                · refine VC_skip ?_
                  refine VQ_next ?_
                  refine VC_seq ?_
                  refine VC_block ?_
                  refine VC_seq ?_
                  refine VC_region ?_
                  refine VL_pure 2 [0, 5, 7, 8, 88, 89] [(0, .slice (some ⟨sb1, so1, none⟩) n c), (5, .int .i64 ((n : Nat) : Int)), (7, .int .i64 ((rlenF bs n : Nat) : Int)), (8, .int .i64 ((k : Nat) : Int)), (88, .slice (some ⟨sb1, so1, none⟩) n c), (89, .int .i64 ((k : Nat) : Int))] (by kernel_rfl) rfl ?_
                  refine VL_index (d := 90) (b := sb1) (o := so1) (len := n) (sz := 1) (m := ((k : Nat) : Int)) (by kernel_rfl) (by kernel_rfl) k (by rfl) (by omega) (so1 + k) (by omega) ?_
                  refine VL_load (d := 91) (t := 5) (a := ⟨sb1, so1 + k, none⟩) (v := .int .u8 (bs.getD k 0)) (by kernel_rfl) (by kernel_rfl) (Sl.ldI hA (by kernel_rfl) k (by first | omega | (simp only [List.length_take, List.length_drop]; omega))) ?_
                  refine VL_pure 5 [0, 5, 7, 8, 92] [(0, .slice (some ⟨sb1, so1, none⟩) n c), (5, .int .i64 ((n : Nat) : Int)), (7, .int .i64 ((rlenF bs n : Nat) : Int)), (8, .int .i64 ((k : Nat) : Int)), (92, .bool ((bs.getD k 0) != 0))] (by kernel_rfl) rfl ?_
                  refine VL_end (by kernel_rfl) ?_
                  refine VQ_next ?_
                  refine VC_ne (bs.getD k 0) 0 (by kernel_rfl) (fun h5 => ?_) (fun h5 => ?_)
                  · refine VC_seq ?_
                    refine VC_region ?_
                    refine VL_pure 3 [2, 3, 4] [(2, .slice none 0 0), (3, .int .u8 0), (4, .int .i64 5)] (by kernel_rfl) rfl ?_
                    refine VL_end (by kernel_rfl) ?_
                    refine VQ_next ?_
                    refine VC_ret ?_
                    refine VQ_block_ret ?_
                    refine VQ_then_ret ?_
                    refine VQ_then_ret ?_
                    refine VQ_block_ret ?_
                    refine VQ_then_ret ?_
                    refine VQ_ret3 (.slice none 0 0) (.int .u8 0) (.int .i64 5) (.inr rfl) rfl rfl rfl rfl ?_
                    have e0 : runE bs = 5 := (by first | exact run_5a (by omega) | exact run_5b hn (by omega) (by omega) ‹_› (by first | exact .inl ‹_› | (right; omega)) | exact run_5c hn (by omega) (by omega) ‹_› ‹_› (by omega) (by omega) (by omega) hk0 (by omega) ‹_›)
                    obtain ⟨e1, e2⟩ := run_err e0 (by decide)
                    exact ⟨none, 0, by (rw [e0, e1, e2] <;> rfl), by rw [e1]; exact Rw.nil _ _ _, hS⟩
                  · refine VC_skip ?_
                    refine VQ_block_normal ?_
                    refine VQ_next ?_
                    refine VC_region ?_
                    refine VL_pure 2 [0, 5, 7, 87] [(0, .slice (some ⟨sb1, so1, none⟩) n c), (5, .int .i64 ((n : Nat) : Int)), (7, .int .i64 ((rlenF bs n : Nat) : Int)), (87, .int .i64 (IntKind.wrap .i64 (((k : Nat) : Int) + 1)))] (by kernel_rfl) rfl ?_
                    have he9 : IntKind.wrap .i64 (((k : Nat) : Int) + 1) = ((k + 1 : Nat) : Int) := (by rw [wrap_i64 _ (by omega) (by omega)]; omega)
                    refine VL_eq [(0, .slice (some ⟨sb1, so1, none⟩) n c), (5, .int .i64 ((n : Nat) : Int)), (7, .int .i64 ((rlenF bs n : Nat) : Int)), (87, .int .i64 ((k + 1 : Nat) : Int))] (by rw [he9]) ?_
                    refine VL_pure 3 [0, 5, 7, 8] [(0, .slice (some ⟨sb1, so1, none⟩) n c), (5, .int .i64 ((n : Nat) : Int)), (7, .int .i64 ((rlenF bs n : Nat) : Int)), (8, .int .i64 ((k + 1 : Nat) : Int))] (by kernel_rfl) rfl ?_
                    refine VL_end (by kernel_rfl) ?_
                    refine VQ_again (k + 1) ⟨rfl, rfl, rfl, rfl, trivial⟩ ?_ ?_
                    · exact ⟨(by omega), (by omega), fun i h1 h2 => by rcases Nat.lt_succ_iff_lt_or_eq.1 h2 with h | rfl; exact hz i h1 h; assumption, hS, hA, hsl1, hsl2, ho1⟩
                    · (try dsimp only); omega
                · refine VC_exit ?_
                  refine VQ_then_exit ?_
                  refine VQ_then_exit ?_
                  refine VQ_block_hit ?_
                  refine VQ_next ?_
                  refine VC_seq ?_
                  refine VC_seq ?_
                  refine VC_region ?_
                  refine VL_pure 2 [0, 5, 7, 94] [(0, .slice (some ⟨sb1, so1, none⟩) n c), (5, .int .i64 ((n : Nat) : Int)), (7, .int .i64 ((rlenF bs n : Nat) : Int)), (94, .bool (decide (((rlenF bs n : Nat) : Int) > 1000)))] (by kernel_rfl) rfl ?_
                  refine VL_end (by kernel_rfl) ?_
                  refine VQ_next ?_
                  refine VC_dec (((rlenF bs n : Nat) : Int) > 1000) (by kernel_rfl) (fun h6 => ?_) (fun h6 => ?_)
                  · refine VC_seq ?_
                    refine VC_region ?_
                    refine VL_pure 3 [2, 3, 4] [(2, .slice none 0 0), (3, .int .u8 0), (4, .int .i64 6)] (by kernel_rfl) rfl ?_
                    refine VL_end (by kernel_rfl) ?_
                    refine VQ_next ?_
                    refine VC_ret ?_
                    refine VQ_then_ret ?_
                    refine VQ_ret3 (.slice none 0 0) (.int .u8 0) (.int .i64 6) (.inr rfl) rfl rfl rfl rfl ?_
                    have e0 : runE bs = 6 := run_6 hn (by omega) (by omega) ‹_› ‹_› (by omega) (by omega) (by omega) (fun k9 h1 h2 => hz k9 h1 (by omega)) (by omega)
                    obtain ⟨e1, e2⟩ := run_err e0 (by decide)
                    exact ⟨none, 0, by (rw [e0, e1, e2] <;> rfl), by rw [e1]; exact Rw.nil _ _ _, hS⟩
                  · refine VC_skip ?_
                    refine VQ_next ?_
                    refine VC_seq ?_
                    have hs2 := drew_step w5
                    have hs2z : w5.heap.size = w5.drew.heap.size := rfl
                    refine VC_text [[], [], [], [1, 2], [0, 1, 2, 3], [], [], [6], [5, 6, 7], [5, 6, 7, 8], [0, 1, 2, 3, 4], [0, 1, 2, 3, 4, 5, 6, 7, 8, 9, 10], [0, 1, 2, 3, 4, 5, 6, 7, 8, 9, 10, 11]] 11 (fun x y => Step (fun k => w5.heap.size ≤ k) x y) [0, 4] [1, 2, 3, 5, 6, 7, 8, 9, 0, 4, 10] (by kernel_rfl) (by kernel_rfl) (by kernel_rfl) (by kernel_rfl) (fun x => Step.refl _ x) (fun h k => Step.trans h k) Step.weak ?_
                    have hzs4 := hS.size
                    have hzl2 := ho1.lt
                    generalize w5.drew = w6 at hs2 hs2z ⊢
                    replace hS := Step.trans hS hs2
                    replace hA := hA.no hs2
                    replace hsl1 := hsl1.no hs2
                    replace hsl2 := hsl2.no hs2
                    replace ho1 := ho1.no hs2
                    refine VT_pures 2 (kn' := [(2, .int .i64 ((rlenF bs n : Nat) : Int)), (1, .slice (some ⟨sb1, so1, none⟩) n c)]) (by kernel_rfl) ?_
                    refine VT_slice (d := 98) (b := sb1) (o := so1) (sz := 1) (len := n) (cap := c) (lo := none) (hi := (some ((rlenF bs n : Nat) : Int))) (mx := none) (by kernel_rfl) (by kernel_rfl) (fun h => by first | exact absurd rfl h | exact (fun h => by cases h)) 0 (rlenF bs n) c rfl rfl rfl (by omega) (by omega) (by omega) so1 (by split <;> omega) (rlenF bs n) (by omega) c (by omega) ?_
                    have hsl3 := Sl.takeI hA (rlenF bs n)
                    refine VT_pures 3 (kn' := [(7, .int .i64 (IntKind.wrap .i64 (((n : Nat) : Int) - 8))), (6, .int .i64 ((n : Nat) : Int)), (5, .slice (some ⟨sb1, so1, none⟩) n c), (3, .slice (some ⟨sb1, so1, none⟩) (rlenF bs n) c), (2, .int .i64 ((rlenF bs n : Nat) : Int)), (1, .slice (some ⟨sb1, so1, none⟩) n c)]) (by kernel_rfl) ?_
                    refine VT_index (d := 103) (b := sb1) (o := so1) (len := n) (sz := 1) (mm := (IntKind.wrap .i64 (((n : Nat) : Int) - 8))) (by kernel_rfl) (by kernel_rfl) (n - 8) (by rw [wrap_i64 _ (by omega) (by omega)]; omega) (by omega) (so1 + (n - 8)) (by omega) ?_
                    refine VT_load (d := 104) (t := 5) (a := ⟨sb1, so1 + (n - 8), none⟩) (v := .int .u8 (bs.getD (n - 8) 0)) (by kernel_rfl) (by kernel_rfl) ?_ ?_
                    · intro w7 hr1
                      replace hS := Step.transNew hS hr1 (fun i hi hG => by (try simp only at hG); omega)
                      replace hA := hA.keepB hr1 (by (try simp only); omega)
                      replace hsl1 := hsl1.keepB hr1 (by (try simp only); omega)
                      replace hsl2 := hsl2.keepB hr1 (by (try simp only); omega)
                      replace ho1 := ho1.step hr1 (by (try simp only); omega)
                      replace hsl3 := hsl3.keepB hr1 (by (try simp only); omega)
                      exact (Sl.ldI hA (by kernel_rfl) (n - 8) (by first | omega | (simp only [List.length_take, List.length_drop]; omega)))
                    refine VT_chain (by kernel_rfl) ?_
                    intro w8 hs3
                    have hzhs3 := hs3.size
                    replace hS := Step.trans hS hs3
                    replace hA := hA.no hs3
                    replace hsl1 := hsl1.no hs3
                    replace hsl2 := hsl2.no hs3
                    replace ho1 := ho1.no hs3
                    replace hsl3 := hsl3.no hs3
                    have hzs5 := hS.size
                    have hzl3 := ho1.lt
                    have hzs6 := hS.size
                    have hzl4 := ho1.lt
                    refine VTc_bs (d := 95) (e := 5) (c := #[]) (len := 0) (by kernel_rfl) (by kernel_rfl) (fun b w1 hn => hn.step _) ?_
                    intro b2 w9 hn2
                    replace hS := Step.trans hS (hn2.step No)
                    replace hA := hA.no (hn2.step No)
                    replace hsl1 := hsl1.no (hn2.step No)
                    replace hsl2 := hsl2.no (hn2.step No)
                    replace ho1 := ho1.no (hn2.step No)
                    replace hsl3 := hsl3.no (hn2.step No)
                    have ho2 := hn2.own
                    have hzhn2 := hn2.size
                    have hqhn2 := hn2.eqb
                    refine VT_chain (by kernel_rfl) ?_
                    intro w10 hs4
                    have hzhs4 := hs4.size
                    replace hS := Step.trans hS hs4
                    replace hA := hA.no hs4
                    replace hsl1 := hsl1.no hs4
                    replace hsl2 := hsl2.no hs4
                    replace ho1 := ho1.no hs4
                    replace hsl3 := hsl3.no hs4
                    replace ho2 := ho2.no hs4
                    have hzs7 := hS.size
                    have hzl5 := ho1.lt
                    have hzl6 := ho2.lt
                    have hbase1 := Nat.le_of_lt ho2.lt
                    refine VTc_appendS (d := 99) (e := 5) (A := (some ⟨b2, 0, none⟩)) (mm := 0) (c := 0) (A2 := (some ⟨sb1, so1, none⟩)) (m2 := (rlenF bs n)) (c2 := c) (bytes := 1) (by kernel_rfl) (by kernel_rfl) (by kernel_rfl) b2 w10.heap.size (iL .u8 ([])) (iL .u8 (bs.take (rlenF bs n))) (Rw.of_new ho2 (Nat.le_refl _) (Nat.le_of_ble_eq_true (by kernel_rfl))) (by rw [iL_length]; first | done | exact (by simp only [List.length_take, List.length_drop]; omega)) (Sl.mono hsl3 (by first | exact Nat.le_refl _ | omega)) iL_one (rlenF bs n) (by omega) (by simp only [maxLen]; omega) (by omega) (by omega) ?_ ?_
                    · intro w1 hs1; exact Step.mono hs1 (by intro i hi; (try simp only at hi ⊢); omega)
                    intro A1 c1 w11 hr2 hg5
                    replace hr2 : Rw w11 b2 5 A1 (rlenF bs n) c1 (iL .u8 (bs.take (rlenF bs n))) := Rw.cast hr2 rfl (by simp only [iL, List.map_append, List.map_cons, List.map_nil, List.append_assoc, List.cons_append, List.nil_append, List.append_nil])
                    have hzhg5 := hg5.size
                    replace hS := Step.transNew hS hg5 (fun i hi hG => by (try simp only at hG); omega)
                    replace hA := hA.keepB hg5 (by (try simp only); omega)
                    replace hsl1 := hsl1.keepB hg5 (by (try simp only); omega)
                    replace hsl2 := hsl2.keepB hg5 (by (try simp only); omega)
                    replace ho1 := ho1.step hg5 (by (try simp only); omega)
                    replace hsl3 := hsl3.keepB hg5 (by (try simp only); omega)
                    replace hbase1 := Nat.le_trans hbase1 (hg5).size
                    refine VT_pures 1 (kn' := [(10, .slice A1 (rlenF bs n) c1), (4, .slice A1 (rlenF bs n) c1), (0, .slice (some ⟨b2, 0, none⟩) 0 0), (9, .int .u8 (bs.getD (n - 8) 0)), (8, .pointer (some ⟨sb1, so1 + (n - 8), none⟩)), (7, .int .i64 (IntKind.wrap .i64 (((n : Nat) : Int) - 8))), (6, .int .i64 ((n : Nat) : Int)), (5, .slice (some ⟨sb1, so1, none⟩) n c), (3, .slice (some ⟨sb1, so1, none⟩) (rlenF bs n) c), (2, .int .i64 ((rlenF bs n : Nat) : Int)), (1, .slice (some ⟨sb1, so1, none⟩) n c)]) (by kernel_rfl) ?_
                    refine VT_end ?_
                    intro w12 hs5
                    replace hS := Step.trans hS hs5
                    replace hA := hA.no hs5
                    replace hsl1 := hsl1.no hs5
                    replace hsl2 := hsl2.no hs5
                    replace ho1 := ho1.no hs5
                    replace hsl3 := hsl3.no hs5
                    replace hbase1 := Nat.le_trans hbase1 (hs5).size
                    replace hr2 := hr2.no hs5
                    refine VL_keep [104, 2] [(104, .int .u8 (bs.getD (n - 8) 0)), (2, .slice A1 (rlenF bs n) c1)] (by kernel_rfl) ?_
                    refine VL_pure 13 [2, 3, 4] [(2, .slice A1 (rlenF bs n) c1), (3, .int .u8 (bs.getD (n - 8) 0)), (4, .int .i64 0)] (by kernel_rfl) rfl ?_
                    refine VL_end (by kernel_rfl) ?_
                    refine VQ_next ?_
                    refine VC_ret ?_
                    refine VQ_ret3 (.slice A1 (rlenF bs n) c1) (.int .u8 (bs.getD (n - 8) 0)) (.int .i64 0) (.inr rfl) rfl rfl rfl rfl ?_
                    obtain ⟨e0, e1, e2⟩ := run_0 hn (by omega) (by omega) ‹_› ‹_› (by omega) (by omega) (by omega) (fun k9 h1 h2 => hz k9 h1 (by omega)) (by omega)
                    have hl9 := Rw.lenI hr2
                    exact ⟨_, _, by (rw [e0, e1, e2, hl9] <;> rfl), by rw [e1, hl9]; exact Rw.low hr2 (by omega), hS⟩

end Go.Proofs.Ytgiefcolkohgkaa
