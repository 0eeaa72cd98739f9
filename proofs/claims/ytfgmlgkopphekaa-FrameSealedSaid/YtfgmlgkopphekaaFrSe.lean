/- Layer 10: FrameSealed. -/
import Derived.Test.YtfgmlgkopphekaaProg
import Derived.Test.YtfgmlgkopphekaaFr9
import Derived.Test.YtfgmlgkopphekaaFr11
import Derived.Test.YtfgmlgkopphekaaFr13
set_option linter.unusedVariables false
set_option linter.unusedSimpArgs false
namespace Go.Proofs.Ytfgmlgkopphekaa
open Go.Vc Go.RowKit

set_option maxRecDepth 100000 in
set_option maxHeartbeats 4000000 in
theorem sealed_a (A : Option Addr) (n c : Nat) (bs : List Int) (p : Nat) (w : World) (hn : bs.length = n) (hA : Sl w w.heap.size A (iL .u8 bs)) (hc : n ≤ c) (hb : Bytes bs) (hp : p < 256) (hlon : 1 ≤ n) (hhin : n ≤ 400) (hq : n ≤ 48 * (p % 8 + 1) - 4) :
    CV Try.prog 4 #[.slice A n c, .int .u8 ((p : Nat) : Int)] w (fun x w1 => x = .bool true ∧ Step No w w1) := by
  have hS : Step No w w := Step.refl _ _
  refine CV_enter Try.f4 _ 109 [(0, .slice A n c), (1, .int .u8 ((p : Nat) : Int))] Try.func4 rfl rfl (by kernel_rfl) rfl ?_
  refine VC_seq ?_
  refine VC_region ?_
  refine VL_pure 1 [0, 1] [(0, .slice A n c), (1, .int .u8 ((p : Nat) : Int))] (by kernel_rfl) rfl ?_
  refine VL_end (by kernel_rfl) ?_
  refine VQ_next ?_
  refine VC_seq ?_
  refine VC_seq ?_
  refine VC_region ?_
  have hzs1 := hS.size
  refine VL_call (d := 14) (f := 9) (args := #[]) (by kernel_rfl) (by kernel_rfl) (by kernel_rfl) Try.call9 (awake_any _) ?_
  rintro _ w1 ⟨rfl, hc1⟩
  replace hS := Step.trans hS hc1
  replace hA := hA.no hc1
  refine VL_pure 7 [0, 1, 20] [(0, .slice A n c), (1, .int .u8 ((p : Nat) : Int)), (20, .bool (decide (((n : Nat) : Int) > 400)))] (by kernel_rfl) rfl ?_
  refine VL_end (by kernel_rfl) ?_
  refine VQ_next ?_
  refine VC_is (b := decide (((n : Nat) : Int) > 400)) false (by kernel_rfl) (by first | (simp; omega) | (simp; done) | simp [*]) ?_
  refine VC_ite_false ?_
  refine VC_skip ?_
  refine VQ_next ?_
  refine VC_seq ?_
  refine VC_region ?_
  refine VL_pure 2 [0, 23] [(0, .slice A n c), (23, .int .i64 (IntKind.wrap .i64 ((p : Nat) : Int)))] (by kernel_rfl) rfl ?_
  have he1 : IntKind.wrap .i64 ((p : Nat) : Int) = ((p : Nat) : Int) := (by rw [wrap_i64 _ (by omega) (by omega)])
  refine VL_eq [(0, .slice A n c), (23, .int .i64 ((p : Nat) : Int))] (by rw [he1]) ?_
  refine VL_pure 3 [0, 24] [(0, .slice A n c), (24, .int .i64 (((p : Nat) : Int).tmod 8))] (by kernel_rfl) rfl ?_
  have he2 : ((p : Nat) : Int).tmod 8 = ((p % 8 : Nat) : Int) := (tmod_nat p 8)
  refine VL_eq [(0, .slice A n c), (24, .int .i64 ((p % 8 : Nat) : Int))] (by rw [he2]) ?_
  refine VL_pure 4 [0, 25] [(0, .slice A n c), (25, .int .i64 (IntKind.wrap .i64 (1 + ((p % 8 : Nat) : Int))))] (by kernel_rfl) rfl ?_
  have he3 : IntKind.wrap .i64 (1 + ((p % 8 : Nat) : Int)) = (((p % 8) + 1 : Nat) : Int) := (by rw [wrap_i64 _ (by omega) (by omega)]; omega)
  refine VL_eq [(0, .slice A n c), (25, .int .i64 (((p % 8) + 1 : Nat) : Int))] (by rw [he3]) ?_
  refine VL_pure 5 [0, 26] [(0, .slice A n c), (26, .int .i64 (IntKind.wrap .i64 (48 * (((p % 8) + 1 : Nat) : Int))))] (by kernel_rfl) rfl ?_
  have he4 : IntKind.wrap .i64 (48 * (((p % 8) + 1 : Nat) : Int)) = ((48 * ((p % 8) + 1) : Nat) : Int) := (by rw [wrap_i64 _ (by omega) (by omega)]; omega)
  refine VL_eq [(0, .slice A n c), (26, .int .i64 ((48 * ((p % 8) + 1) : Nat) : Int))] (by rw [he4]) ?_
  refine VL_pure 6 [0, 5] [(0, .slice A n c), (5, .int .i64 ((48 * ((p % 8) + 1) : Nat) : Int))] (by kernel_rfl) rfl ?_
  refine VL_end (by kernel_rfl) ?_
  refine VQ_next ?_
  refine VC_seq ?_
  refine VC_region ?_
  refine VL_pure 1 [0, 5, 27] [(0, .slice A n c), (5, .int .i64 ((48 * ((p % 8) + 1) : Nat) : Int)), (27, .int .i64 ((48 * ((p % 8) + 1) : Nat) : Int))] (by kernel_rfl) rfl ?_
  have hzs2 := hS.size
  refine VL_make (t := 22) (a := ((48 * ((p % 8) + 1) : Nat) : Int)) (b := ((48 * ((p % 8) + 1) : Nat) : Int)) (e := 5) (d := 28) (k := .u8) (bytes := 1) (by kernel_rfl) (by kernel_rfl) (by kernel_rfl) (by kernel_rfl) (48 * ((p % 8) + 1)) rfl rfl (by omega) (by omega) ?_
  intro g1 w2 hn1
  replace hS := Step.trans hS (hn1.step No)
  replace hA := hA.no (hn1.step No)
  have hzhn1 := hn1.size
  have hqhn1 := hn1.eqb
  have hr1 := Rw.made hn1.own (by simp only [maxLen]; omega)
  have hbase1 : g1 ≤ w2.heap.size := by omega
  have hglg1 : g1 < w2.heap.size := by omega
  refine VL_pure 3 [0, 5, 6] [(0, .slice A n c), (5, .int .i64 ((48 * ((p % 8) + 1) : Nat) : Int)), (6, .slice (some ⟨g1, 0, none⟩) (48 * ((p % 8) + 1)) (48 * ((p % 8) + 1)))] (by kernel_rfl) rfl ?_
  refine VL_end (by kernel_rfl) ?_
  refine VQ_next ?_
  refine VC_seq ?_
  obtain ⟨sb1, so1, rfl, hlbsb1⟩ := hA.open (by simp only [iL_length]; omega)
  have hs1 := drew_step w2
  have hs1z : w2.heap.size = w2.drew.heap.size := rfl
  refine VC_text [[], [], [1], [], [3], [1, 2, 3, 4], [1, 2, 3, 4, 5], [], [7], [0, 1, 2, 3, 4, 5, 6, 7, 8], [], [], [11], [], [11, 12, 13], [11, 12, 13, 14], [11, 12, 13, 14, 15], [10, 11, 12, 13, 14, 15, 16], [0, 1, 2, 3, 4, 5, 6, 7, 8, 9, 10, 11, 12, 13, 14, 15, 16, 17]] 18 (fun x y => Step (fun k => w2.heap.size ≤ k) x y) [] [0, 1, 2, 3, 4, 5, 6, 7, 8, 9, 10, 11, 12, 13, 14, 15, 16, 17] (by kernel_rfl) (by kernel_rfl) (by kernel_rfl) (by kernel_rfl) (fun x => Step.refl _ x) (fun h k => Step.trans h k) Step.weak ?_
  have hzs3 := hS.size
  generalize w2.drew = w3 at hs1 hs1z ⊢
  replace hS := Step.trans hS hs1
  replace hA := hA.no hs1
  replace hbase1 := Nat.le_trans hbase1 (hs1).size
  replace hglg1 := Nat.lt_of_lt_of_le hglg1 (hs1).size
  replace hr1 := hr1.no hs1
  refine VT_pures 9 (kn' := [(8, .int .i64 (IntKind.wrap .i64 (((48 * ((p % 8) + 1) : Nat) : Int) - 4))), (7, .int .i64 ((48 * ((p % 8) + 1) : Nat) : Int)), (6, .int .i64 (imax 0 (IntKind.wrap .i64 ((IntKind.wrap .i64 (((48 * ((p % 8) + 1) : Nat) : Int) - 4)) - ((n : Nat) : Int))))), (5, .int .i64 (IntKind.wrap .i64 ((IntKind.wrap .i64 (((48 * ((p % 8) + 1) : Nat) : Int) - 4)) - ((n : Nat) : Int)))), (4, .int .i64 ((n : Nat) : Int)), (3, .slice (some ⟨sb1, so1, none⟩) n c), (2, .int .i64 (IntKind.wrap .i64 (((48 * ((p % 8) + 1) : Nat) : Int) - 4))), (1, .int .i64 ((48 * ((p % 8) + 1) : Nat) : Int)), (0, .slice (some ⟨g1, 0, none⟩) (48 * ((p % 8) + 1)) (48 * ((p % 8) + 1)))]) (by kernel_rfl) ?_
  have hcap1 := Rw.cap hr1
  have hln1 := Rw.lenI hr1
  obtain ⟨so2, hso2⟩ : ∃ x, (if 48 * ((p % 8) + 1) = (48 * ((p % 8) + 1) - 4 - n) then 0 else 0 + (48 * ((p % 8) + 1) - 4 - n) * 1) = x := ⟨_, rfl⟩
  refine VT_slice (d := 38) (b := g1) (o := 0) (sz := 1) (len := (48 * ((p % 8) + 1))) (cap := (48 * ((p % 8) + 1))) (lo := (some (imax 0 (IntKind.wrap .i64 ((IntKind.wrap .i64 (((48 * ((p % 8) + 1) : Nat) : Int) - 4)) - ((n : Nat) : Int)))))) (hi := (some (IntKind.wrap .i64 (((48 * ((p % 8) + 1) : Nat) : Int) - 4)))) (mx := none) (by kernel_rfl) (by kernel_rfl) (fun h => by first | exact absurd rfl h | exact (fun h => by cases h)) (48 * ((p % 8) + 1) - 4 - n) ((48 * ((p % 8) + 1)) - 4) (48 * ((p % 8) + 1)) (show imax 0 (IntKind.wrap .i64 ((IntKind.wrap .i64 (((48 * ((p % 8) + 1) : Nat) : Int) - 4)) - ((n : Nat) : Int))) = ((48 * ((p % 8) + 1) - 4 - n : Nat) : Int) from (by rw [imax_eq, wrap_i64 (((48 * ((p % 8) + 1) : Nat) : Int) - 4) (by omega) (by omega), wrap_i64 _ (by omega) (by omega)]; omega)) (show IntKind.wrap .i64 (((48 * ((p % 8) + 1) : Nat) : Int) - 4) = (((48 * ((p % 8) + 1)) - 4 : Nat) : Int) from (by rw [wrap_i64 _ (by omega) (by omega)]; omega)) rfl (by omega) (by omega) (by omega) so2 hso2 (((48 * ((p % 8) + 1)) - 4) - (48 * ((p % 8) + 1) - 4 - n)) (by omega) ((48 * ((p % 8) + 1)) - (48 * ((p % 8) + 1) - 4 - n)) (by omega) ?_
  try (have so2q := hso2; rw [if_neg (by omega)] at so2q)
  have hsl1 := Sl.cutI (H := (48 * ((p % 8) + 1)) - 4) (Rw.slI hr1) hso2 (by omega)
  refine VT_pures 7 (kn' := [(16, .int .i64 (imax 0 (IntKind.wrap .i64 ((IntKind.wrap .i64 (((n : Nat) : Int) - ((48 * ((p % 8) + 1) : Nat) : Int))) + 4)))), (15, .int .i64 (IntKind.wrap .i64 ((IntKind.wrap .i64 (((n : Nat) : Int) - ((48 * ((p % 8) + 1) : Nat) : Int))) + 4))), (14, .int .i64 (IntKind.wrap .i64 (((n : Nat) : Int) - ((48 * ((p % 8) + 1) : Nat) : Int)))), (13, .int .i64 ((48 * ((p % 8) + 1) : Nat) : Int)), (12, .int .i64 ((n : Nat) : Int)), (11, .slice (some ⟨sb1, so1, none⟩) n c), (10, .slice (some ⟨sb1, so1, none⟩) n c), (9, .slice (some ⟨g1, so2, none⟩) (((48 * ((p % 8) + 1)) - 4) - (48 * ((p % 8) + 1) - 4 - n)) ((48 * ((p % 8) + 1)) - (48 * ((p % 8) + 1) - 4 - n))), (8, .int .i64 (IntKind.wrap .i64 (((48 * ((p % 8) + 1) : Nat) : Int) - 4))), (7, .int .i64 ((48 * ((p % 8) + 1) : Nat) : Int)), (6, .int .i64 (imax 0 (IntKind.wrap .i64 ((IntKind.wrap .i64 (((48 * ((p % 8) + 1) : Nat) : Int) - 4)) - ((n : Nat) : Int))))), (5, .int .i64 (IntKind.wrap .i64 ((IntKind.wrap .i64 (((48 * ((p % 8) + 1) : Nat) : Int) - 4)) - ((n : Nat) : Int)))), (4, .int .i64 ((n : Nat) : Int)), (3, .slice (some ⟨sb1, so1, none⟩) n c), (2, .int .i64 (IntKind.wrap .i64 (((48 * ((p % 8) + 1) : Nat) : Int) - 4))), (1, .int .i64 ((48 * ((p % 8) + 1) : Nat) : Int)), (0, .slice (some ⟨g1, 0, none⟩) (48 * ((p % 8) + 1)) (48 * ((p % 8) + 1)))]) (by kernel_rfl) ?_
  refine VT_slice (d := 46) (b := sb1) (o := so1) (sz := 1) (len := n) (cap := c) (lo := (some (imax 0 (IntKind.wrap .i64 ((IntKind.wrap .i64 (((n : Nat) : Int) - ((48 * ((p % 8) + 1) : Nat) : Int))) + 4))))) (hi := none) (mx := none) (by kernel_rfl) (by kernel_rfl) (fun h => by first | exact absurd rfl h | exact (fun h => by cases h)) 0 n c (show imax 0 (IntKind.wrap .i64 ((IntKind.wrap .i64 (((n : Nat) : Int) - ((48 * ((p % 8) + 1) : Nat) : Int))) + 4)) = ((0 : Nat) : Int) from (by rw [imax_eq, wrap_i64 (((n : Nat) : Int) - ((48 * ((p % 8) + 1) : Nat) : Int)) (by omega) (by omega), wrap_i64 _ (by omega) (by omega)]; omega)) rfl rfl (by omega) (by omega) (by omega) so1 (by split <;> omega) n (by omega) c (by omega) ?_
  have hsl2 := Sl.takeI hA n
  refine VT_end ?_
  intro w4 hs2
  replace hS := Step.trans hS hs2
  replace hA := hA.no hs2
  replace hbase1 := Nat.le_trans hbase1 (hs2).size
  replace hglg1 := Nat.lt_of_lt_of_le hglg1 (hs2).size
  replace hr1 := hr1.no hs2
  replace hsl1 := hsl1.no hs2
  replace hsl2 := hsl2.no hs2
  refine VL_keep [5, 6, 38, 46] [(5, .int .i64 ((48 * ((p % 8) + 1) : Nat) : Int)), (6, .slice (some ⟨g1, 0, none⟩) (48 * ((p % 8) + 1)) (48 * ((p % 8) + 1))), (38, .slice (some ⟨g1, so2, none⟩) (((48 * ((p % 8) + 1)) - 4) - (48 * ((p % 8) + 1) - 4 - n)) ((48 * ((p % 8) + 1)) - (48 * ((p % 8) + 1) - 4 - n))), (46, .slice (some ⟨sb1, so1, none⟩) n c)] (by kernel_rfl) ?_
  refine VL_copyR (d := 47) (b := g1) (o := so2) (dl := (((48 * ((p % 8) + 1)) - 4) - (48 * ((p % 8) + 1) - 4 - n))) (A2 := (some ⟨sb1, so1, none⟩)) (sl := n) (k := .u8) (bs := (List.replicate (48 * ((p % 8) + 1)) 0)) (vs := (bs.take n)) (by kernel_rfl) (by kernel_rfl) (by simp only [List.length_take, List.length_drop]; omega) (by omega) hsl2 hr1 (by omega) ?_
  intro w5 hr2 hw1 hzhw1
  replace hS := Step.transNew hS hw1 (fun _ _ _ => by omega)
  replace hA := hA.keepB hw1 (show ¬ sb1 = g1 by omega)
  replace hbase1 := Nat.le_trans hbase1 (hw1).size
  replace hglg1 := Nat.lt_of_lt_of_le hglg1 (hw1).size
  replace hsl2 := hsl2.keepB hw1 (show ¬ sb1 = g1 by omega)
  refine VL_end (by kernel_rfl) ?_
  refine VQ_next ?_
  refine VC_seq ?_
  obtain ⟨X, hXE⟩ : ∃ X, X = putL (List.replicate (48 * ((p % 8) + 1)) 0) so2 (bs.take n) := ⟨_, rfl⟩
  rw [← hXE] at hr2
  have hXl : X.length = 48 * ((p % 8) + 1) := by rw [hXE]; exact putL_zl (by simp only [List.length_take, List.length_drop, List.length_nil]; omega)
  have hXb : Bytes X := by rw [hXE]; exact putL_zb (by first | exact nil_bytes | exact (hb.drop _).take _ | exact hb.take _)
  refine VC_region ?_
  refine VL_pure 3 [5, 6, 48, 50] [(5, .int .i64 ((48 * ((p % 8) + 1) : Nat) : Int)), (6, .slice (some ⟨g1, 0, none⟩) (48 * ((p % 8) + 1)) (48 * ((p % 8) + 1))), (48, .slice (some ⟨g1, 0, none⟩) (48 * ((p % 8) + 1)) (48 * ((p % 8) + 1))), (50, .int .i64 (IntKind.wrap .i64 (((48 * ((p % 8) + 1) : Nat) : Int) - 4)))] (by kernel_rfl) rfl ?_
  have he5 : IntKind.wrap .i64 (((48 * ((p % 8) + 1) : Nat) : Int) - 4) = (((48 * ((p % 8) + 1)) - 4 : Nat) : Int) := (by rw [wrap_i64 _ (by omega) (by omega)]; omega)
  refine VL_eq [(5, .int .i64 ((48 * ((p % 8) + 1) : Nat) : Int)), (6, .slice (some ⟨g1, 0, none⟩) (48 * ((p % 8) + 1)) (48 * ((p % 8) + 1))), (48, .slice (some ⟨g1, 0, none⟩) (48 * ((p % 8) + 1)) (48 * ((p % 8) + 1))), (50, .int .i64 (((48 * ((p % 8) + 1)) - 4 : Nat) : Int))] (by rw [he5]) ?_
  have hcap2 := Rw.cap hr2
  have hln2 := Rw.lenI hr2
  refine VL_slice (d := 51) (b := g1) (o := 0) (sz := 1) (len := (48 * ((p % 8) + 1))) (cap := (48 * ((p % 8) + 1))) (lo := none) (hi := (some (((48 * ((p % 8) + 1)) - 4 : Nat) : Int))) (mx := none) (by kernel_rfl) (by kernel_rfl) (fun h => by first | exact absurd rfl h | exact (fun h => by cases h)) 0 ((48 * ((p % 8) + 1)) - 4) (48 * ((p % 8) + 1)) rfl rfl rfl (by omega) (by omega) (by omega) 0 (by split <;> omega) ((48 * ((p % 8) + 1)) - 4) (by omega) (48 * ((p % 8) + 1)) (by omega) ?_
  have hsl3 := Sl.takeI (Rw.slI hr2) ((48 * ((p % 8) + 1)) - 4)
  have hzs4 := hS.size
  refine VL_call (d := 52) (f := 15) (args := #[.slice (some ⟨g1, 0, none⟩) ((48 * ((p % 8) + 1)) - 4) (48 * ((p % 8) + 1))]) (by kernel_rfl) (by kernel_rfl) (by kernel_rfl) Try.call15 (long_any (some ⟨g1, 0, none⟩) ((48 * ((p % 8) + 1)) - 4) (48 * ((p % 8) + 1)) _ (X.take ((48 * ((p % 8) + 1)) - 4)) _ (by simp only [List.length_take, List.length_drop]; omega) hsl3 (by omega) (by first | exact Nat.le_refl _ | omega)) ?_
  rintro _ w6 ⟨rfl, hc2⟩
  replace hS := Step.trans hS hc2
  replace hA := hA.no hc2
  replace hbase1 := Nat.le_trans hbase1 (hc2).size
  replace hglg1 := Nat.lt_of_lt_of_le hglg1 (hc2).size
  replace hsl2 := hsl2.no hc2
  replace hr2 := hr2.no hc2
  replace hsl3 := hsl3.no hc2
  refine VL_pure 6 [5, 6, 7] [(5, .int .i64 ((48 * ((p % 8) + 1) : Nat) : Int)), (6, .slice (some ⟨g1, 0, none⟩) (48 * ((p % 8) + 1)) (48 * ((p % 8) + 1))), (7, .int .u32 (longB (X.take ((48 * ((p % 8) + 1)) - 4))))] (by kernel_rfl) rfl ?_
  refine VL_end (by kernel_rfl) ?_
  refine VQ_next ?_
  refine VC_seq ?_
  refine VC_region ?_
  refine VL_pure 3 [5, 6, 7, 53, 55] [(5, .int .i64 ((48 * ((p % 8) + 1) : Nat) : Int)), (6, .slice (some ⟨g1, 0, none⟩) (48 * ((p % 8) + 1)) (48 * ((p % 8) + 1))), (7, .int .u32 (longB (X.take ((48 * ((p % 8) + 1)) - 4)))), (53, .slice (some ⟨g1, 0, none⟩) (48 * ((p % 8) + 1)) (48 * ((p % 8) + 1))), (55, .int .i64 (IntKind.wrap .i64 (((48 * ((p % 8) + 1) : Nat) : Int) - 4)))] (by kernel_rfl) rfl ?_
  have he6 : IntKind.wrap .i64 (((48 * ((p % 8) + 1) : Nat) : Int) - 4) = (((48 * ((p % 8) + 1)) - 4 : Nat) : Int) := (by rw [wrap_i64 _ (by omega) (by omega)]; omega)
  refine VL_eq [(5, .int .i64 ((48 * ((p % 8) + 1) : Nat) : Int)), (6, .slice (some ⟨g1, 0, none⟩) (48 * ((p % 8) + 1)) (48 * ((p % 8) + 1))), (7, .int .u32 (longB (X.take ((48 * ((p % 8) + 1)) - 4)))), (53, .slice (some ⟨g1, 0, none⟩) (48 * ((p % 8) + 1)) (48 * ((p % 8) + 1))), (55, .int .i64 (((48 * ((p % 8) + 1)) - 4 : Nat) : Int))] (by rw [he6]) ?_
  refine VL_pure 6 [5, 6, 7, 53, 55, 56, 58] [(5, .int .i64 ((48 * ((p % 8) + 1) : Nat) : Int)), (6, .slice (some ⟨g1, 0, none⟩) (48 * ((p % 8) + 1)) (48 * ((p % 8) + 1))), (7, .int .u32 (longB (X.take ((48 * ((p % 8) + 1)) - 4)))), (53, .slice (some ⟨g1, 0, none⟩) (48 * ((p % 8) + 1)) (48 * ((p % 8) + 1))), (55, .int .i64 (((48 * ((p % 8) + 1)) - 4 : Nat) : Int)), (56, .slice (some ⟨g1, 0, none⟩) (48 * ((p % 8) + 1)) (48 * ((p % 8) + 1))), (58, .int .i64 (IntKind.wrap .i64 (((48 * ((p % 8) + 1) : Nat) : Int) - 3)))] (by kernel_rfl) rfl ?_
  have he7 : IntKind.wrap .i64 (((48 * ((p % 8) + 1) : Nat) : Int) - 3) = (((48 * ((p % 8) + 1)) - 3 : Nat) : Int) := (by rw [wrap_i64 _ (by omega) (by omega)]; omega)
  refine VL_eq [(5, .int .i64 ((48 * ((p % 8) + 1) : Nat) : Int)), (6, .slice (some ⟨g1, 0, none⟩) (48 * ((p % 8) + 1)) (48 * ((p % 8) + 1))), (7, .int .u32 (longB (X.take ((48 * ((p % 8) + 1)) - 4)))), (53, .slice (some ⟨g1, 0, none⟩) (48 * ((p % 8) + 1)) (48 * ((p % 8) + 1))), (55, .int .i64 (((48 * ((p % 8) + 1)) - 4 : Nat) : Int)), (56, .slice (some ⟨g1, 0, none⟩) (48 * ((p % 8) + 1)) (48 * ((p % 8) + 1))), (58, .int .i64 (((48 * ((p % 8) + 1)) - 3 : Nat) : Int))] (by rw [he7]) ?_
  refine VL_pure 9 [5, 6, 7, 53, 55, 56, 58, 59, 61] [(5, .int .i64 ((48 * ((p % 8) + 1) : Nat) : Int)), (6, .slice (some ⟨g1, 0, none⟩) (48 * ((p % 8) + 1)) (48 * ((p % 8) + 1))), (7, .int .u32 (longB (X.take ((48 * ((p % 8) + 1)) - 4)))), (53, .slice (some ⟨g1, 0, none⟩) (48 * ((p % 8) + 1)) (48 * ((p % 8) + 1))), (55, .int .i64 (((48 * ((p % 8) + 1)) - 4 : Nat) : Int)), (56, .slice (some ⟨g1, 0, none⟩) (48 * ((p % 8) + 1)) (48 * ((p % 8) + 1))), (58, .int .i64 (((48 * ((p % 8) + 1)) - 3 : Nat) : Int)), (59, .slice (some ⟨g1, 0, none⟩) (48 * ((p % 8) + 1)) (48 * ((p % 8) + 1))), (61, .int .i64 (IntKind.wrap .i64 (((48 * ((p % 8) + 1) : Nat) : Int) - 2)))] (by kernel_rfl) rfl ?_
  have he8 : IntKind.wrap .i64 (((48 * ((p % 8) + 1) : Nat) : Int) - 2) = (((48 * ((p % 8) + 1)) - 2 : Nat) : Int) := (by rw [wrap_i64 _ (by omega) (by omega)]; omega)
  refine VL_eq [(5, .int .i64 ((48 * ((p % 8) + 1) : Nat) : Int)), (6, .slice (some ⟨g1, 0, none⟩) (48 * ((p % 8) + 1)) (48 * ((p % 8) + 1))), (7, .int .u32 (longB (X.take ((48 * ((p % 8) + 1)) - 4)))), (53, .slice (some ⟨g1, 0, none⟩) (48 * ((p % 8) + 1)) (48 * ((p % 8) + 1))), (55, .int .i64 (((48 * ((p % 8) + 1)) - 4 : Nat) : Int)), (56, .slice (some ⟨g1, 0, none⟩) (48 * ((p % 8) + 1)) (48 * ((p % 8) + 1))), (58, .int .i64 (((48 * ((p % 8) + 1)) - 3 : Nat) : Int)), (59, .slice (some ⟨g1, 0, none⟩) (48 * ((p % 8) + 1)) (48 * ((p % 8) + 1))), (61, .int .i64 (((48 * ((p % 8) + 1)) - 2 : Nat) : Int))] (by rw [he8]) ?_
  refine VL_pure 12 [6, 7, 53, 55, 56, 58, 59, 61, 62, 64] [(6, .slice (some ⟨g1, 0, none⟩) (48 * ((p % 8) + 1)) (48 * ((p % 8) + 1))), (7, .int .u32 (longB (X.take ((48 * ((p % 8) + 1)) - 4)))), (53, .slice (some ⟨g1, 0, none⟩) (48 * ((p % 8) + 1)) (48 * ((p % 8) + 1))), (55, .int .i64 (((48 * ((p % 8) + 1)) - 4 : Nat) : Int)), (56, .slice (some ⟨g1, 0, none⟩) (48 * ((p % 8) + 1)) (48 * ((p % 8) + 1))), (58, .int .i64 (((48 * ((p % 8) + 1)) - 3 : Nat) : Int)), (59, .slice (some ⟨g1, 0, none⟩) (48 * ((p % 8) + 1)) (48 * ((p % 8) + 1))), (61, .int .i64 (((48 * ((p % 8) + 1)) - 2 : Nat) : Int)), (62, .slice (some ⟨g1, 0, none⟩) (48 * ((p % 8) + 1)) (48 * ((p % 8) + 1))), (64, .int .i64 (IntKind.wrap .i64 (((48 * ((p % 8) + 1) : Nat) : Int) - 1)))] (by kernel_rfl) rfl ?_
  have he9 : IntKind.wrap .i64 (((48 * ((p % 8) + 1) : Nat) : Int) - 1) = (((48 * ((p % 8) + 1)) - 1 : Nat) : Int) := (by rw [wrap_i64 _ (by omega) (by omega)]; omega)
  refine VL_eq [(6, .slice (some ⟨g1, 0, none⟩) (48 * ((p % 8) + 1)) (48 * ((p % 8) + 1))), (7, .int .u32 (longB (X.take ((48 * ((p % 8) + 1)) - 4)))), (53, .slice (some ⟨g1, 0, none⟩) (48 * ((p % 8) + 1)) (48 * ((p % 8) + 1))), (55, .int .i64 (((48 * ((p % 8) + 1)) - 4 : Nat) : Int)), (56, .slice (some ⟨g1, 0, none⟩) (48 * ((p % 8) + 1)) (48 * ((p % 8) + 1))), (58, .int .i64 (((48 * ((p % 8) + 1)) - 3 : Nat) : Int)), (59, .slice (some ⟨g1, 0, none⟩) (48 * ((p % 8) + 1)) (48 * ((p % 8) + 1))), (61, .int .i64 (((48 * ((p % 8) + 1)) - 2 : Nat) : Int)), (62, .slice (some ⟨g1, 0, none⟩) (48 * ((p % 8) + 1)) (48 * ((p % 8) + 1))), (64, .int .i64 (((48 * ((p % 8) + 1)) - 1 : Nat) : Int))] (by rw [he9]) ?_
  refine VL_pure 23 [6, 53, 55, 56, 58, 59, 61, 62, 64, 67, 70, 73, 75] [(6, .slice (some ⟨g1, 0, none⟩) (48 * ((p % 8) + 1)) (48 * ((p % 8) + 1))), (53, .slice (some ⟨g1, 0, none⟩) (48 * ((p % 8) + 1)) (48 * ((p % 8) + 1))), (55, .int .i64 (((48 * ((p % 8) + 1)) - 4 : Nat) : Int)), (56, .slice (some ⟨g1, 0, none⟩) (48 * ((p % 8) + 1)) (48 * ((p % 8) + 1))), (58, .int .i64 (((48 * ((p % 8) + 1)) - 3 : Nat) : Int)), (59, .slice (some ⟨g1, 0, none⟩) (48 * ((p % 8) + 1)) (48 * ((p % 8) + 1))), (61, .int .i64 (((48 * ((p % 8) + 1)) - 2 : Nat) : Int)), (62, .slice (some ⟨g1, 0, none⟩) (48 * ((p % 8) + 1)) (48 * ((p % 8) + 1))), (64, .int .i64 (((48 * ((p % 8) + 1)) - 1 : Nat) : Int)), (67, .int .u8 (IntKind.wrap .u8 ((longB (X.take ((48 * ((p % 8) + 1)) - 4))).fdiv (2 ^ 24)))), (70, .int .u8 (IntKind.wrap .u8 ((longB (X.take ((48 * ((p % 8) + 1)) - 4))).fdiv (2 ^ 16)))), (73, .int .u8 (IntKind.wrap .u8 ((longB (X.take ((48 * ((p % 8) + 1)) - 4))).fdiv (2 ^ 8)))), (75, .int .u8 (IntKind.wrap .u8 (longB (X.take ((48 * ((p % 8) + 1)) - 4)))))] (by kernel_rfl) rfl ?_
  refine VL_index (d := 76) (b := g1) (o := 0) (len := (48 * ((p % 8) + 1))) (sz := 1) (m := (((48 * ((p % 8) + 1)) - 4 : Nat) : Int)) (by kernel_rfl) (by kernel_rfl) ((48 * ((p % 8) + 1)) - 4) (by rfl) (by omega) ((48 * ((p % 8) + 1)) - 4) (by omega) ?_
  obtain ⟨cur1, hgbcur1, hglcur1, howcur1, hcscur1, hcncur1, hcmcur1, hctcur1⟩ := hr2.openG
  refine VL_store (b := g1) (o := ((48 * ((p % 8) + 1)) - 4)) (vs := [.int .u8 (IntKind.wrap .u8 ((longB (X.take ((48 * ((p % 8) + 1)) - 4))).fdiv (2 ^ 24)))]) (by kernel_rfl) (by kernel_rfl) howcur1 (by simp only [List.length_singleton]; omega) ?_
  intro w7 hw2
  replace hS := Step.transNew hS hw2.step (fun _ _ _ => by omega)
  replace hA := hA.keepB hw2.step (show ¬ sb1 = g1 by omega)
  replace hbase1 := Nat.le_trans hbase1 (hw2.step).size
  replace hglg1 := Nat.lt_of_lt_of_le hglg1 (hw2.step).size
  replace hsl2 := hsl2.keepB hw2.step (show ¬ sb1 = g1 by omega)
  have ho1 := Rw.putI hctcur1 hw2 hgbcur1 hcscur1 hcncur1 hcmcur1 (j := ((48 * ((p % 8) + 1)) - 4)) (by omega)
  have hzhw2 := hw2.same
  refine VL_index (d := 77) (b := g1) (o := 0) (len := (48 * ((p % 8) + 1))) (sz := 1) (m := (((48 * ((p % 8) + 1)) - 3 : Nat) : Int)) (by kernel_rfl) (by kernel_rfl) ((48 * ((p % 8) + 1)) - 3) (by rfl) (by omega) ((48 * ((p % 8) + 1)) - 3) (by omega) ?_
  obtain ⟨cur2, hgbcur2, hglcur2, howcur2, hcscur2, hcncur2, hcmcur2, hctcur2⟩ := ho1.openG
  refine VL_store (b := g1) (o := ((48 * ((p % 8) + 1)) - 3)) (vs := [.int .u8 (IntKind.wrap .u8 ((longB (X.take ((48 * ((p % 8) + 1)) - 4))).fdiv (2 ^ 16)))]) (by kernel_rfl) (by kernel_rfl) howcur2 (by simp only [List.length_singleton]; omega) ?_
  intro w8 hw3
  replace hS := Step.transNew hS hw3.step (fun _ _ _ => by omega)
  replace hA := hA.keepB hw3.step (show ¬ sb1 = g1 by omega)
  replace hbase1 := Nat.le_trans hbase1 (hw3.step).size
  replace hglg1 := Nat.lt_of_lt_of_le hglg1 (hw3.step).size
  replace hsl2 := hsl2.keepB hw3.step (show ¬ sb1 = g1 by omega)
  have ho2 := Rw.putI hctcur2 hw3 hgbcur2 hcscur2 hcncur2 hcmcur2 (j := ((48 * ((p % 8) + 1)) - 3)) (by omega)
  have hzhw3 := hw3.same
  refine VL_index (d := 78) (b := g1) (o := 0) (len := (48 * ((p % 8) + 1))) (sz := 1) (m := (((48 * ((p % 8) + 1)) - 2 : Nat) : Int)) (by kernel_rfl) (by kernel_rfl) ((48 * ((p % 8) + 1)) - 2) (by rfl) (by omega) ((48 * ((p % 8) + 1)) - 2) (by omega) ?_
  obtain ⟨cur3, hgbcur3, hglcur3, howcur3, hcscur3, hcncur3, hcmcur3, hctcur3⟩ := ho2.openG
  refine VL_store (b := g1) (o := ((48 * ((p % 8) + 1)) - 2)) (vs := [.int .u8 (IntKind.wrap .u8 ((longB (X.take ((48 * ((p % 8) + 1)) - 4))).fdiv (2 ^ 8)))]) (by kernel_rfl) (by kernel_rfl) howcur3 (by simp only [List.length_singleton]; omega) ?_
  intro w9 hw4
  replace hS := Step.transNew hS hw4.step (fun _ _ _ => by omega)
  replace hA := hA.keepB hw4.step (show ¬ sb1 = g1 by omega)
  replace hbase1 := Nat.le_trans hbase1 (hw4.step).size
  replace hglg1 := Nat.lt_of_lt_of_le hglg1 (hw4.step).size
  replace hsl2 := hsl2.keepB hw4.step (show ¬ sb1 = g1 by omega)
  have ho3 := Rw.putI hctcur3 hw4 hgbcur3 hcscur3 hcncur3 hcmcur3 (j := ((48 * ((p % 8) + 1)) - 2)) (by omega)
  have hzhw4 := hw4.same
  refine VL_index (d := 79) (b := g1) (o := 0) (len := (48 * ((p % 8) + 1))) (sz := 1) (m := (((48 * ((p % 8) + 1)) - 1 : Nat) : Int)) (by kernel_rfl) (by kernel_rfl) ((48 * ((p % 8) + 1)) - 1) (by rfl) (by omega) ((48 * ((p % 8) + 1)) - 1) (by omega) ?_
  obtain ⟨cur4, hgbcur4, hglcur4, howcur4, hcscur4, hcncur4, hcmcur4, hctcur4⟩ := ho3.openG
  refine VL_store (b := g1) (o := ((48 * ((p % 8) + 1)) - 1)) (vs := [.int .u8 (IntKind.wrap .u8 (longB (X.take ((48 * ((p % 8) + 1)) - 4))))]) (by kernel_rfl) (by kernel_rfl) howcur4 (by simp only [List.length_singleton]; omega) ?_
  intro w10 hw5
  replace hS := Step.transNew hS hw5.step (fun _ _ _ => by omega)
  replace hA := hA.keepB hw5.step (show ¬ sb1 = g1 by omega)
  replace hbase1 := Nat.le_trans hbase1 (hw5.step).size
  replace hglg1 := Nat.lt_of_lt_of_le hglg1 (hw5.step).size
  replace hsl2 := hsl2.keepB hw5.step (show ¬ sb1 = g1 by omega)
  have ho4 := Rw.putI hctcur4 hw5 hgbcur4 hcscur4 hcncur4 hcmcur4 (j := ((48 * ((p % 8) + 1)) - 1)) (by omega)
  have hzhw5 := hw5.same
  refine VL_end (by kernel_rfl) ?_
  refine VQ_next ?_
  refine VC_seq ?_
  obtain ⟨Y, hYE⟩ : ∃ Y, Y = (((X.set ((48 * ((p % 8) + 1)) - 4) (IntKind.wrap .u8 ((longB (X.take ((48 * ((p % 8) + 1)) - 4))).fdiv (2 ^ 24)))).set ((48 * ((p % 8) + 1)) - 3) (IntKind.wrap .u8 ((longB (X.take ((48 * ((p % 8) + 1)) - 4))).fdiv (2 ^ 16)))).set ((48 * ((p % 8) + 1)) - 2) (IntKind.wrap .u8 ((longB (X.take ((48 * ((p % 8) + 1)) - 4))).fdiv (2 ^ 8)))).set ((48 * ((p % 8) + 1)) - 1) (IntKind.wrap .u8 (longB (X.take ((48 * ((p % 8) + 1)) - 4)))) := ⟨_, rfl⟩
  rw [← hYE] at ho4
  have hYs : Y = X.take (48 * ((p % 8) + 1) - 4) ++ sumL (X.take (48 * ((p % 8) + 1) - 4)) := hYE.trans (set4 hXl (by omega))
  have hYl : Y.length = 48 * ((p % 8) + 1) := by rw [hYE]; simp [hXl]
  have hYb : Bytes Y := by rw [hYs]; exact (hXb.take _).app (sumL_bytes _)
  refine VC_region ?_
  refine VL_pure 1 [6, 81] [(6, .slice (some ⟨g1, 0, none⟩) (48 * ((p % 8) + 1)) (48 * ((p % 8) + 1))), (81, .slice (some ⟨g1, 0, none⟩) (48 * ((p % 8) + 1)) (48 * ((p % 8) + 1)))] (by kernel_rfl) rfl ?_
  have hzs5 := hS.size
  refine VL_call (d := 82) (f := 12) (by kernel_rfl) (by kernel_rfl) (by kernel_rfl) Try.call12 (unpack_any (some ⟨g1, 0, none⟩) (48 * ((p % 8) + 1)) (48 * ((p % 8) + 1)) _ Y _ (Rw.lenI ho4) (Rw.slI ho4) hYb (by first | exact Nat.le_refl _ | omega) (by omega) (by omega)) ?_
  rintro _ w11 ⟨A1, c1, rfl, hr3, hc3⟩
  replace hS := Step.trans hS hc3
  replace hA := hA.no hc3
  replace hbase1 := Nat.le_trans hbase1 (hc3).size
  replace hglg1 := Nat.lt_of_lt_of_le hglg1 (hc3).size
  replace hsl2 := hsl2.no hc3
  replace ho4 := ho4.no hc3
  obtain ⟨base1, hbase2E⟩ : ∃ x, x = w10.heap.size := ⟨_, rfl⟩
  rw [← hbase2E] at hr3
  have hbase2 : base1 ≤ w11.heap.size := by rw [hbase2E]; exact hc3.size
  have hutq1 := unT_le Y
  refine VL_pure 9 [6, 8, 9, 10] [(6, .slice (some ⟨g1, 0, none⟩) (48 * ((p % 8) + 1)) (48 * ((p % 8) + 1))), (8, .slice A1 ((unT Y).length) c1), (9, .int .u8 (unM Y)), (10, .int .i64 (unE Y))] (by kernel_rfl) rfl ?_
  refine VL_end (by kernel_rfl) ?_
  refine VQ_next ?_
  refine VC_seq ?_
  refine VC_region ?_
  refine VL_pure 1 [8, 9, 10, 87] [(8, .slice A1 ((unT Y).length) c1), (9, .int .u8 (unM Y)), (10, .int .i64 (unE Y)), (87, .slice (some ⟨g1, 0, none⟩) (48 * ((p % 8) + 1)) (48 * ((p % 8) + 1)))] (by kernel_rfl) rfl ?_
  have hzs6 := hS.size
  refine VL_call (d := 88) (f := 13) (by kernel_rfl) (by kernel_rfl) (by kernel_rfl) Try.call13 (runpack2_any (some ⟨g1, 0, none⟩) (48 * ((p % 8) + 1)) (48 * ((p % 8) + 1)) _ Y _ (Rw.lenI ho4) (Rw.slI ho4) hYb (by first | exact Nat.le_refl _ | omega) (by omega) (by omega)) ?_
  rintro _ w12 ⟨A2, c2, rfl, hr4, hc4⟩
  replace hS := Step.trans hS hc4
  replace hA := hA.no hc4
  replace hbase1 := Nat.le_trans hbase1 (hc4).size
  replace hglg1 := Nat.lt_of_lt_of_le hglg1 (hc4).size
  replace hsl2 := hsl2.no hc4
  replace ho4 := ho4.no hc4
  replace hbase2 := Nat.le_trans hbase2 (hc4).size
  replace hr3 := hr3.no hc4
  obtain ⟨base2, hbase3E⟩ : ∃ x, x = w11.heap.size := ⟨_, rfl⟩
  rw [← hbase3E] at hr4
  have hbase3 : base2 ≤ w12.heap.size := by rw [hbase3E]; exact hc4.size
  refine VL_pure 9 [8, 9, 10, 11, 12, 13] [(8, .slice A1 ((unT Y).length) c1), (9, .int .u8 (unM Y)), (10, .int .i64 (unE Y)), (11, .slice A2 ((unT Y).length) c2), (12, .int .u8 (unM Y)), (13, .int .i64 (unE Y))] (by kernel_rfl) rfl ?_
  refine VL_end (by kernel_rfl) ?_
  refine VQ_next ?_
  refine VC_seq ?_
  refine VC_region ?_
  refine VL_pure 2 [9, 10, 12, 13, 92, 93] [(9, .int .u8 (unM Y)), (10, .int .i64 (unE Y)), (12, .int .u8 (unM Y)), (13, .int .i64 (unE Y)), (92, .slice A1 ((unT Y).length) c1), (93, .slice A2 ((unT Y).length) c2)] (by kernel_rfl) rfl ?_
  have hzs7 := hS.size
  refine VL_call (d := 94) (f := 14) (args := #[.slice A1 ((unT Y).length) c1, .slice A2 ((unT Y).length) c2]) (by kernel_rfl) (by kernel_rfl) (by kernel_rfl) Try.call14 (same_any A1 ((unT Y).length) c1 _ (unT Y) A2 ((unT Y).length) c2 _ (unT Y) _ (Rw.lenI hr3) (Rw.slI hr3) (Rw.lenI hr4) (Rw.slI hr4) (by omega) (by omega) (by first | exact Nat.le_refl _ | omega) (by first | exact Nat.le_refl _ | omega)) ?_
  rintro _ w13 ⟨rfl, hc5⟩
  replace hS := Step.trans hS hc5
  replace hA := hA.no hc5
  replace hbase1 := Nat.le_trans hbase1 (hc5).size
  replace hglg1 := Nat.lt_of_lt_of_le hglg1 (hc5).size
  replace hsl2 := hsl2.no hc5
  replace ho4 := ho4.no hc5
  replace hbase2 := Nat.le_trans hbase2 (hc5).size
  replace hr3 := hr3.no hc5
  replace hbase3 := Nat.le_trans hbase3 (hc5).size
  replace hr4 := hr4.no hc5
  refine VL_pure 4 [9, 10, 12, 13, 95] [(9, .int .u8 (unM Y)), (10, .int .i64 (unE Y)), (12, .int .u8 (unM Y)), (13, .int .i64 (unE Y)), (95, .bool ((unT Y) == (unT Y)))] (by kernel_rfl) rfl ?_
  refine VL_known ((unT Y) == (unT Y)) (fun bV => [(9, .int .u8 (unM Y)), (10, .int .i64 (unE Y)), (12, .int .u8 (unM Y)), (13, .int .i64 (unE Y)), (95, .bool bV)]) true rfl (by simp) ?_
  refine VL_pure 9 [10, 13, 100] [(10, .int .i64 (unE Y)), (13, .int .i64 (unE Y)), (100, .bool ((unM Y) == (unM Y)))] (by kernel_rfl) rfl ?_
  refine VL_known ((unM Y) == (unM Y)) (fun bV => [(10, .int .i64 (unE Y)), (13, .int .i64 (unE Y)), (100, .bool bV)]) true rfl (by simp) ?_
  refine VL_pure 14 [10, 105] [(10, .int .i64 (unE Y)), (105, .bool ((unE Y) == (unE Y)))] (by kernel_rfl) rfl ?_
  refine VL_known ((unE Y) == (unE Y)) (fun bV => [(10, .int .i64 (unE Y)), (105, .bool bV)]) true rfl (by simp) ?_
  refine VL_pure 18 [4] [(4, .bool ((unE Y) != 4))] (by kernel_rfl) rfl ?_
  refine VL_end (by kernel_rfl) ?_
  refine VQ_next ?_
  refine VC_ret ?_
  refine VQ_ret1 (.bool ((unE Y) != 4)) (.inr rfl) rfl rfl ?_
  exact ⟨by first | rfl | exact congrArg Value.bool (bne_iff_ne.2 (un_sealed hYs)) | simp [*], hS⟩

set_option maxRecDepth 100000 in
set_option maxHeartbeats 4000000 in
theorem sealed_b (A : Option Addr) (n c : Nat) (bs : List Int) (p : Nat) (w : World) (hn : bs.length = n) (hA : Sl w w.heap.size A (iL .u8 bs)) (hc : n ≤ c) (hb : Bytes bs) (hp : p < 256) (hlon : 1 ≤ n) (hhin : n ≤ 400) (hq : 48 * (p % 8 + 1) - 4 < n) :
    CV Try.prog 4 #[.slice A n c, .int .u8 ((p : Nat) : Int)] w (fun x w1 => x = .bool true ∧ Step No w w1) := by
  have hS : Step No w w := Step.refl _ _
  refine CV_enter Try.f4 _ 109 [(0, .slice A n c), (1, .int .u8 ((p : Nat) : Int))] Try.func4 rfl rfl (by kernel_rfl) rfl ?_
  refine VC_seq ?_
  refine VC_region ?_
  refine VL_pure 1 [0, 1] [(0, .slice A n c), (1, .int .u8 ((p : Nat) : Int))] (by kernel_rfl) rfl ?_
  refine VL_end (by kernel_rfl) ?_
  refine VQ_next ?_
  refine VC_seq ?_
  refine VC_seq ?_
  refine VC_region ?_
  have hzs1 := hS.size
  refine VL_call (d := 14) (f := 9) (args := #[]) (by kernel_rfl) (by kernel_rfl) (by kernel_rfl) Try.call9 (awake_any _) ?_
  rintro _ w1 ⟨rfl, hc1⟩
  replace hS := Step.trans hS hc1
  replace hA := hA.no hc1
  refine VL_pure 7 [0, 1, 20] [(0, .slice A n c), (1, .int .u8 ((p : Nat) : Int)), (20, .bool (decide (((n : Nat) : Int) > 400)))] (by kernel_rfl) rfl ?_
  refine VL_end (by kernel_rfl) ?_
  refine VQ_next ?_
  refine VC_is (b := decide (((n : Nat) : Int) > 400)) false (by kernel_rfl) (by first | (simp; omega) | (simp; done) | simp [*]) ?_
  refine VC_ite_false ?_
  refine VC_skip ?_
  refine VQ_next ?_
  refine VC_seq ?_
  refine VC_region ?_
  refine VL_pure 2 [0, 23] [(0, .slice A n c), (23, .int .i64 (IntKind.wrap .i64 ((p : Nat) : Int)))] (by kernel_rfl) rfl ?_
  have he1 : IntKind.wrap .i64 ((p : Nat) : Int) = ((p : Nat) : Int) := (by rw [wrap_i64 _ (by omega) (by omega)])
  refine VL_eq [(0, .slice A n c), (23, .int .i64 ((p : Nat) : Int))] (by rw [he1]) ?_
  refine VL_pure 3 [0, 24] [(0, .slice A n c), (24, .int .i64 (((p : Nat) : Int).tmod 8))] (by kernel_rfl) rfl ?_
  have he2 : ((p : Nat) : Int).tmod 8 = ((p % 8 : Nat) : Int) := (tmod_nat p 8)
  refine VL_eq [(0, .slice A n c), (24, .int .i64 ((p % 8 : Nat) : Int))] (by rw [he2]) ?_
  refine VL_pure 4 [0, 25] [(0, .slice A n c), (25, .int .i64 (IntKind.wrap .i64 (1 + ((p % 8 : Nat) : Int))))] (by kernel_rfl) rfl ?_
  have he3 : IntKind.wrap .i64 (1 + ((p % 8 : Nat) : Int)) = (((p % 8) + 1 : Nat) : Int) := (by rw [wrap_i64 _ (by omega) (by omega)]; omega)
  refine VL_eq [(0, .slice A n c), (25, .int .i64 (((p % 8) + 1 : Nat) : Int))] (by rw [he3]) ?_
  refine VL_pure 5 [0, 26] [(0, .slice A n c), (26, .int .i64 (IntKind.wrap .i64 (48 * (((p % 8) + 1 : Nat) : Int))))] (by kernel_rfl) rfl ?_
  have he4 : IntKind.wrap .i64 (48 * (((p % 8) + 1 : Nat) : Int)) = ((48 * ((p % 8) + 1) : Nat) : Int) := (by rw [wrap_i64 _ (by omega) (by omega)]; omega)
  refine VL_eq [(0, .slice A n c), (26, .int .i64 ((48 * ((p % 8) + 1) : Nat) : Int))] (by rw [he4]) ?_
  refine VL_pure 6 [0, 5] [(0, .slice A n c), (5, .int .i64 ((48 * ((p % 8) + 1) : Nat) : Int))] (by kernel_rfl) rfl ?_
  refine VL_end (by kernel_rfl) ?_
  refine VQ_next ?_
  refine VC_seq ?_
  refine VC_region ?_
  refine VL_pure 1 [0, 5, 27] [(0, .slice A n c), (5, .int .i64 ((48 * ((p % 8) + 1) : Nat) : Int)), (27, .int .i64 ((48 * ((p % 8) + 1) : Nat) : Int))] (by kernel_rfl) rfl ?_
  have hzs2 := hS.size
  refine VL_make (t := 22) (a := ((48 * ((p % 8) + 1) : Nat) : Int)) (b := ((48 * ((p % 8) + 1) : Nat) : Int)) (e := 5) (d := 28) (k := .u8) (bytes := 1) (by kernel_rfl) (by kernel_rfl) (by kernel_rfl) (by kernel_rfl) (48 * ((p % 8) + 1)) rfl rfl (by omega) (by omega) ?_
  intro g1 w2 hn1
  replace hS := Step.trans hS (hn1.step No)
  replace hA := hA.no (hn1.step No)
  have hzhn1 := hn1.size
  have hqhn1 := hn1.eqb
  have hr1 := Rw.made hn1.own (by simp only [maxLen]; omega)
  have hbase1 : g1 ≤ w2.heap.size := by omega
  have hglg1 : g1 < w2.heap.size := by omega
  refine VL_pure 3 [0, 5, 6] [(0, .slice A n c), (5, .int .i64 ((48 * ((p % 8) + 1) : Nat) : Int)), (6, .slice (some ⟨g1, 0, none⟩) (48 * ((p % 8) + 1)) (48 * ((p % 8) + 1)))] (by kernel_rfl) rfl ?_
  refine VL_end (by kernel_rfl) ?_
  refine VQ_next ?_
  refine VC_seq ?_
  obtain ⟨sb1, so1, rfl, hlbsb1⟩ := hA.open (by simp only [iL_length]; omega)
  have hs1 := drew_step w2
  have hs1z : w2.heap.size = w2.drew.heap.size := rfl
  refine VC_text [[], [], [1], [], [3], [1, 2, 3, 4], [1, 2, 3, 4, 5], [], [7], [0, 1, 2, 3, 4, 5, 6, 7, 8], [], [], [11], [], [11, 12, 13], [11, 12, 13, 14], [11, 12, 13, 14, 15], [10, 11, 12, 13, 14, 15, 16], [0, 1, 2, 3, 4, 5, 6, 7, 8, 9, 10, 11, 12, 13, 14, 15, 16, 17]] 18 (fun x y => Step (fun k => w2.heap.size ≤ k) x y) [] [0, 1, 2, 3, 4, 5, 6, 7, 8, 9, 10, 11, 12, 13, 14, 15, 16, 17] (by kernel_rfl) (by kernel_rfl) (by kernel_rfl) (by kernel_rfl) (fun x => Step.refl _ x) (fun h k => Step.trans h k) Step.weak ?_
  have hzs3 := hS.size
  generalize w2.drew = w3 at hs1 hs1z ⊢
  replace hS := Step.trans hS hs1
  replace hA := hA.no hs1
  replace hbase1 := Nat.le_trans hbase1 (hs1).size
  replace hglg1 := Nat.lt_of_lt_of_le hglg1 (hs1).size
  replace hr1 := hr1.no hs1
  refine VT_pures 9 (kn' := [(8, .int .i64 (IntKind.wrap .i64 (((48 * ((p % 8) + 1) : Nat) : Int) - 4))), (7, .int .i64 ((48 * ((p % 8) + 1) : Nat) : Int)), (6, .int .i64 (imax 0 (IntKind.wrap .i64 ((IntKind.wrap .i64 (((48 * ((p % 8) + 1) : Nat) : Int) - 4)) - ((n : Nat) : Int))))), (5, .int .i64 (IntKind.wrap .i64 ((IntKind.wrap .i64 (((48 * ((p % 8) + 1) : Nat) : Int) - 4)) - ((n : Nat) : Int)))), (4, .int .i64 ((n : Nat) : Int)), (3, .slice (some ⟨sb1, so1, none⟩) n c), (2, .int .i64 (IntKind.wrap .i64 (((48 * ((p % 8) + 1) : Nat) : Int) - 4))), (1, .int .i64 ((48 * ((p % 8) + 1) : Nat) : Int)), (0, .slice (some ⟨g1, 0, none⟩) (48 * ((p % 8) + 1)) (48 * ((p % 8) + 1)))]) (by kernel_rfl) ?_
  have hcap1 := Rw.cap hr1
  have hln1 := Rw.lenI hr1
  refine VT_slice (d := 38) (b := g1) (o := 0) (sz := 1) (len := (48 * ((p % 8) + 1))) (cap := (48 * ((p % 8) + 1))) (lo := (some (imax 0 (IntKind.wrap .i64 ((IntKind.wrap .i64 (((48 * ((p % 8) + 1) : Nat) : Int) - 4)) - ((n : Nat) : Int)))))) (hi := (some (IntKind.wrap .i64 (((48 * ((p % 8) + 1) : Nat) : Int) - 4)))) (mx := none) (by kernel_rfl) (by kernel_rfl) (fun h => by first | exact absurd rfl h | exact (fun h => by cases h)) 0 ((48 * ((p % 8) + 1)) - 4) (48 * ((p % 8) + 1)) (show imax 0 (IntKind.wrap .i64 ((IntKind.wrap .i64 (((48 * ((p % 8) + 1) : Nat) : Int) - 4)) - ((n : Nat) : Int))) = ((0 : Nat) : Int) from (by rw [imax_eq, wrap_i64 (((48 * ((p % 8) + 1) : Nat) : Int) - 4) (by omega) (by omega), wrap_i64 _ (by omega) (by omega)]; omega)) (show IntKind.wrap .i64 (((48 * ((p % 8) + 1) : Nat) : Int) - 4) = (((48 * ((p % 8) + 1)) - 4 : Nat) : Int) from (by rw [wrap_i64 _ (by omega) (by omega)]; omega)) rfl (by omega) (by omega) (by omega) 0 (by split <;> omega) ((48 * ((p % 8) + 1)) - 4) (by omega) (48 * ((p % 8) + 1)) (by omega) ?_
  have hsl1 := Sl.takeI (Rw.slI hr1) ((48 * ((p % 8) + 1)) - 4)
  refine VT_pures 7 (kn' := [(16, .int .i64 (imax 0 (IntKind.wrap .i64 ((IntKind.wrap .i64 (((n : Nat) : Int) - ((48 * ((p % 8) + 1) : Nat) : Int))) + 4)))), (15, .int .i64 (IntKind.wrap .i64 ((IntKind.wrap .i64 (((n : Nat) : Int) - ((48 * ((p % 8) + 1) : Nat) : Int))) + 4))), (14, .int .i64 (IntKind.wrap .i64 (((n : Nat) : Int) - ((48 * ((p % 8) + 1) : Nat) : Int)))), (13, .int .i64 ((48 * ((p % 8) + 1) : Nat) : Int)), (12, .int .i64 ((n : Nat) : Int)), (11, .slice (some ⟨sb1, so1, none⟩) n c), (10, .slice (some ⟨sb1, so1, none⟩) n c), (9, .slice (some ⟨g1, 0, none⟩) ((48 * ((p % 8) + 1)) - 4) (48 * ((p % 8) + 1))), (8, .int .i64 (IntKind.wrap .i64 (((48 * ((p % 8) + 1) : Nat) : Int) - 4))), (7, .int .i64 ((48 * ((p % 8) + 1) : Nat) : Int)), (6, .int .i64 (imax 0 (IntKind.wrap .i64 ((IntKind.wrap .i64 (((48 * ((p % 8) + 1) : Nat) : Int) - 4)) - ((n : Nat) : Int))))), (5, .int .i64 (IntKind.wrap .i64 ((IntKind.wrap .i64 (((48 * ((p % 8) + 1) : Nat) : Int) - 4)) - ((n : Nat) : Int)))), (4, .int .i64 ((n : Nat) : Int)), (3, .slice (some ⟨sb1, so1, none⟩) n c), (2, .int .i64 (IntKind.wrap .i64 (((48 * ((p % 8) + 1) : Nat) : Int) - 4))), (1, .int .i64 ((48 * ((p % 8) + 1) : Nat) : Int)), (0, .slice (some ⟨g1, 0, none⟩) (48 * ((p % 8) + 1)) (48 * ((p % 8) + 1)))]) (by kernel_rfl) ?_
  obtain ⟨so2, hso2⟩ : ∃ x, (if c = (n + 4 - 48 * ((p % 8) + 1)) then so1 else so1 + (n + 4 - 48 * ((p % 8) + 1)) * 1) = x := ⟨_, rfl⟩
  refine VT_slice (d := 46) (b := sb1) (o := so1) (sz := 1) (len := n) (cap := c) (lo := (some (imax 0 (IntKind.wrap .i64 ((IntKind.wrap .i64 (((n : Nat) : Int) - ((48 * ((p % 8) + 1) : Nat) : Int))) + 4))))) (hi := none) (mx := none) (by kernel_rfl) (by kernel_rfl) (fun h => by first | exact absurd rfl h | exact (fun h => by cases h)) (n + 4 - 48 * ((p % 8) + 1)) n c (show imax 0 (IntKind.wrap .i64 ((IntKind.wrap .i64 (((n : Nat) : Int) - ((48 * ((p % 8) + 1) : Nat) : Int))) + 4)) = ((n + 4 - 48 * ((p % 8) + 1) : Nat) : Int) from (by rw [imax_eq, wrap_i64 (((n : Nat) : Int) - ((48 * ((p % 8) + 1) : Nat) : Int)) (by omega) (by omega), wrap_i64 _ (by omega) (by omega)]; omega)) rfl rfl (by omega) (by omega) (by omega) so2 hso2 (n - (n + 4 - 48 * ((p % 8) + 1))) (by omega) (c - (n + 4 - 48 * ((p % 8) + 1))) (by omega) ?_
  try (have so2q := hso2; rw [if_neg (by omega)] at so2q)
  have hsl2 := Sl.cutI (H := n) hA hso2 (by omega)
  refine VT_end ?_
  intro w4 hs2
  replace hS := Step.trans hS hs2
  replace hA := hA.no hs2
  replace hbase1 := Nat.le_trans hbase1 (hs2).size
  replace hglg1 := Nat.lt_of_lt_of_le hglg1 (hs2).size
  replace hr1 := hr1.no hs2
  replace hsl1 := hsl1.no hs2
  replace hsl2 := hsl2.no hs2
  refine VL_keep [5, 6, 38, 46] [(5, .int .i64 ((48 * ((p % 8) + 1) : Nat) : Int)), (6, .slice (some ⟨g1, 0, none⟩) (48 * ((p % 8) + 1)) (48 * ((p % 8) + 1))), (38, .slice (some ⟨g1, 0, none⟩) ((48 * ((p % 8) + 1)) - 4) (48 * ((p % 8) + 1))), (46, .slice (some ⟨sb1, so2, none⟩) (n - (n + 4 - 48 * ((p % 8) + 1))) (c - (n + 4 - 48 * ((p % 8) + 1))))] (by kernel_rfl) ?_
  refine VL_copyR (d := 47) (b := g1) (o := 0) (dl := ((48 * ((p % 8) + 1)) - 4)) (A2 := (some ⟨sb1, so2, none⟩)) (sl := (n - (n + 4 - 48 * ((p % 8) + 1)))) (k := .u8) (bs := (List.replicate (48 * ((p % 8) + 1)) 0)) (vs := ((bs.drop (n + 4 - 48 * ((p % 8) + 1))).take (n - (n + 4 - 48 * ((p % 8) + 1))))) (by kernel_rfl) (by kernel_rfl) (by simp only [List.length_take, List.length_drop]; omega) (by omega) hsl2 hr1 (by omega) ?_
  intro w5 hr2 hw1 hzhw1
  replace hS := Step.transNew hS hw1 (fun _ _ _ => by omega)
  replace hA := hA.keepB hw1 (show ¬ sb1 = g1 by omega)
  replace hbase1 := Nat.le_trans hbase1 (hw1).size
  replace hglg1 := Nat.lt_of_lt_of_le hglg1 (hw1).size
  replace hsl2 := hsl2.keepB hw1 (show ¬ sb1 = g1 by omega)
  refine VL_end (by kernel_rfl) ?_
  refine VQ_next ?_
  refine VC_seq ?_
  obtain ⟨X, hXE⟩ : ∃ X, X = putL (List.replicate (48 * ((p % 8) + 1)) 0) 0 ((bs.drop (n + 4 - 48 * ((p % 8) + 1))).take (n - (n + 4 - 48 * ((p % 8) + 1)))) := ⟨_, rfl⟩
  rw [← hXE] at hr2
  have hXl : X.length = 48 * ((p % 8) + 1) := by rw [hXE]; exact putL_zl (by simp only [List.length_take, List.length_drop, List.length_nil]; omega)
  have hXb : Bytes X := by rw [hXE]; exact putL_zb (by first | exact nil_bytes | exact (hb.drop _).take _ | exact hb.take _)
  refine VC_region ?_
  refine VL_pure 3 [5, 6, 48, 50] [(5, .int .i64 ((48 * ((p % 8) + 1) : Nat) : Int)), (6, .slice (some ⟨g1, 0, none⟩) (48 * ((p % 8) + 1)) (48 * ((p % 8) + 1))), (48, .slice (some ⟨g1, 0, none⟩) (48 * ((p % 8) + 1)) (48 * ((p % 8) + 1))), (50, .int .i64 (IntKind.wrap .i64 (((48 * ((p % 8) + 1) : Nat) : Int) - 4)))] (by kernel_rfl) rfl ?_
  have he5 : IntKind.wrap .i64 (((48 * ((p % 8) + 1) : Nat) : Int) - 4) = (((48 * ((p % 8) + 1)) - 4 : Nat) : Int) := (by rw [wrap_i64 _ (by omega) (by omega)]; omega)
  refine VL_eq [(5, .int .i64 ((48 * ((p % 8) + 1) : Nat) : Int)), (6, .slice (some ⟨g1, 0, none⟩) (48 * ((p % 8) + 1)) (48 * ((p % 8) + 1))), (48, .slice (some ⟨g1, 0, none⟩) (48 * ((p % 8) + 1)) (48 * ((p % 8) + 1))), (50, .int .i64 (((48 * ((p % 8) + 1)) - 4 : Nat) : Int))] (by rw [he5]) ?_
  have hcap2 := Rw.cap hr2
  have hln2 := Rw.lenI hr2
  refine VL_slice (d := 51) (b := g1) (o := 0) (sz := 1) (len := (48 * ((p % 8) + 1))) (cap := (48 * ((p % 8) + 1))) (lo := none) (hi := (some (((48 * ((p % 8) + 1)) - 4 : Nat) : Int))) (mx := none) (by kernel_rfl) (by kernel_rfl) (fun h => by first | exact absurd rfl h | exact (fun h => by cases h)) 0 ((48 * ((p % 8) + 1)) - 4) (48 * ((p % 8) + 1)) rfl rfl rfl (by omega) (by omega) (by omega) 0 (by split <;> omega) ((48 * ((p % 8) + 1)) - 4) (by omega) (48 * ((p % 8) + 1)) (by omega) ?_
  have hsl3 := Sl.takeI (Rw.slI hr2) ((48 * ((p % 8) + 1)) - 4)
  have hzs4 := hS.size
  refine VL_call (d := 52) (f := 15) (args := #[.slice (some ⟨g1, 0, none⟩) ((48 * ((p % 8) + 1)) - 4) (48 * ((p % 8) + 1))]) (by kernel_rfl) (by kernel_rfl) (by kernel_rfl) Try.call15 (long_any (some ⟨g1, 0, none⟩) ((48 * ((p % 8) + 1)) - 4) (48 * ((p % 8) + 1)) _ (X.take ((48 * ((p % 8) + 1)) - 4)) _ (by simp only [List.length_take, List.length_drop]; omega) hsl3 (by omega) (by first | exact Nat.le_refl _ | omega)) ?_
  rintro _ w6 ⟨rfl, hc2⟩
  replace hS := Step.trans hS hc2
  replace hA := hA.no hc2
  replace hbase1 := Nat.le_trans hbase1 (hc2).size
  replace hglg1 := Nat.lt_of_lt_of_le hglg1 (hc2).size
  replace hsl2 := hsl2.no hc2
  replace hr2 := hr2.no hc2
  replace hsl3 := hsl3.no hc2
  refine VL_pure 6 [5, 6, 7] [(5, .int .i64 ((48 * ((p % 8) + 1) : Nat) : Int)), (6, .slice (some ⟨g1, 0, none⟩) (48 * ((p % 8) + 1)) (48 * ((p % 8) + 1))), (7, .int .u32 (longB (X.take ((48 * ((p % 8) + 1)) - 4))))] (by kernel_rfl) rfl ?_
  refine VL_end (by kernel_rfl) ?_
  refine VQ_next ?_
  refine VC_seq ?_
  refine VC_region ?_
  refine VL_pure 3 [5, 6, 7, 53, 55] [(5, .int .i64 ((48 * ((p % 8) + 1) : Nat) : Int)), (6, .slice (some ⟨g1, 0, none⟩) (48 * ((p % 8) + 1)) (48 * ((p % 8) + 1))), (7, .int .u32 (longB (X.take ((48 * ((p % 8) + 1)) - 4)))), (53, .slice (some ⟨g1, 0, none⟩) (48 * ((p % 8) + 1)) (48 * ((p % 8) + 1))), (55, .int .i64 (IntKind.wrap .i64 (((48 * ((p % 8) + 1) : Nat) : Int) - 4)))] (by kernel_rfl) rfl ?_
  have he6 : IntKind.wrap .i64 (((48 * ((p % 8) + 1) : Nat) : Int) - 4) = (((48 * ((p % 8) + 1)) - 4 : Nat) : Int) := (by rw [wrap_i64 _ (by omega) (by omega)]; omega)
  refine VL_eq [(5, .int .i64 ((48 * ((p % 8) + 1) : Nat) : Int)), (6, .slice (some ⟨g1, 0, none⟩) (48 * ((p % 8) + 1)) (48 * ((p % 8) + 1))), (7, .int .u32 (longB (X.take ((48 * ((p % 8) + 1)) - 4)))), (53, .slice (some ⟨g1, 0, none⟩) (48 * ((p % 8) + 1)) (48 * ((p % 8) + 1))), (55, .int .i64 (((48 * ((p % 8) + 1)) - 4 : Nat) : Int))] (by rw [he6]) ?_
  refine VL_pure 6 [5, 6, 7, 53, 55, 56, 58] [(5, .int .i64 ((48 * ((p % 8) + 1) : Nat) : Int)), (6, .slice (some ⟨g1, 0, none⟩) (48 * ((p % 8) + 1)) (48 * ((p % 8) + 1))), (7, .int .u32 (longB (X.take ((48 * ((p % 8) + 1)) - 4)))), (53, .slice (some ⟨g1, 0, none⟩) (48 * ((p % 8) + 1)) (48 * ((p % 8) + 1))), (55, .int .i64 (((48 * ((p % 8) + 1)) - 4 : Nat) : Int)), (56, .slice (some ⟨g1, 0, none⟩) (48 * ((p % 8) + 1)) (48 * ((p % 8) + 1))), (58, .int .i64 (IntKind.wrap .i64 (((48 * ((p % 8) + 1) : Nat) : Int) - 3)))] (by kernel_rfl) rfl ?_
  have he7 : IntKind.wrap .i64 (((48 * ((p % 8) + 1) : Nat) : Int) - 3) = (((48 * ((p % 8) + 1)) - 3 : Nat) : Int) := (by rw [wrap_i64 _ (by omega) (by omega)]; omega)
  refine VL_eq [(5, .int .i64 ((48 * ((p % 8) + 1) : Nat) : Int)), (6, .slice (some ⟨g1, 0, none⟩) (48 * ((p % 8) + 1)) (48 * ((p % 8) + 1))), (7, .int .u32 (longB (X.take ((48 * ((p % 8) + 1)) - 4)))), (53, .slice (some ⟨g1, 0, none⟩) (48 * ((p % 8) + 1)) (48 * ((p % 8) + 1))), (55, .int .i64 (((48 * ((p % 8) + 1)) - 4 : Nat) : Int)), (56, .slice (some ⟨g1, 0, none⟩) (48 * ((p % 8) + 1)) (48 * ((p % 8) + 1))), (58, .int .i64 (((48 * ((p % 8) + 1)) - 3 : Nat) : Int))] (by rw [he7]) ?_
  refine VL_pure 9 [5, 6, 7, 53, 55, 56, 58, 59, 61] [(5, .int .i64 ((48 * ((p % 8) + 1) : Nat) : Int)), (6, .slice (some ⟨g1, 0, none⟩) (48 * ((p % 8) + 1)) (48 * ((p % 8) + 1))), (7, .int .u32 (longB (X.take ((48 * ((p % 8) + 1)) - 4)))), (53, .slice (some ⟨g1, 0, none⟩) (48 * ((p % 8) + 1)) (48 * ((p % 8) + 1))), (55, .int .i64 (((48 * ((p % 8) + 1)) - 4 : Nat) : Int)), (56, .slice (some ⟨g1, 0, none⟩) (48 * ((p % 8) + 1)) (48 * ((p % 8) + 1))), (58, .int .i64 (((48 * ((p % 8) + 1)) - 3 : Nat) : Int)), (59, .slice (some ⟨g1, 0, none⟩) (48 * ((p % 8) + 1)) (48 * ((p % 8) + 1))), (61, .int .i64 (IntKind.wrap .i64 (((48 * ((p % 8) + 1) : Nat) : Int) - 2)))] (by kernel_rfl) rfl ?_
  have he8 : IntKind.wrap .i64 (((48 * ((p % 8) + 1) : Nat) : Int) - 2) = (((48 * ((p % 8) + 1)) - 2 : Nat) : Int) := (by rw [wrap_i64 _ (by omega) (by omega)]; omega)
  refine VL_eq [(5, .int .i64 ((48 * ((p % 8) + 1) : Nat) : Int)), (6, .slice (some ⟨g1, 0, none⟩) (48 * ((p % 8) + 1)) (48 * ((p % 8) + 1))), (7, .int .u32 (longB (X.take ((48 * ((p % 8) + 1)) - 4)))), (53, .slice (some ⟨g1, 0, none⟩) (48 * ((p % 8) + 1)) (48 * ((p % 8) + 1))), (55, .int .i64 (((48 * ((p % 8) + 1)) - 4 : Nat) : Int)), (56, .slice (some ⟨g1, 0, none⟩) (48 * ((p % 8) + 1)) (48 * ((p % 8) + 1))), (58, .int .i64 (((48 * ((p % 8) + 1)) - 3 : Nat) : Int)), (59, .slice (some ⟨g1, 0, none⟩) (48 * ((p % 8) + 1)) (48 * ((p % 8) + 1))), (61, .int .i64 (((48 * ((p % 8) + 1)) - 2 : Nat) : Int))] (by rw [he8]) ?_
  refine VL_pure 12 [6, 7, 53, 55, 56, 58, 59, 61, 62, 64] [(6, .slice (some ⟨g1, 0, none⟩) (48 * ((p % 8) + 1)) (48 * ((p % 8) + 1))), (7, .int .u32 (longB (X.take ((48 * ((p % 8) + 1)) - 4)))), (53, .slice (some ⟨g1, 0, none⟩) (48 * ((p % 8) + 1)) (48 * ((p % 8) + 1))), (55, .int .i64 (((48 * ((p % 8) + 1)) - 4 : Nat) : Int)), (56, .slice (some ⟨g1, 0, none⟩) (48 * ((p % 8) + 1)) (48 * ((p % 8) + 1))), (58, .int .i64 (((48 * ((p % 8) + 1)) - 3 : Nat) : Int)), (59, .slice (some ⟨g1, 0, none⟩) (48 * ((p % 8) + 1)) (48 * ((p % 8) + 1))), (61, .int .i64 (((48 * ((p % 8) + 1)) - 2 : Nat) : Int)), (62, .slice (some ⟨g1, 0, none⟩) (48 * ((p % 8) + 1)) (48 * ((p % 8) + 1))), (64, .int .i64 (IntKind.wrap .i64 (((48 * ((p % 8) + 1) : Nat) : Int) - 1)))] (by kernel_rfl) rfl ?_
  have he9 : IntKind.wrap .i64 (((48 * ((p % 8) + 1) : Nat) : Int) - 1) = (((48 * ((p % 8) + 1)) - 1 : Nat) : Int) := (by rw [wrap_i64 _ (by omega) (by omega)]; omega)
  refine VL_eq [(6, .slice (some ⟨g1, 0, none⟩) (48 * ((p % 8) + 1)) (48 * ((p % 8) + 1))), (7, .int .u32 (longB (X.take ((48 * ((p % 8) + 1)) - 4)))), (53, .slice (some ⟨g1, 0, none⟩) (48 * ((p % 8) + 1)) (48 * ((p % 8) + 1))), (55, .int .i64 (((48 * ((p % 8) + 1)) - 4 : Nat) : Int)), (56, .slice (some ⟨g1, 0, none⟩) (48 * ((p % 8) + 1)) (48 * ((p % 8) + 1))), (58, .int .i64 (((48 * ((p % 8) + 1)) - 3 : Nat) : Int)), (59, .slice (some ⟨g1, 0, none⟩) (48 * ((p % 8) + 1)) (48 * ((p % 8) + 1))), (61, .int .i64 (((48 * ((p % 8) + 1)) - 2 : Nat) : Int)), (62, .slice (some ⟨g1, 0, none⟩) (48 * ((p % 8) + 1)) (48 * ((p % 8) + 1))), (64, .int .i64 (((48 * ((p % 8) + 1)) - 1 : Nat) : Int))] (by rw [he9]) ?_
  refine VL_pure 23 [6, 53, 55, 56, 58, 59, 61, 62, 64, 67, 70, 73, 75] [(6, .slice (some ⟨g1, 0, none⟩) (48 * ((p % 8) + 1)) (48 * ((p % 8) + 1))), (53, .slice (some ⟨g1, 0, none⟩) (48 * ((p % 8) + 1)) (48 * ((p % 8) + 1))), (55, .int .i64 (((48 * ((p % 8) + 1)) - 4 : Nat) : Int)), (56, .slice (some ⟨g1, 0, none⟩) (48 * ((p % 8) + 1)) (48 * ((p % 8) + 1))), (58, .int .i64 (((48 * ((p % 8) + 1)) - 3 : Nat) : Int)), (59, .slice (some ⟨g1, 0, none⟩) (48 * ((p % 8) + 1)) (48 * ((p % 8) + 1))), (61, .int .i64 (((48 * ((p % 8) + 1)) - 2 : Nat) : Int)), (62, .slice (some ⟨g1, 0, none⟩) (48 * ((p % 8) + 1)) (48 * ((p % 8) + 1))), (64, .int .i64 (((48 * ((p % 8) + 1)) - 1 : Nat) : Int)), (67, .int .u8 (IntKind.wrap .u8 ((longB (X.take ((48 * ((p % 8) + 1)) - 4))).fdiv (2 ^ 24)))), (70, .int .u8 (IntKind.wrap .u8 ((longB (X.take ((48 * ((p % 8) + 1)) - 4))).fdiv (2 ^ 16)))), (73, .int .u8 (IntKind.wrap .u8 ((longB (X.take ((48 * ((p % 8) + 1)) - 4))).fdiv (2 ^ 8)))), (75, .int .u8 (IntKind.wrap .u8 (longB (X.take ((48 * ((p % 8) + 1)) - 4)))))] (by kernel_rfl) rfl ?_
  refine VL_index (d := 76) (b := g1) (o := 0) (len := (48 * ((p % 8) + 1))) (sz := 1) (m := (((48 * ((p % 8) + 1)) - 4 : Nat) : Int)) (by kernel_rfl) (by kernel_rfl) ((48 * ((p % 8) + 1)) - 4) (by rfl) (by omega) ((48 * ((p % 8) + 1)) - 4) (by omega) ?_
  obtain ⟨cur1, hgbcur1, hglcur1, howcur1, hcscur1, hcncur1, hcmcur1, hctcur1⟩ := hr2.openG
  refine VL_store (b := g1) (o := ((48 * ((p % 8) + 1)) - 4)) (vs := [.int .u8 (IntKind.wrap .u8 ((longB (X.take ((48 * ((p % 8) + 1)) - 4))).fdiv (2 ^ 24)))]) (by kernel_rfl) (by kernel_rfl) howcur1 (by simp only [List.length_singleton]; omega) ?_
  intro w7 hw2
  replace hS := Step.transNew hS hw2.step (fun _ _ _ => by omega)
  replace hA := hA.keepB hw2.step (show ¬ sb1 = g1 by omega)
  replace hbase1 := Nat.le_trans hbase1 (hw2.step).size
  replace hglg1 := Nat.lt_of_lt_of_le hglg1 (hw2.step).size
  replace hsl2 := hsl2.keepB hw2.step (show ¬ sb1 = g1 by omega)
  have ho1 := Rw.putI hctcur1 hw2 hgbcur1 hcscur1 hcncur1 hcmcur1 (j := ((48 * ((p % 8) + 1)) - 4)) (by omega)
  have hzhw2 := hw2.same
  refine VL_index (d := 77) (b := g1) (o := 0) (len := (48 * ((p % 8) + 1))) (sz := 1) (m := (((48 * ((p % 8) + 1)) - 3 : Nat) : Int)) (by kernel_rfl) (by kernel_rfl) ((48 * ((p % 8) + 1)) - 3) (by rfl) (by omega) ((48 * ((p % 8) + 1)) - 3) (by omega) ?_
  obtain ⟨cur2, hgbcur2, hglcur2, howcur2, hcscur2, hcncur2, hcmcur2, hctcur2⟩ := ho1.openG
  refine VL_store (b := g1) (o := ((48 * ((p % 8) + 1)) - 3)) (vs := [.int .u8 (IntKind.wrap .u8 ((longB (X.take ((48 * ((p % 8) + 1)) - 4))).fdiv (2 ^ 16)))]) (by kernel_rfl) (by kernel_rfl) howcur2 (by simp only [List.length_singleton]; omega) ?_
  intro w8 hw3
  replace hS := Step.transNew hS hw3.step (fun _ _ _ => by omega)
  replace hA := hA.keepB hw3.step (show ¬ sb1 = g1 by omega)
  replace hbase1 := Nat.le_trans hbase1 (hw3.step).size
  replace hglg1 := Nat.lt_of_lt_of_le hglg1 (hw3.step).size
  replace hsl2 := hsl2.keepB hw3.step (show ¬ sb1 = g1 by omega)
  have ho2 := Rw.putI hctcur2 hw3 hgbcur2 hcscur2 hcncur2 hcmcur2 (j := ((48 * ((p % 8) + 1)) - 3)) (by omega)
  have hzhw3 := hw3.same
  refine VL_index (d := 78) (b := g1) (o := 0) (len := (48 * ((p % 8) + 1))) (sz := 1) (m := (((48 * ((p % 8) + 1)) - 2 : Nat) : Int)) (by kernel_rfl) (by kernel_rfl) ((48 * ((p % 8) + 1)) - 2) (by rfl) (by omega) ((48 * ((p % 8) + 1)) - 2) (by omega) ?_
  obtain ⟨cur3, hgbcur3, hglcur3, howcur3, hcscur3, hcncur3, hcmcur3, hctcur3⟩ := ho2.openG
  refine VL_store (b := g1) (o := ((48 * ((p % 8) + 1)) - 2)) (vs := [.int .u8 (IntKind.wrap .u8 ((longB (X.take ((48 * ((p % 8) + 1)) - 4))).fdiv (2 ^ 8)))]) (by kernel_rfl) (by kernel_rfl) howcur3 (by simp only [List.length_singleton]; omega) ?_
  intro w9 hw4
  replace hS := Step.transNew hS hw4.step (fun _ _ _ => by omega)
  replace hA := hA.keepB hw4.step (show ¬ sb1 = g1 by omega)
  replace hbase1 := Nat.le_trans hbase1 (hw4.step).size
  replace hglg1 := Nat.lt_of_lt_of_le hglg1 (hw4.step).size
  replace hsl2 := hsl2.keepB hw4.step (show ¬ sb1 = g1 by omega)
  have ho3 := Rw.putI hctcur3 hw4 hgbcur3 hcscur3 hcncur3 hcmcur3 (j := ((48 * ((p % 8) + 1)) - 2)) (by omega)
  have hzhw4 := hw4.same
  refine VL_index (d := 79) (b := g1) (o := 0) (len := (48 * ((p % 8) + 1))) (sz := 1) (m := (((48 * ((p % 8) + 1)) - 1 : Nat) : Int)) (by kernel_rfl) (by kernel_rfl) ((48 * ((p % 8) + 1)) - 1) (by rfl) (by omega) ((48 * ((p % 8) + 1)) - 1) (by omega) ?_
  obtain ⟨cur4, hgbcur4, hglcur4, howcur4, hcscur4, hcncur4, hcmcur4, hctcur4⟩ := ho3.openG
  refine VL_store (b := g1) (o := ((48 * ((p % 8) + 1)) - 1)) (vs := [.int .u8 (IntKind.wrap .u8 (longB (X.take ((48 * ((p % 8) + 1)) - 4))))]) (by kernel_rfl) (by kernel_rfl) howcur4 (by simp only [List.length_singleton]; omega) ?_
  intro w10 hw5
  replace hS := Step.transNew hS hw5.step (fun _ _ _ => by omega)
  replace hA := hA.keepB hw5.step (show ¬ sb1 = g1 by omega)
  replace hbase1 := Nat.le_trans hbase1 (hw5.step).size
  replace hglg1 := Nat.lt_of_lt_of_le hglg1 (hw5.step).size
  replace hsl2 := hsl2.keepB hw5.step (show ¬ sb1 = g1 by omega)
  have ho4 := Rw.putI hctcur4 hw5 hgbcur4 hcscur4 hcncur4 hcmcur4 (j := ((48 * ((p % 8) + 1)) - 1)) (by omega)
  have hzhw5 := hw5.same
  refine VL_end (by kernel_rfl) ?_
  refine VQ_next ?_
  refine VC_seq ?_
  obtain ⟨Y, hYE⟩ : ∃ Y, Y = (((X.set ((48 * ((p % 8) + 1)) - 4) (IntKind.wrap .u8 ((longB (X.take ((48 * ((p % 8) + 1)) - 4))).fdiv (2 ^ 24)))).set ((48 * ((p % 8) + 1)) - 3) (IntKind.wrap .u8 ((longB (X.take ((48 * ((p % 8) + 1)) - 4))).fdiv (2 ^ 16)))).set ((48 * ((p % 8) + 1)) - 2) (IntKind.wrap .u8 ((longB (X.take ((48 * ((p % 8) + 1)) - 4))).fdiv (2 ^ 8)))).set ((48 * ((p % 8) + 1)) - 1) (IntKind.wrap .u8 (longB (X.take ((48 * ((p % 8) + 1)) - 4)))) := ⟨_, rfl⟩
  rw [← hYE] at ho4
  have hYs : Y = X.take (48 * ((p % 8) + 1) - 4) ++ sumL (X.take (48 * ((p % 8) + 1) - 4)) := hYE.trans (set4 hXl (by omega))
  have hYl : Y.length = 48 * ((p % 8) + 1) := by rw [hYE]; simp [hXl]
  have hYb : Bytes Y := by rw [hYs]; exact (hXb.take _).app (sumL_bytes _)
  refine VC_region ?_
  refine VL_pure 1 [6, 81] [(6, .slice (some ⟨g1, 0, none⟩) (48 * ((p % 8) + 1)) (48 * ((p % 8) + 1))), (81, .slice (some ⟨g1, 0, none⟩) (48 * ((p % 8) + 1)) (48 * ((p % 8) + 1)))] (by kernel_rfl) rfl ?_
  have hzs5 := hS.size
  refine VL_call (d := 82) (f := 12) (by kernel_rfl) (by kernel_rfl) (by kernel_rfl) Try.call12 (unpack_any (some ⟨g1, 0, none⟩) (48 * ((p % 8) + 1)) (48 * ((p % 8) + 1)) _ Y _ (Rw.lenI ho4) (Rw.slI ho4) hYb (by first | exact Nat.le_refl _ | omega) (by omega) (by omega)) ?_
  rintro _ w11 ⟨A1, c1, rfl, hr3, hc3⟩
  replace hS := Step.trans hS hc3
  replace hA := hA.no hc3
  replace hbase1 := Nat.le_trans hbase1 (hc3).size
  replace hglg1 := Nat.lt_of_lt_of_le hglg1 (hc3).size
  replace hsl2 := hsl2.no hc3
  replace ho4 := ho4.no hc3
  obtain ⟨base1, hbase2E⟩ : ∃ x, x = w10.heap.size := ⟨_, rfl⟩
  rw [← hbase2E] at hr3
  have hbase2 : base1 ≤ w11.heap.size := by rw [hbase2E]; exact hc3.size
  have hutq1 := unT_le Y
  refine VL_pure 9 [6, 8, 9, 10] [(6, .slice (some ⟨g1, 0, none⟩) (48 * ((p % 8) + 1)) (48 * ((p % 8) + 1))), (8, .slice A1 ((unT Y).length) c1), (9, .int .u8 (unM Y)), (10, .int .i64 (unE Y))] (by kernel_rfl) rfl ?_
  refine VL_end (by kernel_rfl) ?_
  refine VQ_next ?_
  refine VC_seq ?_
  refine VC_region ?_
  refine VL_pure 1 [8, 9, 10, 87] [(8, .slice A1 ((unT Y).length) c1), (9, .int .u8 (unM Y)), (10, .int .i64 (unE Y)), (87, .slice (some ⟨g1, 0, none⟩) (48 * ((p % 8) + 1)) (48 * ((p % 8) + 1)))] (by kernel_rfl) rfl ?_
  have hzs6 := hS.size
  refine VL_call (d := 88) (f := 13) (by kernel_rfl) (by kernel_rfl) (by kernel_rfl) Try.call13 (runpack2_any (some ⟨g1, 0, none⟩) (48 * ((p % 8) + 1)) (48 * ((p % 8) + 1)) _ Y _ (Rw.lenI ho4) (Rw.slI ho4) hYb (by first | exact Nat.le_refl _ | omega) (by omega) (by omega)) ?_
  rintro _ w12 ⟨A2, c2, rfl, hr4, hc4⟩
  replace hS := Step.trans hS hc4
  replace hA := hA.no hc4
  replace hbase1 := Nat.le_trans hbase1 (hc4).size
  replace hglg1 := Nat.lt_of_lt_of_le hglg1 (hc4).size
  replace hsl2 := hsl2.no hc4
  replace ho4 := ho4.no hc4
  replace hbase2 := Nat.le_trans hbase2 (hc4).size
  replace hr3 := hr3.no hc4
  obtain ⟨base2, hbase3E⟩ : ∃ x, x = w11.heap.size := ⟨_, rfl⟩
  rw [← hbase3E] at hr4
  have hbase3 : base2 ≤ w12.heap.size := by rw [hbase3E]; exact hc4.size
  refine VL_pure 9 [8, 9, 10, 11, 12, 13] [(8, .slice A1 ((unT Y).length) c1), (9, .int .u8 (unM Y)), (10, .int .i64 (unE Y)), (11, .slice A2 ((unT Y).length) c2), (12, .int .u8 (unM Y)), (13, .int .i64 (unE Y))] (by kernel_rfl) rfl ?_
  refine VL_end (by kernel_rfl) ?_
  refine VQ_next ?_
  refine VC_seq ?_
  refine VC_region ?_
  refine VL_pure 2 [9, 10, 12, 13, 92, 93] [(9, .int .u8 (unM Y)), (10, .int .i64 (unE Y)), (12, .int .u8 (unM Y)), (13, .int .i64 (unE Y)), (92, .slice A1 ((unT Y).length) c1), (93, .slice A2 ((unT Y).length) c2)] (by kernel_rfl) rfl ?_
  have hzs7 := hS.size
  refine VL_call (d := 94) (f := 14) (args := #[.slice A1 ((unT Y).length) c1, .slice A2 ((unT Y).length) c2]) (by kernel_rfl) (by kernel_rfl) (by kernel_rfl) Try.call14 (same_any A1 ((unT Y).length) c1 _ (unT Y) A2 ((unT Y).length) c2 _ (unT Y) _ (Rw.lenI hr3) (Rw.slI hr3) (Rw.lenI hr4) (Rw.slI hr4) (by omega) (by omega) (by first | exact Nat.le_refl _ | omega) (by first | exact Nat.le_refl _ | omega)) ?_
  rintro _ w13 ⟨rfl, hc5⟩
  replace hS := Step.trans hS hc5
  replace hA := hA.no hc5
  replace hbase1 := Nat.le_trans hbase1 (hc5).size
  replace hglg1 := Nat.lt_of_lt_of_le hglg1 (hc5).size
  replace hsl2 := hsl2.no hc5
  replace ho4 := ho4.no hc5
  replace hbase2 := Nat.le_trans hbase2 (hc5).size
  replace hr3 := hr3.no hc5
  replace hbase3 := Nat.le_trans hbase3 (hc5).size
  replace hr4 := hr4.no hc5
  refine VL_pure 4 [9, 10, 12, 13, 95] [(9, .int .u8 (unM Y)), (10, .int .i64 (unE Y)), (12, .int .u8 (unM Y)), (13, .int .i64 (unE Y)), (95, .bool ((unT Y) == (unT Y)))] (by kernel_rfl) rfl ?_
  refine VL_known ((unT Y) == (unT Y)) (fun bV => [(9, .int .u8 (unM Y)), (10, .int .i64 (unE Y)), (12, .int .u8 (unM Y)), (13, .int .i64 (unE Y)), (95, .bool bV)]) true rfl (by simp) ?_
  refine VL_pure 9 [10, 13, 100] [(10, .int .i64 (unE Y)), (13, .int .i64 (unE Y)), (100, .bool ((unM Y) == (unM Y)))] (by kernel_rfl) rfl ?_
  refine VL_known ((unM Y) == (unM Y)) (fun bV => [(10, .int .i64 (unE Y)), (13, .int .i64 (unE Y)), (100, .bool bV)]) true rfl (by simp) ?_
  refine VL_pure 14 [10, 105] [(10, .int .i64 (unE Y)), (105, .bool ((unE Y) == (unE Y)))] (by kernel_rfl) rfl ?_
  refine VL_known ((unE Y) == (unE Y)) (fun bV => [(10, .int .i64 (unE Y)), (105, .bool bV)]) true rfl (by simp) ?_
  refine VL_pure 18 [4] [(4, .bool ((unE Y) != 4))] (by kernel_rfl) rfl ?_
  refine VL_end (by kernel_rfl) ?_
  refine VQ_next ?_
  refine VC_ret ?_
  refine VQ_ret1 (.bool ((unE Y) != 4)) (.inr rfl) rfl rfl ?_
  exact ⟨by first | rfl | exact congrArg Value.bool (bne_iff_ne.2 (un_sealed hYs)) | simp [*], hS⟩

set_option maxRecDepth 100000 in
set_option maxHeartbeats 4000000 in
theorem sealed_0 (A : Option Addr) (c p : Nat) (w : World) (hp : p < 256) :
    CV Try.prog 4 #[.slice A 0 c, .int .u8 ((p : Nat) : Int)] w (fun x w1 => x = .bool true ∧ Step No w w1) := by
  have hS : Step No w w := Step.refl _ _
  have hA : Sl w w.heap.size A (iL .u8 []) := Sl.nil
  refine CV_enter Try.f4 _ 109 [(0, .slice A 0 c), (1, .int .u8 ((p : Nat) : Int))] Try.func4 rfl rfl (by kernel_rfl) rfl ?_
  refine VC_seq ?_
  refine VC_region ?_
  refine VL_pure 1 [0, 1] [(0, .slice A 0 c), (1, .int .u8 ((p : Nat) : Int))] (by kernel_rfl) rfl ?_
  refine VL_end (by kernel_rfl) ?_
  refine VQ_next ?_
  refine VC_seq ?_
  refine VC_seq ?_
  refine VC_region ?_
  have hzs1 := hS.size
  refine VL_call (d := 14) (f := 9) (args := #[]) (by kernel_rfl) (by kernel_rfl) (by kernel_rfl) Try.call9 (awake_any _) ?_
  rintro _ w1 ⟨rfl, hc1⟩
  replace hS := Step.trans hS hc1
  replace hA := hA.no hc1
  refine VL_pure 7 [0, 1, 20] [(0, .slice A 0 c), (1, .int .u8 ((p : Nat) : Int)), (20, .bool false)] (by kernel_rfl) rfl ?_
  refine VL_end (by kernel_rfl) ?_
  refine VQ_next ?_
  refine VC_false (by kernel_rfl) ?_
  refine VC_skip ?_
  refine VQ_next ?_
  refine VC_seq ?_
  refine VC_region ?_
  refine VL_pure 2 [0, 23] [(0, .slice A 0 c), (23, .int .i64 (IntKind.wrap .i64 ((p : Nat) : Int)))] (by kernel_rfl) rfl ?_
  have he1 : IntKind.wrap .i64 ((p : Nat) : Int) = ((p : Nat) : Int) := (by rw [wrap_i64 _ (by omega) (by omega)])
  refine VL_eq [(0, .slice A 0 c), (23, .int .i64 ((p : Nat) : Int))] (by rw [he1]) ?_
  refine VL_pure 3 [0, 24] [(0, .slice A 0 c), (24, .int .i64 (((p : Nat) : Int).tmod 8))] (by kernel_rfl) rfl ?_
  have he2 : ((p : Nat) : Int).tmod 8 = ((p % 8 : Nat) : Int) := (tmod_nat p 8)
  refine VL_eq [(0, .slice A 0 c), (24, .int .i64 ((p % 8 : Nat) : Int))] (by rw [he2]) ?_
  refine VL_pure 4 [0, 25] [(0, .slice A 0 c), (25, .int .i64 (IntKind.wrap .i64 (1 + ((p % 8 : Nat) : Int))))] (by kernel_rfl) rfl ?_
  have he3 : IntKind.wrap .i64 (1 + ((p % 8 : Nat) : Int)) = (((p % 8) + 1 : Nat) : Int) := (by rw [wrap_i64 _ (by omega) (by omega)]; omega)
  refine VL_eq [(0, .slice A 0 c), (25, .int .i64 (((p % 8) + 1 : Nat) : Int))] (by rw [he3]) ?_
  refine VL_pure 5 [0, 26] [(0, .slice A 0 c), (26, .int .i64 (IntKind.wrap .i64 (48 * (((p % 8) + 1 : Nat) : Int))))] (by kernel_rfl) rfl ?_
  have he4 : IntKind.wrap .i64 (48 * (((p % 8) + 1 : Nat) : Int)) = ((48 * ((p % 8) + 1) : Nat) : Int) := (by rw [wrap_i64 _ (by omega) (by omega)]; omega)
  refine VL_eq [(0, .slice A 0 c), (26, .int .i64 ((48 * ((p % 8) + 1) : Nat) : Int))] (by rw [he4]) ?_
  refine VL_pure 6 [0, 5] [(0, .slice A 0 c), (5, .int .i64 ((48 * ((p % 8) + 1) : Nat) : Int))] (by kernel_rfl) rfl ?_
  refine VL_end (by kernel_rfl) ?_
  refine VQ_next ?_
  refine VC_seq ?_
  refine VC_region ?_
  refine VL_pure 1 [0, 5, 27] [(0, .slice A 0 c), (5, .int .i64 ((48 * ((p % 8) + 1) : Nat) : Int)), (27, .int .i64 ((48 * ((p % 8) + 1) : Nat) : Int))] (by kernel_rfl) rfl ?_
  have hzs2 := hS.size
  refine VL_make (t := 22) (a := ((48 * ((p % 8) + 1) : Nat) : Int)) (b := ((48 * ((p % 8) + 1) : Nat) : Int)) (e := 5) (d := 28) (k := .u8) (bytes := 1) (by kernel_rfl) (by kernel_rfl) (by kernel_rfl) (by kernel_rfl) (48 * ((p % 8) + 1)) rfl rfl (by omega) (by omega) ?_
  intro g1 w2 hn1
  replace hS := Step.trans hS (hn1.step No)
  replace hA := hA.no (hn1.step No)
  have hzhn1 := hn1.size
  have hqhn1 := hn1.eqb
  have hr1 := Rw.made hn1.own (by simp only [maxLen]; omega)
  have hbase1 : g1 ≤ w2.heap.size := by omega
  have hglg1 : g1 < w2.heap.size := by omega
  refine VL_pure 3 [0, 5, 6] [(0, .slice A 0 c), (5, .int .i64 ((48 * ((p % 8) + 1) : Nat) : Int)), (6, .slice (some ⟨g1, 0, none⟩) (48 * ((p % 8) + 1)) (48 * ((p % 8) + 1)))] (by kernel_rfl) rfl ?_
  refine VL_end (by kernel_rfl) ?_
  refine VQ_next ?_
  refine VC_seq ?_
  have hs1 := drew_step w2
  have hs1z : w2.heap.size = w2.drew.heap.size := rfl
  refine VC_text [[], [], [1], [], [3], [1, 2, 3, 4], [1, 2, 3, 4, 5], [], [7], [0, 1, 2, 3, 4, 5, 6, 7, 8], [], [], [11], [], [11, 12, 13], [11, 12, 13, 14], [11, 12, 13, 14, 15], [10, 11, 12, 13, 14, 15, 16], [0, 1, 2, 3, 4, 5, 6, 7, 8, 9, 10, 11, 12, 13, 14, 15, 16, 17]] 18 (fun x y => Step (fun k => w2.heap.size ≤ k) x y) [] [0, 1, 2, 3, 4, 5, 6, 7, 8, 9, 10, 11, 12, 13, 14, 15, 16, 17] (by kernel_rfl) (by kernel_rfl) (by kernel_rfl) (by kernel_rfl) (fun x => Step.refl _ x) (fun h k => Step.trans h k) Step.weak ?_
  have hzs3 := hS.size
  generalize w2.drew = w3 at hs1 hs1z ⊢
  replace hS := Step.trans hS hs1
  replace hA := hA.no hs1
  replace hbase1 := Nat.le_trans hbase1 (hs1).size
  replace hglg1 := Nat.lt_of_lt_of_le hglg1 (hs1).size
  replace hr1 := hr1.no hs1
  refine VT_pures 9 (kn' := [(8, .int .i64 (IntKind.wrap .i64 (((48 * ((p % 8) + 1) : Nat) : Int) - 4))), (7, .int .i64 ((48 * ((p % 8) + 1) : Nat) : Int)), (6, .int .i64 (imax 0 (IntKind.wrap .i64 ((IntKind.wrap .i64 (((48 * ((p % 8) + 1) : Nat) : Int) - 4)) - 0)))), (5, .int .i64 (IntKind.wrap .i64 ((IntKind.wrap .i64 (((48 * ((p % 8) + 1) : Nat) : Int) - 4)) - 0))), (4, .int .i64 0), (3, .slice A 0 c), (2, .int .i64 (IntKind.wrap .i64 (((48 * ((p % 8) + 1) : Nat) : Int) - 4))), (1, .int .i64 ((48 * ((p % 8) + 1) : Nat) : Int)), (0, .slice (some ⟨g1, 0, none⟩) (48 * ((p % 8) + 1)) (48 * ((p % 8) + 1)))]) (by kernel_rfl) ?_
  have hcap1 := Rw.cap hr1
  have hln1 := Rw.lenI hr1
  obtain ⟨so1, hso1⟩ : ∃ x, (if 48 * ((p % 8) + 1) = (48 * ((p % 8) + 1) - 4) then 0 else 0 + (48 * ((p % 8) + 1) - 4) * 1) = x := ⟨_, rfl⟩
  refine VT_slice (d := 38) (b := g1) (o := 0) (sz := 1) (len := (48 * ((p % 8) + 1))) (cap := (48 * ((p % 8) + 1))) (lo := (some (imax 0 (IntKind.wrap .i64 ((IntKind.wrap .i64 (((48 * ((p % 8) + 1) : Nat) : Int) - 4)) - 0))))) (hi := (some (IntKind.wrap .i64 (((48 * ((p % 8) + 1) : Nat) : Int) - 4)))) (mx := none) (by kernel_rfl) (by kernel_rfl) (fun h => by first | exact absurd rfl h | exact (fun h => by cases h)) (48 * ((p % 8) + 1) - 4) ((48 * ((p % 8) + 1)) - 4) (48 * ((p % 8) + 1)) (show imax 0 (IntKind.wrap .i64 ((IntKind.wrap .i64 (((48 * ((p % 8) + 1) : Nat) : Int) - 4)) - 0)) = ((48 * ((p % 8) + 1) - 4 : Nat) : Int) from (by rw [imax_eq, wrap_i64 (((48 * ((p % 8) + 1) : Nat) : Int) - 4) (by omega) (by omega), wrap_i64 _ (by omega) (by omega)]; omega)) (show IntKind.wrap .i64 (((48 * ((p % 8) + 1) : Nat) : Int) - 4) = (((48 * ((p % 8) + 1)) - 4 : Nat) : Int) from (by rw [wrap_i64 _ (by omega) (by omega)]; omega)) rfl (by omega) (by omega) (by omega) so1 hso1 (((48 * ((p % 8) + 1)) - 4) - (48 * ((p % 8) + 1) - 4)) (by omega) ((48 * ((p % 8) + 1)) - (48 * ((p % 8) + 1) - 4)) (by omega) ?_
  try (have so1q := hso1; rw [if_neg (by omega)] at so1q)
  have hsl1 := Sl.cutI (H := (48 * ((p % 8) + 1)) - 4) (Rw.slI hr1) hso1 (by omega)
  refine VT_pures 7 (kn' := [(16, .int .i64 (imax 0 (IntKind.wrap .i64 ((IntKind.wrap .i64 (0 - ((48 * ((p % 8) + 1) : Nat) : Int))) + 4)))), (15, .int .i64 (IntKind.wrap .i64 ((IntKind.wrap .i64 (0 - ((48 * ((p % 8) + 1) : Nat) : Int))) + 4))), (14, .int .i64 (IntKind.wrap .i64 (0 - ((48 * ((p % 8) + 1) : Nat) : Int)))), (13, .int .i64 ((48 * ((p % 8) + 1) : Nat) : Int)), (12, .int .i64 0), (11, .slice A 0 c), (10, .slice A 0 c), (9, .slice (some ⟨g1, so1, none⟩) (((48 * ((p % 8) + 1)) - 4) - (48 * ((p % 8) + 1) - 4)) ((48 * ((p % 8) + 1)) - (48 * ((p % 8) + 1) - 4))), (8, .int .i64 (IntKind.wrap .i64 (((48 * ((p % 8) + 1) : Nat) : Int) - 4))), (7, .int .i64 ((48 * ((p % 8) + 1) : Nat) : Int)), (6, .int .i64 (imax 0 (IntKind.wrap .i64 ((IntKind.wrap .i64 (((48 * ((p % 8) + 1) : Nat) : Int) - 4)) - 0)))), (5, .int .i64 (IntKind.wrap .i64 ((IntKind.wrap .i64 (((48 * ((p % 8) + 1) : Nat) : Int) - 4)) - 0))), (4, .int .i64 0), (3, .slice A 0 c), (2, .int .i64 (IntKind.wrap .i64 (((48 * ((p % 8) + 1) : Nat) : Int) - 4))), (1, .int .i64 ((48 * ((p % 8) + 1) : Nat) : Int)), (0, .slice (some ⟨g1, 0, none⟩) (48 * ((p % 8) + 1)) (48 * ((p % 8) + 1)))]) (by kernel_rfl) ?_
  refine VT_sliceA (d := 46) (A := A) (sz := 1) (len := 0) (cap := c) (lo := (some (imax 0 (IntKind.wrap .i64 ((IntKind.wrap .i64 (0 - ((48 * ((p % 8) + 1) : Nat) : Int))) + 4))))) (hi := none) (mx := none) (by kernel_rfl) (by kernel_rfl) (fun h => absurd rfl h) 0 0 c (by rw [Option.getD_some]; exact (by rw [imax_eq, wrap_i64 (0 - ((48 * ((p % 8) + 1) : Nat) : Int)) (by omega) (by omega), wrap_i64 _ (by omega) (by omega)]; omega)) rfl rfl (by omega) (by omega) (by omega) 0 (by omega) c (by omega) ?_
  have hsl2 : Sl w3 0 (movA A (decide (c = 0)) (0 * 1)) (iL .u8 []) := Sl.nil
  refine VT_end ?_
  intro w4 hs2
  replace hS := Step.trans hS hs2
  replace hA := hA.no hs2
  replace hbase1 := Nat.le_trans hbase1 (hs2).size
  replace hglg1 := Nat.lt_of_lt_of_le hglg1 (hs2).size
  replace hr1 := hr1.no hs2
  replace hsl1 := hsl1.no hs2
  replace hsl2 := hsl2.no hs2
  refine VL_keep [5, 6, 38, 46] [(5, .int .i64 ((48 * ((p % 8) + 1) : Nat) : Int)), (6, .slice (some ⟨g1, 0, none⟩) (48 * ((p % 8) + 1)) (48 * ((p % 8) + 1))), (38, .slice (some ⟨g1, so1, none⟩) (((48 * ((p % 8) + 1)) - 4) - (48 * ((p % 8) + 1) - 4)) ((48 * ((p % 8) + 1)) - (48 * ((p % 8) + 1) - 4))), (46, .slice (movA A (decide (c = 0)) (0 * 1)) 0 c)] (by kernel_rfl) ?_
  refine VL_copyR (d := 47) (b := g1) (o := so1) (dl := (((48 * ((p % 8) + 1)) - 4) - (48 * ((p % 8) + 1) - 4))) (A2 := (movA A (decide (c = 0)) (0 * 1))) (sl := 0) (k := .u8) (bs := (List.replicate (48 * ((p % 8) + 1)) 0)) (vs := ([] : List Int)) (by kernel_rfl) (by kernel_rfl) rfl (by omega) hsl2 hr1 (by omega) ?_
  intro w5 hr2 hw1 hzhw1
  replace hS := Step.transNew hS hw1 (fun _ _ _ => by omega)
  replace hA := hA.step hw1 (fun k hk (hF : k = g1) => by omega)
  replace hbase1 := Nat.le_trans hbase1 (hw1).size
  replace hglg1 := Nat.lt_of_lt_of_le hglg1 (hw1).size
  replace hsl2 := hsl2.step hw1 (fun k hk (hF : k = g1) => by omega)
  refine VL_end (by kernel_rfl) ?_
  refine VQ_next ?_
  refine VC_seq ?_
  obtain ⟨X, hXE⟩ : ∃ X, X = putL (List.replicate (48 * ((p % 8) + 1)) 0) so1 ([] : List Int) := ⟨_, rfl⟩
  rw [← hXE] at hr2
  have hXl : X.length = 48 * ((p % 8) + 1) := by rw [hXE]; exact putL_zl (by simp only [List.length_take, List.length_drop, List.length_nil]; omega)
  have hXb : Bytes X := by rw [hXE]; exact putL_zb (by first | exact nil_bytes | exact (hb.drop _).take _ | exact hb.take _)
  refine VC_region ?_
  refine VL_pure 3 [5, 6, 48, 50] [(5, .int .i64 ((48 * ((p % 8) + 1) : Nat) : Int)), (6, .slice (some ⟨g1, 0, none⟩) (48 * ((p % 8) + 1)) (48 * ((p % 8) + 1))), (48, .slice (some ⟨g1, 0, none⟩) (48 * ((p % 8) + 1)) (48 * ((p % 8) + 1))), (50, .int .i64 (IntKind.wrap .i64 (((48 * ((p % 8) + 1) : Nat) : Int) - 4)))] (by kernel_rfl) rfl ?_
  have he5 : IntKind.wrap .i64 (((48 * ((p % 8) + 1) : Nat) : Int) - 4) = (((48 * ((p % 8) + 1)) - 4 : Nat) : Int) := (by rw [wrap_i64 _ (by omega) (by omega)]; omega)
  refine VL_eq [(5, .int .i64 ((48 * ((p % 8) + 1) : Nat) : Int)), (6, .slice (some ⟨g1, 0, none⟩) (48 * ((p % 8) + 1)) (48 * ((p % 8) + 1))), (48, .slice (some ⟨g1, 0, none⟩) (48 * ((p % 8) + 1)) (48 * ((p % 8) + 1))), (50, .int .i64 (((48 * ((p % 8) + 1)) - 4 : Nat) : Int))] (by rw [he5]) ?_
  have hcap2 := Rw.cap hr2
  have hln2 := Rw.lenI hr2
  refine VL_slice (d := 51) (b := g1) (o := 0) (sz := 1) (len := (48 * ((p % 8) + 1))) (cap := (48 * ((p % 8) + 1))) (lo := none) (hi := (some (((48 * ((p % 8) + 1)) - 4 : Nat) : Int))) (mx := none) (by kernel_rfl) (by kernel_rfl) (fun h => by first | exact absurd rfl h | exact (fun h => by cases h)) 0 ((48 * ((p % 8) + 1)) - 4) (48 * ((p % 8) + 1)) rfl rfl rfl (by omega) (by omega) (by omega) 0 (by split <;> omega) ((48 * ((p % 8) + 1)) - 4) (by omega) (48 * ((p % 8) + 1)) (by omega) ?_
  have hsl3 := Sl.takeI (Rw.slI hr2) ((48 * ((p % 8) + 1)) - 4)
  have hzs4 := hS.size
  refine VL_call (d := 52) (f := 15) (args := #[.slice (some ⟨g1, 0, none⟩) ((48 * ((p % 8) + 1)) - 4) (48 * ((p % 8) + 1))]) (by kernel_rfl) (by kernel_rfl) (by kernel_rfl) Try.call15 (long_any (some ⟨g1, 0, none⟩) ((48 * ((p % 8) + 1)) - 4) (48 * ((p % 8) + 1)) _ (X.take ((48 * ((p % 8) + 1)) - 4)) _ (by simp only [List.length_take, List.length_drop]; omega) hsl3 (by omega) (by first | exact Nat.le_refl _ | omega)) ?_
  rintro _ w6 ⟨rfl, hc2⟩
  replace hS := Step.trans hS hc2
  replace hA := hA.no hc2
  replace hbase1 := Nat.le_trans hbase1 (hc2).size
  replace hglg1 := Nat.lt_of_lt_of_le hglg1 (hc2).size
  replace hsl2 := hsl2.no hc2
  replace hr2 := hr2.no hc2
  replace hsl3 := hsl3.no hc2
  refine VL_pure 6 [5, 6, 7] [(5, .int .i64 ((48 * ((p % 8) + 1) : Nat) : Int)), (6, .slice (some ⟨g1, 0, none⟩) (48 * ((p % 8) + 1)) (48 * ((p % 8) + 1))), (7, .int .u32 (longB (X.take ((48 * ((p % 8) + 1)) - 4))))] (by kernel_rfl) rfl ?_
  refine VL_end (by kernel_rfl) ?_
  refine VQ_next ?_
  refine VC_seq ?_
  refine VC_region ?_
  refine VL_pure 3 [5, 6, 7, 53, 55] [(5, .int .i64 ((48 * ((p % 8) + 1) : Nat) : Int)), (6, .slice (some ⟨g1, 0, none⟩) (48 * ((p % 8) + 1)) (48 * ((p % 8) + 1))), (7, .int .u32 (longB (X.take ((48 * ((p % 8) + 1)) - 4)))), (53, .slice (some ⟨g1, 0, none⟩) (48 * ((p % 8) + 1)) (48 * ((p % 8) + 1))), (55, .int .i64 (IntKind.wrap .i64 (((48 * ((p % 8) + 1) : Nat) : Int) - 4)))] (by kernel_rfl) rfl ?_
  have he6 : IntKind.wrap .i64 (((48 * ((p % 8) + 1) : Nat) : Int) - 4) = (((48 * ((p % 8) + 1)) - 4 : Nat) : Int) := (by rw [wrap_i64 _ (by omega) (by omega)]; omega)
  refine VL_eq [(5, .int .i64 ((48 * ((p % 8) + 1) : Nat) : Int)), (6, .slice (some ⟨g1, 0, none⟩) (48 * ((p % 8) + 1)) (48 * ((p % 8) + 1))), (7, .int .u32 (longB (X.take ((48 * ((p % 8) + 1)) - 4)))), (53, .slice (some ⟨g1, 0, none⟩) (48 * ((p % 8) + 1)) (48 * ((p % 8) + 1))), (55, .int .i64 (((48 * ((p % 8) + 1)) - 4 : Nat) : Int))] (by rw [he6]) ?_
  refine VL_pure 6 [5, 6, 7, 53, 55, 56, 58] [(5, .int .i64 ((48 * ((p % 8) + 1) : Nat) : Int)), (6, .slice (some ⟨g1, 0, none⟩) (48 * ((p % 8) + 1)) (48 * ((p % 8) + 1))), (7, .int .u32 (longB (X.take ((48 * ((p % 8) + 1)) - 4)))), (53, .slice (some ⟨g1, 0, none⟩) (48 * ((p % 8) + 1)) (48 * ((p % 8) + 1))), (55, .int .i64 (((48 * ((p % 8) + 1)) - 4 : Nat) : Int)), (56, .slice (some ⟨g1, 0, none⟩) (48 * ((p % 8) + 1)) (48 * ((p % 8) + 1))), (58, .int .i64 (IntKind.wrap .i64 (((48 * ((p % 8) + 1) : Nat) : Int) - 3)))] (by kernel_rfl) rfl ?_
  have he7 : IntKind.wrap .i64 (((48 * ((p % 8) + 1) : Nat) : Int) - 3) = (((48 * ((p % 8) + 1)) - 3 : Nat) : Int) := (by rw [wrap_i64 _ (by omega) (by omega)]; omega)
  refine VL_eq [(5, .int .i64 ((48 * ((p % 8) + 1) : Nat) : Int)), (6, .slice (some ⟨g1, 0, none⟩) (48 * ((p % 8) + 1)) (48 * ((p % 8) + 1))), (7, .int .u32 (longB (X.take ((48 * ((p % 8) + 1)) - 4)))), (53, .slice (some ⟨g1, 0, none⟩) (48 * ((p % 8) + 1)) (48 * ((p % 8) + 1))), (55, .int .i64 (((48 * ((p % 8) + 1)) - 4 : Nat) : Int)), (56, .slice (some ⟨g1, 0, none⟩) (48 * ((p % 8) + 1)) (48 * ((p % 8) + 1))), (58, .int .i64 (((48 * ((p % 8) + 1)) - 3 : Nat) : Int))] (by rw [he7]) ?_
  refine VL_pure 9 [5, 6, 7, 53, 55, 56, 58, 59, 61] [(5, .int .i64 ((48 * ((p % 8) + 1) : Nat) : Int)), (6, .slice (some ⟨g1, 0, none⟩) (48 * ((p % 8) + 1)) (48 * ((p % 8) + 1))), (7, .int .u32 (longB (X.take ((48 * ((p % 8) + 1)) - 4)))), (53, .slice (some ⟨g1, 0, none⟩) (48 * ((p % 8) + 1)) (48 * ((p % 8) + 1))), (55, .int .i64 (((48 * ((p % 8) + 1)) - 4 : Nat) : Int)), (56, .slice (some ⟨g1, 0, none⟩) (48 * ((p % 8) + 1)) (48 * ((p % 8) + 1))), (58, .int .i64 (((48 * ((p % 8) + 1)) - 3 : Nat) : Int)), (59, .slice (some ⟨g1, 0, none⟩) (48 * ((p % 8) + 1)) (48 * ((p % 8) + 1))), (61, .int .i64 (IntKind.wrap .i64 (((48 * ((p % 8) + 1) : Nat) : Int) - 2)))] (by kernel_rfl) rfl ?_
  have he8 : IntKind.wrap .i64 (((48 * ((p % 8) + 1) : Nat) : Int) - 2) = (((48 * ((p % 8) + 1)) - 2 : Nat) : Int) := (by rw [wrap_i64 _ (by omega) (by omega)]; omega)
  refine VL_eq [(5, .int .i64 ((48 * ((p % 8) + 1) : Nat) : Int)), (6, .slice (some ⟨g1, 0, none⟩) (48 * ((p % 8) + 1)) (48 * ((p % 8) + 1))), (7, .int .u32 (longB (X.take ((48 * ((p % 8) + 1)) - 4)))), (53, .slice (some ⟨g1, 0, none⟩) (48 * ((p % 8) + 1)) (48 * ((p % 8) + 1))), (55, .int .i64 (((48 * ((p % 8) + 1)) - 4 : Nat) : Int)), (56, .slice (some ⟨g1, 0, none⟩) (48 * ((p % 8) + 1)) (48 * ((p % 8) + 1))), (58, .int .i64 (((48 * ((p % 8) + 1)) - 3 : Nat) : Int)), (59, .slice (some ⟨g1, 0, none⟩) (48 * ((p % 8) + 1)) (48 * ((p % 8) + 1))), (61, .int .i64 (((48 * ((p % 8) + 1)) - 2 : Nat) : Int))] (by rw [he8]) ?_
  refine VL_pure 12 [6, 7, 53, 55, 56, 58, 59, 61, 62, 64] [(6, .slice (some ⟨g1, 0, none⟩) (48 * ((p % 8) + 1)) (48 * ((p % 8) + 1))), (7, .int .u32 (longB (X.take ((48 * ((p % 8) + 1)) - 4)))), (53, .slice (some ⟨g1, 0, none⟩) (48 * ((p % 8) + 1)) (48 * ((p % 8) + 1))), (55, .int .i64 (((48 * ((p % 8) + 1)) - 4 : Nat) : Int)), (56, .slice (some ⟨g1, 0, none⟩) (48 * ((p % 8) + 1)) (48 * ((p % 8) + 1))), (58, .int .i64 (((48 * ((p % 8) + 1)) - 3 : Nat) : Int)), (59, .slice (some ⟨g1, 0, none⟩) (48 * ((p % 8) + 1)) (48 * ((p % 8) + 1))), (61, .int .i64 (((48 * ((p % 8) + 1)) - 2 : Nat) : Int)), (62, .slice (some ⟨g1, 0, none⟩) (48 * ((p % 8) + 1)) (48 * ((p % 8) + 1))), (64, .int .i64 (IntKind.wrap .i64 (((48 * ((p % 8) + 1) : Nat) : Int) - 1)))] (by kernel_rfl) rfl ?_
  have he9 : IntKind.wrap .i64 (((48 * ((p % 8) + 1) : Nat) : Int) - 1) = (((48 * ((p % 8) + 1)) - 1 : Nat) : Int) := (by rw [wrap_i64 _ (by omega) (by omega)]; omega)
  refine VL_eq [(6, .slice (some ⟨g1, 0, none⟩) (48 * ((p % 8) + 1)) (48 * ((p % 8) + 1))), (7, .int .u32 (longB (X.take ((48 * ((p % 8) + 1)) - 4)))), (53, .slice (some ⟨g1, 0, none⟩) (48 * ((p % 8) + 1)) (48 * ((p % 8) + 1))), (55, .int .i64 (((48 * ((p % 8) + 1)) - 4 : Nat) : Int)), (56, .slice (some ⟨g1, 0, none⟩) (48 * ((p % 8) + 1)) (48 * ((p % 8) + 1))), (58, .int .i64 (((48 * ((p % 8) + 1)) - 3 : Nat) : Int)), (59, .slice (some ⟨g1, 0, none⟩) (48 * ((p % 8) + 1)) (48 * ((p % 8) + 1))), (61, .int .i64 (((48 * ((p % 8) + 1)) - 2 : Nat) : Int)), (62, .slice (some ⟨g1, 0, none⟩) (48 * ((p % 8) + 1)) (48 * ((p % 8) + 1))), (64, .int .i64 (((48 * ((p % 8) + 1)) - 1 : Nat) : Int))] (by rw [he9]) ?_
  refine VL_pure 23 [6, 53, 55, 56, 58, 59, 61, 62, 64, 67, 70, 73, 75] [(6, .slice (some ⟨g1, 0, none⟩) (48 * ((p % 8) + 1)) (48 * ((p % 8) + 1))), (53, .slice (some ⟨g1, 0, none⟩) (48 * ((p % 8) + 1)) (48 * ((p % 8) + 1))), (55, .int .i64 (((48 * ((p % 8) + 1)) - 4 : Nat) : Int)), (56, .slice (some ⟨g1, 0, none⟩) (48 * ((p % 8) + 1)) (48 * ((p % 8) + 1))), (58, .int .i64 (((48 * ((p % 8) + 1)) - 3 : Nat) : Int)), (59, .slice (some ⟨g1, 0, none⟩) (48 * ((p % 8) + 1)) (48 * ((p % 8) + 1))), (61, .int .i64 (((48 * ((p % 8) + 1)) - 2 : Nat) : Int)), (62, .slice (some ⟨g1, 0, none⟩) (48 * ((p % 8) + 1)) (48 * ((p % 8) + 1))), (64, .int .i64 (((48 * ((p % 8) + 1)) - 1 : Nat) : Int)), (67, .int .u8 (IntKind.wrap .u8 ((longB (X.take ((48 * ((p % 8) + 1)) - 4))).fdiv (2 ^ 24)))), (70, .int .u8 (IntKind.wrap .u8 ((longB (X.take ((48 * ((p % 8) + 1)) - 4))).fdiv (2 ^ 16)))), (73, .int .u8 (IntKind.wrap .u8 ((longB (X.take ((48 * ((p % 8) + 1)) - 4))).fdiv (2 ^ 8)))), (75, .int .u8 (IntKind.wrap .u8 (longB (X.take ((48 * ((p % 8) + 1)) - 4)))))] (by kernel_rfl) rfl ?_
  refine VL_index (d := 76) (b := g1) (o := 0) (len := (48 * ((p % 8) + 1))) (sz := 1) (m := (((48 * ((p % 8) + 1)) - 4 : Nat) : Int)) (by kernel_rfl) (by kernel_rfl) ((48 * ((p % 8) + 1)) - 4) (by rfl) (by omega) ((48 * ((p % 8) + 1)) - 4) (by omega) ?_
  obtain ⟨cur1, hgbcur1, hglcur1, howcur1, hcscur1, hcncur1, hcmcur1, hctcur1⟩ := hr2.openG
  refine VL_store (b := g1) (o := ((48 * ((p % 8) + 1)) - 4)) (vs := [.int .u8 (IntKind.wrap .u8 ((longB (X.take ((48 * ((p % 8) + 1)) - 4))).fdiv (2 ^ 24)))]) (by kernel_rfl) (by kernel_rfl) howcur1 (by simp only [List.length_singleton]; omega) ?_
  intro w7 hw2
  replace hS := Step.transNew hS hw2.step (fun _ _ _ => by omega)
  replace hA := hA.step hw2.step (fun k hk (hF : k = g1) => by omega)
  replace hbase1 := Nat.le_trans hbase1 (hw2.step).size
  replace hglg1 := Nat.lt_of_lt_of_le hglg1 (hw2.step).size
  replace hsl2 := hsl2.step hw2.step (fun k hk (hF : k = g1) => by omega)
  have ho1 := Rw.putI hctcur1 hw2 hgbcur1 hcscur1 hcncur1 hcmcur1 (j := ((48 * ((p % 8) + 1)) - 4)) (by omega)
  have hzhw2 := hw2.same
  refine VL_index (d := 77) (b := g1) (o := 0) (len := (48 * ((p % 8) + 1))) (sz := 1) (m := (((48 * ((p % 8) + 1)) - 3 : Nat) : Int)) (by kernel_rfl) (by kernel_rfl) ((48 * ((p % 8) + 1)) - 3) (by rfl) (by omega) ((48 * ((p % 8) + 1)) - 3) (by omega) ?_
  obtain ⟨cur2, hgbcur2, hglcur2, howcur2, hcscur2, hcncur2, hcmcur2, hctcur2⟩ := ho1.openG
  refine VL_store (b := g1) (o := ((48 * ((p % 8) + 1)) - 3)) (vs := [.int .u8 (IntKind.wrap .u8 ((longB (X.take ((48 * ((p % 8) + 1)) - 4))).fdiv (2 ^ 16)))]) (by kernel_rfl) (by kernel_rfl) howcur2 (by simp only [List.length_singleton]; omega) ?_
  intro w8 hw3
  replace hS := Step.transNew hS hw3.step (fun _ _ _ => by omega)
  replace hA := hA.step hw3.step (fun k hk (hF : k = g1) => by omega)
  replace hbase1 := Nat.le_trans hbase1 (hw3.step).size
  replace hglg1 := Nat.lt_of_lt_of_le hglg1 (hw3.step).size
  replace hsl2 := hsl2.step hw3.step (fun k hk (hF : k = g1) => by omega)
  have ho2 := Rw.putI hctcur2 hw3 hgbcur2 hcscur2 hcncur2 hcmcur2 (j := ((48 * ((p % 8) + 1)) - 3)) (by omega)
  have hzhw3 := hw3.same
  refine VL_index (d := 78) (b := g1) (o := 0) (len := (48 * ((p % 8) + 1))) (sz := 1) (m := (((48 * ((p % 8) + 1)) - 2 : Nat) : Int)) (by kernel_rfl) (by kernel_rfl) ((48 * ((p % 8) + 1)) - 2) (by rfl) (by omega) ((48 * ((p % 8) + 1)) - 2) (by omega) ?_
  obtain ⟨cur3, hgbcur3, hglcur3, howcur3, hcscur3, hcncur3, hcmcur3, hctcur3⟩ := ho2.openG
  refine VL_store (b := g1) (o := ((48 * ((p % 8) + 1)) - 2)) (vs := [.int .u8 (IntKind.wrap .u8 ((longB (X.take ((48 * ((p % 8) + 1)) - 4))).fdiv (2 ^ 8)))]) (by kernel_rfl) (by kernel_rfl) howcur3 (by simp only [List.length_singleton]; omega) ?_
  intro w9 hw4
  replace hS := Step.transNew hS hw4.step (fun _ _ _ => by omega)
  replace hA := hA.step hw4.step (fun k hk (hF : k = g1) => by omega)
  replace hbase1 := Nat.le_trans hbase1 (hw4.step).size
  replace hglg1 := Nat.lt_of_lt_of_le hglg1 (hw4.step).size
  replace hsl2 := hsl2.step hw4.step (fun k hk (hF : k = g1) => by omega)
  have ho3 := Rw.putI hctcur3 hw4 hgbcur3 hcscur3 hcncur3 hcmcur3 (j := ((48 * ((p % 8) + 1)) - 2)) (by omega)
  have hzhw4 := hw4.same
  refine VL_index (d := 79) (b := g1) (o := 0) (len := (48 * ((p % 8) + 1))) (sz := 1) (m := (((48 * ((p % 8) + 1)) - 1 : Nat) : Int)) (by kernel_rfl) (by kernel_rfl) ((48 * ((p % 8) + 1)) - 1) (by rfl) (by omega) ((48 * ((p % 8) + 1)) - 1) (by omega) ?_
  obtain ⟨cur4, hgbcur4, hglcur4, howcur4, hcscur4, hcncur4, hcmcur4, hctcur4⟩ := ho3.openG
  refine VL_store (b := g1) (o := ((48 * ((p % 8) + 1)) - 1)) (vs := [.int .u8 (IntKind.wrap .u8 (longB (X.take ((48 * ((p % 8) + 1)) - 4))))]) (by kernel_rfl) (by kernel_rfl) howcur4 (by simp only [List.length_singleton]; omega) ?_
  intro w10 hw5
  replace hS := Step.transNew hS hw5.step (fun _ _ _ => by omega)
  replace hA := hA.step hw5.step (fun k hk (hF : k = g1) => by omega)
  replace hbase1 := Nat.le_trans hbase1 (hw5.step).size
  replace hglg1 := Nat.lt_of_lt_of_le hglg1 (hw5.step).size
  replace hsl2 := hsl2.step hw5.step (fun k hk (hF : k = g1) => by omega)
  have ho4 := Rw.putI hctcur4 hw5 hgbcur4 hcscur4 hcncur4 hcmcur4 (j := ((48 * ((p % 8) + 1)) - 1)) (by omega)
  have hzhw5 := hw5.same
  refine VL_end (by kernel_rfl) ?_
  refine VQ_next ?_
  refine VC_seq ?_
  obtain ⟨Y, hYE⟩ : ∃ Y, Y = (((X.set ((48 * ((p % 8) + 1)) - 4) (IntKind.wrap .u8 ((longB (X.take ((48 * ((p % 8) + 1)) - 4))).fdiv (2 ^ 24)))).set ((48 * ((p % 8) + 1)) - 3) (IntKind.wrap .u8 ((longB (X.take ((48 * ((p % 8) + 1)) - 4))).fdiv (2 ^ 16)))).set ((48 * ((p % 8) + 1)) - 2) (IntKind.wrap .u8 ((longB (X.take ((48 * ((p % 8) + 1)) - 4))).fdiv (2 ^ 8)))).set ((48 * ((p % 8) + 1)) - 1) (IntKind.wrap .u8 (longB (X.take ((48 * ((p % 8) + 1)) - 4)))) := ⟨_, rfl⟩
  rw [← hYE] at ho4
  have hYs : Y = X.take (48 * ((p % 8) + 1) - 4) ++ sumL (X.take (48 * ((p % 8) + 1) - 4)) := hYE.trans (set4 hXl (by omega))
  have hYl : Y.length = 48 * ((p % 8) + 1) := by rw [hYE]; simp [hXl]
  have hYb : Bytes Y := by rw [hYs]; exact (hXb.take _).app (sumL_bytes _)
  refine VC_region ?_
  refine VL_pure 1 [6, 81] [(6, .slice (some ⟨g1, 0, none⟩) (48 * ((p % 8) + 1)) (48 * ((p % 8) + 1))), (81, .slice (some ⟨g1, 0, none⟩) (48 * ((p % 8) + 1)) (48 * ((p % 8) + 1)))] (by kernel_rfl) rfl ?_
  have hzs5 := hS.size
  refine VL_call (d := 82) (f := 12) (by kernel_rfl) (by kernel_rfl) (by kernel_rfl) Try.call12 (unpack_any (some ⟨g1, 0, none⟩) (48 * ((p % 8) + 1)) (48 * ((p % 8) + 1)) _ Y _ (Rw.lenI ho4) (Rw.slI ho4) hYb (by first | exact Nat.le_refl _ | omega) (by omega) (by omega)) ?_
  rintro _ w11 ⟨A1, c1, rfl, hr3, hc3⟩
  replace hS := Step.trans hS hc3
  replace hA := hA.no hc3
  replace hbase1 := Nat.le_trans hbase1 (hc3).size
  replace hglg1 := Nat.lt_of_lt_of_le hglg1 (hc3).size
  replace hsl2 := hsl2.no hc3
  replace ho4 := ho4.no hc3
  obtain ⟨base1, hbase2E⟩ : ∃ x, x = w10.heap.size := ⟨_, rfl⟩
  rw [← hbase2E] at hr3
  have hbase2 : base1 ≤ w11.heap.size := by rw [hbase2E]; exact hc3.size
  have hutq1 := unT_le Y
  refine VL_pure 9 [6, 8, 9, 10] [(6, .slice (some ⟨g1, 0, none⟩) (48 * ((p % 8) + 1)) (48 * ((p % 8) + 1))), (8, .slice A1 ((unT Y).length) c1), (9, .int .u8 (unM Y)), (10, .int .i64 (unE Y))] (by kernel_rfl) rfl ?_
  refine VL_end (by kernel_rfl) ?_
  refine VQ_next ?_
  refine VC_seq ?_
  refine VC_region ?_
  refine VL_pure 1 [8, 9, 10, 87] [(8, .slice A1 ((unT Y).length) c1), (9, .int .u8 (unM Y)), (10, .int .i64 (unE Y)), (87, .slice (some ⟨g1, 0, none⟩) (48 * ((p % 8) + 1)) (48 * ((p % 8) + 1)))] (by kernel_rfl) rfl ?_
  have hzs6 := hS.size
  refine VL_call (d := 88) (f := 13) (by kernel_rfl) (by kernel_rfl) (by kernel_rfl) Try.call13 (runpack2_any (some ⟨g1, 0, none⟩) (48 * ((p % 8) + 1)) (48 * ((p % 8) + 1)) _ Y _ (Rw.lenI ho4) (Rw.slI ho4) hYb (by first | exact Nat.le_refl _ | omega) (by omega) (by omega)) ?_
  rintro _ w12 ⟨A2, c2, rfl, hr4, hc4⟩
  replace hS := Step.trans hS hc4
  replace hA := hA.no hc4
  replace hbase1 := Nat.le_trans hbase1 (hc4).size
  replace hglg1 := Nat.lt_of_lt_of_le hglg1 (hc4).size
  replace hsl2 := hsl2.no hc4
  replace ho4 := ho4.no hc4
  replace hbase2 := Nat.le_trans hbase2 (hc4).size
  replace hr3 := hr3.no hc4
  obtain ⟨base2, hbase3E⟩ : ∃ x, x = w11.heap.size := ⟨_, rfl⟩
  rw [← hbase3E] at hr4
  have hbase3 : base2 ≤ w12.heap.size := by rw [hbase3E]; exact hc4.size
  refine VL_pure 9 [8, 9, 10, 11, 12, 13] [(8, .slice A1 ((unT Y).length) c1), (9, .int .u8 (unM Y)), (10, .int .i64 (unE Y)), (11, .slice A2 ((unT Y).length) c2), (12, .int .u8 (unM Y)), (13, .int .i64 (unE Y))] (by kernel_rfl) rfl ?_
  refine VL_end (by kernel_rfl) ?_
  refine VQ_next ?_
  refine VC_seq ?_
  refine VC_region ?_
  refine VL_pure 2 [9, 10, 12, 13, 92, 93] [(9, .int .u8 (unM Y)), (10, .int .i64 (unE Y)), (12, .int .u8 (unM Y)), (13, .int .i64 (unE Y)), (92, .slice A1 ((unT Y).length) c1), (93, .slice A2 ((unT Y).length) c2)] (by kernel_rfl) rfl ?_
  have hzs7 := hS.size
  refine VL_call (d := 94) (f := 14) (args := #[.slice A1 ((unT Y).length) c1, .slice A2 ((unT Y).length) c2]) (by kernel_rfl) (by kernel_rfl) (by kernel_rfl) Try.call14 (same_any A1 ((unT Y).length) c1 _ (unT Y) A2 ((unT Y).length) c2 _ (unT Y) _ (Rw.lenI hr3) (Rw.slI hr3) (Rw.lenI hr4) (Rw.slI hr4) (by omega) (by omega) (by first | exact Nat.le_refl _ | omega) (by first | exact Nat.le_refl _ | omega)) ?_
  rintro _ w13 ⟨rfl, hc5⟩
  replace hS := Step.trans hS hc5
  replace hA := hA.no hc5
  replace hbase1 := Nat.le_trans hbase1 (hc5).size
  replace hglg1 := Nat.lt_of_lt_of_le hglg1 (hc5).size
  replace hsl2 := hsl2.no hc5
  replace ho4 := ho4.no hc5
  replace hbase2 := Nat.le_trans hbase2 (hc5).size
  replace hr3 := hr3.no hc5
  replace hbase3 := Nat.le_trans hbase3 (hc5).size
  replace hr4 := hr4.no hc5
  refine VL_pure 4 [9, 10, 12, 13, 95] [(9, .int .u8 (unM Y)), (10, .int .i64 (unE Y)), (12, .int .u8 (unM Y)), (13, .int .i64 (unE Y)), (95, .bool ((unT Y) == (unT Y)))] (by kernel_rfl) rfl ?_
  refine VL_known ((unT Y) == (unT Y)) (fun bV => [(9, .int .u8 (unM Y)), (10, .int .i64 (unE Y)), (12, .int .u8 (unM Y)), (13, .int .i64 (unE Y)), (95, .bool bV)]) true rfl (by simp) ?_
  refine VL_pure 9 [10, 13, 100] [(10, .int .i64 (unE Y)), (13, .int .i64 (unE Y)), (100, .bool ((unM Y) == (unM Y)))] (by kernel_rfl) rfl ?_
  refine VL_known ((unM Y) == (unM Y)) (fun bV => [(10, .int .i64 (unE Y)), (13, .int .i64 (unE Y)), (100, .bool bV)]) true rfl (by simp) ?_
  refine VL_pure 14 [10, 105] [(10, .int .i64 (unE Y)), (105, .bool ((unE Y) == (unE Y)))] (by kernel_rfl) rfl ?_
  refine VL_known ((unE Y) == (unE Y)) (fun bV => [(10, .int .i64 (unE Y)), (105, .bool bV)]) true rfl (by simp) ?_
  refine VL_pure 18 [4] [(4, .bool ((unE Y) != 4))] (by kernel_rfl) rfl ?_
  refine VL_end (by kernel_rfl) ?_
  refine VQ_next ?_
  refine VC_ret ?_
  refine VQ_ret1 (.bool ((unE Y) != 4)) (.inr rfl) rfl rfl ?_
  exact ⟨by first | rfl | exact congrArg Value.bool (bne_iff_ne.2 (un_sealed hYs)) | simp [*], hS⟩

set_option maxRecDepth 100000 in
set_option maxHeartbeats 4000000 in
theorem sealed_o (A : Option Addr) (n c : Nat) (bs : List Int) (p : Nat) (w : World) (hn : bs.length = n) (hA : Sl w w.heap.size A (iL .u8 bs)) (hc : n ≤ c) (hb : Bytes bs) (hp : p < 256) (hlon : 401 ≤ n) :
    CV Try.prog 4 #[.slice A n c, .int .u8 ((p : Nat) : Int)] w (fun x w1 => x = .bool true ∧ Step No w w1) := by
  have hS : Step No w w := Step.refl _ _
  refine CV_enter Try.f4 _ 109 [(0, .slice A n c), (1, .int .u8 ((p : Nat) : Int))] Try.func4 rfl rfl (by kernel_rfl) rfl ?_
  refine VC_seq ?_
  refine VC_region ?_
  refine VL_pure 1 [0, 1] [(0, .slice A n c), (1, .int .u8 ((p : Nat) : Int))] (by kernel_rfl) rfl ?_
  refine VL_end (by kernel_rfl) ?_
  refine VQ_next ?_
  refine VC_seq ?_
  refine VC_seq ?_
  refine VC_region ?_
  have hzs1 := hS.size
  refine VL_call (d := 14) (f := 9) (args := #[]) (by kernel_rfl) (by kernel_rfl) (by kernel_rfl) Try.call9 (awake_any _) ?_
  rintro _ w1 ⟨rfl, hc1⟩
  replace hS := Step.trans hS hc1
  replace hA := hA.no hc1
  refine VL_pure 7 [0, 1, 20] [(0, .slice A n c), (1, .int .u8 ((p : Nat) : Int)), (20, .bool (decide (((n : Nat) : Int) > 400)))] (by kernel_rfl) rfl ?_
  refine VL_end (by kernel_rfl) ?_
  refine VQ_next ?_
  refine VC_is (b := decide (((n : Nat) : Int) > 400)) true (by kernel_rfl) (by first | (simp; omega) | (simp; done) | simp [*]) ?_
  refine VC_ite_true ?_
  refine VC_seq ?_
  refine VC_region ?_
  have hzs2 := hS.size
  refine VL_call (d := 21) (f := 9) (args := #[]) (by kernel_rfl) (by kernel_rfl) (by kernel_rfl) Try.call9 (awake_any _) ?_
  rintro _ w2 ⟨rfl, hc2⟩
  replace hS := Step.trans hS hc2
  replace hA := hA.no hc2
  refine VL_pure 2 [4] [(4, .bool true)] (by kernel_rfl) rfl ?_
  refine VL_end (by kernel_rfl) ?_
  refine VQ_next ?_
  refine VC_ret ?_
  refine VQ_then_ret ?_
  refine VQ_ret1 (.bool true) (.inr rfl) rfl rfl ?_
  exact ⟨by first | rfl | exact congrArg Value.bool (bne_iff_ne.2 (un_sealed hYs)) | simp [*], hS⟩

end Go.Proofs.Ytfgmlgkopphekaa
