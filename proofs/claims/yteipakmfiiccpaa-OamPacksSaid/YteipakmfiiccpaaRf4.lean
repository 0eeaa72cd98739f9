/- Layer 4, the document's: Seal. -/
import Derived.Test.YteipakmfiiccpaaProg
import Derived.Test.YteipakmfiiccpaaRf3
set_option linter.unusedVariables false
set_option linter.unusedSimpArgs false
namespace Go.Proofs.Yteipakmfiiccpaa
open Go.Vc Go.RowKit

set_option maxRecDepth 100000 in
set_option maxHeartbeats 4000000 in
theorem rseal48_any (A : Option Addr) (c Bd : Nat) (bs : List Int) (w : World) (hn : bs.length = 48) (hA : Sl w Bd A (iL .u8 bs)) (hBd : Bd ≤ w.heap.size) :
    CV Try.prog 23 #[.slice A 48 c] w (fun x w1 => ∃ A' c', x = .slice A' 48 c' ∧ Rw w1 w.heap.size 5 A' 48 c' (iL .u8 (sealR bs)) ∧ Step No w w1) := by
  have hS : Step No w w := Step.refl _ _
  refine CV_enter Try.f23 _ 31 [(0, .slice A 48 c)] Try.func23 rfl rfl (by kernel_rfl) rfl ?_
  refine VC_seq ?_
  refine VC_region ?_
  refine VL_pure 1 [0] [(0, .slice A 48 c)] (by kernel_rfl) rfl ?_
  refine VL_end (by kernel_rfl) ?_
  refine VQ_next ?_
  refine VC_seq ?_
  refine VC_region ?_
  refine VL_pure 1 [0, 6] [(0, .slice A 48 c), (6, .slice A 48 c)] (by kernel_rfl) rfl ?_
  have hzs1 := hS.size
  refine VL_call (d := 7) (f := 29) (args := #[.slice A 48 c]) (by kernel_rfl) (by kernel_rfl) (by kernel_rfl) Try.call29 (rbits_any A 48 c _ bs _ hn hA (by omega) (by first | exact Nat.le_refl _ | omega)) ?_
  rintro _ w1 ⟨A2, c2, rfl, hr2, hc1⟩
  replace hS := Step.trans hS hc1
  replace hA := hA.no hc1
  obtain ⟨base2, hbase2E⟩ : ∃ x, x = w.heap.size := ⟨_, rfl⟩
  rw [← hbase2E] at hr2
  have hbase2 : base2 ≤ w1.heap.size := by rw [hbase2E]; exact hc1.size
  refine VL_pure 3 [0, 3] [(0, .slice A 48 c), (3, .slice A2 384 c2)] (by kernel_rfl) rfl ?_
  refine VL_end (by kernel_rfl) ?_
  refine VQ_next ?_
  refine VC_seq ?_
  refine VC_region ?_
  refine VL_pure 1 [0, 8] [(0, .slice A 48 c), (8, .slice A2 384 c2)] (by kernel_rfl) rfl ?_
  obtain ⟨g1, cur1, rfl, hgbg1, hglg1, -⟩ := hr2.open (by omega)
  have hcap1 := Rw.cap hr2
  have hln1 := Rw.lenI hr2
  refine VL_slice (d := 9) (b := g1) (o := 0) (sz := 1) (len := 384) (cap := c2) (lo := none) (hi := (some 374)) (mx := none) (by kernel_rfl) (by kernel_rfl) (fun h => by first | exact absurd rfl h | exact (fun h => by cases h)) 0 374 c2 rfl rfl rfl (by omega) (by omega) (by omega) 0 (by split <;> omega) 374 (by omega) c2 (by omega) ?_
  have hsl1 := Sl.takeI (Rw.slI hr2) 374
  have hzs2 := hS.size
  refine VL_call (d := 10) (f := 30) (args := #[.slice (some ⟨g1, 0, none⟩) 374 c2, .int .u64 563, .int .i64 10, .bool false]) (by kernel_rfl) (by kernel_rfl) (by kernel_rfl) Try.call30 (rrest2_any (some ⟨g1, 0, none⟩) 374 c2 _ ((rbitsL bs).take 374) _ (by simp only [List.length_take, List.length_drop]; omega) hsl1 (by omega) (by first | exact Nat.le_refl _ | omega) 563 10 (by omega) (by omega)) ?_
  rintro _ w2 ⟨rfl, hc2⟩
  replace hS := Step.trans hS hc2
  replace hA := hA.no hc2
  replace hbase2 := Nat.le_trans hbase2 (hc2).size
  replace hr2 := hr2.no hc2
  replace hglg1 := Nat.lt_of_lt_of_le hglg1 (hc2).size
  replace hsl1 := hsl1.no hc2
  refine VL_pure 4 [0, 4] [(0, .slice A 48 c), (4, .int .u64 (restF 563 10 ((rbitsL bs).take 374)))] (by kernel_rfl) rfl ?_
  refine VL_end (by kernel_rfl) ?_
  refine VQ_next ?_
  refine VC_seq ?_
  refine VC_region ?_
  have hzs3 := hS.size
  have hzk1 := hbase2
  have hzk2 := hglg1
  refine VL_bs (d := 11) (e := 5) (c := #[]) (len := 0) (by kernel_rfl) (by kernel_rfl) ?_
  intro b1 w3 hn1
  replace hS := Step.trans hS (hn1.step No)
  replace hA := hA.no (hn1.step No)
  replace hbase2 := Nat.le_trans hbase2 (hn1.step No).size
  replace hr2 := hr2.no (hn1.step No)
  replace hglg1 := Nat.lt_of_lt_of_le hglg1 (hn1.step No).size
  replace hsl1 := hsl1.no (hn1.step No)
  have ho1 := hn1.own
  have hzhn1 := hn1.size
  have hqhn1 := hn1.eqb
  refine VL_pure 2 [4, 11, 12] [(4, .int .u64 (restF 563 10 ((rbitsL bs).take 374))), (11, .slice (some ⟨b1, 0, none⟩) 0 0), (12, .slice A 48 c)] (by kernel_rfl) rfl ?_
  have hzs4 := hS.size
  have hzk3 := hbase2
  have hzk4 := hglg1
  have hzl1 := ho1.lt
  have hbase3 := Nat.le_of_lt ho1.lt
  refine VL_appendS (d := 13) (e := 5) (A := (some ⟨b1, 0, none⟩)) (m := 0) (c := 0) (A2 := A) (m2 := 48) (c2 := c) (bytes := 1) (by kernel_rfl) (by kernel_rfl) (by kernel_rfl) b1 w3.heap.size (iL .u8 ([])) (iL .u8 bs) (Rw.of_new ho1 (Nat.le_refl _) (Nat.le_of_ble_eq_true (by kernel_rfl))) (by rw [iL_length]; exact hn) (Sl.mono hA (by first | exact Nat.le_refl _ | omega)) iL_one 48 (by omega) (by simp only [maxLen]; omega) (by omega) (by omega) ?_
  intro A3 c3 w4 hr3 hg1
  replace hr3 : Rw w4 b1 5 A3 48 c3 (iL .u8 bs) := Rw.cast hr3 rfl (by simp only [iL, List.map_append, List.map_cons, List.map_nil, List.append_assoc, List.cons_append, List.nil_append, List.append_nil])
  have hzhg1 := hg1.size
  replace hS := Step.transNew hS hg1 (fun i hi hG => by (try simp only at hG); omega)
  replace hA := hA.step hg1 (fun k hk hG => by (try simp only at hG); omega)
  replace hbase2 := Nat.le_trans hbase2 (hg1).size
  replace hr2 := hr2.keepG hg1 (by (try simp only); omega)
  replace hglg1 := Nat.lt_of_lt_of_le hglg1 (hg1).size
  replace hsl1 := hsl1.keepB hg1 (by (try simp only); omega)
  replace hbase3 := Nat.le_trans hbase3 (hg1).size
  refine VL_pure 4 [4, 5] [(4, .int .u64 (restF 563 10 ((rbitsL bs).take 374))), (5, .slice A3 48 c3)] (by kernel_rfl) rfl ?_
  refine VL_end (by kernel_rfl) ?_
  refine VQ_next ?_
  refine VC_seq ?_
  refine VC_region ?_
  refine VL_pure 2 [4, 5, 14, 15] [(4, .int .u64 (restF 563 10 ((rbitsL bs).take 374))), (5, .slice A3 48 c3), (14, .slice A3 48 c3), (15, .slice A3 48 c3)] (by kernel_rfl) rfl ?_
  obtain ⟨g2, cur2, rfl, hgbg2, hglg2, -⟩ := hr3.open (by omega)
  refine VL_index (d := 16) (b := g2) (o := 0) (len := 48) (sz := 1) (m := 46) (by kernel_rfl) (by kernel_rfl) 46 (by rfl) (by omega) 46 (by omega) ?_
  refine VL_load (d := 17) (t := 5) (a := ⟨g2, 46, none⟩) (v := .int .u8 (bs.getD 46 0)) (by kernel_rfl) (by kernel_rfl) (Rw.ldI hr3 (by kernel_rfl) (by omega)) ?_
  refine VL_pure 10 [4, 5, 14, 23] [(4, .int .u64 (restF 563 10 ((rbitsL bs).take 374))), (5, .slice (some ⟨g2, 0, none⟩) 48 c3), (14, .slice (some ⟨g2, 0, none⟩) 48 c3), (23, .int .u8 (IntKind.wrap .u8 ((IntKind.wrap .u8 ((IntKind.wrap .u8 ((bs.getD 46 0).tdiv 4)) * 4)) + (IntKind.wrap .u8 (IntKind.wrap .u64 ((restF 563 10 ((rbitsL bs).take 374)).tdiv 256))))))] (by kernel_rfl) rfl ?_
  refine VL_index (d := 24) (b := g2) (o := 0) (len := 48) (sz := 1) (m := 46) (by kernel_rfl) (by kernel_rfl) 46 (by rfl) (by omega) 46 (by omega) ?_
  obtain ⟨cur3, hgbcur3, hglcur3, howcur3, hcscur3, hcncur3, hcmcur3, hctcur3⟩ := hr3.openG
  refine VL_store (b := g2) (o := 46) (vs := [.int .u8 (IntKind.wrap .u8 ((IntKind.wrap .u8 ((IntKind.wrap .u8 ((bs.getD 46 0).tdiv 4)) * 4)) + (IntKind.wrap .u8 (IntKind.wrap .u64 ((restF 563 10 ((rbitsL bs).take 374)).tdiv 256)))))]) (by kernel_rfl) (by kernel_rfl) howcur3 (by simp only [List.length_singleton]; omega) ?_
  intro w5 hw1
  replace hS := Step.transNew hS hw1.step (fun _ _ _ => by omega)
  replace hA := hA.step hw1.step (fun k hk (hF : k = g2) => by omega)
  replace hbase2 := Nat.le_trans hbase2 (hw1.step).size
  replace hr2 := hr2.keepG hw1.step (show ¬ g1 = g2 by omega)
  replace hglg1 := Nat.lt_of_lt_of_le hglg1 (hw1.step).size
  replace hsl1 := hsl1.keepB hw1.step (show ¬ g1 = g2 by omega)
  replace hbase3 := Nat.le_trans hbase3 (hw1.step).size
  replace hglg2 := Nat.lt_of_lt_of_le hglg2 (hw1.step).size
  have ho2 := Rw.putI hctcur3 hw1 hgbcur3 hcscur3 hcncur3 hcmcur3 (j := 46) (by omega)
  have hzhw1 := hw1.same
  refine VL_end (by kernel_rfl) ?_
  refine VQ_next ?_
  refine VC_seq ?_
  refine VC_region ?_
  refine VL_pure 4 [5, 25, 28] [(5, .slice (some ⟨g2, 0, none⟩) 48 c3), (25, .slice (some ⟨g2, 0, none⟩) 48 c3), (28, .int .u8 (IntKind.wrap .u8 ((restF 563 10 ((rbitsL bs).take 374)).tmod 256)))] (by kernel_rfl) rfl ?_
  refine VL_index (d := 29) (b := g2) (o := 0) (len := 48) (sz := 1) (m := 47) (by kernel_rfl) (by kernel_rfl) 47 (by rfl) (by omega) 47 (by omega) ?_
  obtain ⟨cur4, hgbcur4, hglcur4, howcur4, hcscur4, hcncur4, hcmcur4, hctcur4⟩ := ho2.openG
  refine VL_store (b := g2) (o := 47) (vs := [.int .u8 (IntKind.wrap .u8 ((restF 563 10 ((rbitsL bs).take 374)).tmod 256))]) (by kernel_rfl) (by kernel_rfl) howcur4 (by simp only [List.length_singleton]; omega) ?_
  intro w6 hw2
  replace hS := Step.transNew hS hw2.step (fun _ _ _ => by omega)
  replace hA := hA.step hw2.step (fun k hk (hF : k = g2) => by omega)
  replace hbase2 := Nat.le_trans hbase2 (hw2.step).size
  replace hr2 := hr2.keepG hw2.step (show ¬ g1 = g2 by omega)
  replace hglg1 := Nat.lt_of_lt_of_le hglg1 (hw2.step).size
  replace hsl1 := hsl1.keepB hw2.step (show ¬ g1 = g2 by omega)
  replace hbase3 := Nat.le_trans hbase3 (hw2.step).size
  replace hglg2 := Nat.lt_of_lt_of_le hglg2 (hw2.step).size
  have ho3 := Rw.putI hctcur4 hw2 hgbcur4 hcscur4 hcncur4 hcmcur4 (j := 47) (by omega)
  have hzhw2 := hw2.same
  refine VL_end (by kernel_rfl) ?_
  refine VQ_next ?_
  refine VC_seq ?_
  refine VC_region ?_
  refine VL_pure 2 [2] [(2, .slice (some ⟨g2, 0, none⟩) 48 c3)] (by kernel_rfl) rfl ?_
  refine VL_end (by kernel_rfl) ?_
  refine VQ_next ?_
  refine VC_ret ?_
  refine VQ_ret1 (.slice (some ⟨g2, 0, none⟩) 48 c3) (.inr rfl) rfl rfl ?_
  exact ⟨_, _, rfl, Rw.low (Rw.cast ho3 rfl rfl) (by omega), hS⟩

theorem rseal_any (A : Option Addr) (n c Bd : Nat) (bs : List Int) (w : World) (hn : bs.length = n) (hA : Sl w Bd A (iL .u8 bs)) (hBd : Bd ≤ w.heap.size) (h48 : n = 48) :
    CV Try.prog 23 #[.slice A n c] w (fun x w1 => ∃ A' c', x = .slice A' 48 c' ∧ Rw w1 w.heap.size 5 A' 48 c' (iL .u8 (sealR bs)) ∧ Step No w w1) := by
  subst h48
  exact rseal48_any A c Bd bs w hn hA hBd
end Go.Proofs.Yteipakmfiiccpaa
