/- Layer 10: awake. -/
import Derived.Test.YtfgmlgkopphekaaProg
import Derived.Test.YtfgmlgkopphekaaFr8
set_option linter.unusedVariables false
set_option linter.unusedSimpArgs false
namespace Go.Proofs.Ytfgmlgkopphekaa
open Go.Vc Go.RowKit

theorem bytes12 : Bytes [1, 2] := by intro x hx; simp only [List.mem_cons, List.mem_nil_iff, or_false] at hx; omega
set_option maxRecDepth 100000 in
set_option maxHeartbeats 4000000 in
theorem awake_any (w : World) :
    CV Try.prog 9 #[] w (fun x w1 => x = .bool true ∧ Step No w w1) := by
  have hS : Step No w w := Step.refl _ _
  refine CV_enter Try.f9 _ 41 [] Try.func9 rfl rfl (by kernel_rfl) rfl ?_
  refine VC_seq ?_
  refine VC_region ?_
  refine VL_pure 1 [] [] (by kernel_rfl) rfl ?_
  refine VL_end (by kernel_rfl) ?_
  refine VQ_next ?_
  refine VC_seq ?_
  refine VC_region ?_
  have hzs1 := hS.size
  refine VL_bs (d := 7) (e := 5) (c := #[.int .u8 1, .int .u8 2]) (len := 2) (by kernel_rfl) (by kernel_rfl) ?_
  intro b1 w1 hn1
  replace hS := Step.trans hS (hn1.step No)
  have ho1 := hn1.own
  have hzhn1 := hn1.size
  have hqhn1 := hn1.eqb
  have hzs2 := hS.size
  have hzl1 := ho1.lt
  refine VL_call (d := 8) (f := 10) (by kernel_rfl) (by kernel_rfl) (by kernel_rfl) Try.call10 (pack_yes (some ⟨b1, 0, none⟩) 2 2 _ ([1, 2]) _ rfl (Own.sl ho1 ho1.lt) 9 (by first | exact Nat.le_refl _ | omega) (by omega) (by omega)) ?_
  rintro _ w2 ⟨g1, c1, rfl, hggg1, hr1, hc1⟩
  replace hS := Step.trans hS hc1
  replace ho1 := ho1.no hc1
  obtain ⟨base1, hbase1E⟩ : ∃ x, x = w1.heap.size := ⟨_, rfl⟩
  rw [← hbase1E] at hr1 hggg1
  have hbase1 : base1 ≤ w2.heap.size := by rw [hbase1E]; exact hc1.size
  have hglg1 : g1 < w2.heap.size := (Rw.openG hr1).choose_spec.2.1
  have hcapg1 := Rw.cap hr1
  have hmmq1 := (many_le 2).2 (by omega)
  refine VL_pure 7 [1, 2] [(1, .slice (some ⟨g1, 0, none⟩) (48 * manyN 2) c1), (2, .int .i64 0)] (by kernel_rfl) rfl ?_
  refine VL_end (by kernel_rfl) ?_
  refine VQ_next ?_
  refine VC_seq ?_
  refine VC_region ?_
  refine VL_pure 1 [1, 2, 12] [(1, .slice (some ⟨g1, 0, none⟩) (48 * manyN 2) c1), (2, .int .i64 0), (12, .slice (some ⟨g1, 0, none⟩) (48 * manyN 2) c1)] (by kernel_rfl) rfl ?_
  have hzs3 := hS.size
  have hzl2 := ho1.lt
  refine VL_call (d := 13) (f := 12) (by kernel_rfl) (by kernel_rfl) (by kernel_rfl) Try.call12 (unpack_frame (some ⟨g1, 0, none⟩) (48 * manyN 2) c1 _ ([1, 2]) 9 2 _ (Rw.lenI hr1) (Rw.slI hr1) rfl (by omega) (by omega) bytes12 (by decide) (by first | exact Nat.le_refl _ | omega) (by omega) (by have hq9 := Rw.cap hr1; omega)) ?_
  rintro _ w3 ⟨A1, c2, rfl, hr2, hc2⟩
  replace hS := Step.trans hS hc2
  replace ho1 := ho1.no hc2
  replace hbase1 := Nat.le_trans hbase1 (hc2).size
  replace hglg1 := Nat.lt_of_lt_of_le hglg1 (hc2).size
  replace hr1 := hr1.no hc2
  obtain ⟨base2, hbase2E⟩ : ∃ x, x = w2.heap.size := ⟨_, rfl⟩
  rw [← hbase2E] at hr2
  have hbase2 : base2 ≤ w3.heap.size := by rw [hbase2E]; exact hc2.size
  refine VL_pure 9 [1, 2, 3, 4, 5] [(1, .slice (some ⟨g1, 0, none⟩) (48 * manyN 2) c1), (2, .int .i64 0), (3, .slice A1 2 c2), (4, .int .u8 9), (5, .int .i64 0)] (by kernel_rfl) rfl ?_
  refine VL_end (by kernel_rfl) ?_
  refine VQ_next ?_
  refine VC_seq ?_
  refine VC_region ?_
  refine VL_pure 4 [2, 3, 4, 5, 20] [(2, .int .i64 0), (3, .slice A1 2 c2), (4, .int .u8 9), (5, .int .i64 0), (20, .bool (((48 * manyN 2 : Nat) : Int) == 48))] (by kernel_rfl) rfl ?_
  refine VL_known (((48 * manyN 2 : Nat) : Int) == 48) (fun bV => [(2, .int .i64 0), (3, .slice A1 2 c2), (4, .int .u8 9), (5, .int .i64 0), (20, .bool bV)]) true rfl (by first | decide | rfl | simp) ?_
  refine VL_pure 9 [4, 5, 24, 25] [(4, .int .u8 9), (5, .int .i64 0), (24, .bool true), (25, .slice A1 2 c2)] (by kernel_rfl) rfl ?_
  have hzs4 := hS.size
  have hzl3 := ho1.lt
  have hzk1 := hbase1
  have hzk2 := hglg1
  have hzk3 := hbase2
  refine VL_bs (d := 26) (e := 5) (c := #[.int .u8 1, .int .u8 2]) (len := 2) (by kernel_rfl) (by kernel_rfl) ?_
  intro b2 w4 hn2
  replace hS := Step.trans hS (hn2.step No)
  replace ho1 := ho1.no (hn2.step No)
  replace hbase1 := Nat.le_trans hbase1 (hn2.step No).size
  replace hglg1 := Nat.lt_of_lt_of_le hglg1 (hn2.step No).size
  replace hr1 := hr1.no (hn2.step No)
  replace hbase2 := Nat.le_trans hbase2 (hn2.step No).size
  replace hr2 := hr2.no (hn2.step No)
  have ho2 := hn2.own
  have hzhn2 := hn2.size
  have hqhn2 := hn2.eqb
  have hzs5 := hS.size
  have hzl4 := ho1.lt
  have hzl5 := ho2.lt
  refine VL_call (d := 27) (f := 14) (args := #[.slice A1 2 c2, .slice (some ⟨b2, 0, none⟩) 2 2]) (by kernel_rfl) (by kernel_rfl) (by kernel_rfl) Try.call14 (same_any A1 2 c2 _ ([1, 2]) (some ⟨b2, 0, none⟩) 2 2 _ ([1, 2]) _ (Rw.lenI hr2) (Rw.slI hr2) rfl (Own.sl ho2 ho2.lt) (by omega) (by omega) (by first | exact Nat.le_refl _ | omega) (by first | exact Nat.le_refl _ | omega)) ?_
  rintro _ w5 ⟨rfl, hc3⟩
  replace hS := Step.trans hS hc3
  replace ho1 := ho1.no hc3
  replace hbase1 := Nat.le_trans hbase1 (hc3).size
  replace hglg1 := Nat.lt_of_lt_of_le hglg1 (hc3).size
  replace hr1 := hr1.no hc3
  replace hbase2 := Nat.le_trans hbase2 (hc3).size
  replace hr2 := hr2.no hc3
  replace ho2 := ho2.no hc3
  refine VL_pure 13 [4, 5, 29] [(4, .int .u8 9), (5, .int .i64 0), (29, .bool (([1, 2]) == ([1, 2])))] (by kernel_rfl) rfl ?_
  refine VL_known (([1, 2]) == ([1, 2])) (fun bV => [(4, .int .u8 9), (5, .int .i64 0), (29, .bool bV)]) true rfl (by first | decide | rfl | simp) ?_
  refine VL_pure 21 [37] [(37, .bool true)] (by kernel_rfl) rfl ?_
  have hzs6 := hS.size
  have hzl6 := ho1.lt
  have hzl7 := ho2.lt
  refine VL_call (d := 38) (f := 16) (args := #[.int .i64 41]) (by kernel_rfl) (by kernel_rfl) (by kernel_rfl) Try.call16 (many_nat 41 _ (by omega)) ?_
  rintro _ w6 ⟨rfl, hc4⟩
  replace hS := Step.trans hS hc4
  replace ho1 := ho1.no hc4
  replace hbase1 := Nat.le_trans hbase1 (hc4).size
  replace hglg1 := Nat.lt_of_lt_of_le hglg1 (hc4).size
  replace hr1 := hr1.no hc4
  replace hbase2 := Nat.le_trans hbase2 (hc4).size
  replace hr2 := hr2.no hc4
  replace ho2 := ho2.no hc4
  have hmnq2 := many_le 41
  refine VL_pure 25 [0] [(0, .bool (((manyN 41 : Nat) : Int) == 2))] (by kernel_rfl) rfl ?_
  refine VL_end (by kernel_rfl) ?_
  refine VQ_next ?_
  refine VC_ret ?_
  refine VQ_ret1 (.bool (((manyN 41 : Nat) : Int) == 2)) (.inr rfl) rfl rfl ?_
  exact ⟨by first | rfl | decide | simp, hS⟩

end Go.Proofs.Ytfgmlgkopphekaa
