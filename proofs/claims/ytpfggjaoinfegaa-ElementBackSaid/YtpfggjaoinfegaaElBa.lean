/- Layer 15: ElementBack. -/
import Derived.Test.YtpfggjaoinfegaaProg
import Derived.Test.YtpfggjaoinfegaaEl4
import Derived.Test.YtpfggjaoinfegaaIe4
set_option linter.unusedVariables false
set_option linter.unusedSimpArgs false
namespace Go.Proofs.Ytpfggjaoinfegaa
open Go.Vc Go.RowKit

set_option maxRecDepth 100000 in
set_option maxHeartbeats 4000000 in
theorem back_yes (A : Option Addr) (n c : Nat) (l : List IeV) (D : Option Addr) (nD cD : Nat) (bt : List Int) (w : World) (hn : l.length = n) (hA : Ies w 0 w.heap.size A l) (hc : n ≤ c) (hl : ∀ x ∈ l, IeB x) (hmx : n ≤ 9223372036854775807) (hnD : bt.length = nD) (hD : Sl w w.heap.size D (iL .u8 bt)) (hcD : nD ≤ cD) (hb : Bytes bt) (hf : fewB l = true) (hlonD : 0 ≤ nD) (hhinD : nD ≤ 600) :
    CV Try.prog 3 #[.slice A n c, .slice D nD cD] w (fun x w1 => x = .bool true ∧ Step No w w1) := by
  have hS : Step No w w := Step.refl _ _
  obtain ⟨hsm, hn20⟩ := fewB_yes hf
  rw [hn] at hn20
  refine CV_enter Try.f3 _ 68 [(0, .slice A n c), (1, .slice D nD cD)] Try.func3 rfl rfl (by kernel_rfl) rfl ?_
  refine VC_seq ?_
  refine VC_region ?_
  refine VL_pure 1 [0, 1] [(0, .slice A n c), (1, .slice D nD cD)] (by kernel_rfl) rfl ?_
  refine VL_end (by kernel_rfl) ?_
  refine VQ_next ?_
  refine VC_seq ?_
  refine VC_seq ?_
  refine VC_region ?_
  have hzs1 := hS.size
  refine VL_call (d := 13) (f := 9) (args := #[]) (by kernel_rfl) (by kernel_rfl) (by kernel_rfl) Try.call9 (awake_any _) ?_
  rintro _ w1 ⟨rfl, hc1⟩
  replace hS := Step.trans hS hc1
  replace hA := hA.no hc1
  replace hD := hD.no hc1
  refine VL_pure 4 [0, 1, 15, 16] [(0, .slice A n c), (1, .slice D nD cD), (15, .bool false), (16, .slice A n c)] (by kernel_rfl) rfl ?_
  have hzs2 := hS.size
  refine VL_call (d := 17) (f := 10) (args := #[.slice A n c]) (by kernel_rfl) (by kernel_rfl) (by kernel_rfl) Try.call10 (few_any A n c 0 w.heap.size l _ hn hA (by omega)) ?_
  rintro _ w2 ⟨rfl, hc2⟩
  replace hS := Step.trans hS hc2
  replace hA := hA.no hc2
  replace hD := hD.no hc2
  refine VL_pure 8 [0, 1, 20] [(0, .slice A n c), (1, .slice D nD cD), (20, .bool (!(fewB l)))] (by kernel_rfl) rfl ?_
  refine VL_known (fewB l) (fun bV => [(0, .slice A n c), (1, .slice D nD cD), (20, .bool (!bV))]) true rfl hf ?_
  refine VL_pure 12 [0, 1, 24] [(0, .slice A n c), (1, .slice D nD cD), (24, .bool (decide (((nD : Nat) : Int) > 600)))] (by kernel_rfl) rfl ?_
  refine VL_end (by kernel_rfl) ?_
  refine VQ_next ?_
  refine VC_is (b := decide (((nD : Nat) : Int) > 600)) false (by kernel_rfl) (by first | (simp; omega) | (simp; done) | simp [*]) ?_
  refine VC_ite_false ?_
  refine VC_skip ?_
  refine VQ_next ?_
  refine VC_seq ?_
  refine VC_region ?_
  refine VL_pure 1 [0, 1, 27] [(0, .slice A n c), (1, .slice D nD cD), (27, .slice A n c)] (by kernel_rfl) rfl ?_
  have hzs3 := hS.size
  refine VL_call (d := 28) (f := 11) (by kernel_rfl) (by kernel_rfl) (by kernel_rfl) Try.call11 (pack_any A n c 0 w.heap.size l _ hn hA (by omega) (by first | exact Nat.le_refl _ | omega)) ?_
  rintro _ w3 ⟨A1, c1, rfl, hr1, hc3⟩
  replace hS := Step.trans hS hc3
  replace hA := hA.no hc3
  replace hD := hD.no hc3
  obtain ⟨base1, hbase1E⟩ : ∃ x, x = w2.heap.size := ⟨_, rfl⟩
  rw [← hbase1E] at hr1
  have hbase1 : base1 ≤ w3.heap.size := by rw [hbase1E]; exact hc3.size
  have hplq1 := packT_le (vals l)
  refine VL_pure 7 [0, 1, 5, 6] [(0, .slice A n c), (1, .slice D nD cD), (5, .slice A1 ((packT (vals l)).length) c1), (6, .int .i64 (packE (vals l)))] (by kernel_rfl) rfl ?_
  refine VL_end (by kernel_rfl) ?_
  refine VQ_next ?_
  refine VC_seq ?_
  refine VC_seq ?_
  refine VC_region ?_
  refine VL_pure 2 [0, 1, 5, 32] [(0, .slice A n c), (1, .slice D nD cD), (5, .slice A1 ((packT (vals l)).length) c1), (32, .bool ((packE (vals l)) == 0))] (by kernel_rfl) rfl ?_
  refine VL_end (by kernel_rfl) ?_
  refine VQ_next ?_
  refine VC_eq (packE (vals l)) 0 (by kernel_rfl) (fun h1 => ?_) (fun h1 => ?_)
  · refine VC_seq ?_
    refine VC_region ?_
    refine VL_pure 1 [0, 1, 34] [(0, .slice A n c), (1, .slice D nD cD), (34, .slice A1 ((packT (vals l)).length) c1)] (by kernel_rfl) rfl ?_
    have hzs4 := hS.size
    refine VL_call (d := 35) (f := 12) (by kernel_rfl) (by kernel_rfl) (by kernel_rfl) Try.call12 (unpack_any A1 ((packT (vals l)).length) c1 _ (packT (vals l)) _ (Rw.lenI hr1) (Rw.slI hr1) (by have hq9 := Rw.cap hr1; omega) (packT_bytes hl) (by omega) (by first | exact Nat.le_refl _ | omega)) ?_
    rintro _ w4 ⟨Ai1, ci1, li1, rfl, hv1, hI1, hc4⟩
    replace hS := Step.trans hS hc4
    replace hA := hA.no hc4
    replace hD := hD.no hc4
    replace hbase1 := Nat.le_trans hbase1 (hc4).size
    replace hr1 := hr1.no hc4
    have hleli1 : w4.heap.size ≤ w4.heap.size := Nat.le_refl _
    have hV1 := Ier.ies hI1
    have hcntli1 : li1.length ≤ 16 := by have hq9 := ieU_count (packT (vals l)) [] (by simp); rw [← vals_len, hv1]; exact hq9
    have hcali1 : li1.length ≤ ci1 := RwS.cap hI1.row
    have hibli1 : ∀ x ∈ li1, IeB x := un_ieb hv1 (packT_bytes hl)
    have hsmli1 : ∀ x ∈ li1, x.n ≤ 200 := un_small hV1 hv1 (packT_bytes hl)
    refine VL_pure 7 [0, 1, 7, 8] [(0, .slice A n c), (1, .slice D nD cD), (7, .slice Ai1 li1.length ci1), (8, .int .i64 (ieUE (packT (vals l))))] (by kernel_rfl) rfl ?_
    refine VL_end (by kernel_rfl) ?_
    refine VQ_next ?_
    refine VC_seq ?_
    refine VC_region ?_
    refine VL_pure 3 [0, 1, 7, 40] [(0, .slice A n c), (1, .slice D nD cD), (7, .slice Ai1 li1.length ci1), (40, .bool ((ieUE (packT (vals l))) != 0))] (by kernel_rfl) rfl ?_
    refine VL_known ((ieUE (packT (vals l))) != 0) (fun bV => [(0, .slice A n c), (1, .slice D nD cD), (7, .slice Ai1 li1.length ci1), (40, .bool bV)]) false rfl (by rw [ie_thereE (by assumption)]; rfl) ?_
    refine VL_pure 5 [1, 40, 41, 42] [(1, .slice D nD cD), (40, .bool false), (41, .slice Ai1 li1.length ci1), (42, .slice A n c)] (by kernel_rfl) rfl ?_
    have hzs5 := hS.size
    refine VL_call (d := 43) (f := 13) (args := #[.slice Ai1 li1.length ci1, .slice A n c]) (by kernel_rfl) (by kernel_rfl) (by kernel_rfl) Try.call13 (same15_any Ai1 li1.length ci1 w3.heap.size w4.heap.size li1 _ rfl hV1 A n c 0 w.heap.size l hn hA   (by omega) (fun x hx => by have hq9 := hsmli1 x hx; omega) (fun x hx => by have hq9 := hsm x hx; omega) (by first | exact Nat.le_refl _ | omega) (by first | exact Nat.le_refl _ | omega)) ?_
    rintro _ w5 ⟨rfl, hc5⟩
    replace hS := Step.trans hS hc5
    replace hA := hA.no hc5
    replace hD := hD.no hc5
    replace hbase1 := Nat.le_trans hbase1 (hc5).size
    replace hr1 := hr1.no hc5
    replace hV1 := hV1.no hc5
    replace hleli1 := Nat.le_trans hleli1 (hc5).size
    refine VL_pure 8 [1, 45] [(1, .slice D nD cD), (45, .bool (!(vals li1 == vals l)))] (by kernel_rfl) rfl ?_
    refine VL_end (by kernel_rfl) ?_
    refine VQ_next ?_
    refine VC_is (b := !(vals li1 == vals l)) false (by kernel_rfl) (by rw [show ((vals li1 == vals l)) = true from (by rw [beq_iff_eq, hv1, ie_thereL (by assumption)])]; rfl) ?_
    refine VC_ite_false ?_
    refine VC_skip ?_
    refine VQ_next ?_
    refine VC_seq ?_
    refine VC_region ?_
    refine VL_pure 1 [1, 47] [(1, .slice D nD cD), (47, .slice D nD cD)] (by kernel_rfl) rfl ?_
    have hzs6 := hS.size
    refine VL_call (d := 48) (f := 12) (by kernel_rfl) (by kernel_rfl) (by kernel_rfl) Try.call12 (unpack_any D nD cD _ bt _ hnD hD (by omega) hb (by omega) (by first | exact Nat.le_refl _ | omega)) ?_
    rintro _ w6 ⟨Ai2, ci2, li2, rfl, hv2, hI2, hc6⟩
    replace hS := Step.trans hS hc6
    replace hA := hA.no hc6
    replace hD := hD.no hc6
    replace hbase1 := Nat.le_trans hbase1 (hc6).size
    replace hr1 := hr1.no hc6
    replace hV1 := hV1.no hc6
    replace hleli1 := Nat.le_trans hleli1 (hc6).size
    have hleli2 : w6.heap.size ≤ w6.heap.size := Nat.le_refl _
    have hV2 := Ier.ies hI2
    have hcntli2 : li2.length ≤ 16 := by have hq9 := ieU_count bt [] (by simp); rw [← vals_len, hv2]; exact hq9
    have hcali2 : li2.length ≤ ci2 := RwS.cap hI2.row
    have hibli2 : ∀ x ∈ li2, IeB x := un_ieb hv2 hb
    have hsmli2 : ∀ x ∈ li2, x.n ≤ 200 := un_small hV2 hv2 hb
    refine VL_pure 7 [1, 9, 10] [(1, .slice D nD cD), (9, .slice Ai2 li2.length ci2), (10, .int .i64 (ieUE bt))] (by kernel_rfl) rfl ?_
    refine VL_end (by kernel_rfl) ?_
    refine VQ_next ?_
    refine VC_seq ?_
    refine VC_seq ?_
    refine VC_region ?_
    refine VL_pure 2 [1, 9, 52] [(1, .slice D nD cD), (9, .slice Ai2 li2.length ci2), (52, .bool ((ieUE bt) != 0))] (by kernel_rfl) rfl ?_
    refine VL_end (by kernel_rfl) ?_
    refine VQ_next ?_
    refine VC_ne (ieUE bt) 0 (by kernel_rfl) (fun h2 => ?_) (fun h2 => ?_)
    · refine VC_seq ?_
      refine VC_region ?_
      refine VL_pure 4 [4] [(4, .bool (((li2.length : Nat) : Int) == 0))] (by kernel_rfl) rfl ?_
      refine VL_end (by kernel_rfl) ?_
      refine VQ_next ?_
      refine VC_ret ?_
      refine VQ_then_ret ?_
      refine VQ_ret1 (.bool (((li2.length : Nat) : Int) == 0)) (.inr rfl) rfl rfl ?_
      exact ⟨congrArg Value.bool (by rw [beq_iff_eq]; have hq9 := ie_errL (by assumption) (by assumption); omega), hS⟩
    · refine VC_skip ?_
      refine VQ_next ?_
      refine VC_seq ?_
      refine VC_region ?_
      refine VL_pure 1 [1, 57] [(1, .slice D nD cD), (57, .slice Ai2 li2.length ci2)] (by kernel_rfl) rfl ?_
      have hzs7 := hS.size
      refine VL_call (d := 58) (f := 11) (by kernel_rfl) (by kernel_rfl) (by kernel_rfl) Try.call11 (pack_any Ai2 li2.length ci2 w5.heap.size w6.heap.size li2 _ rfl hV2 (by omega) (by first | exact Nat.le_refl _ | omega)) ?_
      rintro _ w7 ⟨A2, c2, rfl, hr2, hc7⟩
      replace hS := Step.trans hS hc7
      replace hA := hA.no hc7
      replace hD := hD.no hc7
      replace hbase1 := Nat.le_trans hbase1 (hc7).size
      replace hr1 := hr1.no hc7
      replace hV1 := hV1.no hc7
      replace hleli1 := Nat.le_trans hleli1 (hc7).size
      replace hV2 := hV2.no hc7
      replace hleli2 := Nat.le_trans hleli2 (hc7).size
      obtain ⟨base2, hbase2E⟩ : ∃ x, x = w6.heap.size := ⟨_, rfl⟩
      rw [← hbase2E] at hr2
      have hbase2 : base2 ≤ w7.heap.size := by rw [hbase2E]; exact hc7.size
      have hplq4 := packT_le (vals li2)
      refine VL_pure 7 [1, 11, 12] [(1, .slice D nD cD), (11, .slice A2 ((packT (vals li2)).length) c2), (12, .int .i64 (packE (vals li2)))] (by kernel_rfl) rfl ?_
      refine VL_end (by kernel_rfl) ?_
      refine VQ_next ?_
      refine VC_seq ?_
      refine VC_region ?_
      refine VL_pure 3 [1, 11, 63] [(1, .slice D nD cD), (11, .slice A2 ((packT (vals li2)).length) c2), (63, .bool ((packE (vals li2)) == 0))] (by kernel_rfl) rfl ?_
      refine VL_known ((packE (vals li2)) == 0) (fun bV => [(1, .slice D nD cD), (11, .slice A2 ((packT (vals li2)).length) c2), (63, .bool bV)]) true rfl (by rw [(ie_back hb (by assumption) (by first | assumption | (simp at *; assumption))).1]; rfl) ?_
      refine VL_pure 5 [63, 64, 65] [(63, .bool true), (64, .slice A2 ((packT (vals li2)).length) c2), (65, .slice D nD cD)] (by kernel_rfl) rfl ?_
      have hzs8 := hS.size
      refine VL_call (d := 66) (f := 14) (args := #[.slice A2 ((packT (vals li2)).length) c2, .slice D nD cD]) (by kernel_rfl) (by kernel_rfl) (by kernel_rfl) Try.call14 (same_any A2 ((packT (vals li2)).length) c2 _ (packT (vals li2)) D nD cD _ bt _ (Rw.lenI hr2) (Rw.slI hr2) hnD hD (by omega) (by omega) (by first | exact Nat.le_refl _ | omega) (by first | exact Nat.le_refl _ | omega)) ?_
      rintro _ w8 ⟨rfl, hc8⟩
      replace hS := Step.trans hS hc8
      replace hA := hA.no hc8
      replace hD := hD.no hc8
      replace hbase1 := Nat.le_trans hbase1 (hc8).size
      replace hr1 := hr1.no hc8
      replace hV1 := hV1.no hc8
      replace hleli1 := Nat.le_trans hleli1 (hc8).size
      replace hV2 := hV2.no hc8
      replace hleli2 := Nat.le_trans hleli2 (hc8).size
      replace hbase2 := Nat.le_trans hbase2 (hc8).size
      replace hr2 := hr2.no hc8
      refine VL_pure 8 [4] [(4, .bool ((packT (vals li2)) == bt))] (by kernel_rfl) rfl ?_
      refine VL_end (by kernel_rfl) ?_
      refine VQ_next ?_
      refine VC_ret ?_
      refine VQ_ret1 (.bool ((packT (vals li2)) == bt)) (.inr rfl) rfl rfl ?_
      exact ⟨congrArg Value.bool (by rw [beq_iff_eq]; exact (ie_back hb (by assumption) (by first | assumption | (simp at *; assumption))).2), hS⟩
  · refine VC_skip ?_
    refine VQ_next ?_
    refine VC_seq ?_
    refine VC_region ?_
    refine VL_pure 1 [1, 47] [(1, .slice D nD cD), (47, .slice D nD cD)] (by kernel_rfl) rfl ?_
    have hzs9 := hS.size
    refine VL_call (d := 48) (f := 12) (by kernel_rfl) (by kernel_rfl) (by kernel_rfl) Try.call12 (unpack_any D nD cD _ bt _ hnD hD (by omega) hb (by omega) (by first | exact Nat.le_refl _ | omega)) ?_
    rintro _ w9 ⟨Ai3, ci3, li3, rfl, hv3, hI3, hc9⟩
    replace hS := Step.trans hS hc9
    replace hA := hA.no hc9
    replace hD := hD.no hc9
    replace hbase1 := Nat.le_trans hbase1 (hc9).size
    replace hr1 := hr1.no hc9
    have hleli3 : w9.heap.size ≤ w9.heap.size := Nat.le_refl _
    have hV3 := Ier.ies hI3
    have hcntli3 : li3.length ≤ 16 := by have hq9 := ieU_count bt [] (by simp); rw [← vals_len, hv3]; exact hq9
    have hcali3 : li3.length ≤ ci3 := RwS.cap hI3.row
    have hibli3 : ∀ x ∈ li3, IeB x := un_ieb hv3 hb
    have hsmli3 : ∀ x ∈ li3, x.n ≤ 200 := un_small hV3 hv3 hb
    refine VL_pure 7 [1, 9, 10] [(1, .slice D nD cD), (9, .slice Ai3 li3.length ci3), (10, .int .i64 (ieUE bt))] (by kernel_rfl) rfl ?_
    refine VL_end (by kernel_rfl) ?_
    refine VQ_next ?_
    refine VC_seq ?_
    refine VC_seq ?_
    refine VC_region ?_
    refine VL_pure 2 [1, 9, 52] [(1, .slice D nD cD), (9, .slice Ai3 li3.length ci3), (52, .bool ((ieUE bt) != 0))] (by kernel_rfl) rfl ?_
    refine VL_end (by kernel_rfl) ?_
    refine VQ_next ?_
    refine VC_ne (ieUE bt) 0 (by kernel_rfl) (fun h3 => ?_) (fun h3 => ?_)
    · refine VC_seq ?_
      refine VC_region ?_
      refine VL_pure 4 [4] [(4, .bool (((li3.length : Nat) : Int) == 0))] (by kernel_rfl) rfl ?_
      refine VL_end (by kernel_rfl) ?_
      refine VQ_next ?_
      refine VC_ret ?_
      refine VQ_then_ret ?_
      refine VQ_ret1 (.bool (((li3.length : Nat) : Int) == 0)) (.inr rfl) rfl rfl ?_
      exact ⟨congrArg Value.bool (by rw [beq_iff_eq]; have hq9 := ie_errL (by assumption) (by assumption); omega), hS⟩
    · refine VC_skip ?_
      refine VQ_next ?_
      refine VC_seq ?_
      refine VC_region ?_
      refine VL_pure 1 [1, 57] [(1, .slice D nD cD), (57, .slice Ai3 li3.length ci3)] (by kernel_rfl) rfl ?_
      have hzs10 := hS.size
      refine VL_call (d := 58) (f := 11) (by kernel_rfl) (by kernel_rfl) (by kernel_rfl) Try.call11 (pack_any Ai3 li3.length ci3 w3.heap.size w9.heap.size li3 _ rfl hV3 (by omega) (by first | exact Nat.le_refl _ | omega)) ?_
      rintro _ w10 ⟨A3, c3, rfl, hr3, hc10⟩
      replace hS := Step.trans hS hc10
      replace hA := hA.no hc10
      replace hD := hD.no hc10
      replace hbase1 := Nat.le_trans hbase1 (hc10).size
      replace hr1 := hr1.no hc10
      replace hV3 := hV3.no hc10
      replace hleli3 := Nat.le_trans hleli3 (hc10).size
      obtain ⟨base3, hbase3E⟩ : ∃ x, x = w9.heap.size := ⟨_, rfl⟩
      rw [← hbase3E] at hr3
      have hbase3 : base3 ≤ w10.heap.size := by rw [hbase3E]; exact hc10.size
      have hplq6 := packT_le (vals li3)
      refine VL_pure 7 [1, 11, 12] [(1, .slice D nD cD), (11, .slice A3 ((packT (vals li3)).length) c3), (12, .int .i64 (packE (vals li3)))] (by kernel_rfl) rfl ?_
      refine VL_end (by kernel_rfl) ?_
      refine VQ_next ?_
      refine VC_seq ?_
      refine VC_region ?_
      refine VL_pure 3 [1, 11, 63] [(1, .slice D nD cD), (11, .slice A3 ((packT (vals li3)).length) c3), (63, .bool ((packE (vals li3)) == 0))] (by kernel_rfl) rfl ?_
      refine VL_known ((packE (vals li3)) == 0) (fun bV => [(1, .slice D nD cD), (11, .slice A3 ((packT (vals li3)).length) c3), (63, .bool bV)]) true rfl (by rw [(ie_back hb (by assumption) (by first | assumption | (simp at *; assumption))).1]; rfl) ?_
      refine VL_pure 5 [63, 64, 65] [(63, .bool true), (64, .slice A3 ((packT (vals li3)).length) c3), (65, .slice D nD cD)] (by kernel_rfl) rfl ?_
      have hzs11 := hS.size
      refine VL_call (d := 66) (f := 14) (args := #[.slice A3 ((packT (vals li3)).length) c3, .slice D nD cD]) (by kernel_rfl) (by kernel_rfl) (by kernel_rfl) Try.call14 (same_any A3 ((packT (vals li3)).length) c3 _ (packT (vals li3)) D nD cD _ bt _ (Rw.lenI hr3) (Rw.slI hr3) hnD hD (by omega) (by omega) (by first | exact Nat.le_refl _ | omega) (by first | exact Nat.le_refl _ | omega)) ?_
      rintro _ w11 ⟨rfl, hc11⟩
      replace hS := Step.trans hS hc11
      replace hA := hA.no hc11
      replace hD := hD.no hc11
      replace hbase1 := Nat.le_trans hbase1 (hc11).size
      replace hr1 := hr1.no hc11
      replace hV3 := hV3.no hc11
      replace hleli3 := Nat.le_trans hleli3 (hc11).size
      replace hbase3 := Nat.le_trans hbase3 (hc11).size
      replace hr3 := hr3.no hc11
      refine VL_pure 8 [4] [(4, .bool ((packT (vals li3)) == bt))] (by kernel_rfl) rfl ?_
      refine VL_end (by kernel_rfl) ?_
      refine VQ_next ?_
      refine VC_ret ?_
      refine VQ_ret1 (.bool ((packT (vals li3)) == bt)) (.inr rfl) rfl rfl ?_
      exact ⟨congrArg Value.bool (by rw [beq_iff_eq]; exact (ie_back hb (by assumption) (by first | assumption | (simp at *; assumption))).2), hS⟩

set_option maxRecDepth 100000 in
set_option maxHeartbeats 4000000 in
theorem back_o1 (A : Option Addr) (n c : Nat) (l : List IeV) (D : Option Addr) (nD cD : Nat) (bt : List Int) (w : World) (hn : l.length = n) (hA : Ies w 0 w.heap.size A l) (hc : n ≤ c) (hl : ∀ x ∈ l, IeB x) (hmx : n ≤ 9223372036854775807) (hnD : bt.length = nD) (hD : Sl w w.heap.size D (iL .u8 bt)) (hcD : nD ≤ cD) (hb : Bytes bt) (hf : fewB l = false)  :
    CV Try.prog 3 #[.slice A n c, .slice D nD cD] w (fun x w1 => x = .bool true ∧ Step No w w1) := by
  have hS : Step No w w := Step.refl _ _
  refine CV_enter Try.f3 _ 68 [(0, .slice A n c), (1, .slice D nD cD)] Try.func3 rfl rfl (by kernel_rfl) rfl ?_
  refine VC_seq ?_
  refine VC_region ?_
  refine VL_pure 1 [0, 1] [(0, .slice A n c), (1, .slice D nD cD)] (by kernel_rfl) rfl ?_
  refine VL_end (by kernel_rfl) ?_
  refine VQ_next ?_
  refine VC_seq ?_
  refine VC_seq ?_
  refine VC_region ?_
  have hzs1 := hS.size
  refine VL_call (d := 13) (f := 9) (args := #[]) (by kernel_rfl) (by kernel_rfl) (by kernel_rfl) Try.call9 (awake_any _) ?_
  rintro _ w1 ⟨rfl, hc1⟩
  replace hS := Step.trans hS hc1
  replace hA := hA.no hc1
  replace hD := hD.no hc1
  refine VL_pure 4 [0, 1, 15, 16] [(0, .slice A n c), (1, .slice D nD cD), (15, .bool false), (16, .slice A n c)] (by kernel_rfl) rfl ?_
  have hzs2 := hS.size
  refine VL_call (d := 17) (f := 10) (args := #[.slice A n c]) (by kernel_rfl) (by kernel_rfl) (by kernel_rfl) Try.call10 (few_any A n c 0 w.heap.size l _ hn hA (by omega)) ?_
  rintro _ w2 ⟨rfl, hc2⟩
  replace hS := Step.trans hS hc2
  replace hA := hA.no hc2
  replace hD := hD.no hc2
  refine VL_pure 8 [0, 1, 20] [(0, .slice A n c), (1, .slice D nD cD), (20, .bool (!(fewB l)))] (by kernel_rfl) rfl ?_
  refine VL_known (fewB l) (fun bV => [(0, .slice A n c), (1, .slice D nD cD), (20, .bool (!bV))]) false rfl hf ?_
  refine VL_pure 12 [0, 1, 24] [(0, .slice A n c), (1, .slice D nD cD), (24, .bool true)] (by kernel_rfl) rfl ?_
  refine VL_end (by kernel_rfl) ?_
  refine VQ_next ?_
  refine VC_true (by kernel_rfl) ?_
  refine VC_seq ?_
  refine VC_region ?_
  have hzs3 := hS.size
  refine VL_call (d := 25) (f := 9) (args := #[]) (by kernel_rfl) (by kernel_rfl) (by kernel_rfl) Try.call9 (awake_any _) ?_
  rintro _ w3 ⟨rfl, hc3⟩
  replace hS := Step.trans hS hc3
  replace hA := hA.no hc3
  replace hD := hD.no hc3
  refine VL_pure 2 [4] [(4, .bool true)] (by kernel_rfl) rfl ?_
  refine VL_end (by kernel_rfl) ?_
  refine VQ_next ?_
  refine VC_ret ?_
  refine VQ_then_ret ?_
  refine VQ_ret1 (.bool true) (.inr rfl) rfl rfl ?_
  exact ⟨rfl, hS⟩

set_option maxRecDepth 100000 in
set_option maxHeartbeats 4000000 in
theorem back_o2 (A : Option Addr) (n c : Nat) (l : List IeV) (D : Option Addr) (nD cD : Nat) (bt : List Int) (w : World) (hn : l.length = n) (hA : Ies w 0 w.heap.size A l) (hc : n ≤ c) (hl : ∀ x ∈ l, IeB x) (hmx : n ≤ 9223372036854775807) (hnD : bt.length = nD) (hD : Sl w w.heap.size D (iL .u8 bt)) (hcD : nD ≤ cD) (hb : Bytes bt) (hf : fewB l = true) (hlonD : 601 ≤ nD) :
    CV Try.prog 3 #[.slice A n c, .slice D nD cD] w (fun x w1 => x = .bool true ∧ Step No w w1) := by
  have hS : Step No w w := Step.refl _ _
  obtain ⟨hsm, hn20⟩ := fewB_yes hf
  rw [hn] at hn20
  refine CV_enter Try.f3 _ 68 [(0, .slice A n c), (1, .slice D nD cD)] Try.func3 rfl rfl (by kernel_rfl) rfl ?_
  refine VC_seq ?_
  refine VC_region ?_
  refine VL_pure 1 [0, 1] [(0, .slice A n c), (1, .slice D nD cD)] (by kernel_rfl) rfl ?_
  refine VL_end (by kernel_rfl) ?_
  refine VQ_next ?_
  refine VC_seq ?_
  refine VC_seq ?_
  refine VC_region ?_
  have hzs1 := hS.size
  refine VL_call (d := 13) (f := 9) (args := #[]) (by kernel_rfl) (by kernel_rfl) (by kernel_rfl) Try.call9 (awake_any _) ?_
  rintro _ w1 ⟨rfl, hc1⟩
  replace hS := Step.trans hS hc1
  replace hA := hA.no hc1
  replace hD := hD.no hc1
  refine VL_pure 4 [0, 1, 15, 16] [(0, .slice A n c), (1, .slice D nD cD), (15, .bool false), (16, .slice A n c)] (by kernel_rfl) rfl ?_
  have hzs2 := hS.size
  refine VL_call (d := 17) (f := 10) (args := #[.slice A n c]) (by kernel_rfl) (by kernel_rfl) (by kernel_rfl) Try.call10 (few_any A n c 0 w.heap.size l _ hn hA (by omega)) ?_
  rintro _ w2 ⟨rfl, hc2⟩
  replace hS := Step.trans hS hc2
  replace hA := hA.no hc2
  replace hD := hD.no hc2
  refine VL_pure 8 [0, 1, 20] [(0, .slice A n c), (1, .slice D nD cD), (20, .bool (!(fewB l)))] (by kernel_rfl) rfl ?_
  refine VL_known (fewB l) (fun bV => [(0, .slice A n c), (1, .slice D nD cD), (20, .bool (!bV))]) true rfl hf ?_
  refine VL_pure 12 [0, 1, 24] [(0, .slice A n c), (1, .slice D nD cD), (24, .bool (decide (((nD : Nat) : Int) > 600)))] (by kernel_rfl) rfl ?_
  refine VL_end (by kernel_rfl) ?_
  refine VQ_next ?_
  refine VC_is (b := decide (((nD : Nat) : Int) > 600)) true (by kernel_rfl) (by first | (simp; omega) | (simp; done) | simp [*]) ?_
  refine VC_ite_true ?_
  refine VC_seq ?_
  refine VC_region ?_
  have hzs3 := hS.size
  refine VL_call (d := 25) (f := 9) (args := #[]) (by kernel_rfl) (by kernel_rfl) (by kernel_rfl) Try.call9 (awake_any _) ?_
  rintro _ w3 ⟨rfl, hc3⟩
  replace hS := Step.trans hS hc3
  replace hA := hA.no hc3
  replace hD := hD.no hc3
  refine VL_pure 2 [4] [(4, .bool true)] (by kernel_rfl) rfl ?_
  refine VL_end (by kernel_rfl) ?_
  refine VQ_next ?_
  refine VC_ret ?_
  refine VQ_then_ret ?_
  refine VQ_ret1 (.bool true) (.inr rfl) rfl rfl ?_
  exact ⟨rfl, hS⟩

end Go.Proofs.Ytpfggjaoinfegaa
