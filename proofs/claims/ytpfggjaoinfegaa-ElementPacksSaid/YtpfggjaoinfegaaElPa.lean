/- Layer 15: ElementPacks. -/
import Derived.Test.YtpfggjaoinfegaaProg
import Derived.Test.YtpfggjaoinfegaaEl4
set_option linter.unusedVariables false
set_option linter.unusedSimpArgs false
namespace Go.Proofs.Ytpfggjaoinfegaa
open Go.Vc Go.RowKit

theorem want_T {l lw : List IeV} {i : Nat} {id : Int} {x : IeV} (hx : l[i]? = some x) (h1 : x.id = id) (hw : lw = ((l.take i).find? (isId id)).toList) (h2 : lw.length = 0) : (l.drop i).take 1 = ((l.take (i + 1)).find? (isId id)).toList := by
  rw [drop_take_one hx, find_step hx, if_pos h1]
  cases hf : (l.take i).find? (isId id) with
  | none => rfl
  | some y => rw [hf] at hw; subst hw; simp at h2
theorem want_F {l lw : List IeV} {i : Nat} {id : Int} {x : IeV} (hx : l[i]? = some x) (h1 : x.id ≠ id ∨ lw.length ≠ 0) (hw : lw = ((l.take i).find? (isId id)).toList) : lw = ((l.take (i + 1)).find? (isId id)).toList := by
  rw [find_step hx]
  cases hf : (l.take i).find? (isId id) with
  | none =>
    rw [hf] at hw
    rcases h1 with h1 | h1
    · rw [if_neg h1]; exact hw
    · subst hw; simp at h1
  | some y => rw [hf] at hw; exact hw
set_option maxRecDepth 100000 in
set_option maxHeartbeats 4000000 in
theorem packs_yes (A : Option Addr) (n c : Nat) (l : List IeV) (D : Option Addr) (nD cD : Nat) (bt : List Int) (id : Int) (w : World) (hn : l.length = n) (hA : Ies w 0 w.heap.size A l) (hc : n ≤ c) (hl : ∀ x ∈ l, IeB x) (hmx : n ≤ 9223372036854775807) (hnD : bt.length = nD) (hD : Sl w w.heap.size D (iL .u8 bt)) (hcD : nD ≤ cD) (hb : Bytes bt) (hf : fewB l = true) (hlonD : 0 ≤ nD) (hhinD : nD ≤ 600) :
    CV Try.prog 5 #[.slice A n c, .slice D nD cD, .int .u8 id] w (fun x w1 => x = .bool true ∧ Step No w w1) := by
  have hS : Step No w w := Step.refl _ _
  obtain ⟨hsm, hn20⟩ := fewB_yes hf
  rw [hn] at hn20
  refine CV_enter Try.f5 _ 130 [(0, .slice A n c), (1, .slice D nD cD), (2, .int .u8 id)] Try.func5 rfl rfl (by kernel_rfl) rfl ?_
  refine VC_seq ?_
  refine VC_region ?_
  refine VL_pure 1 [0, 1, 2] [(0, .slice A n c), (1, .slice D nD cD), (2, .int .u8 id)] (by kernel_rfl) rfl ?_
  refine VL_end (by kernel_rfl) ?_
  refine VQ_next ?_
  refine VC_seq ?_
  refine VC_seq ?_
  refine VC_region ?_
  have hzs1 := hS.size
  refine VL_call (d := 19) (f := 9) (args := #[]) (by kernel_rfl) (by kernel_rfl) (by kernel_rfl) Try.call9 (awake_any _) ?_
  rintro _ w1 ⟨rfl, hc1⟩
  replace hS := Step.trans hS hc1
  replace hA := hA.no hc1
  replace hD := hD.no hc1
  refine VL_pure 4 [0, 1, 2, 21, 22] [(0, .slice A n c), (1, .slice D nD cD), (2, .int .u8 id), (21, .bool false), (22, .slice A n c)] (by kernel_rfl) rfl ?_
  have hzs2 := hS.size
  refine VL_call (d := 23) (f := 10) (args := #[.slice A n c]) (by kernel_rfl) (by kernel_rfl) (by kernel_rfl) Try.call10 (few_any A n c 0 w.heap.size l _ hn hA (by omega)) ?_
  rintro _ w2 ⟨rfl, hc2⟩
  replace hS := Step.trans hS hc2
  replace hA := hA.no hc2
  replace hD := hD.no hc2
  refine VL_pure 8 [0, 1, 2, 26] [(0, .slice A n c), (1, .slice D nD cD), (2, .int .u8 id), (26, .bool (!(fewB l)))] (by kernel_rfl) rfl ?_
  refine VL_known (fewB l) (fun bV => [(0, .slice A n c), (1, .slice D nD cD), (2, .int .u8 id), (26, .bool (!bV))]) true rfl hf ?_
  refine VL_pure 12 [0, 1, 2, 30] [(0, .slice A n c), (1, .slice D nD cD), (2, .int .u8 id), (30, .bool (decide (((nD : Nat) : Int) > 600)))] (by kernel_rfl) rfl ?_
  refine VL_end (by kernel_rfl) ?_
  refine VQ_next ?_
  refine VC_is (b := decide (((nD : Nat) : Int) > 600)) false (by kernel_rfl) (by first | (simp; omega) | (simp; done) | simp [*]) ?_
  refine VC_ite_false ?_
  refine VC_skip ?_
  refine VQ_next ?_
  refine VC_seq ?_
  refine VC_region ?_
  refine VL_pure 1 [0, 1, 2, 33] [(0, .slice A n c), (1, .slice D nD cD), (2, .int .u8 id), (33, .slice A n c)] (by kernel_rfl) rfl ?_
  have hzs3 := hS.size
  refine VL_call (d := 34) (f := 11) (by kernel_rfl) (by kernel_rfl) (by kernel_rfl) Try.call11 (pack_any A n c 0 w.heap.size l _ hn hA (by omega) (by first | exact Nat.le_refl _ | omega)) ?_
  rintro _ w3 ⟨A1, c1, rfl, hr1, hc3⟩
  replace hS := Step.trans hS hc3
  replace hA := hA.no hc3
  replace hD := hD.no hc3
  obtain ⟨base1, hbase1E⟩ : ∃ x, x = w2.heap.size := ⟨_, rfl⟩
  rw [← hbase1E] at hr1
  have hbase1 : base1 ≤ w3.heap.size := by rw [hbase1E]; exact hc3.size
  have hplq1 := packT_le (vals l)
  refine VL_pure 7 [0, 1, 2, 7, 8] [(0, .slice A n c), (1, .slice D nD cD), (2, .int .u8 id), (7, .slice A1 ((packT (vals l)).length) c1), (8, .int .i64 (packE (vals l)))] (by kernel_rfl) rfl ?_
  refine VL_end (by kernel_rfl) ?_
  refine VQ_next ?_
  refine VC_seq ?_
  refine VC_region ?_
  refine VL_pure 1 [0, 1, 2, 7, 8, 38] [(0, .slice A n c), (1, .slice D nD cD), (2, .int .u8 id), (7, .slice A1 ((packT (vals l)).length) c1), (8, .int .i64 (packE (vals l))), (38, .slice A n c)] (by kernel_rfl) rfl ?_
  have hzs4 := hS.size
  refine VL_call (d := 39) (f := 15) (by kernel_rfl) (by kernel_rfl) (by kernel_rfl) Try.call15 (rpack_any A n c 0 w.heap.size l _ hn hA (by omega) (by first | exact Nat.le_refl _ | omega)) ?_
  rintro _ w4 ⟨A2, c2, rfl, hr2, hc4⟩
  replace hS := Step.trans hS hc4
  replace hA := hA.no hc4
  replace hD := hD.no hc4
  replace hbase1 := Nat.le_trans hbase1 (hc4).size
  replace hr1 := hr1.no hc4
  obtain ⟨base2, hbase2E⟩ : ∃ x, x = w3.heap.size := ⟨_, rfl⟩
  rw [← hbase2E] at hr2
  have hbase2 : base2 ≤ w4.heap.size := by rw [hbase2E]; exact hc4.size
  have hplq2 := packT_le (vals l)
  refine VL_pure 7 [0, 1, 2, 7, 8, 9, 10] [(0, .slice A n c), (1, .slice D nD cD), (2, .int .u8 id), (7, .slice A1 ((packT (vals l)).length) c1), (8, .int .i64 (packE (vals l))), (9, .slice A2 ((packT (vals l)).length) c2), (10, .int .i64 (packE (vals l)))] (by kernel_rfl) rfl ?_
  refine VL_end (by kernel_rfl) ?_
  refine VQ_next ?_
  refine VC_seq ?_
  refine VC_region ?_
  refine VL_pure 1 [0, 1, 2, 7, 8, 9, 10, 43] [(0, .slice A n c), (1, .slice D nD cD), (2, .int .u8 id), (7, .slice A1 ((packT (vals l)).length) c1), (8, .int .i64 (packE (vals l))), (9, .slice A2 ((packT (vals l)).length) c2), (10, .int .i64 (packE (vals l))), (43, .slice D nD cD)] (by kernel_rfl) rfl ?_
  have hzs5 := hS.size
  refine VL_call (d := 44) (f := 12) (by kernel_rfl) (by kernel_rfl) (by kernel_rfl) Try.call12 (unpack_any D nD cD _ bt _ hnD hD (by omega) hb (by omega) (by first | exact Nat.le_refl _ | omega)) ?_
  rintro _ w5 ⟨Ai1, ci1, li1, rfl, hv1, hI1, hc5⟩
  replace hS := Step.trans hS hc5
  replace hA := hA.no hc5
  replace hD := hD.no hc5
  replace hbase1 := Nat.le_trans hbase1 (hc5).size
  replace hr1 := hr1.no hc5
  replace hbase2 := Nat.le_trans hbase2 (hc5).size
  replace hr2 := hr2.no hc5
  have hleli1 : w5.heap.size ≤ w5.heap.size := Nat.le_refl _
  have hV1 := Ier.ies hI1
  have hcntli1 : li1.length ≤ 16 := by have hq9 := ieU_count bt [] (by simp); rw [← vals_len, hv1]; exact hq9
  have hcali1 : li1.length ≤ ci1 := RwS.cap hI1.row
  have hibli1 : ∀ x ∈ li1, IeB x := un_ieb hv1 hb
  have hsmli1 : ∀ x ∈ li1, x.n ≤ 200 := un_small hV1 hv1 hb
  refine VL_pure 7 [0, 1, 2, 7, 8, 9, 10, 11, 12] [(0, .slice A n c), (1, .slice D nD cD), (2, .int .u8 id), (7, .slice A1 ((packT (vals l)).length) c1), (8, .int .i64 (packE (vals l))), (9, .slice A2 ((packT (vals l)).length) c2), (10, .int .i64 (packE (vals l))), (11, .slice Ai1 li1.length ci1), (12, .int .i64 (ieUE bt))] (by kernel_rfl) rfl ?_
  refine VL_end (by kernel_rfl) ?_
  refine VQ_next ?_
  refine VC_seq ?_
  refine VC_region ?_
  refine VL_pure 1 [0, 2, 7, 8, 9, 10, 11, 12, 48] [(0, .slice A n c), (2, .int .u8 id), (7, .slice A1 ((packT (vals l)).length) c1), (8, .int .i64 (packE (vals l))), (9, .slice A2 ((packT (vals l)).length) c2), (10, .int .i64 (packE (vals l))), (11, .slice Ai1 li1.length ci1), (12, .int .i64 (ieUE bt)), (48, .slice D nD cD)] (by kernel_rfl) rfl ?_
  have hzs6 := hS.size
  refine VL_call (d := 49) (f := 16) (by kernel_rfl) (by kernel_rfl) (by kernel_rfl) Try.call16 (runpack_any D nD cD _ bt _ hnD hD (by omega) hb (by omega) (by first | exact Nat.le_refl _ | omega)) ?_
  rintro _ w6 ⟨Ai2, ci2, li2, rfl, hv2, hI2, hc6⟩
  replace hS := Step.trans hS hc6
  replace hA := hA.no hc6
  replace hD := hD.no hc6
  replace hbase1 := Nat.le_trans hbase1 (hc6).size
  replace hr1 := hr1.no hc6
  replace hbase2 := Nat.le_trans hbase2 (hc6).size
  replace hr2 := hr2.no hc6
  replace hV1 := hV1.no hc6
  replace hleli1 := Nat.le_trans hleli1 (hc6).size
  have hleli2 : w6.heap.size ≤ w6.heap.size := Nat.le_refl _
  have hV2 := Ier.ies hI2
  have hcntli2 : li2.length ≤ 16 := by have hq9 := ieU_count bt [] (by simp); rw [← vals_len, hv2]; exact hq9
  have hcali2 : li2.length ≤ ci2 := RwS.cap hI2.row
  have hibli2 : ∀ x ∈ li2, IeB x := un_ieb hv2 hb
  have hsmli2 : ∀ x ∈ li2, x.n ≤ 200 := un_small hV2 hv2 hb
  refine VL_pure 7 [0, 2, 7, 8, 9, 10, 11, 12, 13, 14] [(0, .slice A n c), (2, .int .u8 id), (7, .slice A1 ((packT (vals l)).length) c1), (8, .int .i64 (packE (vals l))), (9, .slice A2 ((packT (vals l)).length) c2), (10, .int .i64 (packE (vals l))), (11, .slice Ai1 li1.length ci1), (12, .int .i64 (ieUE bt)), (13, .slice Ai2 li2.length ci2), (14, .int .i64 (ieUE bt))] (by kernel_rfl) rfl ?_
  refine VL_end (by kernel_rfl) ?_
  refine VQ_next ?_
  refine VC_seq ?_
  refine VC_region ?_
  refine VL_pure 2 [0, 2, 7, 8, 9, 10, 11, 12, 13, 14, 53, 54] [(0, .slice A n c), (2, .int .u8 id), (7, .slice A1 ((packT (vals l)).length) c1), (8, .int .i64 (packE (vals l))), (9, .slice A2 ((packT (vals l)).length) c2), (10, .int .i64 (packE (vals l))), (11, .slice Ai1 li1.length ci1), (12, .int .i64 (ieUE bt)), (13, .slice Ai2 li2.length ci2), (14, .int .i64 (ieUE bt)), (53, .slice A n c), (54, .int .u8 id)] (by kernel_rfl) rfl ?_
  have hzs7 := hS.size
  have hzk1 := hbase1
  have hzk2 := hbase2
  have hzk3 := hleli1
  have hzk4 := hleli2
  refine VL_call (d := 55) (f := 17) (args := #[.slice A n c, .int .u8 id]) (by kernel_rfl) (by kernel_rfl) (by kernel_rfl) Try.call17 (find_any A n c 0 w.heap.size l _ hn hA id (by omega) (by first | exact Nat.le_refl _ | omega)) ?_
  rintro _ w7 ⟨(⟨hF, rfl⟩ | ⟨⟨yi, yA, yn, yc, yb⟩, hF, rfl⟩), hc7⟩
  · replace hS := Step.trans hS hc7
    replace hA := hA.no hc7
    replace hD := hD.no hc7
    replace hbase1 := Nat.le_trans hbase1 (hc7).size
    replace hr1 := hr1.no hc7
    replace hbase2 := Nat.le_trans hbase2 (hc7).size
    replace hr2 := hr2.no hc7
    replace hV1 := hV1.no hc7
    replace hleli1 := Nat.le_trans hleli1 (hc7).size
    replace hV2 := hV2.no hc7
    replace hleli2 := Nat.le_trans hleli2 (hc7).size
    refine VL_pure 6 [0, 2, 7, 8, 9, 10, 11, 12, 13, 14, 56, 57] [(0, .slice A n c), (2, .int .u8 id), (7, .slice A1 ((packT (vals l)).length) c1), (8, .int .i64 (packE (vals l))), (9, .slice A2 ((packT (vals l)).length) c2), (10, .int .i64 (packE (vals l))), (11, .slice Ai1 li1.length ci1), (12, .int .i64 (ieUE bt)), (13, .slice Ai2 li2.length ci2), (14, .int .i64 (ieUE bt)), (56, .agg #[.int .u8 0, .slice none 0 0]), (57, .bool false)] (by kernel_rfl) rfl ?_
    have hzs8 := hS.size
    have hzk5 := hbase1
    have hzk6 := hbase2
    have hzk7 := hleli1
    have hzk8 := hleli2
    have hub1 := hr1.ub
    have hub2 := hr2.ub
    refine VL_box (d := 15) (t := 40) (c := #[.int .u8 0, .slice none 0 0]) (by kernel_rfl) (by kernel_rfl) ?_
    intro b1 w8 hn1
    replace hS := Step.trans hS (hn1.step No)
    replace hA := hA.no (hn1.step No)
    replace hD := hD.no (hn1.step No)
    replace hbase1 := Nat.le_trans hbase1 (hn1.step No).size
    replace hr1 := hr1.no (hn1.step No)
    replace hbase2 := Nat.le_trans hbase2 (hn1.step No).size
    replace hr2 := hr2.no (hn1.step No)
    replace hV1 := hV1.no (hn1.step No)
    replace hleli1 := Nat.le_trans hleli1 (hn1.step No).size
    replace hV2 := hV2.no (hn1.step No)
    replace hleli2 := Nat.le_trans hleli2 (hn1.step No).size
    have ho1 := hn1.own
    have hzhn1 := hn1.size
    have hqhn1 := hn1.eqb
    refine VL_store (b := b1) (o := 0) (vs := [.int .u8 0, .slice none 0 0]) (by kernel_rfl) (by kernel_rfl) ho1 (Nat.le_of_ble_eq_true (by kernel_rfl)) ?_
    intro w9 hw1
    replace hS := Step.transNew hS hw1.step (fun _ _ _ => by omega)
    replace hA := hA.step hw1.step (fun k hk1 hk2 (hF : k = b1) => by omega)
    replace hD := hD.step hw1.step (fun k hk (hF : k = b1) => by omega)
    replace hbase1 := Nat.le_trans hbase1 (hw1.step).size
    replace hr1 := hr1.stepU hub1 hw1.step (fun k hk1 hk2 (hF : k = b1) => by omega)
    replace hbase2 := Nat.le_trans hbase2 (hw1.step).size
    replace hr2 := hr2.stepU hub2 hw1.step (fun k hk1 hk2 (hF : k = b1) => by omega)
    replace hV1 := hV1.step hw1.step (fun k hk1 hk2 (hF : k = b1) => by omega)
    replace hleli1 := Nat.le_trans hleli1 (hw1.step).size
    replace hV2 := hV2.step hw1.step (fun k hk1 hk2 (hF : k = b1) => by omega)
    replace hleli2 := Nat.le_trans hleli2 (hw1.step).size
    have ho2 : Own w9 b1 #[.int .u8 0, .slice none 0 0] 40 := Own.cast hw1.own (by kernel_rfl)
    have hzhw1 := hw1.same
    refine VL_pure 9 [0, 2, 7, 8, 9, 10, 11, 12, 13, 14, 15, 16] [(0, .slice A n c), (2, .int .u8 id), (7, .slice A1 ((packT (vals l)).length) c1), (8, .int .i64 (packE (vals l))), (9, .slice A2 ((packT (vals l)).length) c2), (10, .int .i64 (packE (vals l))), (11, .slice Ai1 li1.length ci1), (12, .int .i64 (ieUE bt)), (13, .slice Ai2 li2.length ci2), (14, .int .i64 (ieUE bt)), (15, .pointer (some ⟨b1, 0, none⟩)), (16, .bool false)] (by kernel_rfl) rfl ?_
    refine VL_end (by kernel_rfl) ?_
    refine VQ_next ?_
    refine VC_seq ?_
    refine VC_region ?_
    refine VL_pure 1 [0, 2, 7, 8, 9, 10, 11, 12, 13, 14, 15, 16, 17] [(0, .slice A n c), (2, .int .u8 id), (7, .slice A1 ((packT (vals l)).length) c1), (8, .int .i64 (packE (vals l))), (9, .slice A2 ((packT (vals l)).length) c2), (10, .int .i64 (packE (vals l))), (11, .slice Ai1 li1.length ci1), (12, .int .i64 (ieUE bt)), (13, .slice Ai2 li2.length ci2), (14, .int .i64 (ieUE bt)), (15, .pointer (some ⟨b1, 0, none⟩)), (16, .bool false), (17, .slice none 0 0)] (by kernel_rfl) rfl ?_
    refine VL_end (by kernel_rfl) ?_
    refine VQ_next ?_
    refine VC_seq ?_
    refine VC_seq ?_
    refine VC_region ?_
    refine VL_pure 3 [0, 2, 7, 8, 9, 10, 11, 12, 13, 14, 15, 16, 17, 59, 60] [(0, .slice A n c), (2, .int .u8 id), (7, .slice A1 ((packT (vals l)).length) c1), (8, .int .i64 (packE (vals l))), (9, .slice A2 ((packT (vals l)).length) c2), (10, .int .i64 (packE (vals l))), (11, .slice Ai1 li1.length ci1), (12, .int .i64 (ieUE bt)), (13, .slice Ai2 li2.length ci2), (14, .int .i64 (ieUE bt)), (15, .pointer (some ⟨b1, 0, none⟩)), (16, .bool false), (17, .slice none 0 0), (59, .int .i64 ((n : Nat) : Int)), (60, .int .i64 0)] (by kernel_rfl) rfl ?_
    refine VL_end (by kernel_rfl) ?_
    refine VQ_next ?_
    refine VC_block ?_
    refine VC_loop (σ := Nat × (List IeV) × (Option Addr) × Nat × Nat) (fun σs => [(0, .slice A n c), (2, .int .u8 id), (7, .slice A1 ((packT (vals l)).length) c1), (8, .int .i64 (packE (vals l))), (9, .slice A2 ((packT (vals l)).length) c2), (10, .int .i64 (packE (vals l))), (11, .slice Ai1 li1.length ci1), (12, .int .i64 (ieUE bt)), (13, .slice Ai2 li2.length ci2), (14, .int .i64 (ieUE bt)), (15, .pointer (some ⟨b1, 0, none⟩)), (16, .bool false), (59, .int .i64 ((n : Nat) : Int)), (60, .int .i64 ((σs.1 : Nat) : Int)), (17, .slice σs.2.2.1 σs.2.2.2.1 σs.2.2.2.2)]) (fun σs w10 => (σs.1 ≤ n) ∧ (σs.2.1.length = σs.2.2.2.1) ∧ (σs.2.1 = ((l.take σs.1).find? (isId id)).toList) ∧ (Step No w w10) ∧ (Ies w10 0 w.heap.size A l) ∧ (Sl w10 (w.heap.size) D (iL .u8 bt)) ∧ (base1 ≤ w10.heap.size) ∧ (Rw w10 base1 5 A1 ((packT (vals l)).length) c1 (iL .u8 (packT (vals l)))) ∧ (base2 ≤ w10.heap.size) ∧ (Rw w10 base2 5 A2 ((packT (vals l)).length) c2 (iL .u8 (packT (vals l)))) ∧ (Ies w10 w4.heap.size w5.heap.size Ai1 li1) ∧ ((w5.heap.size) ≤ w10.heap.size) ∧ (Ies w10 w5.heap.size w6.heap.size Ai2 li2) ∧ ((w6.heap.size) ≤ w10.heap.size) ∧ (Own w10 b1 #[.int .u8 0, .slice none 0 0] 40) ∧ (Ies w10 0 w.heap.size σs.2.2.1 σs.2.1)) (fun σs w10 => n - σs.1) ⟨0, [], none, 0, 0⟩ ⟨rfl, rfl, rfl, rfl, rfl, rfl, rfl, rfl, rfl, rfl, rfl, rfl, rfl, rfl, rfl, trivial⟩ ?_ ?_
    · exact ⟨(Nat.zero_le _), rfl, rfl, hS, hA, hD, hbase1, hr1, hbase2, hr2, hV1, hleli1, hV2, hleli2, ho2, Ies.nil⟩
    rintro ⟨i, lw, Aw, mw, cw⟩ w10 ⟨hi, hmw, hlw, hS, hA, hD, hbase1, hr1, hbase2, hr2, hV1, hleli1, hV2, hleli2, ho2, hW⟩
    try dsimp only at hi hmw hlw hS hA hD hbase1 hr1 hbase2 hr2 hV1 hleli1 hV2 hleli2 ho2 hW ⊢
    refine VC_seq ?_
    refine VC_region ?_
    refine VL_pure 1 [0, 2, 7, 8, 9, 10, 11, 12, 13, 14, 15, 16, 59, 60, 17, 61] [(0, .slice A n c), (2, .int .u8 id), (7, .slice A1 ((packT (vals l)).length) c1), (8, .int .i64 (packE (vals l))), (9, .slice A2 ((packT (vals l)).length) c2), (10, .int .i64 (packE (vals l))), (11, .slice Ai1 li1.length ci1), (12, .int .i64 (ieUE bt)), (13, .slice Ai2 li2.length ci2), (14, .int .i64 (ieUE bt)), (15, .pointer (some ⟨b1, 0, none⟩)), (16, .bool false), (59, .int .i64 ((n : Nat) : Int)), (60, .int .i64 ((i : Nat) : Int)), (17, .slice Aw mw cw), (61, .bool (decide (((i : Nat) : Int) < ((n : Nat) : Int))))] (by kernel_rfl) rfl ?_
    refine VL_end (by kernel_rfl) ?_
    refine VQ_next ?_
    refine VC_seq ?_
    refine VC_dec (((i : Nat) : Int) < ((n : Nat) : Int)) (by kernel_rfl) (fun h1 => ?_) (fun h1 => ?_)
    · refine VC_skip ?_
      refine VQ_next ?_
      refine VC_seq ?_
      refine VC_block ?_
      refine VC_seq ?_
      refine VC_region ?_
      refine VL_pure 2 [0, 2, 7, 8, 9, 10, 11, 12, 13, 14, 15, 16, 59, 60, 17, 18] [(0, .slice A n c), (2, .int .u8 id), (7, .slice A1 ((packT (vals l)).length) c1), (8, .int .i64 (packE (vals l))), (9, .slice A2 ((packT (vals l)).length) c2), (10, .int .i64 (packE (vals l))), (11, .slice Ai1 li1.length ci1), (12, .int .i64 (ieUE bt)), (13, .slice Ai2 li2.length ci2), (14, .int .i64 (ieUE bt)), (15, .pointer (some ⟨b1, 0, none⟩)), (16, .bool false), (59, .int .i64 ((n : Nat) : Int)), (60, .int .i64 ((i : Nat) : Int)), (17, .slice Aw mw cw), (18, .int .i64 ((i : Nat) : Int))] (by kernel_rfl) rfl ?_
      refine VL_end (by kernel_rfl) ?_
      refine VQ_next ?_
      refine VC_seq ?_
      refine VC_region ?_
      refine VL_pure 2 [0, 2, 7, 8, 9, 10, 11, 12, 13, 14, 15, 16, 59, 60, 17, 18, 63, 64] [(0, .slice A n c), (2, .int .u8 id), (7, .slice A1 ((packT (vals l)).length) c1), (8, .int .i64 (packE (vals l))), (9, .slice A2 ((packT (vals l)).length) c2), (10, .int .i64 (packE (vals l))), (11, .slice Ai1 li1.length ci1), (12, .int .i64 (ieUE bt)), (13, .slice Ai2 li2.length ci2), (14, .int .i64 (ieUE bt)), (15, .pointer (some ⟨b1, 0, none⟩)), (16, .bool false), (59, .int .i64 ((n : Nat) : Int)), (60, .int .i64 ((i : Nat) : Int)), (17, .slice Aw mw cw), (18, .int .i64 ((i : Nat) : Int)), (63, .slice A n c), (64, .int .i64 ((i : Nat) : Int))] (by kernel_rfl) rfl ?_
      obtain ⟨sb1, so1, rfl, hlbsb1⟩ := hA.open (by omega)
      refine VL_index (d := 65) (b := sb1) (o := so1) (len := n) (sz := 2) (m := ((i : Nat) : Int)) (by kernel_rfl) (by kernel_rfl) i (by rfl) (by omega) (so1 + i * 2) (by omega) ?_
      refine VL_pure 4 [0, 2, 7, 8, 9, 10, 11, 12, 13, 14, 15, 16, 59, 60, 17, 18, 66] [(0, .slice (some ⟨sb1, so1, none⟩) n c), (2, .int .u8 id), (7, .slice A1 ((packT (vals l)).length) c1), (8, .int .i64 (packE (vals l))), (9, .slice A2 ((packT (vals l)).length) c2), (10, .int .i64 (packE (vals l))), (11, .slice Ai1 li1.length ci1), (12, .int .i64 (ieUE bt)), (13, .slice Ai2 li2.length ci2), (14, .int .i64 (ieUE bt)), (15, .pointer (some ⟨b1, 0, none⟩)), (16, .bool false), (59, .int .i64 ((n : Nat) : Int)), (60, .int .i64 ((i : Nat) : Int)), (17, .slice Aw mw cw), (18, .int .i64 ((i : Nat) : Int)), (66, .pointer (some ⟨sb1, so1 + i * 2, none⟩))] (by kernel_rfl) rfl ?_
      obtain ⟨⟨x1i, x1A, x1n, x1c, x1b⟩, hx1⟩ : ∃ x, l[i]? = some x := ⟨_, List.getElem?_eq_getElem (by omega)⟩
      obtain ⟨hnx1, hcx1, hbx1⟩ := Ies.body hA hx1
      dsimp only at hnx1 hcx1 hbx1
      have hBx1 := hl _ (List.mem_of_getElem? hx1)
      obtain ⟨hix1, hBx1⟩ := hBx1
      dsimp only at hix1 hBx1
      refine VL_load (d := 67) (t := 5) (a := ⟨sb1, so1 + i * 2, none⟩) (v := .int .u8 x1i) (by kernel_rfl) (by kernel_rfl) (Ies.ld0 hA (by kernel_rfl) hx1) ?_
      refine VL_pure 8 [0, 2, 7, 8, 9, 10, 11, 12, 13, 14, 15, 16, 59, 60, 17, 18, 70] [(0, .slice (some ⟨sb1, so1, none⟩) n c), (2, .int .u8 id), (7, .slice A1 ((packT (vals l)).length) c1), (8, .int .i64 (packE (vals l))), (9, .slice A2 ((packT (vals l)).length) c2), (10, .int .i64 (packE (vals l))), (11, .slice Ai1 li1.length ci1), (12, .int .i64 (ieUE bt)), (13, .slice Ai2 li2.length ci2), (14, .int .i64 (ieUE bt)), (15, .pointer (some ⟨b1, 0, none⟩)), (16, .bool false), (59, .int .i64 ((n : Nat) : Int)), (60, .int .i64 ((i : Nat) : Int)), (17, .slice Aw mw cw), (18, .int .i64 ((i : Nat) : Int)), (70, .bool (x1i == id))] (by kernel_rfl) rfl ?_
      refine VL_beq x1i id (fun bV => [(0, .slice (some ⟨sb1, so1, none⟩) n c), (2, .int .u8 id), (7, .slice A1 ((packT (vals l)).length) c1), (8, .int .i64 (packE (vals l))), (9, .slice A2 ((packT (vals l)).length) c2), (10, .int .i64 (packE (vals l))), (11, .slice Ai1 li1.length ci1), (12, .int .i64 (ieUE bt)), (13, .slice Ai2 li2.length ci2), (14, .int .i64 (ieUE bt)), (15, .pointer (some ⟨b1, 0, none⟩)), (16, .bool false), (59, .int .i64 ((n : Nat) : Int)), (60, .int .i64 ((i : Nat) : Int)), (17, .slice Aw mw cw), (18, .int .i64 ((i : Nat) : Int)), (70, .bool bV)]) rfl (fun hg1 => ?_) (fun hg1 => ?_)
      · refine VL_pure 12 [0, 2, 7, 8, 9, 10, 11, 12, 13, 14, 15, 16, 59, 60, 17, 18, 74] [(0, .slice (some ⟨sb1, so1, none⟩) n c), (2, .int .u8 id), (7, .slice A1 ((packT (vals l)).length) c1), (8, .int .i64 (packE (vals l))), (9, .slice A2 ((packT (vals l)).length) c2), (10, .int .i64 (packE (vals l))), (11, .slice Ai1 li1.length ci1), (12, .int .i64 (ieUE bt)), (13, .slice Ai2 li2.length ci2), (14, .int .i64 (ieUE bt)), (15, .pointer (some ⟨b1, 0, none⟩)), (16, .bool false), (59, .int .i64 ((n : Nat) : Int)), (60, .int .i64 ((i : Nat) : Int)), (17, .slice Aw mw cw), (18, .int .i64 ((i : Nat) : Int)), (74, .bool (((mw : Nat) : Int) == 0))] (by kernel_rfl) rfl ?_
        refine VL_end (by kernel_rfl) ?_
        refine VQ_next ?_
        refine VC_eq ((mw : Nat) : Int) 0 (by kernel_rfl) (fun h2 => ?_) (fun h2 => ?_)
        · refine VC_region ?_
          refine VL_pure 4 [0, 2, 7, 8, 9, 10, 11, 12, 13, 14, 15, 16, 59, 60, 75, 76, 78] [(0, .slice (some ⟨sb1, so1, none⟩) n c), (2, .int .u8 id), (7, .slice A1 ((packT (vals l)).length) c1), (8, .int .i64 (packE (vals l))), (9, .slice A2 ((packT (vals l)).length) c2), (10, .int .i64 (packE (vals l))), (11, .slice Ai1 li1.length ci1), (12, .int .i64 (ieUE bt)), (13, .slice Ai2 li2.length ci2), (14, .int .i64 (ieUE bt)), (15, .pointer (some ⟨b1, 0, none⟩)), (16, .bool false), (59, .int .i64 ((n : Nat) : Int)), (60, .int .i64 ((i : Nat) : Int)), (75, .slice (some ⟨sb1, so1, none⟩) n c), (76, .int .i64 ((i : Nat) : Int)), (78, .int .i64 (IntKind.wrap .i64 (((i : Nat) : Int) + 1)))] (by kernel_rfl) rfl ?_
          have he1 : IntKind.wrap .i64 (((i : Nat) : Int) + 1) = ((i + 1 : Nat) : Int) := (by rw [wrap_i64 _ (by omega) (by omega)]; omega)
          refine VL_eq [(0, .slice (some ⟨sb1, so1, none⟩) n c), (2, .int .u8 id), (7, .slice A1 ((packT (vals l)).length) c1), (8, .int .i64 (packE (vals l))), (9, .slice A2 ((packT (vals l)).length) c2), (10, .int .i64 (packE (vals l))), (11, .slice Ai1 li1.length ci1), (12, .int .i64 (ieUE bt)), (13, .slice Ai2 li2.length ci2), (14, .int .i64 (ieUE bt)), (15, .pointer (some ⟨b1, 0, none⟩)), (16, .bool false), (59, .int .i64 ((n : Nat) : Int)), (60, .int .i64 ((i : Nat) : Int)), (75, .slice (some ⟨sb1, so1, none⟩) n c), (76, .int .i64 ((i : Nat) : Int)), (78, .int .i64 ((i + 1 : Nat) : Int))] (by rw [he1]) ?_
          refine VL_sliceI (d := 79) (A := (some ⟨sb1, so1, none⟩)) (len := n) (cap := c) (lo := (some ((i : Nat) : Int))) (hi := (some ((i + 1 : Nat) : Int))) (mx := none) (by kernel_rfl) (by kernel_rfl) (fun h => by first | exact absurd rfl h | exact (fun h => by cases h)) hA i (i + 1) c rfl rfl rfl (by omega) (by omega) (by omega) 1 (by omega) (c - i) (by omega) ?_
          intro A3 hsl1
          refine VL_pure 6 [0, 2, 7, 8, 9, 10, 11, 12, 13, 14, 15, 16, 59, 60, 17] [(0, .slice (some ⟨sb1, so1, none⟩) n c), (2, .int .u8 id), (7, .slice A1 ((packT (vals l)).length) c1), (8, .int .i64 (packE (vals l))), (9, .slice A2 ((packT (vals l)).length) c2), (10, .int .i64 (packE (vals l))), (11, .slice Ai1 li1.length ci1), (12, .int .i64 (ieUE bt)), (13, .slice Ai2 li2.length ci2), (14, .int .i64 (ieUE bt)), (15, .pointer (some ⟨b1, 0, none⟩)), (16, .bool false), (59, .int .i64 ((n : Nat) : Int)), (60, .int .i64 ((i : Nat) : Int)), (17, .slice A3 1 (c - i))] (by kernel_rfl) rfl ?_
          refine VL_end (by kernel_rfl) ?_
          refine VQ_block_normal ?_
          refine VQ_next ?_
          refine VC_region ?_
          refine VL_pure 1 [0, 2, 7, 8, 9, 10, 11, 12, 13, 14, 15, 16, 59, 17, 80] [(0, .slice (some ⟨sb1, so1, none⟩) n c), (2, .int .u8 id), (7, .slice A1 ((packT (vals l)).length) c1), (8, .int .i64 (packE (vals l))), (9, .slice A2 ((packT (vals l)).length) c2), (10, .int .i64 (packE (vals l))), (11, .slice Ai1 li1.length ci1), (12, .int .i64 (ieUE bt)), (13, .slice Ai2 li2.length ci2), (14, .int .i64 (ieUE bt)), (15, .pointer (some ⟨b1, 0, none⟩)), (16, .bool false), (59, .int .i64 ((n : Nat) : Int)), (17, .slice A3 1 (c - i)), (80, .int .i64 (IntKind.wrap .i64 (((i : Nat) : Int) + 1)))] (by kernel_rfl) rfl ?_
          have he2 : IntKind.wrap .i64 (((i : Nat) : Int) + 1) = ((i + 1 : Nat) : Int) := (by rw [wrap_i64 _ (by omega) (by omega)]; omega)
          refine VL_eq [(0, .slice (some ⟨sb1, so1, none⟩) n c), (2, .int .u8 id), (7, .slice A1 ((packT (vals l)).length) c1), (8, .int .i64 (packE (vals l))), (9, .slice A2 ((packT (vals l)).length) c2), (10, .int .i64 (packE (vals l))), (11, .slice Ai1 li1.length ci1), (12, .int .i64 (ieUE bt)), (13, .slice Ai2 li2.length ci2), (14, .int .i64 (ieUE bt)), (15, .pointer (some ⟨b1, 0, none⟩)), (16, .bool false), (59, .int .i64 ((n : Nat) : Int)), (17, .slice A3 1 (c - i)), (80, .int .i64 ((i + 1 : Nat) : Int))] (by rw [he2]) ?_
          refine VL_pure 2 [0, 2, 7, 8, 9, 10, 11, 12, 13, 14, 15, 16, 59, 17, 60] [(0, .slice (some ⟨sb1, so1, none⟩) n c), (2, .int .u8 id), (7, .slice A1 ((packT (vals l)).length) c1), (8, .int .i64 (packE (vals l))), (9, .slice A2 ((packT (vals l)).length) c2), (10, .int .i64 (packE (vals l))), (11, .slice Ai1 li1.length ci1), (12, .int .i64 (ieUE bt)), (13, .slice Ai2 li2.length ci2), (14, .int .i64 (ieUE bt)), (15, .pointer (some ⟨b1, 0, none⟩)), (16, .bool false), (59, .int .i64 ((n : Nat) : Int)), (17, .slice A3 1 (c - i)), (60, .int .i64 ((i + 1 : Nat) : Int))] (by kernel_rfl) rfl ?_
          refine VL_end (by kernel_rfl) ?_
          refine VQ_again ⟨i + 1, (l.drop i).take 1, A3, 1, (c - i)⟩ ⟨rfl, rfl, rfl, rfl, rfl, rfl, rfl, rfl, rfl, rfl, rfl, rfl, rfl, rfl, rfl, trivial⟩ ?_ ?_
          · exact ⟨(by dsimp only; omega), (by rw [drop_take_one hx1]; rfl), (by dsimp only; first | exact want_T hx1 (by assumption) hlw (by omega) | exact want_F hx1 (.inl (by assumption)) hlw | exact want_F hx1 (.inr (by omega)) hlw), hS, hA, hD, hbase1, hr1, hbase2, hr2, hV1, hleli1, hV2, hleli2, ho2, hsl1⟩
          · (try dsimp only); omega
        · refine VC_skip ?_
          refine VQ_block_normal ?_
          refine VQ_next ?_
          refine VC_region ?_
          refine VL_pure 1 [0, 2, 7, 8, 9, 10, 11, 12, 13, 14, 15, 16, 59, 17, 80] [(0, .slice (some ⟨sb1, so1, none⟩) n c), (2, .int .u8 id), (7, .slice A1 ((packT (vals l)).length) c1), (8, .int .i64 (packE (vals l))), (9, .slice A2 ((packT (vals l)).length) c2), (10, .int .i64 (packE (vals l))), (11, .slice Ai1 li1.length ci1), (12, .int .i64 (ieUE bt)), (13, .slice Ai2 li2.length ci2), (14, .int .i64 (ieUE bt)), (15, .pointer (some ⟨b1, 0, none⟩)), (16, .bool false), (59, .int .i64 ((n : Nat) : Int)), (17, .slice Aw mw cw), (80, .int .i64 (IntKind.wrap .i64 (((i : Nat) : Int) + 1)))] (by kernel_rfl) rfl ?_
          have he3 : IntKind.wrap .i64 (((i : Nat) : Int) + 1) = ((i + 1 : Nat) : Int) := (by rw [wrap_i64 _ (by omega) (by omega)]; omega)
          refine VL_eq [(0, .slice (some ⟨sb1, so1, none⟩) n c), (2, .int .u8 id), (7, .slice A1 ((packT (vals l)).length) c1), (8, .int .i64 (packE (vals l))), (9, .slice A2 ((packT (vals l)).length) c2), (10, .int .i64 (packE (vals l))), (11, .slice Ai1 li1.length ci1), (12, .int .i64 (ieUE bt)), (13, .slice Ai2 li2.length ci2), (14, .int .i64 (ieUE bt)), (15, .pointer (some ⟨b1, 0, none⟩)), (16, .bool false), (59, .int .i64 ((n : Nat) : Int)), (17, .slice Aw mw cw), (80, .int .i64 ((i + 1 : Nat) : Int))] (by rw [he3]) ?_
          refine VL_pure 2 [0, 2, 7, 8, 9, 10, 11, 12, 13, 14, 15, 16, 59, 17, 60] [(0, .slice (some ⟨sb1, so1, none⟩) n c), (2, .int .u8 id), (7, .slice A1 ((packT (vals l)).length) c1), (8, .int .i64 (packE (vals l))), (9, .slice A2 ((packT (vals l)).length) c2), (10, .int .i64 (packE (vals l))), (11, .slice Ai1 li1.length ci1), (12, .int .i64 (ieUE bt)), (13, .slice Ai2 li2.length ci2), (14, .int .i64 (ieUE bt)), (15, .pointer (some ⟨b1, 0, none⟩)), (16, .bool false), (59, .int .i64 ((n : Nat) : Int)), (17, .slice Aw mw cw), (60, .int .i64 ((i + 1 : Nat) : Int))] (by kernel_rfl) rfl ?_
          refine VL_end (by kernel_rfl) ?_
          refine VQ_again ⟨i + 1, lw, Aw, mw, cw⟩ ⟨rfl, rfl, rfl, rfl, rfl, rfl, rfl, rfl, rfl, rfl, rfl, rfl, rfl, rfl, rfl, trivial⟩ ?_ ?_
          · exact ⟨(by dsimp only; omega), hmw, (by dsimp only; first | exact want_T hx1 (by assumption) hlw (by omega) | exact want_F hx1 (.inl (by assumption)) hlw | exact want_F hx1 (.inr (by omega)) hlw), hS, hA, hD, hbase1, hr1, hbase2, hr2, hV1, hleli1, hV2, hleli2, ho2, hW⟩
          · (try dsimp only); omega
      · refine VL_pure 12 [0, 2, 7, 8, 9, 10, 11, 12, 13, 14, 15, 16, 59, 60, 17, 18, 74] [(0, .slice (some ⟨sb1, so1, none⟩) n c), (2, .int .u8 id), (7, .slice A1 ((packT (vals l)).length) c1), (8, .int .i64 (packE (vals l))), (9, .slice A2 ((packT (vals l)).length) c2), (10, .int .i64 (packE (vals l))), (11, .slice Ai1 li1.length ci1), (12, .int .i64 (ieUE bt)), (13, .slice Ai2 li2.length ci2), (14, .int .i64 (ieUE bt)), (15, .pointer (some ⟨b1, 0, none⟩)), (16, .bool false), (59, .int .i64 ((n : Nat) : Int)), (60, .int .i64 ((i : Nat) : Int)), (17, .slice Aw mw cw), (18, .int .i64 ((i : Nat) : Int)), (74, .bool false)] (by kernel_rfl) rfl ?_
        refine VL_end (by kernel_rfl) ?_
        refine VQ_next ?_
        refine VC_false (by kernel_rfl) ?_
        refine VC_skip ?_
        refine VQ_block_normal ?_
        refine VQ_next ?_
        refine VC_region ?_
        refine VL_pure 1 [0, 2, 7, 8, 9, 10, 11, 12, 13, 14, 15, 16, 59, 17, 80] [(0, .slice (some ⟨sb1, so1, none⟩) n c), (2, .int .u8 id), (7, .slice A1 ((packT (vals l)).length) c1), (8, .int .i64 (packE (vals l))), (9, .slice A2 ((packT (vals l)).length) c2), (10, .int .i64 (packE (vals l))), (11, .slice Ai1 li1.length ci1), (12, .int .i64 (ieUE bt)), (13, .slice Ai2 li2.length ci2), (14, .int .i64 (ieUE bt)), (15, .pointer (some ⟨b1, 0, none⟩)), (16, .bool false), (59, .int .i64 ((n : Nat) : Int)), (17, .slice Aw mw cw), (80, .int .i64 (IntKind.wrap .i64 (((i : Nat) : Int) + 1)))] (by kernel_rfl) rfl ?_
        have he4 : IntKind.wrap .i64 (((i : Nat) : Int) + 1) = ((i + 1 : Nat) : Int) := (by rw [wrap_i64 _ (by omega) (by omega)]; omega)
        refine VL_eq [(0, .slice (some ⟨sb1, so1, none⟩) n c), (2, .int .u8 id), (7, .slice A1 ((packT (vals l)).length) c1), (8, .int .i64 (packE (vals l))), (9, .slice A2 ((packT (vals l)).length) c2), (10, .int .i64 (packE (vals l))), (11, .slice Ai1 li1.length ci1), (12, .int .i64 (ieUE bt)), (13, .slice Ai2 li2.length ci2), (14, .int .i64 (ieUE bt)), (15, .pointer (some ⟨b1, 0, none⟩)), (16, .bool false), (59, .int .i64 ((n : Nat) : Int)), (17, .slice Aw mw cw), (80, .int .i64 ((i + 1 : Nat) : Int))] (by rw [he4]) ?_
        refine VL_pure 2 [0, 2, 7, 8, 9, 10, 11, 12, 13, 14, 15, 16, 59, 17, 60] [(0, .slice (some ⟨sb1, so1, none⟩) n c), (2, .int .u8 id), (7, .slice A1 ((packT (vals l)).length) c1), (8, .int .i64 (packE (vals l))), (9, .slice A2 ((packT (vals l)).length) c2), (10, .int .i64 (packE (vals l))), (11, .slice Ai1 li1.length ci1), (12, .int .i64 (ieUE bt)), (13, .slice Ai2 li2.length ci2), (14, .int .i64 (ieUE bt)), (15, .pointer (some ⟨b1, 0, none⟩)), (16, .bool false), (59, .int .i64 ((n : Nat) : Int)), (17, .slice Aw mw cw), (60, .int .i64 ((i + 1 : Nat) : Int))] (by kernel_rfl) rfl ?_
        refine VL_end (by kernel_rfl) ?_
        refine VQ_again ⟨i + 1, lw, Aw, mw, cw⟩ ⟨rfl, rfl, rfl, rfl, rfl, rfl, rfl, rfl, rfl, rfl, rfl, rfl, rfl, rfl, rfl, trivial⟩ ?_ ?_
        · exact ⟨(by dsimp only; omega), hmw, (by dsimp only; first | exact want_T hx1 (by assumption) hlw (by omega) | exact want_F hx1 (.inl (by assumption)) hlw | exact want_F hx1 (.inr (by omega)) hlw), hS, hA, hD, hbase1, hr1, hbase2, hr2, hV1, hleli1, hV2, hleli2, ho2, hW⟩
        · (try dsimp only); omega
    · refine VC_exit ?_
      refine VQ_then_exit ?_
      refine VQ_then_exit ?_
      refine VQ_block_hit ?_
      refine VQ_next ?_
      refine VC_seq ?_
      obtain rfl : i = n := by omega
      rw [List.take_of_length_le (by omega), hF] at hlw
      obtain rfl : lw = [] := hlw
      obtain rfl : mw = 0 := hmw.symm
      refine VC_region ?_
      refine VL_pure 2 [8, 10, 11, 12, 13, 14, 15, 16, 17, 81, 82] [(8, .int .i64 (packE (vals l))), (10, .int .i64 (packE (vals l))), (11, .slice Ai1 li1.length ci1), (12, .int .i64 (ieUE bt)), (13, .slice Ai2 li2.length ci2), (14, .int .i64 (ieUE bt)), (15, .pointer (some ⟨b1, 0, none⟩)), (16, .bool false), (17, .slice Aw 0 cw), (81, .slice A1 ((packT (vals l)).length) c1), (82, .slice A2 ((packT (vals l)).length) c2)] (by kernel_rfl) rfl ?_
      have hzs9 := hS.size
      have hzl1 := ho2.lt
      refine VL_call (d := 83) (f := 14) (args := #[.slice A1 ((packT (vals l)).length) c1, .slice A2 ((packT (vals l)).length) c2]) (by kernel_rfl) (by kernel_rfl) (by kernel_rfl) Try.call14 (same_any A1 ((packT (vals l)).length) c1 _ (packT (vals l)) A2 ((packT (vals l)).length) c2 _ (packT (vals l)) _ (Rw.lenI hr1) (Rw.slI hr1) (Rw.lenI hr2) (Rw.slI hr2) (by omega) (by omega) (by first | exact Nat.le_refl _ | omega) (by first | exact Nat.le_refl _ | omega)) ?_
      rintro _ w11 ⟨rfl, hc8⟩
      replace hS := Step.trans hS hc8
      replace hA := hA.no hc8
      replace hD := hD.no hc8
      replace hbase1 := Nat.le_trans hbase1 (hc8).size
      replace hr1 := hr1.no hc8
      replace hbase2 := Nat.le_trans hbase2 (hc8).size
      replace hr2 := hr2.no hc8
      replace hV1 := hV1.no hc8
      replace hleli1 := Nat.le_trans hleli1 (hc8).size
      replace hV2 := hV2.no hc8
      replace hleli2 := Nat.le_trans hleli2 (hc8).size
      replace ho2 := ho2.no hc8
      replace hW := hW.no hc8
      refine VL_pure 4 [8, 10, 11, 12, 13, 14, 15, 16, 17, 84] [(8, .int .i64 (packE (vals l))), (10, .int .i64 (packE (vals l))), (11, .slice Ai1 li1.length ci1), (12, .int .i64 (ieUE bt)), (13, .slice Ai2 li2.length ci2), (14, .int .i64 (ieUE bt)), (15, .pointer (some ⟨b1, 0, none⟩)), (16, .bool false), (17, .slice Aw 0 cw), (84, .bool ((packT (vals l)) == (packT (vals l))))] (by kernel_rfl) rfl ?_
      refine VL_known ((packT (vals l)) == (packT (vals l))) (fun bV => [(8, .int .i64 (packE (vals l))), (10, .int .i64 (packE (vals l))), (11, .slice Ai1 li1.length ci1), (12, .int .i64 (ieUE bt)), (13, .slice Ai2 li2.length ci2), (14, .int .i64 (ieUE bt)), (15, .pointer (some ⟨b1, 0, none⟩)), (16, .bool false), (17, .slice Aw 0 cw), (84, .bool bV)]) true rfl (by simp) ?_
      refine VL_pure 9 [11, 12, 13, 14, 15, 16, 17, 89] [(11, .slice Ai1 li1.length ci1), (12, .int .i64 (ieUE bt)), (13, .slice Ai2 li2.length ci2), (14, .int .i64 (ieUE bt)), (15, .pointer (some ⟨b1, 0, none⟩)), (16, .bool false), (17, .slice Aw 0 cw), (89, .bool ((packE (vals l)) == (packE (vals l))))] (by kernel_rfl) rfl ?_
      refine VL_known ((packE (vals l)) == (packE (vals l))) (fun bV => [(11, .slice Ai1 li1.length ci1), (12, .int .i64 (ieUE bt)), (13, .slice Ai2 li2.length ci2), (14, .int .i64 (ieUE bt)), (15, .pointer (some ⟨b1, 0, none⟩)), (16, .bool false), (17, .slice Aw 0 cw), (89, .bool bV)]) true rfl (by simp) ?_
      refine VL_pure 11 [12, 14, 15, 16, 17, 89, 90, 91] [(12, .int .i64 (ieUE bt)), (14, .int .i64 (ieUE bt)), (15, .pointer (some ⟨b1, 0, none⟩)), (16, .bool false), (17, .slice Aw 0 cw), (89, .bool true), (90, .slice Ai1 li1.length ci1), (91, .slice Ai2 li2.length ci2)] (by kernel_rfl) rfl ?_
      have hzs10 := hS.size
      have hzl2 := ho2.lt
      refine VL_call (d := 92) (f := 13) (args := #[.slice Ai1 li1.length ci1, .slice Ai2 li2.length ci2]) (by kernel_rfl) (by kernel_rfl) (by kernel_rfl) Try.call13 (same15_any Ai1 li1.length ci1 w4.heap.size w5.heap.size li1 _ rfl hV1 Ai2 li2.length ci2 w5.heap.size w6.heap.size li2 rfl hV2   (by omega) (fun x hx => by have hq9 := hsmli1 x hx; omega) (fun x hx => by have hq9 := hsmli2 x hx; omega) (by first | exact Nat.le_refl _ | omega) (by first | exact Nat.le_refl _ | omega)) ?_
      rintro _ w12 ⟨rfl, hc9⟩
      replace hS := Step.trans hS hc9
      replace hA := hA.no hc9
      replace hD := hD.no hc9
      replace hbase1 := Nat.le_trans hbase1 (hc9).size
      replace hr1 := hr1.no hc9
      replace hbase2 := Nat.le_trans hbase2 (hc9).size
      replace hr2 := hr2.no hc9
      replace hV1 := hV1.no hc9
      replace hleli1 := Nat.le_trans hleli1 (hc9).size
      replace hV2 := hV2.no hc9
      replace hleli2 := Nat.le_trans hleli2 (hc9).size
      replace ho2 := ho2.no hc9
      replace hW := hW.no hc9
      refine VL_pure 14 [12, 14, 15, 16, 17, 94] [(12, .int .i64 (ieUE bt)), (14, .int .i64 (ieUE bt)), (15, .pointer (some ⟨b1, 0, none⟩)), (16, .bool false), (17, .slice Aw 0 cw), (94, .bool (vals li1 == vals li2))] (by kernel_rfl) rfl ?_
      refine VL_known (vals li1 == vals li2) (fun bV => [(12, .int .i64 (ieUE bt)), (14, .int .i64 (ieUE bt)), (15, .pointer (some ⟨b1, 0, none⟩)), (16, .bool false), (17, .slice Aw 0 cw), (94, .bool bV)]) true rfl (by rw [beq_iff_eq]; simp only [*]) ?_
      refine VL_pure 19 [15, 16, 17, 99] [(15, .pointer (some ⟨b1, 0, none⟩)), (16, .bool false), (17, .slice Aw 0 cw), (99, .bool ((ieUE bt) == (ieUE bt)))] (by kernel_rfl) rfl ?_
      refine VL_known ((ieUE bt) == (ieUE bt)) (fun bV => [(15, .pointer (some ⟨b1, 0, none⟩)), (16, .bool false), (17, .slice Aw 0 cw), (99, .bool bV)]) true rfl (by simp) ?_
      refine VL_pure 39 [15, 116, 118, 119] [(15, .pointer (some ⟨b1, 0, none⟩)), (116, .bool true), (118, .bool false), (119, .pointer (some ⟨b1, 0, none⟩))] (by kernel_rfl) rfl ?_
      refine VL_load (d := 120) (t := 5) (a := ⟨b1, 0, none⟩) (v := .int .u8 0) (by kernel_rfl) (by kernel_rfl) (Loads.own1 ho2 (by kernel_rfl) (by rfl)) ?_
      refine VL_pure 43 [116, 118, 122, 123] [(116, .bool true), (118, .bool false), (122, .bool true), (123, .pointer (some ⟨b1, 1, none⟩))] (by kernel_rfl) rfl ?_
      refine VL_load (d := 124) (t := 23) (a := ⟨b1, 1, none⟩) (v := .slice none 0 0) (by kernel_rfl) (by kernel_rfl) (Loads.own1 ho2 (by kernel_rfl) (by rfl)) ?_
      refine VL_pure 50 [6] [(6, .bool true)] (by kernel_rfl) rfl ?_
      refine VL_end (by kernel_rfl) ?_
      refine VQ_next ?_
      refine VC_ret ?_
      refine VQ_ret1 (.bool true) (.inr rfl) rfl rfl ?_
      exact ⟨by first | rfl | simp [*], hS⟩
  · replace hS := Step.trans hS hc7
    replace hA := hA.no hc7
    replace hD := hD.no hc7
    replace hbase1 := Nat.le_trans hbase1 (hc7).size
    replace hr1 := hr1.no hc7
    replace hbase2 := Nat.le_trans hbase2 (hc7).size
    replace hr2 := hr2.no hc7
    replace hV1 := hV1.no hc7
    replace hleli1 := Nat.le_trans hleli1 (hc7).size
    replace hV2 := hV2.no hc7
    replace hleli2 := Nat.le_trans hleli2 (hc7).size
    have hyl := (find_in hF).1
    have hyn : yb.length = yn := (hA.all _ hyl).len
    have hys : yn ≤ 300 := hsm _ hyl
    have hyc : yn ≤ yc := (hA.all _ hyl).cap
    have hyS : Sl w7 w.heap.size yA (iL .u8 yb) := (hA.all _ hyl).sl.sl
    dsimp only
    refine VL_pure 6 [0, 2, 7, 8, 9, 10, 11, 12, 13, 14, 56, 57] [(0, .slice A n c), (2, .int .u8 id), (7, .slice A1 ((packT (vals l)).length) c1), (8, .int .i64 (packE (vals l))), (9, .slice A2 ((packT (vals l)).length) c2), (10, .int .i64 (packE (vals l))), (11, .slice Ai1 li1.length ci1), (12, .int .i64 (ieUE bt)), (13, .slice Ai2 li2.length ci2), (14, .int .i64 (ieUE bt)), (56, .agg #[.int .u8 yi, .slice yA yn yc]), (57, .bool true)] (by kernel_rfl) rfl ?_
    have hzs11 := hS.size
    have hzk9 := hbase1
    have hzk10 := hbase2
    have hzk11 := hleli1
    have hzk12 := hleli2
    have hub3 := hr1.ub
    have hub4 := hr2.ub
    refine VL_box (d := 15) (t := 40) (c := #[.int .u8 0, .slice none 0 0]) (by kernel_rfl) (by kernel_rfl) ?_
    intro b2 w13 hn2
    replace hS := Step.trans hS (hn2.step No)
    replace hA := hA.no (hn2.step No)
    replace hD := hD.no (hn2.step No)
    replace hbase1 := Nat.le_trans hbase1 (hn2.step No).size
    replace hr1 := hr1.no (hn2.step No)
    replace hbase2 := Nat.le_trans hbase2 (hn2.step No).size
    replace hr2 := hr2.no (hn2.step No)
    replace hV1 := hV1.no (hn2.step No)
    replace hleli1 := Nat.le_trans hleli1 (hn2.step No).size
    replace hV2 := hV2.no (hn2.step No)
    replace hleli2 := Nat.le_trans hleli2 (hn2.step No).size
    replace hyS := hyS.no (hn2.step No)
    have ho3 := hn2.own
    have hzhn2 := hn2.size
    have hqhn2 := hn2.eqb
    refine VL_store (b := b2) (o := 0) (vs := [.int .u8 yi, .slice yA yn yc]) (by kernel_rfl) (by kernel_rfl) ho3 (Nat.le_of_ble_eq_true (by kernel_rfl)) ?_
    intro w14 hw2
    replace hS := Step.transNew hS hw2.step (fun _ _ _ => by omega)
    replace hA := hA.step hw2.step (fun k hk1 hk2 (hF : k = b2) => by omega)
    replace hD := hD.step hw2.step (fun k hk (hF : k = b2) => by omega)
    replace hbase1 := Nat.le_trans hbase1 (hw2.step).size
    replace hr1 := hr1.stepU hub3 hw2.step (fun k hk1 hk2 (hF : k = b2) => by omega)
    replace hbase2 := Nat.le_trans hbase2 (hw2.step).size
    replace hr2 := hr2.stepU hub4 hw2.step (fun k hk1 hk2 (hF : k = b2) => by omega)
    replace hV1 := hV1.step hw2.step (fun k hk1 hk2 (hF : k = b2) => by omega)
    replace hleli1 := Nat.le_trans hleli1 (hw2.step).size
    replace hV2 := hV2.step hw2.step (fun k hk1 hk2 (hF : k = b2) => by omega)
    replace hleli2 := Nat.le_trans hleli2 (hw2.step).size
    replace hyS := hyS.step hw2.step (fun k hk (hF : k = b2) => by omega)
    have ho4 : Own w14 b2 #[.int .u8 yi, .slice yA yn yc] 40 := Own.cast hw2.own (by kernel_rfl)
    have hzhw2 := hw2.same
    refine VL_pure 9 [0, 2, 7, 8, 9, 10, 11, 12, 13, 14, 15, 16] [(0, .slice A n c), (2, .int .u8 id), (7, .slice A1 ((packT (vals l)).length) c1), (8, .int .i64 (packE (vals l))), (9, .slice A2 ((packT (vals l)).length) c2), (10, .int .i64 (packE (vals l))), (11, .slice Ai1 li1.length ci1), (12, .int .i64 (ieUE bt)), (13, .slice Ai2 li2.length ci2), (14, .int .i64 (ieUE bt)), (15, .pointer (some ⟨b2, 0, none⟩)), (16, .bool true)] (by kernel_rfl) rfl ?_
    refine VL_end (by kernel_rfl) ?_
    refine VQ_next ?_
    refine VC_seq ?_
    refine VC_region ?_
    refine VL_pure 1 [0, 2, 7, 8, 9, 10, 11, 12, 13, 14, 15, 16, 17] [(0, .slice A n c), (2, .int .u8 id), (7, .slice A1 ((packT (vals l)).length) c1), (8, .int .i64 (packE (vals l))), (9, .slice A2 ((packT (vals l)).length) c2), (10, .int .i64 (packE (vals l))), (11, .slice Ai1 li1.length ci1), (12, .int .i64 (ieUE bt)), (13, .slice Ai2 li2.length ci2), (14, .int .i64 (ieUE bt)), (15, .pointer (some ⟨b2, 0, none⟩)), (16, .bool true), (17, .slice none 0 0)] (by kernel_rfl) rfl ?_
    refine VL_end (by kernel_rfl) ?_
    refine VQ_next ?_
    refine VC_seq ?_
    refine VC_seq ?_
    refine VC_region ?_
    refine VL_pure 3 [0, 2, 7, 8, 9, 10, 11, 12, 13, 14, 15, 16, 17, 59, 60] [(0, .slice A n c), (2, .int .u8 id), (7, .slice A1 ((packT (vals l)).length) c1), (8, .int .i64 (packE (vals l))), (9, .slice A2 ((packT (vals l)).length) c2), (10, .int .i64 (packE (vals l))), (11, .slice Ai1 li1.length ci1), (12, .int .i64 (ieUE bt)), (13, .slice Ai2 li2.length ci2), (14, .int .i64 (ieUE bt)), (15, .pointer (some ⟨b2, 0, none⟩)), (16, .bool true), (17, .slice none 0 0), (59, .int .i64 ((n : Nat) : Int)), (60, .int .i64 0)] (by kernel_rfl) rfl ?_
    refine VL_end (by kernel_rfl) ?_
    refine VQ_next ?_
    refine VC_block ?_
    refine VC_loop (σ := Nat × (List IeV) × (Option Addr) × Nat × Nat) (fun σs => [(0, .slice A n c), (2, .int .u8 id), (7, .slice A1 ((packT (vals l)).length) c1), (8, .int .i64 (packE (vals l))), (9, .slice A2 ((packT (vals l)).length) c2), (10, .int .i64 (packE (vals l))), (11, .slice Ai1 li1.length ci1), (12, .int .i64 (ieUE bt)), (13, .slice Ai2 li2.length ci2), (14, .int .i64 (ieUE bt)), (15, .pointer (some ⟨b2, 0, none⟩)), (16, .bool true), (59, .int .i64 ((n : Nat) : Int)), (60, .int .i64 ((σs.1 : Nat) : Int)), (17, .slice σs.2.2.1 σs.2.2.2.1 σs.2.2.2.2)]) (fun σs w15 => (σs.1 ≤ n) ∧ (σs.2.1.length = σs.2.2.2.1) ∧ (σs.2.1 = ((l.take σs.1).find? (isId id)).toList) ∧ (Step No w w15) ∧ (Ies w15 0 w.heap.size A l) ∧ (Sl w15 (w.heap.size) D (iL .u8 bt)) ∧ (base1 ≤ w15.heap.size) ∧ (Rw w15 base1 5 A1 ((packT (vals l)).length) c1 (iL .u8 (packT (vals l)))) ∧ (base2 ≤ w15.heap.size) ∧ (Rw w15 base2 5 A2 ((packT (vals l)).length) c2 (iL .u8 (packT (vals l)))) ∧ (Ies w15 w4.heap.size w5.heap.size Ai1 li1) ∧ ((w5.heap.size) ≤ w15.heap.size) ∧ (Ies w15 w5.heap.size w6.heap.size Ai2 li2) ∧ ((w6.heap.size) ≤ w15.heap.size) ∧ (Sl w15 (w.heap.size) yA (iL .u8 yb)) ∧ (Own w15 b2 #[.int .u8 yi, .slice yA yn yc] 40) ∧ (Ies w15 0 w.heap.size σs.2.2.1 σs.2.1)) (fun σs w15 => n - σs.1) ⟨0, [], none, 0, 0⟩ ⟨rfl, rfl, rfl, rfl, rfl, rfl, rfl, rfl, rfl, rfl, rfl, rfl, rfl, rfl, rfl, trivial⟩ ?_ ?_
    · exact ⟨(Nat.zero_le _), rfl, rfl, hS, hA, hD, hbase1, hr1, hbase2, hr2, hV1, hleli1, hV2, hleli2, hyS, ho4, Ies.nil⟩
    rintro ⟨i, lw, Aw, mw, cw⟩ w15 ⟨hi, hmw, hlw, hS, hA, hD, hbase1, hr1, hbase2, hr2, hV1, hleli1, hV2, hleli2, hyS, ho4, hW⟩
    try dsimp only at hi hmw hlw hS hA hD hbase1 hr1 hbase2 hr2 hV1 hleli1 hV2 hleli2 hyS ho4 hW ⊢
    refine VC_seq ?_
    refine VC_region ?_
    refine VL_pure 1 [0, 2, 7, 8, 9, 10, 11, 12, 13, 14, 15, 16, 59, 60, 17, 61] [(0, .slice A n c), (2, .int .u8 id), (7, .slice A1 ((packT (vals l)).length) c1), (8, .int .i64 (packE (vals l))), (9, .slice A2 ((packT (vals l)).length) c2), (10, .int .i64 (packE (vals l))), (11, .slice Ai1 li1.length ci1), (12, .int .i64 (ieUE bt)), (13, .slice Ai2 li2.length ci2), (14, .int .i64 (ieUE bt)), (15, .pointer (some ⟨b2, 0, none⟩)), (16, .bool true), (59, .int .i64 ((n : Nat) : Int)), (60, .int .i64 ((i : Nat) : Int)), (17, .slice Aw mw cw), (61, .bool (decide (((i : Nat) : Int) < ((n : Nat) : Int))))] (by kernel_rfl) rfl ?_
    refine VL_end (by kernel_rfl) ?_
    refine VQ_next ?_
    refine VC_seq ?_
    refine VC_dec (((i : Nat) : Int) < ((n : Nat) : Int)) (by kernel_rfl) (fun h3 => ?_) (fun h3 => ?_)
    · refine VC_skip ?_
      refine VQ_next ?_
      refine VC_seq ?_
      refine VC_block ?_
      refine VC_seq ?_
      refine VC_region ?_
      refine VL_pure 2 [0, 2, 7, 8, 9, 10, 11, 12, 13, 14, 15, 16, 59, 60, 17, 18] [(0, .slice A n c), (2, .int .u8 id), (7, .slice A1 ((packT (vals l)).length) c1), (8, .int .i64 (packE (vals l))), (9, .slice A2 ((packT (vals l)).length) c2), (10, .int .i64 (packE (vals l))), (11, .slice Ai1 li1.length ci1), (12, .int .i64 (ieUE bt)), (13, .slice Ai2 li2.length ci2), (14, .int .i64 (ieUE bt)), (15, .pointer (some ⟨b2, 0, none⟩)), (16, .bool true), (59, .int .i64 ((n : Nat) : Int)), (60, .int .i64 ((i : Nat) : Int)), (17, .slice Aw mw cw), (18, .int .i64 ((i : Nat) : Int))] (by kernel_rfl) rfl ?_
      refine VL_end (by kernel_rfl) ?_
      refine VQ_next ?_
      refine VC_seq ?_
      refine VC_region ?_
      refine VL_pure 2 [0, 2, 7, 8, 9, 10, 11, 12, 13, 14, 15, 16, 59, 60, 17, 18, 63, 64] [(0, .slice A n c), (2, .int .u8 id), (7, .slice A1 ((packT (vals l)).length) c1), (8, .int .i64 (packE (vals l))), (9, .slice A2 ((packT (vals l)).length) c2), (10, .int .i64 (packE (vals l))), (11, .slice Ai1 li1.length ci1), (12, .int .i64 (ieUE bt)), (13, .slice Ai2 li2.length ci2), (14, .int .i64 (ieUE bt)), (15, .pointer (some ⟨b2, 0, none⟩)), (16, .bool true), (59, .int .i64 ((n : Nat) : Int)), (60, .int .i64 ((i : Nat) : Int)), (17, .slice Aw mw cw), (18, .int .i64 ((i : Nat) : Int)), (63, .slice A n c), (64, .int .i64 ((i : Nat) : Int))] (by kernel_rfl) rfl ?_
      obtain ⟨sb2, so2, rfl, hlbsb2⟩ := hA.open (by omega)
      refine VL_index (d := 65) (b := sb2) (o := so2) (len := n) (sz := 2) (m := ((i : Nat) : Int)) (by kernel_rfl) (by kernel_rfl) i (by rfl) (by omega) (so2 + i * 2) (by omega) ?_
      refine VL_pure 4 [0, 2, 7, 8, 9, 10, 11, 12, 13, 14, 15, 16, 59, 60, 17, 18, 66] [(0, .slice (some ⟨sb2, so2, none⟩) n c), (2, .int .u8 id), (7, .slice A1 ((packT (vals l)).length) c1), (8, .int .i64 (packE (vals l))), (9, .slice A2 ((packT (vals l)).length) c2), (10, .int .i64 (packE (vals l))), (11, .slice Ai1 li1.length ci1), (12, .int .i64 (ieUE bt)), (13, .slice Ai2 li2.length ci2), (14, .int .i64 (ieUE bt)), (15, .pointer (some ⟨b2, 0, none⟩)), (16, .bool true), (59, .int .i64 ((n : Nat) : Int)), (60, .int .i64 ((i : Nat) : Int)), (17, .slice Aw mw cw), (18, .int .i64 ((i : Nat) : Int)), (66, .pointer (some ⟨sb2, so2 + i * 2, none⟩))] (by kernel_rfl) rfl ?_
      obtain ⟨⟨x2i, x2A, x2n, x2c, x2b⟩, hx2⟩ : ∃ x, l[i]? = some x := ⟨_, List.getElem?_eq_getElem (by omega)⟩
      obtain ⟨hnx2, hcx2, hbx2⟩ := Ies.body hA hx2
      dsimp only at hnx2 hcx2 hbx2
      have hBx2 := hl _ (List.mem_of_getElem? hx2)
      obtain ⟨hix2, hBx2⟩ := hBx2
      dsimp only at hix2 hBx2
      refine VL_load (d := 67) (t := 5) (a := ⟨sb2, so2 + i * 2, none⟩) (v := .int .u8 x2i) (by kernel_rfl) (by kernel_rfl) (Ies.ld0 hA (by kernel_rfl) hx2) ?_
      refine VL_pure 8 [0, 2, 7, 8, 9, 10, 11, 12, 13, 14, 15, 16, 59, 60, 17, 18, 70] [(0, .slice (some ⟨sb2, so2, none⟩) n c), (2, .int .u8 id), (7, .slice A1 ((packT (vals l)).length) c1), (8, .int .i64 (packE (vals l))), (9, .slice A2 ((packT (vals l)).length) c2), (10, .int .i64 (packE (vals l))), (11, .slice Ai1 li1.length ci1), (12, .int .i64 (ieUE bt)), (13, .slice Ai2 li2.length ci2), (14, .int .i64 (ieUE bt)), (15, .pointer (some ⟨b2, 0, none⟩)), (16, .bool true), (59, .int .i64 ((n : Nat) : Int)), (60, .int .i64 ((i : Nat) : Int)), (17, .slice Aw mw cw), (18, .int .i64 ((i : Nat) : Int)), (70, .bool (x2i == id))] (by kernel_rfl) rfl ?_
      refine VL_beq x2i id (fun bV => [(0, .slice (some ⟨sb2, so2, none⟩) n c), (2, .int .u8 id), (7, .slice A1 ((packT (vals l)).length) c1), (8, .int .i64 (packE (vals l))), (9, .slice A2 ((packT (vals l)).length) c2), (10, .int .i64 (packE (vals l))), (11, .slice Ai1 li1.length ci1), (12, .int .i64 (ieUE bt)), (13, .slice Ai2 li2.length ci2), (14, .int .i64 (ieUE bt)), (15, .pointer (some ⟨b2, 0, none⟩)), (16, .bool true), (59, .int .i64 ((n : Nat) : Int)), (60, .int .i64 ((i : Nat) : Int)), (17, .slice Aw mw cw), (18, .int .i64 ((i : Nat) : Int)), (70, .bool bV)]) rfl (fun hg2 => ?_) (fun hg2 => ?_)
      · refine VL_pure 12 [0, 2, 7, 8, 9, 10, 11, 12, 13, 14, 15, 16, 59, 60, 17, 18, 74] [(0, .slice (some ⟨sb2, so2, none⟩) n c), (2, .int .u8 id), (7, .slice A1 ((packT (vals l)).length) c1), (8, .int .i64 (packE (vals l))), (9, .slice A2 ((packT (vals l)).length) c2), (10, .int .i64 (packE (vals l))), (11, .slice Ai1 li1.length ci1), (12, .int .i64 (ieUE bt)), (13, .slice Ai2 li2.length ci2), (14, .int .i64 (ieUE bt)), (15, .pointer (some ⟨b2, 0, none⟩)), (16, .bool true), (59, .int .i64 ((n : Nat) : Int)), (60, .int .i64 ((i : Nat) : Int)), (17, .slice Aw mw cw), (18, .int .i64 ((i : Nat) : Int)), (74, .bool (((mw : Nat) : Int) == 0))] (by kernel_rfl) rfl ?_
        refine VL_end (by kernel_rfl) ?_
        refine VQ_next ?_
        refine VC_eq ((mw : Nat) : Int) 0 (by kernel_rfl) (fun h4 => ?_) (fun h4 => ?_)
        · refine VC_region ?_
          refine VL_pure 4 [0, 2, 7, 8, 9, 10, 11, 12, 13, 14, 15, 16, 59, 60, 75, 76, 78] [(0, .slice (some ⟨sb2, so2, none⟩) n c), (2, .int .u8 id), (7, .slice A1 ((packT (vals l)).length) c1), (8, .int .i64 (packE (vals l))), (9, .slice A2 ((packT (vals l)).length) c2), (10, .int .i64 (packE (vals l))), (11, .slice Ai1 li1.length ci1), (12, .int .i64 (ieUE bt)), (13, .slice Ai2 li2.length ci2), (14, .int .i64 (ieUE bt)), (15, .pointer (some ⟨b2, 0, none⟩)), (16, .bool true), (59, .int .i64 ((n : Nat) : Int)), (60, .int .i64 ((i : Nat) : Int)), (75, .slice (some ⟨sb2, so2, none⟩) n c), (76, .int .i64 ((i : Nat) : Int)), (78, .int .i64 (IntKind.wrap .i64 (((i : Nat) : Int) + 1)))] (by kernel_rfl) rfl ?_
          have he5 : IntKind.wrap .i64 (((i : Nat) : Int) + 1) = ((i + 1 : Nat) : Int) := (by rw [wrap_i64 _ (by omega) (by omega)]; omega)
          refine VL_eq [(0, .slice (some ⟨sb2, so2, none⟩) n c), (2, .int .u8 id), (7, .slice A1 ((packT (vals l)).length) c1), (8, .int .i64 (packE (vals l))), (9, .slice A2 ((packT (vals l)).length) c2), (10, .int .i64 (packE (vals l))), (11, .slice Ai1 li1.length ci1), (12, .int .i64 (ieUE bt)), (13, .slice Ai2 li2.length ci2), (14, .int .i64 (ieUE bt)), (15, .pointer (some ⟨b2, 0, none⟩)), (16, .bool true), (59, .int .i64 ((n : Nat) : Int)), (60, .int .i64 ((i : Nat) : Int)), (75, .slice (some ⟨sb2, so2, none⟩) n c), (76, .int .i64 ((i : Nat) : Int)), (78, .int .i64 ((i + 1 : Nat) : Int))] (by rw [he5]) ?_
          refine VL_sliceI (d := 79) (A := (some ⟨sb2, so2, none⟩)) (len := n) (cap := c) (lo := (some ((i : Nat) : Int))) (hi := (some ((i + 1 : Nat) : Int))) (mx := none) (by kernel_rfl) (by kernel_rfl) (fun h => by first | exact absurd rfl h | exact (fun h => by cases h)) hA i (i + 1) c rfl rfl rfl (by omega) (by omega) (by omega) 1 (by omega) (c - i) (by omega) ?_
          intro A4 hsl2
          refine VL_pure 6 [0, 2, 7, 8, 9, 10, 11, 12, 13, 14, 15, 16, 59, 60, 17] [(0, .slice (some ⟨sb2, so2, none⟩) n c), (2, .int .u8 id), (7, .slice A1 ((packT (vals l)).length) c1), (8, .int .i64 (packE (vals l))), (9, .slice A2 ((packT (vals l)).length) c2), (10, .int .i64 (packE (vals l))), (11, .slice Ai1 li1.length ci1), (12, .int .i64 (ieUE bt)), (13, .slice Ai2 li2.length ci2), (14, .int .i64 (ieUE bt)), (15, .pointer (some ⟨b2, 0, none⟩)), (16, .bool true), (59, .int .i64 ((n : Nat) : Int)), (60, .int .i64 ((i : Nat) : Int)), (17, .slice A4 1 (c - i))] (by kernel_rfl) rfl ?_
          refine VL_end (by kernel_rfl) ?_
          refine VQ_block_normal ?_
          refine VQ_next ?_
          refine VC_region ?_
          refine VL_pure 1 [0, 2, 7, 8, 9, 10, 11, 12, 13, 14, 15, 16, 59, 17, 80] [(0, .slice (some ⟨sb2, so2, none⟩) n c), (2, .int .u8 id), (7, .slice A1 ((packT (vals l)).length) c1), (8, .int .i64 (packE (vals l))), (9, .slice A2 ((packT (vals l)).length) c2), (10, .int .i64 (packE (vals l))), (11, .slice Ai1 li1.length ci1), (12, .int .i64 (ieUE bt)), (13, .slice Ai2 li2.length ci2), (14, .int .i64 (ieUE bt)), (15, .pointer (some ⟨b2, 0, none⟩)), (16, .bool true), (59, .int .i64 ((n : Nat) : Int)), (17, .slice A4 1 (c - i)), (80, .int .i64 (IntKind.wrap .i64 (((i : Nat) : Int) + 1)))] (by kernel_rfl) rfl ?_
          have he6 : IntKind.wrap .i64 (((i : Nat) : Int) + 1) = ((i + 1 : Nat) : Int) := (by rw [wrap_i64 _ (by omega) (by omega)]; omega)
          refine VL_eq [(0, .slice (some ⟨sb2, so2, none⟩) n c), (2, .int .u8 id), (7, .slice A1 ((packT (vals l)).length) c1), (8, .int .i64 (packE (vals l))), (9, .slice A2 ((packT (vals l)).length) c2), (10, .int .i64 (packE (vals l))), (11, .slice Ai1 li1.length ci1), (12, .int .i64 (ieUE bt)), (13, .slice Ai2 li2.length ci2), (14, .int .i64 (ieUE bt)), (15, .pointer (some ⟨b2, 0, none⟩)), (16, .bool true), (59, .int .i64 ((n : Nat) : Int)), (17, .slice A4 1 (c - i)), (80, .int .i64 ((i + 1 : Nat) : Int))] (by rw [he6]) ?_
          refine VL_pure 2 [0, 2, 7, 8, 9, 10, 11, 12, 13, 14, 15, 16, 59, 17, 60] [(0, .slice (some ⟨sb2, so2, none⟩) n c), (2, .int .u8 id), (7, .slice A1 ((packT (vals l)).length) c1), (8, .int .i64 (packE (vals l))), (9, .slice A2 ((packT (vals l)).length) c2), (10, .int .i64 (packE (vals l))), (11, .slice Ai1 li1.length ci1), (12, .int .i64 (ieUE bt)), (13, .slice Ai2 li2.length ci2), (14, .int .i64 (ieUE bt)), (15, .pointer (some ⟨b2, 0, none⟩)), (16, .bool true), (59, .int .i64 ((n : Nat) : Int)), (17, .slice A4 1 (c - i)), (60, .int .i64 ((i + 1 : Nat) : Int))] (by kernel_rfl) rfl ?_
          refine VL_end (by kernel_rfl) ?_
          refine VQ_again ⟨i + 1, (l.drop i).take 1, A4, 1, (c - i)⟩ ⟨rfl, rfl, rfl, rfl, rfl, rfl, rfl, rfl, rfl, rfl, rfl, rfl, rfl, rfl, rfl, trivial⟩ ?_ ?_
          · exact ⟨(by dsimp only; omega), (by rw [drop_take_one hx2]; rfl), (by dsimp only; first | exact want_T hx2 (by assumption) hlw (by omega) | exact want_F hx2 (.inl (by assumption)) hlw | exact want_F hx2 (.inr (by omega)) hlw), hS, hA, hD, hbase1, hr1, hbase2, hr2, hV1, hleli1, hV2, hleli2, hyS, ho4, hsl2⟩
          · (try dsimp only); omega
        · refine VC_skip ?_
          refine VQ_block_normal ?_
          refine VQ_next ?_
          refine VC_region ?_
          refine VL_pure 1 [0, 2, 7, 8, 9, 10, 11, 12, 13, 14, 15, 16, 59, 17, 80] [(0, .slice (some ⟨sb2, so2, none⟩) n c), (2, .int .u8 id), (7, .slice A1 ((packT (vals l)).length) c1), (8, .int .i64 (packE (vals l))), (9, .slice A2 ((packT (vals l)).length) c2), (10, .int .i64 (packE (vals l))), (11, .slice Ai1 li1.length ci1), (12, .int .i64 (ieUE bt)), (13, .slice Ai2 li2.length ci2), (14, .int .i64 (ieUE bt)), (15, .pointer (some ⟨b2, 0, none⟩)), (16, .bool true), (59, .int .i64 ((n : Nat) : Int)), (17, .slice Aw mw cw), (80, .int .i64 (IntKind.wrap .i64 (((i : Nat) : Int) + 1)))] (by kernel_rfl) rfl ?_
          have he7 : IntKind.wrap .i64 (((i : Nat) : Int) + 1) = ((i + 1 : Nat) : Int) := (by rw [wrap_i64 _ (by omega) (by omega)]; omega)
          refine VL_eq [(0, .slice (some ⟨sb2, so2, none⟩) n c), (2, .int .u8 id), (7, .slice A1 ((packT (vals l)).length) c1), (8, .int .i64 (packE (vals l))), (9, .slice A2 ((packT (vals l)).length) c2), (10, .int .i64 (packE (vals l))), (11, .slice Ai1 li1.length ci1), (12, .int .i64 (ieUE bt)), (13, .slice Ai2 li2.length ci2), (14, .int .i64 (ieUE bt)), (15, .pointer (some ⟨b2, 0, none⟩)), (16, .bool true), (59, .int .i64 ((n : Nat) : Int)), (17, .slice Aw mw cw), (80, .int .i64 ((i + 1 : Nat) : Int))] (by rw [he7]) ?_
          refine VL_pure 2 [0, 2, 7, 8, 9, 10, 11, 12, 13, 14, 15, 16, 59, 17, 60] [(0, .slice (some ⟨sb2, so2, none⟩) n c), (2, .int .u8 id), (7, .slice A1 ((packT (vals l)).length) c1), (8, .int .i64 (packE (vals l))), (9, .slice A2 ((packT (vals l)).length) c2), (10, .int .i64 (packE (vals l))), (11, .slice Ai1 li1.length ci1), (12, .int .i64 (ieUE bt)), (13, .slice Ai2 li2.length ci2), (14, .int .i64 (ieUE bt)), (15, .pointer (some ⟨b2, 0, none⟩)), (16, .bool true), (59, .int .i64 ((n : Nat) : Int)), (17, .slice Aw mw cw), (60, .int .i64 ((i + 1 : Nat) : Int))] (by kernel_rfl) rfl ?_
          refine VL_end (by kernel_rfl) ?_
          refine VQ_again ⟨i + 1, lw, Aw, mw, cw⟩ ⟨rfl, rfl, rfl, rfl, rfl, rfl, rfl, rfl, rfl, rfl, rfl, rfl, rfl, rfl, rfl, trivial⟩ ?_ ?_
          · exact ⟨(by dsimp only; omega), hmw, (by dsimp only; first | exact want_T hx2 (by assumption) hlw (by omega) | exact want_F hx2 (.inl (by assumption)) hlw | exact want_F hx2 (.inr (by omega)) hlw), hS, hA, hD, hbase1, hr1, hbase2, hr2, hV1, hleli1, hV2, hleli2, hyS, ho4, hW⟩
          · (try dsimp only); omega
      · refine VL_pure 12 [0, 2, 7, 8, 9, 10, 11, 12, 13, 14, 15, 16, 59, 60, 17, 18, 74] [(0, .slice (some ⟨sb2, so2, none⟩) n c), (2, .int .u8 id), (7, .slice A1 ((packT (vals l)).length) c1), (8, .int .i64 (packE (vals l))), (9, .slice A2 ((packT (vals l)).length) c2), (10, .int .i64 (packE (vals l))), (11, .slice Ai1 li1.length ci1), (12, .int .i64 (ieUE bt)), (13, .slice Ai2 li2.length ci2), (14, .int .i64 (ieUE bt)), (15, .pointer (some ⟨b2, 0, none⟩)), (16, .bool true), (59, .int .i64 ((n : Nat) : Int)), (60, .int .i64 ((i : Nat) : Int)), (17, .slice Aw mw cw), (18, .int .i64 ((i : Nat) : Int)), (74, .bool false)] (by kernel_rfl) rfl ?_
        refine VL_end (by kernel_rfl) ?_
        refine VQ_next ?_
        refine VC_false (by kernel_rfl) ?_
        refine VC_skip ?_
        refine VQ_block_normal ?_
        refine VQ_next ?_
        refine VC_region ?_
        refine VL_pure 1 [0, 2, 7, 8, 9, 10, 11, 12, 13, 14, 15, 16, 59, 17, 80] [(0, .slice (some ⟨sb2, so2, none⟩) n c), (2, .int .u8 id), (7, .slice A1 ((packT (vals l)).length) c1), (8, .int .i64 (packE (vals l))), (9, .slice A2 ((packT (vals l)).length) c2), (10, .int .i64 (packE (vals l))), (11, .slice Ai1 li1.length ci1), (12, .int .i64 (ieUE bt)), (13, .slice Ai2 li2.length ci2), (14, .int .i64 (ieUE bt)), (15, .pointer (some ⟨b2, 0, none⟩)), (16, .bool true), (59, .int .i64 ((n : Nat) : Int)), (17, .slice Aw mw cw), (80, .int .i64 (IntKind.wrap .i64 (((i : Nat) : Int) + 1)))] (by kernel_rfl) rfl ?_
        have he8 : IntKind.wrap .i64 (((i : Nat) : Int) + 1) = ((i + 1 : Nat) : Int) := (by rw [wrap_i64 _ (by omega) (by omega)]; omega)
        refine VL_eq [(0, .slice (some ⟨sb2, so2, none⟩) n c), (2, .int .u8 id), (7, .slice A1 ((packT (vals l)).length) c1), (8, .int .i64 (packE (vals l))), (9, .slice A2 ((packT (vals l)).length) c2), (10, .int .i64 (packE (vals l))), (11, .slice Ai1 li1.length ci1), (12, .int .i64 (ieUE bt)), (13, .slice Ai2 li2.length ci2), (14, .int .i64 (ieUE bt)), (15, .pointer (some ⟨b2, 0, none⟩)), (16, .bool true), (59, .int .i64 ((n : Nat) : Int)), (17, .slice Aw mw cw), (80, .int .i64 ((i + 1 : Nat) : Int))] (by rw [he8]) ?_
        refine VL_pure 2 [0, 2, 7, 8, 9, 10, 11, 12, 13, 14, 15, 16, 59, 17, 60] [(0, .slice (some ⟨sb2, so2, none⟩) n c), (2, .int .u8 id), (7, .slice A1 ((packT (vals l)).length) c1), (8, .int .i64 (packE (vals l))), (9, .slice A2 ((packT (vals l)).length) c2), (10, .int .i64 (packE (vals l))), (11, .slice Ai1 li1.length ci1), (12, .int .i64 (ieUE bt)), (13, .slice Ai2 li2.length ci2), (14, .int .i64 (ieUE bt)), (15, .pointer (some ⟨b2, 0, none⟩)), (16, .bool true), (59, .int .i64 ((n : Nat) : Int)), (17, .slice Aw mw cw), (60, .int .i64 ((i + 1 : Nat) : Int))] (by kernel_rfl) rfl ?_
        refine VL_end (by kernel_rfl) ?_
        refine VQ_again ⟨i + 1, lw, Aw, mw, cw⟩ ⟨rfl, rfl, rfl, rfl, rfl, rfl, rfl, rfl, rfl, rfl, rfl, rfl, rfl, rfl, rfl, trivial⟩ ?_ ?_
        · exact ⟨(by dsimp only; omega), hmw, (by dsimp only; first | exact want_T hx2 (by assumption) hlw (by omega) | exact want_F hx2 (.inl (by assumption)) hlw | exact want_F hx2 (.inr (by omega)) hlw), hS, hA, hD, hbase1, hr1, hbase2, hr2, hV1, hleli1, hV2, hleli2, hyS, ho4, hW⟩
        · (try dsimp only); omega
    · refine VC_exit ?_
      refine VQ_then_exit ?_
      refine VQ_then_exit ?_
      refine VQ_block_hit ?_
      refine VQ_next ?_
      refine VC_seq ?_
      obtain rfl : i = n := by omega
      rw [List.take_of_length_le (by omega), hF] at hlw
      obtain rfl : lw = [⟨yi, yA, yn, yc, yb⟩] := hlw
      obtain rfl : mw = 1 := hmw.symm
      refine VC_region ?_
      refine VL_pure 2 [8, 10, 11, 12, 13, 14, 15, 16, 17, 81, 82] [(8, .int .i64 (packE (vals l))), (10, .int .i64 (packE (vals l))), (11, .slice Ai1 li1.length ci1), (12, .int .i64 (ieUE bt)), (13, .slice Ai2 li2.length ci2), (14, .int .i64 (ieUE bt)), (15, .pointer (some ⟨b2, 0, none⟩)), (16, .bool true), (17, .slice Aw 1 cw), (81, .slice A1 ((packT (vals l)).length) c1), (82, .slice A2 ((packT (vals l)).length) c2)] (by kernel_rfl) rfl ?_
      have hzs12 := hS.size
      have hzl3 := ho4.lt
      refine VL_call (d := 83) (f := 14) (args := #[.slice A1 ((packT (vals l)).length) c1, .slice A2 ((packT (vals l)).length) c2]) (by kernel_rfl) (by kernel_rfl) (by kernel_rfl) Try.call14 (same_any A1 ((packT (vals l)).length) c1 _ (packT (vals l)) A2 ((packT (vals l)).length) c2 _ (packT (vals l)) _ (Rw.lenI hr1) (Rw.slI hr1) (Rw.lenI hr2) (Rw.slI hr2) (by omega) (by omega) (by first | exact Nat.le_refl _ | omega) (by first | exact Nat.le_refl _ | omega)) ?_
      rintro _ w16 ⟨rfl, hc10⟩
      replace hS := Step.trans hS hc10
      replace hA := hA.no hc10
      replace hD := hD.no hc10
      replace hbase1 := Nat.le_trans hbase1 (hc10).size
      replace hr1 := hr1.no hc10
      replace hbase2 := Nat.le_trans hbase2 (hc10).size
      replace hr2 := hr2.no hc10
      replace hV1 := hV1.no hc10
      replace hleli1 := Nat.le_trans hleli1 (hc10).size
      replace hV2 := hV2.no hc10
      replace hleli2 := Nat.le_trans hleli2 (hc10).size
      replace hyS := hyS.no hc10
      replace ho4 := ho4.no hc10
      replace hW := hW.no hc10
      refine VL_pure 4 [8, 10, 11, 12, 13, 14, 15, 16, 17, 84] [(8, .int .i64 (packE (vals l))), (10, .int .i64 (packE (vals l))), (11, .slice Ai1 li1.length ci1), (12, .int .i64 (ieUE bt)), (13, .slice Ai2 li2.length ci2), (14, .int .i64 (ieUE bt)), (15, .pointer (some ⟨b2, 0, none⟩)), (16, .bool true), (17, .slice Aw 1 cw), (84, .bool ((packT (vals l)) == (packT (vals l))))] (by kernel_rfl) rfl ?_
      refine VL_known ((packT (vals l)) == (packT (vals l))) (fun bV => [(8, .int .i64 (packE (vals l))), (10, .int .i64 (packE (vals l))), (11, .slice Ai1 li1.length ci1), (12, .int .i64 (ieUE bt)), (13, .slice Ai2 li2.length ci2), (14, .int .i64 (ieUE bt)), (15, .pointer (some ⟨b2, 0, none⟩)), (16, .bool true), (17, .slice Aw 1 cw), (84, .bool bV)]) true rfl (by simp) ?_
      refine VL_pure 9 [11, 12, 13, 14, 15, 16, 17, 89] [(11, .slice Ai1 li1.length ci1), (12, .int .i64 (ieUE bt)), (13, .slice Ai2 li2.length ci2), (14, .int .i64 (ieUE bt)), (15, .pointer (some ⟨b2, 0, none⟩)), (16, .bool true), (17, .slice Aw 1 cw), (89, .bool ((packE (vals l)) == (packE (vals l))))] (by kernel_rfl) rfl ?_
      refine VL_known ((packE (vals l)) == (packE (vals l))) (fun bV => [(11, .slice Ai1 li1.length ci1), (12, .int .i64 (ieUE bt)), (13, .slice Ai2 li2.length ci2), (14, .int .i64 (ieUE bt)), (15, .pointer (some ⟨b2, 0, none⟩)), (16, .bool true), (17, .slice Aw 1 cw), (89, .bool bV)]) true rfl (by simp) ?_
      refine VL_pure 11 [12, 14, 15, 16, 17, 89, 90, 91] [(12, .int .i64 (ieUE bt)), (14, .int .i64 (ieUE bt)), (15, .pointer (some ⟨b2, 0, none⟩)), (16, .bool true), (17, .slice Aw 1 cw), (89, .bool true), (90, .slice Ai1 li1.length ci1), (91, .slice Ai2 li2.length ci2)] (by kernel_rfl) rfl ?_
      have hzs13 := hS.size
      have hzl4 := ho4.lt
      refine VL_call (d := 92) (f := 13) (args := #[.slice Ai1 li1.length ci1, .slice Ai2 li2.length ci2]) (by kernel_rfl) (by kernel_rfl) (by kernel_rfl) Try.call13 (same15_any Ai1 li1.length ci1 w4.heap.size w5.heap.size li1 _ rfl hV1 Ai2 li2.length ci2 w5.heap.size w6.heap.size li2 rfl hV2   (by omega) (fun x hx => by have hq9 := hsmli1 x hx; omega) (fun x hx => by have hq9 := hsmli2 x hx; omega) (by first | exact Nat.le_refl _ | omega) (by first | exact Nat.le_refl _ | omega)) ?_
      rintro _ w17 ⟨rfl, hc11⟩
      replace hS := Step.trans hS hc11
      replace hA := hA.no hc11
      replace hD := hD.no hc11
      replace hbase1 := Nat.le_trans hbase1 (hc11).size
      replace hr1 := hr1.no hc11
      replace hbase2 := Nat.le_trans hbase2 (hc11).size
      replace hr2 := hr2.no hc11
      replace hV1 := hV1.no hc11
      replace hleli1 := Nat.le_trans hleli1 (hc11).size
      replace hV2 := hV2.no hc11
      replace hleli2 := Nat.le_trans hleli2 (hc11).size
      replace hyS := hyS.no hc11
      replace ho4 := ho4.no hc11
      replace hW := hW.no hc11
      refine VL_pure 14 [12, 14, 15, 16, 17, 94] [(12, .int .i64 (ieUE bt)), (14, .int .i64 (ieUE bt)), (15, .pointer (some ⟨b2, 0, none⟩)), (16, .bool true), (17, .slice Aw 1 cw), (94, .bool (vals li1 == vals li2))] (by kernel_rfl) rfl ?_
      refine VL_known (vals li1 == vals li2) (fun bV => [(12, .int .i64 (ieUE bt)), (14, .int .i64 (ieUE bt)), (15, .pointer (some ⟨b2, 0, none⟩)), (16, .bool true), (17, .slice Aw 1 cw), (94, .bool bV)]) true rfl (by rw [beq_iff_eq]; simp only [*]) ?_
      refine VL_pure 19 [15, 16, 17, 99] [(15, .pointer (some ⟨b2, 0, none⟩)), (16, .bool true), (17, .slice Aw 1 cw), (99, .bool ((ieUE bt) == (ieUE bt)))] (by kernel_rfl) rfl ?_
      refine VL_known ((ieUE bt) == (ieUE bt)) (fun bV => [(15, .pointer (some ⟨b2, 0, none⟩)), (16, .bool true), (17, .slice Aw 1 cw), (99, .bool bV)]) true rfl (by simp) ?_
      refine VL_pure 29 [15, 16, 17, 106, 109] [(15, .pointer (some ⟨b2, 0, none⟩)), (16, .bool true), (17, .slice Aw 1 cw), (106, .bool true), (109, .bool false)] (by kernel_rfl) rfl ?_
      refine VL_load (d := 110) (t := 40) (a := ⟨b2, 0, none⟩) (v := .agg #[.int .u8 yi, .slice yA yn yc]) (by kernel_rfl) (by kernel_rfl) (Loads.ownL ho4 (n := 2) (by kernel_rfl) (by kernel_rfl) (by kernel_rfl)) ?_
      have hzs14 := hS.size
      have hzk13 := hbase1
      have hzk14 := hbase2
      have hzk15 := hleli1
      have hzk16 := hleli2
      have hzl5 := ho4.lt
      refine VL_bs (d := 111) (e := 40) (c := #[.int .u8 yi, .slice yA yn yc]) (len := 1) (by kernel_rfl) (by kernel_rfl) ?_
      intro b3 w18 hn3
      replace hS := Step.trans hS (hn3.step No)
      replace hA := hA.no (hn3.step No)
      replace hD := hD.no (hn3.step No)
      replace hbase1 := Nat.le_trans hbase1 (hn3.step No).size
      replace hr1 := hr1.no (hn3.step No)
      replace hbase2 := Nat.le_trans hbase2 (hn3.step No).size
      replace hr2 := hr2.no (hn3.step No)
      replace hV1 := hV1.no (hn3.step No)
      replace hleli1 := Nat.le_trans hleli1 (hn3.step No).size
      replace hV2 := hV2.no (hn3.step No)
      replace hleli2 := Nat.le_trans hleli2 (hn3.step No).size
      replace hyS := hyS.no (hn3.step No)
      replace ho4 := ho4.no (hn3.step No)
      replace hW := hW.no (hn3.step No)
      have ho5 := hn3.own
      have hzhn3 := hn3.size
      have hqhn3 := hn3.eqb
      refine VL_pure 32 [15, 16, 106, 109, 111, 112] [(15, .pointer (some ⟨b2, 0, none⟩)), (16, .bool true), (106, .bool true), (109, .bool false), (111, .slice (some ⟨b3, 0, none⟩) 1 1), (112, .slice Aw 1 cw)] (by kernel_rfl) rfl ?_
      have hI3 : Ies w18 0 w18.heap.size (some ⟨b3, 0, none⟩) [⟨yi, yA, yn, yc, yb⟩] := ⟨Sl.sl2 (Own.sl ho5 ho5.lt), by intro x hx; simp only [List.mem_cons, List.mem_nil_iff, or_false] at hx; subst hx <;> first | exact ⟨hyn, by (try dsimp only); omega, Sl.sl2 (Sl.mono hyS (by first | exact Nat.le_refl _ | omega))⟩⟩
      have hzs15 := hS.size
      have hzl6 := ho4.lt
      have hzl7 := ho5.lt
      refine VL_call (d := 113) (f := 13) (args := #[.slice (some ⟨b3, 0, none⟩) 1 1, .slice Aw 1 cw]) (by kernel_rfl) (by kernel_rfl) (by kernel_rfl) Try.call13 (same15_any (some ⟨b3, 0, none⟩) 1 1 0 w18.heap.size ([⟨yi, yA, yn, yc, yb⟩]) _ rfl hI3 Aw 1 cw 0 w.heap.size ([⟨yi, yA, yn, yc, yb⟩]) rfl hW   (by omega) (by simp only [List.mem_cons, List.mem_nil_iff, or_false]; intro x hx; first | exact hx.elim | (subst hx; dsimp only; omega)) (by simp only [List.mem_cons, List.mem_nil_iff, or_false]; intro x hx; first | exact hx.elim | (subst hx; dsimp only; omega)) (by first | exact Nat.le_refl _ | omega) (by first | exact Nat.le_refl _ | omega)) ?_
      rintro _ w19 ⟨rfl, hc12⟩
      replace hS := Step.trans hS hc12
      replace hA := hA.no hc12
      replace hD := hD.no hc12
      replace hbase1 := Nat.le_trans hbase1 (hc12).size
      replace hr1 := hr1.no hc12
      replace hbase2 := Nat.le_trans hbase2 (hc12).size
      replace hr2 := hr2.no hc12
      replace hV1 := hV1.no hc12
      replace hleli1 := Nat.le_trans hleli1 (hc12).size
      replace hV2 := hV2.no hc12
      replace hleli2 := Nat.le_trans hleli2 (hc12).size
      replace hyS := hyS.no hc12
      replace ho4 := ho4.no hc12
      replace hW := hW.no hc12
      replace ho5 := ho5.no hc12
      refine VL_pure 36 [15, 16, 116] [(15, .pointer (some ⟨b2, 0, none⟩)), (16, .bool true), (116, .bool (vals ([⟨yi, yA, yn, yc, yb⟩]) == vals ([⟨yi, yA, yn, yc, yb⟩])))] (by kernel_rfl) rfl ?_
      refine VL_known (vals ([⟨yi, yA, yn, yc, yb⟩]) == vals ([⟨yi, yA, yn, yc, yb⟩])) (fun bV => [(15, .pointer (some ⟨b2, 0, none⟩)), (16, .bool true), (116, .bool bV)]) true rfl (by simp) ?_
      refine VL_pure 50 [6] [(6, .bool true)] (by kernel_rfl) rfl ?_
      refine VL_end (by kernel_rfl) ?_
      refine VQ_next ?_
      refine VC_ret ?_
      refine VQ_ret1 (.bool true) (.inr rfl) rfl rfl ?_
      exact ⟨by first | rfl | simp [*], hS⟩

set_option maxRecDepth 100000 in
set_option maxHeartbeats 4000000 in
theorem packs_o1 (A : Option Addr) (n c : Nat) (l : List IeV) (D : Option Addr) (nD cD : Nat) (bt : List Int) (id : Int) (w : World) (hn : l.length = n) (hA : Ies w 0 w.heap.size A l) (hc : n ≤ c) (hl : ∀ x ∈ l, IeB x) (hmx : n ≤ 9223372036854775807) (hnD : bt.length = nD) (hD : Sl w w.heap.size D (iL .u8 bt)) (hcD : nD ≤ cD) (hb : Bytes bt) (hf : fewB l = false)  :
    CV Try.prog 5 #[.slice A n c, .slice D nD cD, .int .u8 id] w (fun x w1 => x = .bool true ∧ Step No w w1) := by
  have hS : Step No w w := Step.refl _ _
  refine CV_enter Try.f5 _ 130 [(0, .slice A n c), (1, .slice D nD cD), (2, .int .u8 id)] Try.func5 rfl rfl (by kernel_rfl) rfl ?_
  refine VC_seq ?_
  refine VC_region ?_
  refine VL_pure 1 [0, 1, 2] [(0, .slice A n c), (1, .slice D nD cD), (2, .int .u8 id)] (by kernel_rfl) rfl ?_
  refine VL_end (by kernel_rfl) ?_
  refine VQ_next ?_
  refine VC_seq ?_
  refine VC_seq ?_
  refine VC_region ?_
  have hzs1 := hS.size
  refine VL_call (d := 19) (f := 9) (args := #[]) (by kernel_rfl) (by kernel_rfl) (by kernel_rfl) Try.call9 (awake_any _) ?_
  rintro _ w1 ⟨rfl, hc1⟩
  replace hS := Step.trans hS hc1
  replace hA := hA.no hc1
  replace hD := hD.no hc1
  refine VL_pure 4 [0, 1, 2, 21, 22] [(0, .slice A n c), (1, .slice D nD cD), (2, .int .u8 id), (21, .bool false), (22, .slice A n c)] (by kernel_rfl) rfl ?_
  have hzs2 := hS.size
  refine VL_call (d := 23) (f := 10) (args := #[.slice A n c]) (by kernel_rfl) (by kernel_rfl) (by kernel_rfl) Try.call10 (few_any A n c 0 w.heap.size l _ hn hA (by omega)) ?_
  rintro _ w2 ⟨rfl, hc2⟩
  replace hS := Step.trans hS hc2
  replace hA := hA.no hc2
  replace hD := hD.no hc2
  refine VL_pure 8 [0, 1, 2, 26] [(0, .slice A n c), (1, .slice D nD cD), (2, .int .u8 id), (26, .bool (!(fewB l)))] (by kernel_rfl) rfl ?_
  refine VL_known (fewB l) (fun bV => [(0, .slice A n c), (1, .slice D nD cD), (2, .int .u8 id), (26, .bool (!bV))]) false rfl hf ?_
  refine VL_pure 12 [0, 1, 2, 30] [(0, .slice A n c), (1, .slice D nD cD), (2, .int .u8 id), (30, .bool true)] (by kernel_rfl) rfl ?_
  refine VL_end (by kernel_rfl) ?_
  refine VQ_next ?_
  refine VC_true (by kernel_rfl) ?_
  refine VC_seq ?_
  refine VC_region ?_
  have hzs3 := hS.size
  refine VL_call (d := 31) (f := 9) (args := #[]) (by kernel_rfl) (by kernel_rfl) (by kernel_rfl) Try.call9 (awake_any _) ?_
  rintro _ w3 ⟨rfl, hc3⟩
  replace hS := Step.trans hS hc3
  replace hA := hA.no hc3
  replace hD := hD.no hc3
  refine VL_pure 2 [6] [(6, .bool true)] (by kernel_rfl) rfl ?_
  refine VL_end (by kernel_rfl) ?_
  refine VQ_next ?_
  refine VC_ret ?_
  refine VQ_then_ret ?_
  refine VQ_ret1 (.bool true) (.inr rfl) rfl rfl ?_
  exact ⟨by first | rfl | simp [*], hS⟩

set_option maxRecDepth 100000 in
set_option maxHeartbeats 4000000 in
theorem packs_o2 (A : Option Addr) (n c : Nat) (l : List IeV) (D : Option Addr) (nD cD : Nat) (bt : List Int) (id : Int) (w : World) (hn : l.length = n) (hA : Ies w 0 w.heap.size A l) (hc : n ≤ c) (hl : ∀ x ∈ l, IeB x) (hmx : n ≤ 9223372036854775807) (hnD : bt.length = nD) (hD : Sl w w.heap.size D (iL .u8 bt)) (hcD : nD ≤ cD) (hb : Bytes bt) (hf : fewB l = true) (hlonD : 601 ≤ nD) :
    CV Try.prog 5 #[.slice A n c, .slice D nD cD, .int .u8 id] w (fun x w1 => x = .bool true ∧ Step No w w1) := by
  have hS : Step No w w := Step.refl _ _
  obtain ⟨hsm, hn20⟩ := fewB_yes hf
  rw [hn] at hn20
  refine CV_enter Try.f5 _ 130 [(0, .slice A n c), (1, .slice D nD cD), (2, .int .u8 id)] Try.func5 rfl rfl (by kernel_rfl) rfl ?_
  refine VC_seq ?_
  refine VC_region ?_
  refine VL_pure 1 [0, 1, 2] [(0, .slice A n c), (1, .slice D nD cD), (2, .int .u8 id)] (by kernel_rfl) rfl ?_
  refine VL_end (by kernel_rfl) ?_
  refine VQ_next ?_
  refine VC_seq ?_
  refine VC_seq ?_
  refine VC_region ?_
  have hzs1 := hS.size
  refine VL_call (d := 19) (f := 9) (args := #[]) (by kernel_rfl) (by kernel_rfl) (by kernel_rfl) Try.call9 (awake_any _) ?_
  rintro _ w1 ⟨rfl, hc1⟩
  replace hS := Step.trans hS hc1
  replace hA := hA.no hc1
  replace hD := hD.no hc1
  refine VL_pure 4 [0, 1, 2, 21, 22] [(0, .slice A n c), (1, .slice D nD cD), (2, .int .u8 id), (21, .bool false), (22, .slice A n c)] (by kernel_rfl) rfl ?_
  have hzs2 := hS.size
  refine VL_call (d := 23) (f := 10) (args := #[.slice A n c]) (by kernel_rfl) (by kernel_rfl) (by kernel_rfl) Try.call10 (few_any A n c 0 w.heap.size l _ hn hA (by omega)) ?_
  rintro _ w2 ⟨rfl, hc2⟩
  replace hS := Step.trans hS hc2
  replace hA := hA.no hc2
  replace hD := hD.no hc2
  refine VL_pure 8 [0, 1, 2, 26] [(0, .slice A n c), (1, .slice D nD cD), (2, .int .u8 id), (26, .bool (!(fewB l)))] (by kernel_rfl) rfl ?_
  refine VL_known (fewB l) (fun bV => [(0, .slice A n c), (1, .slice D nD cD), (2, .int .u8 id), (26, .bool (!bV))]) true rfl hf ?_
  refine VL_pure 12 [0, 1, 2, 30] [(0, .slice A n c), (1, .slice D nD cD), (2, .int .u8 id), (30, .bool (decide (((nD : Nat) : Int) > 600)))] (by kernel_rfl) rfl ?_
  refine VL_end (by kernel_rfl) ?_
  refine VQ_next ?_
  refine VC_is (b := decide (((nD : Nat) : Int) > 600)) true (by kernel_rfl) (by first | (simp; omega) | (simp; done) | simp [*]) ?_
  refine VC_ite_true ?_
  refine VC_seq ?_
  refine VC_region ?_
  have hzs3 := hS.size
  refine VL_call (d := 31) (f := 9) (args := #[]) (by kernel_rfl) (by kernel_rfl) (by kernel_rfl) Try.call9 (awake_any _) ?_
  rintro _ w3 ⟨rfl, hc3⟩
  replace hS := Step.trans hS hc3
  replace hA := hA.no hc3
  replace hD := hD.no hc3
  refine VL_pure 2 [6] [(6, .bool true)] (by kernel_rfl) rfl ?_
  refine VL_end (by kernel_rfl) ?_
  refine VQ_next ?_
  refine VC_ret ?_
  refine VQ_then_ret ?_
  refine VQ_ret1 (.bool true) (.inr rfl) rfl rfl ?_
  exact ⟨by first | rfl | simp [*], hS⟩

end Go.Proofs.Ytpfggjaoinfegaa
