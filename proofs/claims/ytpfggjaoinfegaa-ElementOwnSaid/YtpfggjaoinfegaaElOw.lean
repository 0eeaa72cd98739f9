/- Layer 15: ElementOwn. -/
import Derived.Test.YtpfggjaoinfegaaProg
import Derived.Test.YtpfggjaoinfegaaEl4
import Derived.Test.YtpfggjaoinfegaaIe4
set_option linter.unusedVariables false
set_option linter.unusedSimpArgs false
namespace Go.Proofs.Ytpfggjaoinfegaa
open Go.Vc Go.RowKit

theorem both_un {l l' : List IeV} {n n' : Nat} (hn : l.length = n) (hn' : l'.length = n') (h1 : packE (vals l) = 0) (h2 : packE (vals l') = 0) (h : n + n' ≤ 16) : ieU [] (packT (vals l) ++ packT (vals l')) = (vals (l ++ l'), 0) := by
  rw [ie_both h1 h2, if_pos (by rw [vals_len, vals_len]; omega), vals_app]
theorem both_no {l l' : List IeV} {n n' : Nat} (hn : l.length = n) (hn' : l'.length = n') (h1 : packE (vals l) = 0) (h2 : packE (vals l') = 0) (h : ¬ n + n' ≤ 16) : ieU [] (packT (vals l) ++ packT (vals l')) = ([], 6) := by
  rw [ie_both h1 h2, if_neg (by rw [vals_len, vals_len]; omega)]
set_option maxRecDepth 100000 in
set_option maxHeartbeats 4000000 in
theorem own_yes (A : Option Addr) (n c : Nat) (l : List IeV) (A' : Option Addr) (n' c' : Nat) (l' : List IeV) (x : Int) (w : World) (hn : l.length = n) (hA : Ies w 0 w.heap.size A l) (hc : n ≤ c) (hl : ∀ x ∈ l, IeB x) (hmx : n ≤ 9223372036854775807) (hn' : l'.length = n') (hA' : Ies w 0 w.heap.size A' l') (hc' : n' ≤ c') (hl' : ∀ x ∈ l', IeB x) (hmx' : n' ≤ 9223372036854775807) (hf : fewB l = true) (hf' : fewB l' = true)  :
    CV Try.prog 4 #[.slice A n c, .slice A' n' c', .int .u8 x] w (fun x w1 => x = .bool true ∧ Step No w w1) := by
  have hS : Step No w w := Step.refl _ _
  obtain ⟨hsm, hn20⟩ := fewB_yes hf
  rw [hn] at hn20
  obtain ⟨hsm', hn20'⟩ := fewB_yes hf'
  rw [hn'] at hn20'
  refine CV_enter Try.f4 _ 91 [(0, .slice A n c), (1, .slice A' n' c'), (2, .int .u8 x)] Try.func4 rfl rfl (by kernel_rfl) rfl ?_
  refine VC_seq ?_
  refine VC_region ?_
  refine VL_pure 1 [0, 1, 2] [(0, .slice A n c), (1, .slice A' n' c'), (2, .int .u8 x)] (by kernel_rfl) rfl ?_
  refine VL_end (by kernel_rfl) ?_
  refine VQ_next ?_
  refine VC_seq ?_
  refine VC_seq ?_
  refine VC_region ?_
  have hzs1 := hS.size
  refine VL_call (d := 15) (f := 9) (args := #[]) (by kernel_rfl) (by kernel_rfl) (by kernel_rfl) Try.call9 (awake_any _) ?_
  rintro _ w1 ⟨rfl, hc1⟩
  replace hS := Step.trans hS hc1
  replace hA := hA.no hc1
  replace hA' := hA'.no hc1
  refine VL_pure 4 [0, 1, 2, 17, 18] [(0, .slice A n c), (1, .slice A' n' c'), (2, .int .u8 x), (17, .bool false), (18, .slice A n c)] (by kernel_rfl) rfl ?_
  have hzs2 := hS.size
  refine VL_call (d := 19) (f := 10) (args := #[.slice A n c]) (by kernel_rfl) (by kernel_rfl) (by kernel_rfl) Try.call10 (few_any A n c 0 w.heap.size l _ hn hA (by omega)) ?_
  rintro _ w2 ⟨rfl, hc2⟩
  replace hS := Step.trans hS hc2
  replace hA := hA.no hc2
  replace hA' := hA'.no hc2
  refine VL_pure 8 [0, 1, 2, 22] [(0, .slice A n c), (1, .slice A' n' c'), (2, .int .u8 x), (22, .bool (!(fewB l)))] (by kernel_rfl) rfl ?_
  refine VL_known (fewB l) (fun bV => [(0, .slice A n c), (1, .slice A' n' c'), (2, .int .u8 x), (22, .bool (!bV))]) true rfl hf ?_
  refine VL_pure 9 [0, 1, 2, 22, 23] [(0, .slice A n c), (1, .slice A' n' c'), (2, .int .u8 x), (22, .bool false), (23, .slice A' n' c')] (by kernel_rfl) rfl ?_
  have hzs3 := hS.size
  refine VL_call (d := 24) (f := 10) (args := #[.slice A' n' c']) (by kernel_rfl) (by kernel_rfl) (by kernel_rfl) Try.call10 (few_any A' n' c' 0 w.heap.size l' _ hn' hA' (by omega)) ?_
  rintro _ w3 ⟨rfl, hc3⟩
  replace hS := Step.trans hS hc3
  replace hA := hA.no hc3
  replace hA' := hA'.no hc3
  refine VL_pure 12 [0, 1, 2, 26] [(0, .slice A n c), (1, .slice A' n' c'), (2, .int .u8 x), (26, .bool (!(fewB l')))] (by kernel_rfl) rfl ?_
  refine VL_end (by kernel_rfl) ?_
  refine VQ_next ?_
  refine VC_is (b := !(fewB l')) false (by kernel_rfl) (by rw [show (fewB l') = true from hf']; rfl) ?_
  refine VC_ite_false ?_
  refine VC_skip ?_
  refine VQ_next ?_
  refine VC_seq ?_
  refine VC_region ?_
  refine VL_pure 1 [0, 1, 2, 29] [(0, .slice A n c), (1, .slice A' n' c'), (2, .int .u8 x), (29, .slice A n c)] (by kernel_rfl) rfl ?_
  have hzs4 := hS.size
  refine VL_call (d := 30) (f := 11) (by kernel_rfl) (by kernel_rfl) (by kernel_rfl) Try.call11 (pack_any A n c 0 w.heap.size l _ hn hA (by omega) (by first | exact Nat.le_refl _ | omega)) ?_
  rintro _ w4 ⟨A1, c1, rfl, hr1, hc4⟩
  replace hS := Step.trans hS hc4
  replace hA := hA.no hc4
  replace hA' := hA'.no hc4
  obtain ⟨base1, hbase1E⟩ : ∃ x, x = w3.heap.size := ⟨_, rfl⟩
  rw [← hbase1E] at hr1
  have hbase1 : base1 ≤ w4.heap.size := by rw [hbase1E]; exact hc4.size
  have hplq1 := packT_le (vals l)
  refine VL_pure 7 [0, 1, 2, 7, 8] [(0, .slice A n c), (1, .slice A' n' c'), (2, .int .u8 x), (7, .slice A1 ((packT (vals l)).length) c1), (8, .int .i64 (packE (vals l)))] (by kernel_rfl) rfl ?_
  refine VL_end (by kernel_rfl) ?_
  refine VQ_next ?_
  refine VC_seq ?_
  refine VC_region ?_
  refine VL_pure 1 [0, 1, 2, 7, 8, 34] [(0, .slice A n c), (1, .slice A' n' c'), (2, .int .u8 x), (7, .slice A1 ((packT (vals l)).length) c1), (8, .int .i64 (packE (vals l))), (34, .slice A' n' c')] (by kernel_rfl) rfl ?_
  have hzs5 := hS.size
  refine VL_call (d := 35) (f := 11) (by kernel_rfl) (by kernel_rfl) (by kernel_rfl) Try.call11 (pack_any A' n' c' 0 w.heap.size l' _ hn' hA' (by omega) (by first | exact Nat.le_refl _ | omega)) ?_
  rintro _ w5 ⟨A2, c2, rfl, hr2, hc5⟩
  replace hS := Step.trans hS hc5
  replace hA := hA.no hc5
  replace hA' := hA'.no hc5
  replace hbase1 := Nat.le_trans hbase1 (hc5).size
  replace hr1 := hr1.no hc5
  obtain ⟨base2, hbase2E⟩ : ∃ x, x = w4.heap.size := ⟨_, rfl⟩
  rw [← hbase2E] at hr2
  have hbase2 : base2 ≤ w5.heap.size := by rw [hbase2E]; exact hc5.size
  have hplq2 := packT_le (vals l')
  refine VL_pure 7 [0, 1, 2, 7, 8, 9, 10] [(0, .slice A n c), (1, .slice A' n' c'), (2, .int .u8 x), (7, .slice A1 ((packT (vals l)).length) c1), (8, .int .i64 (packE (vals l))), (9, .slice A2 ((packT (vals l')).length) c2), (10, .int .i64 (packE (vals l')))] (by kernel_rfl) rfl ?_
  refine VL_end (by kernel_rfl) ?_
  refine VQ_next ?_
  refine VC_seq ?_
  refine VC_seq ?_
  refine VC_region ?_
  refine VL_pure 3 [0, 1, 2, 7, 9, 10, 40] [(0, .slice A n c), (1, .slice A' n' c'), (2, .int .u8 x), (7, .slice A1 ((packT (vals l)).length) c1), (9, .slice A2 ((packT (vals l')).length) c2), (10, .int .i64 (packE (vals l'))), (40, .bool ((packE (vals l)) != 0))] (by kernel_rfl) rfl ?_
  refine VL_bne (packE (vals l)) 0 (fun bV => [(0, .slice A n c), (1, .slice A' n' c'), (2, .int .u8 x), (7, .slice A1 ((packT (vals l)).length) c1), (9, .slice A2 ((packT (vals l')).length) c2), (10, .int .i64 (packE (vals l'))), (40, .bool bV)]) rfl (fun hg1 => ?_) (fun hg1 => ?_)
  · refine VL_pure 6 [0, 1, 2, 7, 9, 43] [(0, .slice A n c), (1, .slice A' n' c'), (2, .int .u8 x), (7, .slice A1 ((packT (vals l)).length) c1), (9, .slice A2 ((packT (vals l')).length) c2), (43, .bool true)] (by kernel_rfl) rfl ?_
    refine VL_end (by kernel_rfl) ?_
    refine VQ_next ?_
    refine VC_true (by kernel_rfl) ?_
    refine VC_seq ?_
    refine VC_region ?_
    refine VL_pure 1 [6] [(6, .bool true)] (by kernel_rfl) rfl ?_
    refine VL_end (by kernel_rfl) ?_
    refine VQ_next ?_
    refine VC_ret ?_
    refine VQ_then_ret ?_
    refine VQ_ret1 (.bool true) (.inr rfl) rfl rfl ?_
    exact ⟨rfl, hS⟩
  · refine VL_pure 6 [0, 1, 2, 7, 9, 43] [(0, .slice A n c), (1, .slice A' n' c'), (2, .int .u8 x), (7, .slice A1 ((packT (vals l)).length) c1), (9, .slice A2 ((packT (vals l')).length) c2), (43, .bool ((packE (vals l')) != 0))] (by kernel_rfl) rfl ?_
    refine VL_end (by kernel_rfl) ?_
    refine VQ_next ?_
    refine VC_ne (packE (vals l')) 0 (by kernel_rfl) (fun h1 => ?_) (fun h1 => ?_)
    · refine VC_seq ?_
      refine VC_region ?_
      refine VL_pure 1 [6] [(6, .bool true)] (by kernel_rfl) rfl ?_
      refine VL_end (by kernel_rfl) ?_
      refine VQ_next ?_
      refine VC_ret ?_
      refine VQ_then_ret ?_
      refine VQ_ret1 (.bool true) (.inr rfl) rfl rfl ?_
      exact ⟨rfl, hS⟩
    · refine VC_skip ?_
      refine VQ_next ?_
      refine VC_seq ?_
      refine VC_region ?_
      have hzs6 := hS.size
      have hzk1 := hbase1
      have hzk2 := hbase2
      have hub1 := hr1.ub
      have hub2 := hr2.ub
      refine VL_bs (d := 44) (e := 5) (c := #[]) (len := 0) (by kernel_rfl) (by kernel_rfl) ?_
      intro b1 w6 hn1
      replace hS := Step.trans hS (hn1.step No)
      replace hA := hA.no (hn1.step No)
      replace hA' := hA'.no (hn1.step No)
      replace hbase1 := Nat.le_trans hbase1 (hn1.step No).size
      replace hr1 := hr1.no (hn1.step No)
      replace hbase2 := Nat.le_trans hbase2 (hn1.step No).size
      replace hr2 := hr2.no (hn1.step No)
      have ho1 := hn1.own
      have hzhn1 := hn1.size
      have hqhn1 := hn1.eqb
      refine VL_pure 2 [0, 1, 2, 9, 44, 45] [(0, .slice A n c), (1, .slice A' n' c'), (2, .int .u8 x), (9, .slice A2 ((packT (vals l')).length) c2), (44, .slice (some ⟨b1, 0, none⟩) 0 0), (45, .slice A1 ((packT (vals l)).length) c1)] (by kernel_rfl) rfl ?_
      have hzs7 := hS.size
      have hzk3 := hbase1
      have hzk4 := hbase2
      have hzl1 := ho1.lt
      have hbase3 := Nat.le_of_lt ho1.lt
      refine VL_appendT (d := 46) (e := 5) (A := (some ⟨b1, 0, none⟩)) (m := 0) (c := 0) (A2 := A1) (m2 := ((packT (vals l)).length)) (c2 := c1) (bytes := 1) (by kernel_rfl) (by kernel_rfl) (by kernel_rfl) b1 w6.heap.size (iL .u8 ([])) (iL .u8 (packT (vals l))) (Rw.of_new ho1 (Nat.le_refl _) (Nat.le_of_ble_eq_true (by kernel_rfl))) (by rw [iL_length]; first | done | exact (Rw.lenI hr1)) (Sl.mono (Rw.slI hr1) (by first | exact Nat.le_refl _ | omega)) iL_one ((packT (vals l)).length) (by omega) (by simp only [maxLen]; omega) (by omega) (by omega) ?_
      intro A3 c3 w7 hr3 hg2
      replace hr3 : Rw w7 b1 5 A3 ((packT (vals l)).length) c3 (iL .u8 (packT (vals l))) := Rw.cast hr3 rfl (by simp only [iL, List.map_append, List.map_cons, List.map_nil, List.append_assoc, List.cons_append, List.nil_append, List.append_nil])
      have hzhg2 := hg2.size
      have hg2S : Step (fun k => b1 ≤ k) _ _ := Step.mono hg2 (fun i hi => hi.1)
      replace hS := Step.transNew hS hg2S (fun i hi hG => by (try simp only at hG); omega)
      replace hA := hA.step hg2S (fun k hk1 hk2 hG => by (try simp only at hG); omega)
      replace hA' := hA'.step hg2S (fun k hk1 hk2 hG => by (try simp only at hG); omega)
      replace hbase1 := Nat.le_trans hbase1 (hg2S).size
      replace hr1 := hr1.stepU hub1 hg2S (fun k hk hk2 hG => by (try simp only at hG); omega)
      replace hbase2 := Nat.le_trans hbase2 (hg2S).size
      replace hr2 := hr2.stepU hub2 hg2S (fun k hk hk2 hG => by (try simp only at hG); omega)
      replace hbase3 := Nat.le_trans hbase3 (hg2S).size
      refine VL_pure 4 [0, 1, 2, 46, 47] [(0, .slice A n c), (1, .slice A' n' c'), (2, .int .u8 x), (46, .slice A3 ((packT (vals l)).length) c3), (47, .slice A2 ((packT (vals l')).length) c2)] (by kernel_rfl) rfl ?_
      have hzs8 := hS.size
      have hzk5 := hbase1
      have hzk6 := hbase2
      have hzk7 := hbase3
      refine VL_appendT (d := 48) (e := 5) (A := A3) (m := ((packT (vals l)).length)) (c := c3) (A2 := A2) (m2 := ((packT (vals l')).length)) (c2 := c2) (bytes := 1) (by kernel_rfl) (by kernel_rfl) (by kernel_rfl) b1 w7.heap.size (iL .u8 (packT (vals l))) (iL .u8 (packT (vals l'))) hr3 (by rw [iL_length]; first | done | exact (Rw.lenI hr2)) (Sl.mono (Rw.slI hr2) (by first | exact Nat.le_refl _ | omega)) iL_one ((packT (vals l)).length + ((packT (vals l')).length)) (by omega) (by simp only [maxLen]; omega) (by omega) (by omega) ?_
      intro A4 c4 w8 hr4 hg3
      replace hr4 : Rw w8 b1 5 A4 ((packT (vals l)).length + ((packT (vals l')).length)) c4 (iL .u8 ((packT (vals l)) ++ (packT (vals l')))) := Rw.cast hr4 rfl (by simp only [iL, List.map_append, List.map_cons, List.map_nil, List.append_assoc, List.cons_append, List.nil_append, List.append_nil])
      have hzhg3 := hg3.size
      have hg3S : Step (fun k => b1 ≤ k) _ _ := Step.mono hg3 (fun i hi => hi.1)
      replace hS := Step.transNew hS hg3S (fun i hi hG => by (try simp only at hG); omega)
      replace hA := hA.step hg3S (fun k hk1 hk2 hG => by (try simp only at hG); omega)
      replace hA' := hA'.step hg3S (fun k hk1 hk2 hG => by (try simp only at hG); omega)
      replace hbase1 := Nat.le_trans hbase1 (hg3S).size
      replace hr1 := hr1.stepU hub1 hg3S (fun k hk hk2 hG => by (try simp only at hG); omega)
      replace hbase2 := Nat.le_trans hbase2 (hg3S).size
      replace hr2 := hr2.stepU hub2 hg3S (fun k hk hk2 hG => by (try simp only at hG); omega)
      replace hbase3 := Nat.le_trans hbase3 (hg3S).size
      refine VL_pure 6 [0, 1, 2, 11] [(0, .slice A n c), (1, .slice A' n' c'), (2, .int .u8 x), (11, .slice A4 ((packT (vals l)).length + ((packT (vals l')).length)) c4)] (by kernel_rfl) rfl ?_
      refine VL_end (by kernel_rfl) ?_
      refine VQ_next ?_
      refine VC_seq ?_
      have hub3 := hr4.ub
      refine VC_region ?_
      refine VL_pure 1 [0, 1, 2, 11, 50] [(0, .slice A n c), (1, .slice A' n' c'), (2, .int .u8 x), (11, .slice A4 ((packT (vals l)).length + ((packT (vals l')).length)) c4), (50, .slice A4 ((packT (vals l)).length + ((packT (vals l')).length)) c4)] (by kernel_rfl) rfl ?_
      have hzs9 := hS.size
      refine VL_call (d := 51) (f := 12) (by kernel_rfl) (by kernel_rfl) (by kernel_rfl) Try.call12 (unpack_any A4 ((packT (vals l)).length + ((packT (vals l')).length)) c4 _ ((packT (vals l)) ++ (packT (vals l'))) _ (Rw.lenI hr4) (Rw.slI hr4) (by have hq9 := Rw.cap hr4; omega) ((packT_bytes hl).app (packT_bytes hl')) (by omega) (by first | exact Nat.le_refl _ | omega)) ?_
      rintro _ w9 ⟨Ai1, ci1, li1, rfl, hv1, hI1, hc6⟩
      replace hS := Step.trans hS hc6
      replace hA := hA.no hc6
      replace hA' := hA'.no hc6
      replace hbase1 := Nat.le_trans hbase1 (hc6).size
      replace hr1 := hr1.no hc6
      replace hbase2 := Nat.le_trans hbase2 (hc6).size
      replace hr2 := hr2.no hc6
      replace hbase3 := Nat.le_trans hbase3 (hc6).size
      replace hr4 := hr4.no hc6
      have hleli1 : w9.heap.size ≤ w9.heap.size := Nat.le_refl _
      have hV1 := Ier.ies hI1
      have hcntli1 : li1.length ≤ 16 := by have hq9 := ieU_count ((packT (vals l)) ++ (packT (vals l'))) [] (by simp); rw [← vals_len, hv1]; exact hq9
      have hcali1 : li1.length ≤ ci1 := RwS.cap hI1.row
      have hibli1 : ∀ x ∈ li1, IeB x := un_ieb hv1 ((packT_bytes hl).app (packT_bytes hl'))
      have hsmli1 : ∀ x ∈ li1, x.n ≤ 200 := un_small hV1 hv1 ((packT_bytes hl).app (packT_bytes hl'))
      refine VL_pure 7 [0, 1, 2, 11, 12, 13] [(0, .slice A n c), (1, .slice A' n' c'), (2, .int .u8 x), (11, .slice A4 ((packT (vals l)).length + ((packT (vals l')).length)) c4), (12, .slice Ai1 li1.length ci1), (13, .int .i64 (ieUE ((packT (vals l)) ++ (packT (vals l')))))] (by kernel_rfl) rfl ?_
      refine VL_end (by kernel_rfl) ?_
      refine VQ_next ?_
      refine VC_seq ?_
      refine VC_seq ?_
      refine VC_region ?_
      refine VL_pure 5 [0, 1, 2, 11, 12, 13, 58] [(0, .slice A n c), (1, .slice A' n' c'), (2, .int .u8 x), (11, .slice A4 ((packT (vals l)).length + ((packT (vals l')).length)) c4), (12, .slice Ai1 li1.length ci1), (13, .int .i64 (ieUE ((packT (vals l)) ++ (packT (vals l'))))), (58, .int .i64 (IntKind.wrap .i64 (((n : Nat) : Int) + ((n' : Nat) : Int))))] (by kernel_rfl) rfl ?_
      have he1 : IntKind.wrap .i64 (((n : Nat) : Int) + ((n' : Nat) : Int)) = ((n + n' : Nat) : Int) := (by rw [wrap_i64 _ (by omega) (by omega)]; omega)
      refine VL_eq [(0, .slice A n c), (1, .slice A' n' c'), (2, .int .u8 x), (11, .slice A4 ((packT (vals l)).length + ((packT (vals l')).length)) c4), (12, .slice Ai1 li1.length ci1), (13, .int .i64 (ieUE ((packT (vals l)) ++ (packT (vals l'))))), (58, .int .i64 ((n + n' : Nat) : Int))] (by rw [he1]) ?_
      refine VL_pure 6 [0, 1, 2, 11, 12, 13, 59] [(0, .slice A n c), (1, .slice A' n' c'), (2, .int .u8 x), (11, .slice A4 ((packT (vals l)).length + ((packT (vals l')).length)) c4), (12, .slice Ai1 li1.length ci1), (13, .int .i64 (ieUE ((packT (vals l)) ++ (packT (vals l'))))), (59, .bool (decide (((n + n' : Nat) : Int) > 16)))] (by kernel_rfl) rfl ?_
      refine VL_end (by kernel_rfl) ?_
      refine VQ_next ?_
      refine VC_dec (((n + n' : Nat) : Int) > 16) (by kernel_rfl) (fun h2 => ?_) (fun h2 => ?_)
      · refine VC_seq ?_
        refine VC_region ?_
        refine VL_pure 3 [12, 62] [(12, .slice Ai1 li1.length ci1), (62, .bool ((ieUE ((packT (vals l)) ++ (packT (vals l')))) == 6))] (by kernel_rfl) rfl ?_
        refine VL_known ((ieUE ((packT (vals l)) ++ (packT (vals l')))) == 6) (fun bV => [(12, .slice Ai1 li1.length ci1), (62, .bool bV)]) true rfl (by first | rw [show ieUE ((packT (vals l)) ++ (packT (vals l'))) = 0 from congrArg Prod.snd (both_un hn hn' (by assumption) (by assumption) (by omega))]; rfl | rw [show ieUE ((packT (vals l)) ++ (packT (vals l'))) = 6 from congrArg Prod.snd (both_no hn hn' (by assumption) (by assumption) (by omega))]; rfl) ?_
        refine VL_pure 8 [6] [(6, .bool (((li1.length : Nat) : Int) == 0))] (by kernel_rfl) rfl ?_
        refine VL_end (by kernel_rfl) ?_
        refine VQ_next ?_
        refine VC_ret ?_
        refine VQ_then_ret ?_
        refine VQ_ret1 (.bool (((li1.length : Nat) : Int) == 0)) (.inr rfl) rfl rfl ?_
        exact ⟨congrArg Value.bool (by rw [beq_iff_eq]; have hq9 := congrArg List.length hv1; rw [vals_len, show ieUL _ = _ from congrArg Prod.fst (both_no hn hn' (by assumption) (by assumption) (by omega))] at hq9; have hq8 : _ = 0 := hq9; omega), hS⟩
      · refine VC_skip ?_
        refine VQ_next ?_
        refine VC_seq ?_
        refine VC_seq ?_
        refine VC_region ?_
        refine VL_pure 3 [0, 1, 2, 11, 12, 13, 68, 69] [(0, .slice A n c), (1, .slice A' n' c'), (2, .int .u8 x), (11, .slice A4 ((packT (vals l)).length + ((packT (vals l')).length)) c4), (12, .slice Ai1 li1.length ci1), (13, .int .i64 (ieUE ((packT (vals l)) ++ (packT (vals l'))))), (68, .int .i64 (((packT (vals l)).length + ((packT (vals l')).length) : Nat) : Int)), (69, .int .i64 0)] (by kernel_rfl) rfl ?_
        refine VL_end (by kernel_rfl) ?_
        refine VQ_next ?_
        refine VC_block ?_
        refine VC_loop (σ := Nat × (List Int) × (Option Addr) × Nat) (fun σs => [(0, .slice A n c), (1, .slice A' n' c'), (2, .int .u8 x), (11, .slice σs.2.2.1 ((packT (vals l)).length + ((packT (vals l')).length)) σs.2.2.2), (12, .slice Ai1 li1.length ci1), (13, .int .i64 (ieUE ((packT (vals l)) ++ (packT (vals l'))))), (68, .int .i64 (((packT (vals l)).length + ((packT (vals l')).length) : Nat) : Int)), (69, .int .i64 ((σs.1 : Nat) : Int))]) (fun σs w10 => (σs.1 ≤ (packT (vals l)).length + ((packT (vals l')).length)) ∧ (UbA σs.2.2.1 w8.heap.size) ∧ (Step No w w10) ∧ (Ies w10 0 w.heap.size A l) ∧ (Ies w10 0 w.heap.size A' l') ∧ (base1 ≤ w10.heap.size) ∧ (base2 ≤ w10.heap.size) ∧ (b1 ≤ w10.heap.size) ∧ (Ies w10 w8.heap.size w9.heap.size Ai1 li1) ∧ ((w9.heap.size) ≤ w10.heap.size) ∧ (Rw w10 b1 5 σs.2.2.1 ((packT (vals l)).length + ((packT (vals l')).length)) σs.2.2.2 (iL .u8 σs.2.1))) (fun σs w10 => (packT (vals l)).length + ((packT (vals l')).length) - σs.1) ⟨0, (packT (vals l)) ++ (packT (vals l')), A4, c4⟩ ⟨rfl, rfl, rfl, rfl, rfl, rfl, rfl, rfl, trivial⟩ ?_ ?_
        · exact ⟨(Nat.zero_le _), hub3, hS, hA, hA', hbase1, hbase2, hbase3, hV1, hleli1, (Rw.cast hr4 rfl rfl)⟩
        rintro ⟨i, ys, Ab, c5⟩ w10 ⟨hi, hub9, hS, hA, hA', hbase1, hbase2, hbase3, hV1, hleli1, hr5⟩
        try dsimp only at hi hub9 hS hA hA' hbase1 hbase2 hbase3 hV1 hleli1 hr5 ⊢
        refine VC_seq ?_
        refine VC_region ?_
        refine VL_pure 1 [0, 1, 2, 11, 12, 13, 68, 69, 70] [(0, .slice A n c), (1, .slice A' n' c'), (2, .int .u8 x), (11, .slice Ab ((packT (vals l)).length + ((packT (vals l')).length)) c5), (12, .slice Ai1 li1.length ci1), (13, .int .i64 (ieUE ((packT (vals l)) ++ (packT (vals l'))))), (68, .int .i64 (((packT (vals l)).length + ((packT (vals l')).length) : Nat) : Int)), (69, .int .i64 ((i : Nat) : Int)), (70, .bool (decide (((i : Nat) : Int) < (((packT (vals l)).length + ((packT (vals l')).length) : Nat) : Int))))] (by kernel_rfl) rfl ?_
        refine VL_end (by kernel_rfl) ?_
        refine VQ_next ?_
        refine VC_seq ?_
        refine VC_dec (((i : Nat) : Int) < (((packT (vals l)).length + ((packT (vals l')).length) : Nat) : Int)) (by kernel_rfl) (fun h3 => ?_) (fun h3 => ?_)
        · refine VC_skip ?_
          refine VQ_next ?_
          refine VC_seq ?_
          refine VC_block ?_
          refine VC_seq ?_
          refine VC_region ?_
          refine VL_pure 2 [0, 1, 2, 11, 12, 13, 68, 69, 14] [(0, .slice A n c), (1, .slice A' n' c'), (2, .int .u8 x), (11, .slice Ab ((packT (vals l)).length + ((packT (vals l')).length)) c5), (12, .slice Ai1 li1.length ci1), (13, .int .i64 (ieUE ((packT (vals l)) ++ (packT (vals l'))))), (68, .int .i64 (((packT (vals l)).length + ((packT (vals l')).length) : Nat) : Int)), (69, .int .i64 ((i : Nat) : Int)), (14, .int .i64 ((i : Nat) : Int))] (by kernel_rfl) rfl ?_
          refine VL_end (by kernel_rfl) ?_
          refine VQ_next ?_
          refine VC_region ?_
          refine VL_pure 2 [0, 1, 2, 11, 12, 13, 68, 69, 72, 73] [(0, .slice A n c), (1, .slice A' n' c'), (2, .int .u8 x), (11, .slice Ab ((packT (vals l)).length + ((packT (vals l')).length)) c5), (12, .slice Ai1 li1.length ci1), (13, .int .i64 (ieUE ((packT (vals l)) ++ (packT (vals l'))))), (68, .int .i64 (((packT (vals l)).length + ((packT (vals l')).length) : Nat) : Int)), (69, .int .i64 ((i : Nat) : Int)), (72, .slice Ab ((packT (vals l)).length + ((packT (vals l')).length)) c5), (73, .int .i64 ((i : Nat) : Int))] (by kernel_rfl) rfl ?_
          obtain ⟨g1, cur1, rfl, hgbg1, hglg1, -⟩ := hr5.open (by omega)
          refine VL_index (d := 74) (b := g1) (o := 0) (len := ((packT (vals l)).length + ((packT (vals l')).length))) (sz := 1) (m := ((i : Nat) : Int)) (by kernel_rfl) (by kernel_rfl) i (by rfl) (by omega) i (by omega) ?_
          refine VL_load (d := 75) (t := 5) (a := ⟨g1, i, none⟩) (v := .int .u8 (ys.getD i 0)) (by kernel_rfl) (by kernel_rfl) (Rw.ldI hr5 (by kernel_rfl) (by omega)) ?_
          refine VL_pure 6 [0, 1, 2, 11, 12, 13, 68, 69, 72, 73, 77] [(0, .slice A n c), (1, .slice A' n' c'), (2, .int .u8 x), (11, .slice (some ⟨g1, 0, none⟩) ((packT (vals l)).length + ((packT (vals l')).length)) c5), (12, .slice Ai1 li1.length ci1), (13, .int .i64 (ieUE ((packT (vals l)) ++ (packT (vals l'))))), (68, .int .i64 (((packT (vals l)).length + ((packT (vals l')).length) : Nat) : Int)), (69, .int .i64 ((i : Nat) : Int)), (72, .slice (some ⟨g1, 0, none⟩) ((packT (vals l)).length + ((packT (vals l')).length)) c5), (73, .int .i64 ((i : Nat) : Int)), (77, .int .u8 (bXor .u8 (ys.getD i 0) x))] (by kernel_rfl) rfl ?_
          refine VL_index (d := 78) (b := g1) (o := 0) (len := ((packT (vals l)).length + ((packT (vals l')).length))) (sz := 1) (m := ((i : Nat) : Int)) (by kernel_rfl) (by kernel_rfl) i (by rfl) (by omega) i (by omega) ?_
          have hgb9 : g1 < w8.heap.size := hub9 g1 ⟨_, rfl, rfl⟩
          obtain ⟨cur2, hgbcur2, hglcur2, howcur2, hcscur2, hcncur2, hcmcur2, hctcur2⟩ := hr5.openG
          refine VL_store (b := g1) (o := i) (vs := [.int .u8 (bXor .u8 (ys.getD i 0) x)]) (by kernel_rfl) (by kernel_rfl) howcur2 (by simp only [List.length_singleton]; omega) ?_
          intro w11 hw1
          replace hS := Step.transNew hS hw1.step (fun _ _ _ => by omega)
          replace hA := hA.step hw1.step (fun k hk1 hk2 (hF : k = g1) => by omega)
          replace hA' := hA'.step hw1.step (fun k hk1 hk2 (hF : k = g1) => by omega)
          replace hbase1 := Nat.le_trans hbase1 (hw1.step).size
          replace hbase2 := Nat.le_trans hbase2 (hw1.step).size
          replace hbase3 := Nat.le_trans hbase3 (hw1.step).size
          replace hV1 := hV1.step hw1.step (fun k hk1 hk2 (hF : k = g1) => by omega)
          replace hleli1 := Nat.le_trans hleli1 (hw1.step).size
          replace hglg1 := Nat.lt_of_lt_of_le hglg1 (hw1.step).size
          have ho2 := Rw.putI hctcur2 hw1 hgbcur2 hcscur2 hcncur2 hcmcur2 (j := i) (by omega)
          have hzhw1 := hw1.same
          refine VL_end (by kernel_rfl) ?_
          refine VQ_block_normal ?_
          refine VQ_next ?_
          refine VC_region ?_
          refine VL_pure 1 [0, 1, 2, 11, 12, 13, 68, 79] [(0, .slice A n c), (1, .slice A' n' c'), (2, .int .u8 x), (11, .slice (some ⟨g1, 0, none⟩) ((packT (vals l)).length + ((packT (vals l')).length)) c5), (12, .slice Ai1 li1.length ci1), (13, .int .i64 (ieUE ((packT (vals l)) ++ (packT (vals l'))))), (68, .int .i64 (((packT (vals l)).length + ((packT (vals l')).length) : Nat) : Int)), (79, .int .i64 (IntKind.wrap .i64 (((i : Nat) : Int) + 1)))] (by kernel_rfl) rfl ?_
          have he2 : IntKind.wrap .i64 (((i : Nat) : Int) + 1) = ((i + 1 : Nat) : Int) := (by rw [wrap_i64 _ (by omega) (by omega)]; omega)
          refine VL_eq [(0, .slice A n c), (1, .slice A' n' c'), (2, .int .u8 x), (11, .slice (some ⟨g1, 0, none⟩) ((packT (vals l)).length + ((packT (vals l')).length)) c5), (12, .slice Ai1 li1.length ci1), (13, .int .i64 (ieUE ((packT (vals l)) ++ (packT (vals l'))))), (68, .int .i64 (((packT (vals l)).length + ((packT (vals l')).length) : Nat) : Int)), (79, .int .i64 ((i + 1 : Nat) : Int))] (by rw [he2]) ?_
          refine VL_pure 2 [0, 1, 2, 11, 12, 13, 68, 69] [(0, .slice A n c), (1, .slice A' n' c'), (2, .int .u8 x), (11, .slice (some ⟨g1, 0, none⟩) ((packT (vals l)).length + ((packT (vals l')).length)) c5), (12, .slice Ai1 li1.length ci1), (13, .int .i64 (ieUE ((packT (vals l)) ++ (packT (vals l'))))), (68, .int .i64 (((packT (vals l)).length + ((packT (vals l')).length) : Nat) : Int)), (69, .int .i64 ((i + 1 : Nat) : Int))] (by kernel_rfl) rfl ?_
          refine VL_end (by kernel_rfl) ?_
          refine VQ_again (⟨i + 1, ys.set i (bXor .u8 (ys.getD i 0) x), (some ⟨g1, 0, none⟩), c5⟩) ⟨rfl, rfl, rfl, rfl, rfl, rfl, rfl, rfl, trivial⟩ ?_ ?_
          · exact ⟨(by dsimp only; omega), hub9, hS, hA, hA', hbase1, hbase2, hbase3, hV1, hleli1, (Rw.cast ho2 rfl rfl)⟩
          · (try dsimp only); omega
        · refine VC_exit ?_
          refine VQ_then_exit ?_
          refine VQ_then_exit ?_
          refine VQ_block_hit ?_
          refine VQ_next ?_
          refine VC_seq ?_
          refine VC_region ?_
          refine VL_pure 3 [0, 1, 12, 82] [(0, .slice A n c), (1, .slice A' n' c'), (12, .slice Ai1 li1.length ci1), (82, .bool ((ieUE ((packT (vals l)) ++ (packT (vals l')))) == 0))] (by kernel_rfl) rfl ?_
          refine VL_known ((ieUE ((packT (vals l)) ++ (packT (vals l')))) == 0) (fun bV => [(0, .slice A n c), (1, .slice A' n' c'), (12, .slice Ai1 li1.length ci1), (82, .bool bV)]) true rfl (by first | rw [show ieUE ((packT (vals l)) ++ (packT (vals l'))) = 0 from congrArg Prod.snd (both_un hn hn' (by assumption) (by assumption) (by omega))]; rfl | rw [show ieUE ((packT (vals l)) ++ (packT (vals l'))) = 6 from congrArg Prod.snd (both_no hn hn' (by assumption) (by assumption) (by omega))]; rfl) ?_
          refine VL_pure 4 [0, 1, 82, 83] [(0, .slice A n c), (1, .slice A' n' c'), (82, .bool true), (83, .slice Ai1 li1.length ci1)] (by kernel_rfl) rfl ?_
          have hzs10 := hS.size
          have hzk8 := hbase1
          have hzk9 := hbase2
          have hzk10 := hbase3
          have hzk11 := hleli1
          have hub4 := hr5.ub
          refine VL_bs (d := 84) (e := 40) (c := #[]) (len := 0) (by kernel_rfl) (by kernel_rfl) ?_
          intro b2 w12 hn2
          replace hS := Step.trans hS (hn2.step No)
          replace hA := hA.no (hn2.step No)
          replace hA' := hA'.no (hn2.step No)
          replace hbase1 := Nat.le_trans hbase1 (hn2.step No).size
          replace hbase2 := Nat.le_trans hbase2 (hn2.step No).size
          replace hbase3 := Nat.le_trans hbase3 (hn2.step No).size
          replace hV1 := hV1.no (hn2.step No)
          replace hleli1 := Nat.le_trans hleli1 (hn2.step No).size
          replace hr5 := hr5.no (hn2.step No)
          have ho3 := hn2.own
          have hzhn2 := hn2.size
          have hqhn2 := hn2.eqb
          refine VL_pure 6 [1, 82, 83, 84, 85] [(1, .slice A' n' c'), (82, .bool true), (83, .slice Ai1 li1.length ci1), (84, .slice (some ⟨b2, 0, none⟩) 0 0), (85, .slice A n c)] (by kernel_rfl) rfl ?_
          have hzs11 := hS.size
          have hzk12 := hbase1
          have hzk13 := hbase2
          have hzk14 := hbase3
          have hzk15 := hleli1
          have hzl2 := ho3.lt
          refine VL_appendZ (d := 86) (e := 40) (A := (some ⟨b2, 0, none⟩)) (m := 0) (c := 0) (A2 := A) (m2 := n) (c2 := c) (sz := 2) (bytes := 32) (by kernel_rfl) (by kernel_rfl) (by kernel_rfl) b2 w.heap.size ([]) (ieL l) (RwS.of_new (n := 0) (sz := 2) ho3 (Nat.le_refl _) (by simp [maxLen]) (by rfl)) (by rw [ieL_len, hn]) hA.sl.sl ieL_ones n (by omega) (by simp only [maxLen]; omega) (by omega) (by omega) ?_
          intro A5 c6 w13 hr6 hg4
          have hg4b : StepT 40 b2 w12 w13 := RwS.stepT (sz := 2) (RwS.of_new (n := 0) (sz := 2) ho3 (Nat.le_refl _) (by simp [maxLen]) (by rfl)) hg4
          have hzhg4 := hg4.size
          have hg4bS : Step (fun k => b2 ≤ k) _ _ := Step.mono hg4b (fun i hi => hi.1)
          replace hr5 := hr5.keepTT (by decide) hg4b
          replace hS := Step.transNew hS hg4bS (fun i hi hG => by (try simp only at hG); omega)
          replace hA := hA.step hg4bS (fun k hk1 hk2 hG => by (try simp only at hG); omega)
          replace hA' := hA'.step hg4bS (fun k hk1 hk2 hG => by (try simp only at hG); omega)
          replace hbase1 := Nat.le_trans hbase1 (hg4bS).size
          replace hbase2 := Nat.le_trans hbase2 (hg4bS).size
          replace hbase3 := Nat.le_trans hbase3 (hg4bS).size
          replace hV1 := hV1.step hg4bS (fun k hk1 hk2 hG => by (try simp only at hG); omega)
          replace hleli1 := Nat.le_trans hleli1 (hg4bS).size
          refine VL_pure 8 [82, 83, 86, 87] [(82, .bool true), (83, .slice Ai1 li1.length ci1), (86, .slice A5 n c6), (87, .slice A' n' c')] (by kernel_rfl) rfl ?_
          have hzs12 := hS.size
          have hzk16 := hbase1
          have hzk17 := hbase2
          have hzk18 := hbase3
          have hzk19 := hleli1
          refine VL_appendZ (d := 88) (e := 40) (A := A5) (m := n) (c := c6) (A2 := A') (m2 := n') (c2 := c') (sz := 2) (bytes := 32) (by kernel_rfl) (by kernel_rfl) (by kernel_rfl) b2 w.heap.size ([] ++ ieL l) (ieL l') hr6 (by rw [ieL_len, hn']) hA'.sl.sl ieL_ones (n + n') (by omega) (by simp only [maxLen]; omega) (by omega) (by omega) ?_
          intro A6 c7 w14 hr7 hg5
          have hg5b : StepT 40 b2 w13 w14 := RwS.stepT (sz := 2) hr6 hg5
          have hzhg5 := hg5.size
          have hg5bS : Step (fun k => b2 ≤ k) _ _ := Step.mono hg5b (fun i hi => hi.1)
          replace hr5 := hr5.keepTT (by decide) hg5b
          replace hS := Step.transNew hS hg5bS (fun i hi hG => by (try simp only at hG); omega)
          replace hA := hA.step hg5bS (fun k hk1 hk2 hG => by (try simp only at hG); omega)
          replace hA' := hA'.step hg5bS (fun k hk1 hk2 hG => by (try simp only at hG); omega)
          replace hbase1 := Nat.le_trans hbase1 (hg5bS).size
          replace hbase2 := Nat.le_trans hbase2 (hg5bS).size
          replace hbase3 := Nat.le_trans hbase3 (hg5bS).size
          replace hV1 := hV1.step hg5bS (fun k hk1 hk2 hG => by (try simp only at hG); omega)
          replace hleli1 := Nat.le_trans hleli1 (hg5bS).size
          have hW9 : Ies w14 0 w14.heap.size A6 (l ++ l') := ⟨(by have h9 := hr7.sl2; rw [List.nil_append, ← ieL_app] at h9; exact h9.mono (Nat.zero_le _) (Nat.le_refl _)), fun x hx => (List.mem_append.1 hx).elim (fun h => (hA.all x h).mono (Nat.le_refl _) (by omega)) (fun h => (hA'.all x h).mono (Nat.le_refl _) (by omega))⟩
          have hzs13 := hS.size
          refine VL_call (d := 89) (f := 13) (args := #[.slice Ai1 li1.length ci1, .slice A6 (n + n') c7]) (by kernel_rfl) (by kernel_rfl) (by kernel_rfl) Try.call13 (same15_any Ai1 li1.length ci1 w8.heap.size w9.heap.size li1 _ rfl hV1 A6 (n + n') c7 0 w14.heap.size (l ++ l') (by rw [List.length_append]; omega) hW9   (by omega) (fun x hx => by have hq9 := hsmli1 x hx; omega) (fun x hx => by rcases List.mem_append.1 hx with h9 | h9; (have hq9 := hsm x h9; omega); (have hq9 := hsm' x h9; omega)) (by first | exact Nat.le_refl _ | omega) (by first | exact Nat.le_refl _ | omega)) ?_
          rintro _ w15 ⟨rfl, hc7⟩
          replace hS := Step.trans hS hc7
          replace hA := hA.no hc7
          replace hA' := hA'.no hc7
          replace hbase1 := Nat.le_trans hbase1 (hc7).size
          replace hbase2 := Nat.le_trans hbase2 (hc7).size
          replace hbase3 := Nat.le_trans hbase3 (hc7).size
          replace hV1 := hV1.no hc7
          replace hleli1 := Nat.le_trans hleli1 (hc7).size
          replace hr5 := hr5.no hc7
          replace hW9 := hW9.no hc7
          refine VL_pure 12 [6] [(6, .bool (vals li1 == vals (l ++ l')))] (by kernel_rfl) rfl ?_
          refine VL_end (by kernel_rfl) ?_
          refine VQ_next ?_
          refine VC_ret ?_
          refine VQ_ret1 (.bool (vals li1 == vals (l ++ l'))) (.inr rfl) rfl rfl ?_
          exact ⟨congrArg Value.bool (by rw [beq_iff_eq, hv1]; exact congrArg Prod.fst (both_un hn hn' (by assumption) (by assumption) (by omega))), hS⟩

set_option maxRecDepth 100000 in
set_option maxHeartbeats 4000000 in
theorem own_o1 (A : Option Addr) (n c : Nat) (l : List IeV) (A' : Option Addr) (n' c' : Nat) (l' : List IeV) (x : Int) (w : World) (hn : l.length = n) (hA : Ies w 0 w.heap.size A l) (hc : n ≤ c) (hl : ∀ x ∈ l, IeB x) (hmx : n ≤ 9223372036854775807) (hn' : l'.length = n') (hA' : Ies w 0 w.heap.size A' l') (hc' : n' ≤ c') (hl' : ∀ x ∈ l', IeB x) (hmx' : n' ≤ 9223372036854775807) (hf : fewB l = false)  :
    CV Try.prog 4 #[.slice A n c, .slice A' n' c', .int .u8 x] w (fun x w1 => x = .bool true ∧ Step No w w1) := by
  have hS : Step No w w := Step.refl _ _
  refine CV_enter Try.f4 _ 91 [(0, .slice A n c), (1, .slice A' n' c'), (2, .int .u8 x)] Try.func4 rfl rfl (by kernel_rfl) rfl ?_
  refine VC_seq ?_
  refine VC_region ?_
  refine VL_pure 1 [0, 1, 2] [(0, .slice A n c), (1, .slice A' n' c'), (2, .int .u8 x)] (by kernel_rfl) rfl ?_
  refine VL_end (by kernel_rfl) ?_
  refine VQ_next ?_
  refine VC_seq ?_
  refine VC_seq ?_
  refine VC_region ?_
  have hzs1 := hS.size
  refine VL_call (d := 15) (f := 9) (args := #[]) (by kernel_rfl) (by kernel_rfl) (by kernel_rfl) Try.call9 (awake_any _) ?_
  rintro _ w1 ⟨rfl, hc1⟩
  replace hS := Step.trans hS hc1
  replace hA := hA.no hc1
  replace hA' := hA'.no hc1
  refine VL_pure 4 [0, 1, 2, 17, 18] [(0, .slice A n c), (1, .slice A' n' c'), (2, .int .u8 x), (17, .bool false), (18, .slice A n c)] (by kernel_rfl) rfl ?_
  have hzs2 := hS.size
  refine VL_call (d := 19) (f := 10) (args := #[.slice A n c]) (by kernel_rfl) (by kernel_rfl) (by kernel_rfl) Try.call10 (few_any A n c 0 w.heap.size l _ hn hA (by omega)) ?_
  rintro _ w2 ⟨rfl, hc2⟩
  replace hS := Step.trans hS hc2
  replace hA := hA.no hc2
  replace hA' := hA'.no hc2
  refine VL_pure 8 [0, 1, 2, 22] [(0, .slice A n c), (1, .slice A' n' c'), (2, .int .u8 x), (22, .bool (!(fewB l)))] (by kernel_rfl) rfl ?_
  refine VL_known (fewB l) (fun bV => [(0, .slice A n c), (1, .slice A' n' c'), (2, .int .u8 x), (22, .bool (!bV))]) false rfl hf ?_
  refine VL_pure 12 [0, 1, 2, 26] [(0, .slice A n c), (1, .slice A' n' c'), (2, .int .u8 x), (26, .bool true)] (by kernel_rfl) rfl ?_
  refine VL_end (by kernel_rfl) ?_
  refine VQ_next ?_
  refine VC_true (by kernel_rfl) ?_
  refine VC_seq ?_
  refine VC_region ?_
  have hzs3 := hS.size
  refine VL_call (d := 27) (f := 9) (args := #[]) (by kernel_rfl) (by kernel_rfl) (by kernel_rfl) Try.call9 (awake_any _) ?_
  rintro _ w3 ⟨rfl, hc3⟩
  replace hS := Step.trans hS hc3
  replace hA := hA.no hc3
  replace hA' := hA'.no hc3
  refine VL_pure 2 [6] [(6, .bool true)] (by kernel_rfl) rfl ?_
  refine VL_end (by kernel_rfl) ?_
  refine VQ_next ?_
  refine VC_ret ?_
  refine VQ_then_ret ?_
  refine VQ_ret1 (.bool true) (.inr rfl) rfl rfl ?_
  exact ⟨rfl, hS⟩

set_option maxRecDepth 100000 in
set_option maxHeartbeats 4000000 in
theorem own_o2 (A : Option Addr) (n c : Nat) (l : List IeV) (A' : Option Addr) (n' c' : Nat) (l' : List IeV) (x : Int) (w : World) (hn : l.length = n) (hA : Ies w 0 w.heap.size A l) (hc : n ≤ c) (hl : ∀ x ∈ l, IeB x) (hmx : n ≤ 9223372036854775807) (hn' : l'.length = n') (hA' : Ies w 0 w.heap.size A' l') (hc' : n' ≤ c') (hl' : ∀ x ∈ l', IeB x) (hmx' : n' ≤ 9223372036854775807) (hf : fewB l = true) (hf' : fewB l' = false)  :
    CV Try.prog 4 #[.slice A n c, .slice A' n' c', .int .u8 x] w (fun x w1 => x = .bool true ∧ Step No w w1) := by
  have hS : Step No w w := Step.refl _ _
  obtain ⟨hsm, hn20⟩ := fewB_yes hf
  rw [hn] at hn20
  refine CV_enter Try.f4 _ 91 [(0, .slice A n c), (1, .slice A' n' c'), (2, .int .u8 x)] Try.func4 rfl rfl (by kernel_rfl) rfl ?_
  refine VC_seq ?_
  refine VC_region ?_
  refine VL_pure 1 [0, 1, 2] [(0, .slice A n c), (1, .slice A' n' c'), (2, .int .u8 x)] (by kernel_rfl) rfl ?_
  refine VL_end (by kernel_rfl) ?_
  refine VQ_next ?_
  refine VC_seq ?_
  refine VC_seq ?_
  refine VC_region ?_
  have hzs1 := hS.size
  refine VL_call (d := 15) (f := 9) (args := #[]) (by kernel_rfl) (by kernel_rfl) (by kernel_rfl) Try.call9 (awake_any _) ?_
  rintro _ w1 ⟨rfl, hc1⟩
  replace hS := Step.trans hS hc1
  replace hA := hA.no hc1
  replace hA' := hA'.no hc1
  refine VL_pure 4 [0, 1, 2, 17, 18] [(0, .slice A n c), (1, .slice A' n' c'), (2, .int .u8 x), (17, .bool false), (18, .slice A n c)] (by kernel_rfl) rfl ?_
  have hzs2 := hS.size
  refine VL_call (d := 19) (f := 10) (args := #[.slice A n c]) (by kernel_rfl) (by kernel_rfl) (by kernel_rfl) Try.call10 (few_any A n c 0 w.heap.size l _ hn hA (by omega)) ?_
  rintro _ w2 ⟨rfl, hc2⟩
  replace hS := Step.trans hS hc2
  replace hA := hA.no hc2
  replace hA' := hA'.no hc2
  refine VL_pure 8 [0, 1, 2, 22] [(0, .slice A n c), (1, .slice A' n' c'), (2, .int .u8 x), (22, .bool (!(fewB l)))] (by kernel_rfl) rfl ?_
  refine VL_known (fewB l) (fun bV => [(0, .slice A n c), (1, .slice A' n' c'), (2, .int .u8 x), (22, .bool (!bV))]) true rfl hf ?_
  refine VL_pure 9 [0, 1, 2, 22, 23] [(0, .slice A n c), (1, .slice A' n' c'), (2, .int .u8 x), (22, .bool false), (23, .slice A' n' c')] (by kernel_rfl) rfl ?_
  have hzs3 := hS.size
  refine VL_call (d := 24) (f := 10) (args := #[.slice A' n' c']) (by kernel_rfl) (by kernel_rfl) (by kernel_rfl) Try.call10 (few_any A' n' c' 0 w.heap.size l' _ hn' hA' (by omega)) ?_
  rintro _ w3 ⟨rfl, hc3⟩
  replace hS := Step.trans hS hc3
  replace hA := hA.no hc3
  replace hA' := hA'.no hc3
  refine VL_pure 12 [0, 1, 2, 26] [(0, .slice A n c), (1, .slice A' n' c'), (2, .int .u8 x), (26, .bool (!(fewB l')))] (by kernel_rfl) rfl ?_
  refine VL_end (by kernel_rfl) ?_
  refine VQ_next ?_
  refine VC_is (b := !(fewB l')) true (by kernel_rfl) (by rw [show (fewB l') = false from hf']; rfl) ?_
  refine VC_ite_true ?_
  refine VC_seq ?_
  refine VC_region ?_
  have hzs4 := hS.size
  refine VL_call (d := 27) (f := 9) (args := #[]) (by kernel_rfl) (by kernel_rfl) (by kernel_rfl) Try.call9 (awake_any _) ?_
  rintro _ w4 ⟨rfl, hc4⟩
  replace hS := Step.trans hS hc4
  replace hA := hA.no hc4
  replace hA' := hA'.no hc4
  refine VL_pure 2 [6] [(6, .bool true)] (by kernel_rfl) rfl ?_
  refine VL_end (by kernel_rfl) ?_
  refine VQ_next ?_
  refine VC_ret ?_
  refine VQ_then_ret ?_
  refine VQ_ret1 (.bool true) (.inr rfl) rfl rfl ?_
  exact ⟨rfl, hS⟩

end Go.Proofs.Ytpfggjaoinfegaa
