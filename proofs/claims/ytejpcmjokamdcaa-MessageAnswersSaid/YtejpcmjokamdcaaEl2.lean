/- Layer 15: Pack, both; Same. -/
import Derived.Test.YtejpcmjokamdcaaProg
import Derived.Test.YtejpcmjokamdcaaIe2
import Derived.Test.YtejpcmjokamdcaaEl1
import Derived.Test.YtejpcmjokamdcaaSa1
set_option linter.unusedVariables false
set_option linter.unusedSimpArgs false
namespace Go.Proofs.Ytejpcmjokamdcaa
open Go.Vc Go.RowKit

theorem pk1_any (id : Int) (A : Option Addr) (n c : Nat) (w : World) :
  CV Try.prog 51 #[.agg #[.int .u8 id, .slice A n c]] w (fun x w1 => x = .bool (decide (((n : Nat) : Int) > 200)) ∧ Step No w w1) := by
 have hS : Step No w w := Step.refl _ _
 refine CV_enter Try.f51 _ 7 [(0, .agg #[.int .u8 id, .slice A n c])] Try.func51 rfl rfl (by kernel_rfl) rfl ?_
 refine VC_seq ?_
 refine VC_region ?_
 have hzs1 := hS.size
 refine VL_box (d := 1) (t := 60) (c := #[.int .u8 id, .slice A n c]) (by kernel_rfl) (by kernel_rfl) ?_
 intro b1 w1 hn1
 replace hS := Step.trans hS (hn1.step No)
 have ho1 := hn1.own
 have hzhn1 := hn1.size
 have hqhn1 := hn1.eqb
 refine VL_pure 2 [1] [(1, .pointer (some ⟨b1, 0, none⟩))] (by kernel_rfl) rfl ?_
 refine VL_end (by kernel_rfl) ?_
 refine VQ_next ?_
 refine VC_seq ?_
 refine VC_region ?_
 refine VL_pure 1 [3] [(3, .pointer (some ⟨b1, 1, none⟩))] (by kernel_rfl) rfl ?_
 refine VL_load (d := 4) (t := 25) (a := ⟨b1, 1, none⟩) (v := .slice A n c) (by kernel_rfl) (by kernel_rfl) (Loads.own1 ho1 (by kernel_rfl) (by rfl)) ?_
 refine VL_pure 5 [2] [(2, .bool (decide (((n : Nat) : Int) > 200)))] (by kernel_rfl) rfl ?_
 refine VL_end (by kernel_rfl) ?_
 refine VQ_next ?_
 refine VC_ret ?_
 refine VQ_ret1 (.bool (decide (((n : Nat) : Int) > 200))) (.inr rfl) rfl rfl ?_
 exact ⟨rfl, hS⟩

set_option maxRecDepth 100000 in
set_option maxHeartbeats 4000000 in
theorem ixl_any (A : Option Addr) (n c lo hi : Nat) (l : List IeV) (w : World) (hn : l.length = n) (hA : Ies w lo hi A l) (hlen : n ≤ 1000000) :
  CV Try.prog 54 #[.slice A n c, .func (.func 51) #[] #[]] w (fun v w1 => ((v = .int .i64 (-1) ∧ ∀ i y, i < n → l[i]? = some y → y.n ≤ 200) ∨ ∃ k y, k < n ∧ l[k]? = some y ∧ 200 < y.n ∧ v = .int .i64 ((k : Nat) : Int)) ∧ Step No w w1) := by
 have hS : Step No w w := Step.refl _ _
 refine CV_enter Try.f54 _ 19 [(0, .slice A n c), (1, .func (.func 51) #[] #[])] Try.func54 rfl rfl (by kernel_rfl) rfl ?_
 refine VC_seq ?_
 refine VC_region ?_
 refine VL_pure 1 [0, 1] [(0, .slice A n c), (1, .func (.func 51) #[] #[])] (by kernel_rfl) rfl ?_
 refine VL_end (by kernel_rfl) ?_
 refine VQ_next ?_
 refine VC_seq ?_
 refine VC_seq ?_
 refine VC_region ?_
 refine VL_pure 3 [0, 1, 7, 8] [(0, .slice A n c), (1, .func (.func 51) #[] #[]), (7, .int .i64 ((n : Nat) : Int)), (8, .int .i64 0)] (by kernel_rfl) rfl ?_
 refine VL_end (by kernel_rfl) ?_
 refine VQ_next ?_
 refine VC_block ?_
 refine VC_loop (σ := Nat) (fun σs => [(0, .slice A n c), (1, .func (.func 51) #[] #[]), (7, .int .i64 ((n : Nat) : Int)), (8, .int .i64 ((σs : Nat) : Int))]) (fun σs w1 => (σs ≤ n) ∧ (∀ i y, i < σs → l[i]? = some y → y.n ≤ 200) ∧ (Step No w w1) ∧ (Ies w1 lo hi A l)) (fun σs w1 => n - σs) 0 ⟨rfl, rfl, rfl, rfl, trivial⟩ ?_ ?_
 ·exact ⟨Nat.zero_le _, fun i y hi => absurd hi (Nat.not_lt_zero _), hS, hA⟩
 rintro k w1 ⟨hk, hz, hS, hA⟩
 try dsimp only at hk hz hS hA ⊢
 refine VC_seq ?_
 refine VC_region ?_
 refine VL_pure 1 [0, 1, 7, 8, 9] [(0, .slice A n c), (1, .func (.func 51) #[] #[]), (7, .int .i64 ((n : Nat) : Int)), (8, .int .i64 ((k : Nat) : Int)), (9, .bool (decide (((k : Nat) : Int) < ((n : Nat) : Int))))] (by kernel_rfl) rfl ?_
 refine VL_end (by kernel_rfl) ?_
 refine VQ_next ?_
 refine VC_seq ?_
 refine VC_dec (((k : Nat) : Int) < ((n : Nat) : Int)) (by kernel_rfl) (fun h1 => ?_) (fun h1 => ?_)
 ·refine VC_skip ?_
  refine VQ_next ?_
  refine VC_seq ?_
  refine VC_block ?_
  refine VC_seq ?_
  refine VC_region ?_
  refine VL_pure 2 [0, 1, 7, 8, 5] [(0, .slice A n c), (1, .func (.func 51) #[] #[]), (7, .int .i64 ((n : Nat) : Int)), (8, .int .i64 ((k : Nat) : Int)), (5, .int .i64 ((k : Nat) : Int))] (by kernel_rfl) rfl ?_
  refine VL_end (by kernel_rfl) ?_
  refine VQ_next ?_
  refine VC_seq ?_
  refine VC_region ?_
  refine VL_pure 3 [0, 1, 7, 8, 5, 11, 12, 13] [(0, .slice A n c), (1, .func (.func 51) #[] #[]), (7, .int .i64 ((n : Nat) : Int)), (8, .int .i64 ((k : Nat) : Int)), (5, .int .i64 ((k : Nat) : Int)), (11, .func (.func 51) #[] #[]), (12, .slice A n c), (13, .int .i64 ((k : Nat) : Int))] (by kernel_rfl) rfl ?_
  obtain ⟨sb1, so1, rfl, hlbsb1⟩ := hA.open (by omega)
  refine VL_index (d := 14) (b := sb1) (o := so1) (len := n) (sz := 2) (m := ((k : Nat) : Int)) (by kernel_rfl) (by kernel_rfl) k (by rfl) (by omega) (so1 + k * 2) (by omega) ?_
  obtain ⟨⟨x1i, x1A, x1n, x1c, x1b⟩, hx1⟩ : ∃ x, l[k]? = some x := ⟨_, List.getElem?_eq_getElem (by omega)⟩
  obtain ⟨hnx1, hcx1, hbx1⟩ := Ies.body hA hx1
  dsimp only at hnx1 hcx1 hbx1
  refine VL_load (d := 15) (t := 60) (a := ⟨sb1, so1 + k * 2, none⟩) (v := .agg #[.int .u8 x1i, .slice x1A x1n x1c]) (by kernel_rfl) (by kernel_rfl) (Ies.ld hA (by kernel_rfl) hx1) ?_
  have hzs1 := hS.size
  refine VL_call (d := 16) (f := 51) (args := #[.agg #[.int .u8 x1i, .slice x1A x1n x1c]]) (by kernel_rfl) (by kernel_rfl) (by kernel_rfl) Try.call51 (pk1_any x1i x1A x1n x1c _) ?_
  rintro _ w2 ⟨rfl, hc1⟩
  replace hS := Step.trans hS hc1
  replace hA := hA.no hc1
  replace hbx1 := hbx1.no hc1
  refine VL_end (by kernel_rfl) ?_
  refine VQ_next ?_
  refine VC_dec (((x1n : Nat) : Int) > 200) (by kernel_rfl) (fun h2 => ?_) (fun h2 => ?_)
  ·refine VC_seq ?_
   refine VC_region ?_
   refine VL_pure 2 [4] [(4, .int .i64 ((k : Nat) : Int))] (by kernel_rfl) rfl ?_
   refine VL_end (by kernel_rfl) ?_
   refine VQ_next ?_
   refine VC_ret ?_
   refine VQ_block_ret ?_
   refine VQ_then_ret ?_
   refine VQ_then_ret ?_
   refine VQ_block_ret ?_
   refine VQ_then_ret ?_
   refine VQ_ret1 (.int .i64 ((k : Nat) : Int)) (.inr rfl) rfl rfl ?_
   exact ⟨.inr ⟨k, _, by omega, hx1, (by dsimp only; omega), rfl⟩, hS⟩
  ·refine VC_skip ?_
   refine VQ_block_normal ?_
   refine VQ_next ?_
   refine VC_region ?_
   refine VL_pure 1 [0, 1, 7, 18] [(0, .slice (some ⟨sb1, so1, none⟩) n c), (1, .func (.func 51) #[] #[]), (7, .int .i64 ((n : Nat) : Int)), (18, .int .i64 (IntKind.wrap .i64 (((k : Nat) : Int) + 1)))] (by kernel_rfl) rfl ?_
   have he1 : IntKind.wrap .i64 (((k : Nat) : Int) + 1) = ((k + 1 : Nat) : Int) := (by rw [wrap_i64 _ (by omega) (by omega)]; omega)
   refine VL_eq [(0, .slice (some ⟨sb1, so1, none⟩) n c), (1, .func (.func 51) #[] #[]), (7, .int .i64 ((n : Nat) : Int)), (18, .int .i64 ((k + 1 : Nat) : Int))] (by rw [he1]) ?_
   refine VL_pure 2 [0, 1, 7, 8] [(0, .slice (some ⟨sb1, so1, none⟩) n c), (1, .func (.func 51) #[] #[]), (7, .int .i64 ((n : Nat) : Int)), (8, .int .i64 ((k + 1 : Nat) : Int))] (by kernel_rfl) rfl ?_
   refine VL_end (by kernel_rfl) ?_
   refine VQ_again (k + 1) ⟨rfl, rfl, rfl, rfl, trivial⟩ ?_ ?_
   ·exact ⟨(by omega), fun i y hi hy => by rcases Nat.lt_succ_iff_lt_or_eq.1 hi with h9 | rfl; exact hz i y h9 hy; rw [hx1] at hy; cases hy; dsimp only; omega, hS, hA⟩
   ·(try dsimp only); omega
 ·refine VC_exit ?_
  refine VQ_then_exit ?_
  refine VQ_then_exit ?_
  refine VQ_block_hit ?_
  refine VQ_next ?_
  refine VC_seq ?_
  refine VC_region ?_
  refine VL_pure 1 [4] [(4, .int .i64 (-1))] (by kernel_rfl) rfl ?_
  refine VL_end (by kernel_rfl) ?_
  refine VQ_next ?_
  refine VC_ret ?_
  refine VQ_ret1 (.int .i64 (-1)) (.inr rfl) rfl rfl ?_
  exact ⟨.inl ⟨rfl, fun i y hi hy => hz i y (by omega) hy⟩, hS⟩

set_option maxRecDepth 100000 in
set_option maxHeartbeats 4000000 in
theorem cfl_any (A : Option Addr) (n c lo hi : Nat) (l : List IeV) (w : World) (hn : l.length = n) (hA : Ies w lo hi A l) (hlen : n ≤ 1000000) :
  CV Try.prog 50 #[.slice A n c, .func (.func 51) #[] #[]] w (fun v w1 => v = .bool (anyL l) ∧ Step No w w1) := by
 have hS : Step No w w := Step.refl _ _
 refine CV_enter Try.f50 _ 9 [(0, .slice A n c), (1, .func (.func 51) #[] #[])] Try.func50 rfl rfl (by kernel_rfl) rfl ?_
 refine VC_seq ?_
 refine VC_region ?_
 refine VL_pure 1 [0, 1] [(0, .slice A n c), (1, .func (.func 51) #[] #[])] (by kernel_rfl) rfl ?_
 refine VL_end (by kernel_rfl) ?_
 refine VQ_next ?_
 refine VC_seq ?_
 refine VC_region ?_
 refine VL_pure 2 [5, 6] [(5, .slice A n c), (6, .func (.func 51) #[] #[])] (by kernel_rfl) rfl ?_
 have hzs1 := hS.size
 refine VL_call (d := 7) (f := 54) (args := #[.slice A n c, .func (.func 51) #[] #[]]) (by kernel_rfl) (by kernel_rfl) (by kernel_rfl) Try.call54 (ixl_any A n c lo hi l _ hn hA (by omega)) ?_
 rintro _ w1 ⟨(⟨rfl, hz⟩ | ⟨k, y, hk1, hk2, hk3, rfl⟩), hc1⟩
 ·replace hS := Step.trans hS hc1
  replace hA := hA.no hc1
  refine VL_pure 5 [4] [(4, .bool false)] (by kernel_rfl) rfl ?_
  refine VL_end (by kernel_rfl) ?_
  refine VQ_next ?_
  refine VC_ret ?_
  refine VQ_ret1 (.bool false) (.inr rfl) rfl rfl ?_
  first | exact ⟨congrArg Value.bool (Eq.symm ((anyL_no hn hz).trans (by first | rfl | simp))), hS⟩ | exact ⟨congrArg Value.bool (Eq.symm ((anyL_yes hk2 hk3).trans (by first | rfl | (simp; omega) | simp))), hS⟩
 ·replace hS := Step.trans hS hc1
  replace hA := hA.no hc1
  refine VL_pure 5 [4] [(4, .bool (decide (((k : Nat) : Int) ≥ 0)))] (by kernel_rfl) rfl ?_
  refine VL_end (by kernel_rfl) ?_
  refine VQ_next ?_
  refine VC_ret ?_
  refine VQ_ret1 (.bool (decide (((k : Nat) : Int) ≥ 0))) (.inr rfl) rfl rfl ?_
  first | exact ⟨congrArg Value.bool (Eq.symm ((anyL_no hn hz).trans (by first | rfl | simp))), hS⟩ | exact ⟨congrArg Value.bool (Eq.symm ((anyL_yes hk2 hk3).trans (by first | rfl | (simp; omega) | simp))), hS⟩

set_option maxRecDepth 100000 in
set_option maxHeartbeats 4000000 in
theorem pack_any (A : Option Addr) (n c lo hi : Nat) (l : List IeV) (w : World) (hn : l.length = n) (hA : Ies w lo hi A l) (hlen : n ≤ 1000000) (hhi : hi ≤ w.heap.size) :
  CV Try.prog 28 #[.slice A n c] w (fun x w1 => PackR w w1 5 x (packT (vals l)) (packE (vals l))) := by
 have hS : Step No w w := Step.refl _ _
 refine CV_enter Try.f28 _ 34 [(0, .slice A n c)] Try.func28 rfl rfl (by kernel_rfl) rfl ?_
 refine VC_seq ?_
 refine VC_region ?_
 refine VL_pure 2 [0] [(0, .slice A n c)] (by kernel_rfl) rfl ?_
 refine VL_end (by kernel_rfl) ?_
 refine VQ_next ?_
 refine VC_seq ?_
 refine VC_seq ?_
 refine VC_region ?_
 refine VL_pure 4 [0, 10] [(0, .slice A n c), (10, .bool (decide (((n : Nat) : Int) > 16)))] (by kernel_rfl) rfl ?_
 refine VL_dec (((n : Nat) : Int) > 16) (fun bV => [(0, .slice A n c), (10, .bool bV)]) rfl (fun hg1 => ?_) (fun hg1 => ?_)
 ·refine VL_pure 7 [0, 13] [(0, .slice A n c), (13, .bool true)] (by kernel_rfl) rfl ?_
  refine VL_end (by kernel_rfl) ?_
  refine VQ_next ?_
  refine VC_true (by kernel_rfl) ?_
  refine VC_seq ?_
  refine VC_region ?_
  refine VL_pure 2 [2, 3] [(2, .slice none 0 0), (3, .int .i64 6)] (by kernel_rfl) rfl ?_
  refine VL_end (by kernel_rfl) ?_
  refine VQ_next ?_
  refine VC_ret ?_
  refine VQ_then_ret ?_
  refine VQ_ret2 (.slice none 0 0) (.int .i64 6) (.inr rfl) rfl rfl rfl ?_
  first | exact PackR.no (ok_not1 hn (by omega)) hS | exact PackR.no (ok_not2 (by assumption) (fun x hx => (hA.all x hx).len)) hS
 ·refine VL_pure 5 [0, 10, 11] [(0, .slice A n c), (10, .bool false), (11, .slice A n c)] (by kernel_rfl) rfl ?_
  have hzs1 := hS.size
  refine VL_call (d := 12) (f := 50) (args := #[.slice A n c, .func (.func 51) #[] #[]]) (by kernel_rfl) (by kernel_rfl) (by kernel_rfl) Try.call50 (cfl_any A n c lo hi l _ hn hA (by omega)) ?_
  rintro _ w1 ⟨rfl, hc1⟩
  replace hS := Step.trans hS hc1
  replace hA := hA.no hc1
  refine VL_pure 7 [0, 13] [(0, .slice A n c), (13, .bool (anyL l))] (by kernel_rfl) rfl ?_
  refine VL_end (by kernel_rfl) ?_
  refine VQ_next ?_
  refine VC_cond (anyL l) (by kernel_rfl) (fun h1 => ?_) (fun h1 => ?_)
  ·try simp only [Bool.and_eq_true, Bool.or_eq_true, decide_eq_true_eq, Bool.not_eq_true', decide_eq_false_iff_not, Bool.and_eq_false_iff, Bool.or_eq_false_iff, beq_iff_eq, bne_iff_ne, beq_eq_false_iff_ne, bne_eq_false_iff_eq, Bool.not_eq_eq_eq_not, Bool.not_true, Bool.not_false] at h1
   refine VC_seq ?_
   refine VC_region ?_
   refine VL_pure 2 [2, 3] [(2, .slice none 0 0), (3, .int .i64 6)] (by kernel_rfl) rfl ?_
   refine VL_end (by kernel_rfl) ?_
   refine VQ_next ?_
   refine VC_ret ?_
   refine VQ_then_ret ?_
   refine VQ_ret2 (.slice none 0 0) (.int .i64 6) (.inr rfl) rfl rfl rfl ?_
   first | exact PackR.no (ok_not1 hn (by omega)) hS | exact PackR.no (ok_not2 (by assumption) (fun x hx => (hA.all x hx).len)) hS
  ·try simp only [Bool.and_eq_true, Bool.or_eq_true, decide_eq_true_eq, Bool.not_eq_true', decide_eq_false_iff_not, Bool.and_eq_false_iff, Bool.or_eq_false_iff, beq_iff_eq, bne_iff_ne, beq_eq_false_iff_ne, bne_eq_false_iff_eq, Bool.not_eq_eq_eq_not, Bool.not_true, Bool.not_false] at h1
   refine VC_skip ?_
   refine VQ_next ?_
   refine VC_seq ?_
   refine VC_region ?_
   refine VL_pure 1 [0, 4] [(0, .slice A n c), (4, .slice none 0 0)] (by kernel_rfl) rfl ?_
   refine VL_end (by kernel_rfl) ?_
   refine VQ_next ?_
   refine VC_seq ?_
   refine VC_seq ?_
   refine VC_region ?_
   refine VL_pure 3 [4, 14, 15, 16] [(4, .slice none 0 0), (14, .slice A n c), (15, .int .i64 ((n : Nat) : Int)), (16, .int .i64 0)] (by kernel_rfl) rfl ?_
   refine VL_end (by kernel_rfl) ?_
   refine VQ_next ?_
   refine VC_block ?_
   have hok : okL (vals l) := ok_of hn (by omega) (by assumption) (fun x hx => (hA.all x hx).len)
   obtain ⟨base1, hbase1E⟩ : ∃ x, x = w1.heap.size := ⟨_, rfl⟩
   have hbase1 : base1 ≤ w1.heap.size := Nat.le_of_eq hbase1E
   have hzs2 := hS.size
   have hzk1 := hbase1
   refine VC_loop (σ := Nat × Nat × (Option Addr) × Nat) (fun σs => [(14, .slice A n c), (15, .int .i64 ((n : Nat) : Int)), (16, .int .i64 ((σs.1 : Nat) : Int)), (4, .slice σs.2.2.1 σs.2.1 σs.2.2.2)]) (fun σs w2 => (σs.1 ≤ n) ∧ (Step No w w2) ∧ (Ies w2 lo hi A l) ∧ (base1 ≤ w2.heap.size) ∧ (Rw w2 base1 5 σs.2.2.1 σs.2.1 σs.2.2.2 (iL .u8 (packL ((vals l).take σs.1))))) (fun σs w2 => n - σs.1) ⟨0, 0, none, 0⟩ ⟨rfl, rfl, rfl, rfl, trivial⟩ ?_ ?_
   ·exact ⟨Nat.zero_le _, hS, hA, hbase1, (Rw.cast (Rw.nil w1 base1 5) rfl rfl)⟩
   rintro ⟨k, m, A1, c1⟩ w2 ⟨hk, hS, hA, hbase1, hr1⟩
   try dsimp only at hk hS hA hbase1 hr1 ⊢
   have hPl := ok_le hok k
   have hlnhr1 := Rw.lenI hr1
   refine VC_seq ?_
   refine VC_region ?_
   refine VL_pure 1 [14, 15, 16, 4, 17] [(14, .slice A n c), (15, .int .i64 ((n : Nat) : Int)), (16, .int .i64 ((k : Nat) : Int)), (4, .slice A1 m c1), (17, .bool (decide (((k : Nat) : Int) < ((n : Nat) : Int))))] (by kernel_rfl) rfl ?_
   refine VL_end (by kernel_rfl) ?_
   refine VQ_next ?_
   refine VC_seq ?_
   refine VC_dec (((k : Nat) : Int) < ((n : Nat) : Int)) (by kernel_rfl) (fun h2 => ?_) (fun h2 => ?_)
   ·refine VC_skip ?_
    refine VQ_next ?_
    refine VC_seq ?_
    refine VC_block ?_
    refine VC_seq ?_
    refine VC_region ?_
    obtain ⟨sb1, so1, rfl, hlbsb1⟩ := hA.open (by omega)
    refine VL_index (d := 18) (b := sb1) (o := so1) (len := n) (sz := 2) (m := ((k : Nat) : Int)) (by kernel_rfl) (by kernel_rfl) k (by rfl) (by omega) (so1 + k * 2) (by omega) ?_
    obtain ⟨⟨x1i, x1A, x1n, x1c, x1b⟩, hx1⟩ : ∃ x, l[k]? = some x := ⟨_, List.getElem?_eq_getElem (by omega)⟩
    obtain ⟨hnx1, hcx1, hbx1⟩ := Ies.body hA hx1
    dsimp only at hnx1 hcx1 hbx1
    refine VL_load (d := 19) (t := 60) (a := ⟨sb1, so1 + k * 2, none⟩) (v := .agg #[.int .u8 x1i, .slice x1A x1n x1c]) (by kernel_rfl) (by kernel_rfl) (Ies.ld hA (by kernel_rfl) hx1) ?_
    have hzs3 := hS.size
    have hzk2 := hbase1
    have hub1 := hr1.ub
    refine VL_box (d := 6) (t := 60) (c := #[.int .u8 0, .slice none 0 0]) (by kernel_rfl) (by kernel_rfl) ?_
    intro b1 w3 hn1
    replace hS := Step.trans hS (hn1.step No)
    replace hA := hA.no (hn1.step No)
    replace hbase1 := Nat.le_trans hbase1 (hn1.step No).size
    replace hr1 := hr1.no (hn1.step No)
    replace hbx1 := hbx1.no (hn1.step No)
    have ho1 := hn1.own
    have hzhn1 := hn1.size
    have hqhn1 := hn1.eqb
    refine VL_store (b := b1) (o := 0) (vs := [.int .u8 x1i, .slice x1A x1n x1c]) (by kernel_rfl) (by kernel_rfl) ho1 (Nat.le_of_ble_eq_true (by kernel_rfl)) ?_
    intro w4 hw1
    replace hS := Step.transNew hS hw1.step (fun _ _ _ => by omega)
    replace hA := hA.step hw1.step (fun k hk1 hk2 (hF : k = b1) => by omega)
    replace hbase1 := Nat.le_trans hbase1 (hw1.step).size
    replace hr1 := hr1.stepU hub1 hw1.step (fun k hk1 hk2 (hF : k = b1) => by omega)
    replace hbx1 := hbx1.step hw1.step (fun k hk (hF : k = b1) => by omega)
    have ho2 : Own w4 b1 #[.int .u8 x1i, .slice x1A x1n x1c] 60 := Own.cast hw1.own (by kernel_rfl)
    have hzhw1 := hw1.same
    refine VL_end (by kernel_rfl) ?_
    refine VQ_next ?_
    have hx2 : x1n ≤ 200 := by have hq := hok.2 _ (List.mem_of_getElem? (vals_get hx1)); dsimp only at hq; omega
    have hs1 := drew_step w4
    have hs1z : w4.heap.size = w4.drew.heap.size := rfl
    refine VC_text [[], [], [1], [1, 2], [0, 1, 2, 3], [], [5], [5, 6], [0, 1, 2, 3, 4, 5, 6, 7], [], [9], [0, 1, 2, 3, 4, 5, 6, 7, 8, 9, 10], [0, 1, 2, 3, 4, 5, 6, 7, 8, 9, 10, 11]] 11 (fun x y => Step (fun k => (base1 ≤ k ∧ (k < b1 ∨ b1 < k)) ∨ w4.heap.size ≤ k) x y) [3, 4, 8] [0, 1, 2, 5, 6, 7, 9, 10, 3, 4, 8] (by kernel_rfl) (by kernel_rfl) (by kernel_rfl) (by kernel_rfl) (fun x => Step.refl _ x) (fun h k => Step.trans h k) Step.weak ?_
    have hzs4 := hS.size
    have hzl1 := ho2.lt
    generalize w4.drew = w5 at hs1 hs1z ⊢
    replace hS := Step.trans hS hs1
    replace hA := hA.no hs1
    replace hbase1 := Nat.le_trans hbase1 (hs1).size
    replace hr1 := hr1.no hs1
    replace hbx1 := hbx1.no hs1
    replace ho2 := ho2.no hs1
    refine VT_pures 2 (kn' := [(1, .pointer (some ⟨b1, 0, none⟩)), (0, .slice A1 m c1)]) (by kernel_rfl) ?_
    refine VT_load (d := 22) (t := 5) (a := ⟨b1, 0, none⟩) (v := .int .u8 x1i) (by kernel_rfl) (by kernel_rfl) ?_ ?_
    ·intro w6 hr2
     replace hS := Step.transNew hS hr2 (fun i hi hG => by (try simp only at hG); omega)
     replace hA := hA.step hr2 (fun k hk1 hk2 hG => by (try simp only at hG); omega)
     replace hbase1 := Nat.le_trans hbase1 (hr2).size
     replace hbx1 := hbx1.step hr2 (fun k hk hG => by (try simp only at hG); omega)
     replace ho2 := ho2.step hr2 (by (try simp only); omega)
     exact (Loads.own1 ho2 (by kernel_rfl) (by rfl))
    refine VT_pures 1 (kn' := [(5, .pointer (some ⟨b1, 1, none⟩)), (2, .int .u8 x1i), (1, .pointer (some ⟨b1, 0, none⟩)), (0, .slice A1 m c1)]) (by kernel_rfl) ?_
    refine VT_load (d := 26) (t := 25) (a := ⟨b1, 1, none⟩) (v := .slice x1A x1n x1c) (by kernel_rfl) (by kernel_rfl) ?_ ?_
    ·intro w7 hr3
     replace hS := Step.transNew hS hr3 (fun i hi hG => by (try simp only at hG); omega)
     replace hA := hA.step hr3 (fun k hk1 hk2 hG => by (try simp only at hG); omega)
     replace hbase1 := Nat.le_trans hbase1 (hr3).size
     replace hbx1 := hbx1.step hr3 (fun k hk hG => by (try simp only at hG); omega)
     replace ho2 := ho2.step hr3 (by (try simp only); omega)
     exact (Loads.own1 ho2 (by kernel_rfl) (by rfl))
    refine VT_pures 2 (kn' := [(9, .pointer (some ⟨b1, 1, none⟩)), (7, .int .i64 ((x1n : Nat) : Int)), (6, .slice x1A x1n x1c), (5, .pointer (some ⟨b1, 1, none⟩)), (2, .int .u8 x1i), (1, .pointer (some ⟨b1, 0, none⟩)), (0, .slice A1 m c1)]) (by kernel_rfl) ?_
    refine VT_load (d := 30) (t := 25) (a := ⟨b1, 1, none⟩) (v := .slice x1A x1n x1c) (by kernel_rfl) (by kernel_rfl) ?_ ?_
    ·intro w8 hr4
     replace hS := Step.transNew hS hr4 (fun i hi hG => by (try simp only at hG); omega)
     replace hA := hA.step hr4 (fun k hk1 hk2 hG => by (try simp only at hG); omega)
     replace hbase1 := Nat.le_trans hbase1 (hr4).size
     replace hbx1 := hbx1.step hr4 (fun k hk hG => by (try simp only at hG); omega)
     replace ho2 := ho2.step hr4 (by (try simp only); omega)
     exact (Loads.own1 ho2 (by kernel_rfl) (by rfl))
    refine VT_chain (by kernel_rfl) ?_
    intro w9 hs2
    have hzhs2 := hs2.size
    replace hS := Step.trans hS hs2
    replace hA := hA.no hs2
    replace hbase1 := Nat.le_trans hbase1 (hs2).size
    replace hr1 := hr1.no hs2
    replace hbx1 := hbx1.no hs2
    replace ho2 := ho2.no hs2
    have hzs5 := hS.size
    have hzk3 := hbase1
    have hzl2 := ho2.lt
    have hzs6 := hS.size
    have hzk4 := hbase1
    have hzl3 := ho2.lt
    refine VTc_bs (d := 23) (e := 5) (c := #[.int .u8 x1i, .int .u8 128]) (len := 2) (by kernel_rfl) (by kernel_rfl) (fun b w1 hn => hn.step _) ?_
    intro b2 w10 hn2
    replace hS := Step.trans hS (hn2.step No)
    replace hA := hA.no (hn2.step No)
    replace hbase1 := Nat.le_trans hbase1 (hn2.step No).size
    replace hr1 := hr1.no (hn2.step No)
    replace hbx1 := hbx1.no (hn2.step No)
    replace ho2 := ho2.no (hn2.step No)
    have ho3 := hn2.own
    have hzhn2 := hn2.size
    have hqhn2 := hn2.eqb
    refine VT_chain (by kernel_rfl) ?_
    intro w11 hs3
    have hzhs3 := hs3.size
    replace hS := Step.trans hS hs3
    replace hA := hA.no hs3
    replace hbase1 := Nat.le_trans hbase1 (hs3).size
    replace hr1 := hr1.no hs3
    replace hbx1 := hbx1.no hs3
    replace ho2 := ho2.no hs3
    replace ho3 := ho3.no hs3
    have hzs7 := hS.size
    have hzk5 := hbase1
    have hzl4 := ho2.lt
    have hzl5 := ho3.lt
    refine VTc_appendT (d := 24) (e := 5) (A := A1) (mm := m) (c := c1) (A2 := (some ⟨b2, 0, none⟩)) (m2 := 2) (c2 := 2) (bytes := 1) (by kernel_rfl) (by kernel_rfl) (by kernel_rfl) base1 w11.heap.size (iL .u8 (packL ((vals l).take k))) (iL .u8 ([x1i, 128])) hr1 (by rw [iL_length]; first | done | exact rfl) (Sl.mono (Own.sl ho3 ho3.lt) (by first | exact Nat.le_refl _ | omega)) iL_one (m + 2) (by omega) (by simp only [maxLen]; omega) (by omega) (by omega) ?_ ?_
    ·intro w1 hs1; exact Step.mono hs1 (fun i hi => by have hi1 := hi.1; have hxb1 := hi.2.ne ho2 (by decide); (try simp only); omega)
    intro A2 c2 w12 hr5 hg2
    replace hr5 : Rw w12 base1 5 A2 (m + 2) c2 (iL .u8 ((packL ((vals l).take k)) ++ ([x1i, 128]))) := Rw.cast hr5 rfl (by simp only [iL, List.map_append, List.map_cons, List.map_nil, List.append_assoc, List.cons_append, List.nil_append, List.append_nil])
    have hzhg2 := hg2.size
    have hg2S : Step (fun k => base1 ≤ k ∧ (k < b1 ∨ b1 < k)) _ _ := Step.mono hg2 (fun i hi => ⟨hi.1, Nat.lt_or_gt_of_ne (hi.2.ne ho2 (by decide))⟩)
    replace hS := Step.transNew hS hg2S (fun i hi hG => by (try simp only at hG); omega)
    replace hA := hA.step hg2S (fun k hk1 hk2 hG => by (try simp only at hG); omega)
    replace hbase1 := Nat.le_trans hbase1 (hg2S).size
    replace hbx1 := hbx1.step hg2S (fun k hk hG => by (try simp only at hG); omega)
    replace ho2 := ho2.step hg2S (by (try simp only); omega)
    refine VT_chain (by kernel_rfl) ?_
    intro w13 hs4
    have hzhs4 := hs4.size
    replace hS := Step.trans hS hs4
    replace hA := hA.no hs4
    replace hbase1 := Nat.le_trans hbase1 (hs4).size
    replace hbx1 := hbx1.no hs4
    replace ho2 := ho2.no hs4
    replace hr5 := hr5.no hs4
    have hzs8 := hS.size
    have hzl6 := ho2.lt
    refine VTc_call (d := 28) (f := 52) (by kernel_rfl) (by kernel_rfl) (by kernel_rfl) Try.call52 (put_any A2 (m + 2) c2 _ base1 ((packL ((vals l).take k)) ++ ([x1i, 128])) x1n 2 hr5 (by omega) (by omega) (by omega)) ?_ ?_
    ·rintro _ w14 ⟨A3, c3, rfl, hr6, hc2⟩
     exact Step.mono hc2 (fun i hi => by have hi1 := hi.1; have hxb1 := hi.2.ne ho2 (by decide); (try simp only); omega)
    rintro _ w14 ⟨A3, c3, rfl, hr6, hc2⟩
    have hzhc2 := (hc2).size
    have hc2S : Step (fun k => base1 ≤ k ∧ (k < b1 ∨ b1 < k)) _ _ := Step.mono hc2 (fun i hi => ⟨hi.1, Nat.lt_or_gt_of_ne (hi.2.ne ho2 (by decide))⟩)
    replace hS := Step.transNew hS hc2S (fun i hi hG => by (try simp only at hG); omega)
    replace hA := hA.step hc2S (fun k hk1 hk2 hG => by (try simp only at hG); omega)
    replace hbase1 := Nat.le_trans hbase1 (hc2S).size
    replace hbx1 := hbx1.step hc2S (fun k hk hG => by (try simp only at hG); omega)
    replace ho2 := ho2.step hc2S (by (try simp only); omega)
    replace hr6 : Rw w14 base1 5 A3 (m + 2 + 2) c3 (iL .u8 ((packL ((vals l).take k)) ++ ([x1i, 128]) ++ (digL x1n 2))) := Rw.cast hr6 (by omega) (by first | rfl | simp only [List.nil_append, List.append_assoc])
    refine VT_end ?_
    intro w15 hs5
    replace hS := Step.trans hS hs5
    replace hA := hA.no hs5
    replace hbase1 := Nat.le_trans hbase1 (hs5).size
    replace hbx1 := hbx1.no hs5
    replace ho2 := ho2.no hs5
    replace hr6 := hr6.no hs5
    refine VL_keep [14, 15, 16, 30, 28] [(14, .slice (some ⟨sb1, so1, none⟩) n c), (15, .int .i64 ((n : Nat) : Int)), (16, .int .i64 ((k : Nat) : Int)), (30, .slice x1A x1n x1c), (28, .slice A3 (m + 2 + 2) c3)] (by kernel_rfl) ?_
    have hzs9 := hS.size
    have hzk6 := hbase1
    have hzl7 := ho2.lt
    refine VL_appendT (d := 31) (e := 5) (A := A3) (m := (m + 2 + 2)) (c := c3) (A2 := x1A) (m2 := x1n) (c2 := x1c) (bytes := 1) (by kernel_rfl) (by kernel_rfl) (by kernel_rfl) base1 w15.heap.size (iL .u8 ((packL ((vals l).take k)) ++ ([x1i, 128]) ++ (digL x1n 2))) (iL .u8 x1b) hr6 (by rw [iL_length]; first | done | exact hnx1) (Sl.mono hbx1 (by first | exact Nat.le_refl _ | omega)) iL_one (m + 2 + 2 + x1n) (by omega) (by simp only [maxLen]; omega) (by omega) (by omega) ?_
    intro A4 c4 w16 hr7 hg3
    replace hr7 : Rw w16 base1 5 A4 (m + 2 + 2 + x1n) c4 (iL .u8 ((packL ((vals l).take k)) ++ ([x1i, 128]) ++ (digL x1n 2) ++ x1b)) := Rw.cast hr7 rfl (by simp only [iL, List.map_append, List.map_cons, List.map_nil, List.append_assoc, List.cons_append, List.nil_append, List.append_nil])
    have hzhg3 := hg3.size
    have hg3S : Step (fun k => base1 ≤ k ∧ (k < b1 ∨ b1 < k)) _ _ := Step.mono hg3 (fun i hi => ⟨hi.1, Nat.lt_or_gt_of_ne (hi.2.ne ho2 (by decide))⟩)
    replace hS := Step.transNew hS hg3S (fun i hi hG => by (try simp only at hG); omega)
    replace hA := hA.step hg3S (fun k hk1 hk2 hG => by (try simp only at hG); omega)
    replace hbase1 := Nat.le_trans hbase1 (hg3S).size
    replace hbx1 := hbx1.step hg3S (fun k hk hG => by (try simp only at hG); omega)
    replace ho2 := ho2.step hg3S (by (try simp only); omega)
    refine VL_pure 13 [14, 15, 16, 4] [(14, .slice (some ⟨sb1, so1, none⟩) n c), (15, .int .i64 ((n : Nat) : Int)), (16, .int .i64 ((k : Nat) : Int)), (4, .slice A4 (m + 2 + 2 + x1n) c4)] (by kernel_rfl) rfl ?_
    refine VL_end (by kernel_rfl) ?_
    refine VQ_block_normal ?_
    refine VQ_next ?_
    refine VC_region ?_
    refine VL_pure 1 [14, 15, 4, 32] [(14, .slice (some ⟨sb1, so1, none⟩) n c), (15, .int .i64 ((n : Nat) : Int)), (4, .slice A4 (m + 2 + 2 + x1n) c4), (32, .int .i64 (IntKind.wrap .i64 (((k : Nat) : Int) + 1)))] (by kernel_rfl) rfl ?_
    have he1 : IntKind.wrap .i64 (((k : Nat) : Int) + 1) = ((k + 1 : Nat) : Int) := (by rw [wrap_i64 _ (by omega) (by omega)]; omega)
    refine VL_eq [(14, .slice (some ⟨sb1, so1, none⟩) n c), (15, .int .i64 ((n : Nat) : Int)), (4, .slice A4 (m + 2 + 2 + x1n) c4), (32, .int .i64 ((k + 1 : Nat) : Int))] (by rw [he1]) ?_
    refine VL_pure 2 [14, 15, 4, 16] [(14, .slice (some ⟨sb1, so1, none⟩) n c), (15, .int .i64 ((n : Nat) : Int)), (4, .slice A4 (m + 2 + 2 + x1n) c4), (16, .int .i64 ((k + 1 : Nat) : Int))] (by kernel_rfl) rfl ?_
    refine VL_end (by kernel_rfl) ?_
    refine VQ_again ⟨k + 1, m + 2 + 2 + x1n, A4, c4⟩ ⟨rfl, rfl, rfl, rfl, trivial⟩ ?_ ?_
    ·exact ⟨(by omega), hS, hA, hbase1, (Rw.cast hr7 rfl (by rw [pack_step hx1 hnx1 hx2]; simp))⟩
    ·(try dsimp only); omega
   ·refine VC_exit ?_
    refine VQ_then_exit ?_
    refine VQ_then_exit ?_
    refine VQ_block_hit ?_
    refine VQ_next ?_
    refine VC_seq ?_
    refine VC_region ?_
    refine VL_pure 3 [2, 3] [(2, .slice A1 m c1), (3, .int .i64 0)] (by kernel_rfl) rfl ?_
    refine VL_end (by kernel_rfl) ?_
    refine VQ_next ?_
    refine VC_ret ?_
    refine VQ_ret2 (.slice A1 m c1) (.int .i64 0) (.inr rfl) rfl rfl rfl ?_
    obtain rfl : n = k := by omega
    exact PackR.yes hok hr1 (by rw [List.take_of_length_le (by rw [vals_len]; omega)]) (by omega) hS

end Go.Proofs.Ytejpcmjokamdcaa
