/- Layer 10: Unpack. -/
import Derived.Test.YtgiefcolkohgkaaProg
import Derived.Test.YtgiefcolkohgkaaFr3
import Derived.Test.YtgiefcolkohgkaaFr2
set_option linter.unusedVariables false
set_option linter.unusedSimpArgs false
namespace Go.Proofs.Ytgiefcolkohgkaa
open Go.Vc Go.RowKit

theorem equal_any (ba oa na ca bb ob nb cb : Nat) (fa fb : List Int) (w : World) (ha : fa.length = na) (hb : fb.length = nb) (ca_ : ∀ j, j < na → w.cell? ⟨ba, oa + j, none⟩ = (fa.map (Value.int .u8))[j]?) (cb_ : ∀ j, j < nb → w.cell? ⟨bb, ob + j, none⟩ = (fb.map (Value.int .u8))[j]?) :
    CV Try.prog 29 #[.slice (some ⟨ba, oa, none⟩) na ca, .slice (some ⟨bb, ob, none⟩) nb cb] w (fun x w1 => x = .bool ((strOf fa).toList == (strOf fb).toList) ∧ Step No w w1) := by
  have hS : Step No w w := Step.refl _ _
  refine CV_enter Try.f29 _ 10 [(0, .slice (some ⟨ba, oa, none⟩) na ca), (1, .slice (some ⟨bb, ob, none⟩) nb cb)] Try.func29 rfl rfl (by kernel_rfl) rfl ?_
  refine VC_seq ?_
  refine VC_region ?_
  refine VL_pure 1 [0, 1] [(0, .slice (some ⟨ba, oa, none⟩) na ca), (1, .slice (some ⟨bb, ob, none⟩) nb cb)] (by kernel_rfl) rfl ?_
  refine VL_end (by kernel_rfl) ?_
  refine VQ_next ?_
  refine VC_seq ?_
  refine VC_region ?_
  refine VL_pure 1 [1, 5] [(1, .slice (some ⟨bb, ob, none⟩) nb cb), (5, .slice (some ⟨ba, oa, none⟩) na ca)] (by kernel_rfl) rfl ?_
  refine VL_str (d := 6) (b := ba) (o := oa) (len := na) (by kernel_rfl) (by kernel_rfl) fa ha ca_ ?_
  refine VL_pure 3 [6, 7] [(6, .string (strOf fa)), (7, .slice (some ⟨bb, ob, none⟩) nb cb)] (by kernel_rfl) rfl ?_
  refine VL_str (d := 8) (b := bb) (o := ob) (len := nb) (by kernel_rfl) (by kernel_rfl) fb hb cb_ ?_
  refine VL_pure 6 [4] [(4, .bool (ByteArray.toList (strOf fa) == ByteArray.toList (strOf fb)))] (by kernel_rfl) rfl ?_
  refine VL_end (by kernel_rfl) ?_
  refine VQ_next ?_
  refine VC_ret ?_
  refine VQ_ret1 (.bool (ByteArray.toList (strOf fa) == ByteArray.toList (strOf fb))) (.inr rfl) rfl rfl ?_
  exact ⟨rfl, hS⟩

theorem sl_cells {w : World} {B b o n : Nat} {xs : List Int} (h : Sl w B (some ⟨b, o, none⟩) (iL .u8 xs)) (hn : xs.length = n) : ∀ j, j < n → w.cell? ⟨b, o + j, none⟩ = (xs.map (Value.int .u8))[j]? := by
  intro j hj
  have := h.get j _ (iL_get j (by omega))
  rw [this]
  exact (iL_get (k := .u8) j (by omega)).symm
theorem equal2_any (ba oa na ca Ba bb ob nb cb Bb : Nat) (xs ys : List Int) (w : World) (hx : xs.length = na) (hA : Sl w Ba (some ⟨ba, oa, none⟩) (iL .u8 xs)) (hy : ys.length = nb) (hB : Sl w Bb (some ⟨bb, ob, none⟩) (iL .u8 ys)) (bx : Bytes xs) (by_ : Bytes ys) :
    CV Try.prog 29 #[.slice (some ⟨ba, oa, none⟩) na ca, .slice (some ⟨bb, ob, none⟩) nb cb] w (fun x w1 => x = .bool (xs == ys) ∧ Step No w w1) := by
  refine (equal_any ba oa na ca bb ob nb cb xs ys w hx hy (sl_cells hA hx) (sl_cells hB hy)).mono ?_
  rintro x w1 ⟨rfl, h⟩
  exact ⟨by rw [str_eqL bx by_], h⟩
set_option maxRecDepth 100000 in
set_option maxHeartbeats 4000000 in
theorem clone_any (b o n c Bd : Nat) (bs : List Int) (w : World) (hn : bs.length = n) (hA : Sl w Bd (some ⟨b, o, none⟩) (iL .u8 bs)) (hBd : Bd ≤ w.heap.size) (hb : b < Bd) (hlen : n ≤ 1000000) :
    CV Try.prog 32 #[.slice (some ⟨b, o, none⟩) n c] w (fun x w1 => ∃ A' c', x = .slice A' n c' ∧ Rw w1 w.heap.size 5 A' n c' (iL .u8 bs) ∧ Step No w w1) := by
  have hS : Step No w w := Step.refl _ _
  refine CV_enter Try.f32 _ 8 [(0, .slice (some ⟨b, o, none⟩) n c)] Try.func32 rfl rfl (by kernel_rfl) rfl ?_
  refine VC_seq ?_
  refine VC_region ?_
  refine VL_pure 1 [0] [(0, .slice (some ⟨b, o, none⟩) n c)] (by kernel_rfl) rfl ?_
  refine VL_end (by kernel_rfl) ?_
  refine VQ_next ?_
  refine VC_seq ?_
  refine VC_seq ?_
  refine VC_region ?_
  refine VL_pure 2 [0, 4] [(0, .slice (some ⟨b, o, none⟩) n c), (4, .bool false)] (by kernel_rfl) rfl ?_
  refine VL_end (by kernel_rfl) ?_
  refine VQ_next ?_
  refine VC_false (by kernel_rfl) ?_
  refine VC_skip ?_
  refine VQ_next ?_
  refine VC_seq ?_
  refine VC_region ?_
  have hzs1 := hS.size
  refine VL_bs (d := 5) (e := 5) (c := #[]) (len := 0) (by kernel_rfl) (by kernel_rfl) ?_
  intro b1 w1 hn1
  replace hS := Step.trans hS (hn1.step No)
  replace hA := hA.no (hn1.step No)
  have ho1 := hn1.own
  have hzhn1 := hn1.size
  have hqhn1 := hn1.eqb
  refine VL_pure 2 [5, 6] [(5, .slice (some ⟨b1, 0, none⟩) 0 0), (6, .slice (some ⟨b, o, none⟩) n c)] (by kernel_rfl) rfl ?_
  have hzs2 := hS.size
  have hzl1 := ho1.lt
  have hbase1 := Nat.le_of_lt ho1.lt
  refine VL_appendS (d := 7) (e := 5) (A := (some ⟨b1, 0, none⟩)) (m := 0) (c := 0) (A2 := (some ⟨b, o, none⟩)) (m2 := n) (c2 := c) (bytes := 1) (by kernel_rfl) (by kernel_rfl) (by kernel_rfl) b1 w1.heap.size (iL .u8 ([])) (iL .u8 bs) (Rw.of_new ho1 (Nat.le_refl _) (Nat.le_of_ble_eq_true (by kernel_rfl))) (by rw [iL_length]; first | done | exact hn) (Sl.mono hA (by first | exact Nat.le_refl _ | omega)) iL_one n (by omega) (by simp only [maxLen]; omega) (by omega) (by omega) ?_
  intro A1 c1 w2 hr1 hg1
  replace hr1 : Rw w2 b1 5 A1 n c1 (iL .u8 bs) := Rw.cast hr1 rfl (by simp only [iL, List.map_append, List.map_cons, List.map_nil, List.append_assoc, List.cons_append, List.nil_append, List.append_nil])
  have hzhg1 := hg1.size
  replace hS := Step.transNew hS hg1 (fun i hi hG => by (try simp only at hG); omega)
  replace hA := hA.keepB hg1 (by (try simp only); omega)
  replace hbase1 := Nat.le_trans hbase1 (hg1).size
  refine VL_pure 4 [2] [(2, .slice A1 n c1)] (by kernel_rfl) rfl ?_
  refine VL_end (by kernel_rfl) ?_
  refine VQ_next ?_
  refine VC_ret ?_
  refine VQ_ret1 (.slice A1 n c1) (.inr rfl) rfl rfl ?_
  exact ⟨_, _, rfl, Rw.low hr1 (by omega), hS⟩

theorem nz_any (x : Int) (w : World) :
    CV Try.prog 31 #[.int .u8 x] w (fun v w1 => v = .bool (x != 0) ∧ Step No w w1) := by
  have hS : Step No w w := Step.refl _ _
  refine CV_enter Try.f31 _ 5 [(0, .int .u8 x)] Try.func31 rfl rfl (by kernel_rfl) rfl ?_
  refine VC_seq ?_
  refine VC_region ?_
  refine VL_pure 1 [0] [(0, .int .u8 x)] (by kernel_rfl) rfl ?_
  refine VL_end (by kernel_rfl) ?_
  refine VQ_next ?_
  refine VC_seq ?_
  refine VC_region ?_
  refine VL_pure 3 [2] [(2, .bool (x != 0))] (by kernel_rfl) rfl ?_
  refine VL_end (by kernel_rfl) ?_
  refine VQ_next ?_
  refine VC_ret ?_
  refine VQ_ret1 (.bool (x != 0)) (.inr rfl) rfl rfl ?_
  exact ⟨rfl, hS⟩

set_option maxRecDepth 100000 in
set_option maxHeartbeats 4000000 in
theorem ixf_any (A : Option Addr) (n c Bd : Nat) (bs : List Int) (w : World) (hn : bs.length = n) (hA : Sl w Bd A (iL .u8 bs)) (hBd : Bd ≤ w.heap.size) (hlen : n ≤ 1000000) :
    CV Try.prog 35 #[.slice A n c, .func (.func 31) #[] #[]] w (fun v w1 => ((v = .int .i64 (-1) ∧ ∀ i, i < n → bs.getD i 0 = 0) ∨ ∃ k, k < n ∧ bs.getD k 0 ≠ 0 ∧ v = .int .i64 ((k : Nat) : Int)) ∧ Step No w w1) := by
  have hS : Step No w w := Step.refl _ _
  refine CV_enter Try.f35 _ 19 [(0, .slice A n c), (1, .func (.func 31) #[] #[])] Try.func35 rfl rfl (by kernel_rfl) rfl ?_
  refine VC_seq ?_
  refine VC_region ?_
  refine VL_pure 1 [0, 1] [(0, .slice A n c), (1, .func (.func 31) #[] #[])] (by kernel_rfl) rfl ?_
  refine VL_end (by kernel_rfl) ?_
  refine VQ_next ?_
  refine VC_seq ?_
  refine VC_seq ?_
  refine VC_region ?_
  refine VL_pure 3 [0, 1, 7, 8] [(0, .slice A n c), (1, .func (.func 31) #[] #[]), (7, .int .i64 ((n : Nat) : Int)), (8, .int .i64 0)] (by kernel_rfl) rfl ?_
  refine VL_end (by kernel_rfl) ?_
  refine VQ_next ?_
  refine VC_block ?_
  refine VC_loop (σ := Nat) (fun σs => [(0, .slice A n c), (1, .func (.func 31) #[] #[]), (7, .int .i64 ((n : Nat) : Int)), (8, .int .i64 ((σs : Nat) : Int))]) (fun σs w1 => (σs ≤ n) ∧ (∀ i, i < σs → bs.getD i 0 = 0) ∧ (Step No w w1) ∧ (Sl w1 Bd A (iL .u8 bs))) (fun σs w1 => n - σs) 0 ⟨rfl, rfl, rfl, rfl, trivial⟩ ?_ ?_
  · exact ⟨Nat.zero_le _, fun i hi => absurd hi (Nat.not_lt_zero _), hS, hA⟩
  rintro k w1 ⟨hk, hz, hS, hA⟩
  try dsimp only at hk hz hS hA ⊢
  refine VC_seq ?_
  refine VC_region ?_
  refine VL_pure 1 [0, 1, 7, 8, 9] [(0, .slice A n c), (1, .func (.func 31) #[] #[]), (7, .int .i64 ((n : Nat) : Int)), (8, .int .i64 ((k : Nat) : Int)), (9, .bool (decide (((k : Nat) : Int) < ((n : Nat) : Int))))] (by kernel_rfl) rfl ?_
  refine VL_end (by kernel_rfl) ?_
  refine VQ_next ?_
  refine VC_seq ?_
  refine VC_dec (((k : Nat) : Int) < ((n : Nat) : Int)) (by kernel_rfl) (fun h1 => ?_) (fun h1 => ?_)
  · refine VC_skip ?_
    refine VQ_next ?_
    refine VC_seq ?_
    refine VC_block ?_
    refine VC_seq ?_
    refine VC_region ?_
    refine VL_pure 2 [0, 1, 7, 8, 5] [(0, .slice A n c), (1, .func (.func 31) #[] #[]), (7, .int .i64 ((n : Nat) : Int)), (8, .int .i64 ((k : Nat) : Int)), (5, .int .i64 ((k : Nat) : Int))] (by kernel_rfl) rfl ?_
    refine VL_end (by kernel_rfl) ?_
    refine VQ_next ?_
    refine VC_seq ?_
    refine VC_region ?_
    refine VL_pure 3 [0, 1, 7, 8, 5, 11, 12, 13] [(0, .slice A n c), (1, .func (.func 31) #[] #[]), (7, .int .i64 ((n : Nat) : Int)), (8, .int .i64 ((k : Nat) : Int)), (5, .int .i64 ((k : Nat) : Int)), (11, .func (.func 31) #[] #[]), (12, .slice A n c), (13, .int .i64 ((k : Nat) : Int))] (by kernel_rfl) rfl ?_
    obtain ⟨sb1, so1, rfl, hlbsb1⟩ := hA.open (by simp only [iL_length]; omega)
    refine VL_index (d := 14) (b := sb1) (o := so1) (len := n) (sz := 1) (m := ((k : Nat) : Int)) (by kernel_rfl) (by kernel_rfl) k (by rfl) (by omega) (so1 + k) (by omega) ?_
    refine VL_load (d := 15) (t := 5) (a := ⟨sb1, so1 + k, none⟩) (v := .int .u8 (bs.getD k 0)) (by kernel_rfl) (by kernel_rfl) (Sl.ldI hA (by kernel_rfl) k (by (try simp only [List.length_set, List.length_append, List.length_map, List.length_replicate, List.length_cons, List.length_nil, List.length_take, List.length_drop, List.length_range]) <;> omega)) ?_
    have hzs1 := hS.size
    refine VL_call (d := 16) (f := 31) (args := #[.int .u8 (bs.getD k 0)]) (by kernel_rfl) (by kernel_rfl) (by kernel_rfl) Try.call31 (nz_any (bs.getD k 0) _) ?_
    rintro _ w2 ⟨rfl, hc1⟩
    replace hS := Step.trans hS hc1
    replace hA := hA.no hc1
    refine VL_end (by kernel_rfl) ?_
    refine VQ_next ?_
    refine VC_ne (bs.getD k 0) 0 (by kernel_rfl) (fun h2 => ?_) (fun h2 => ?_)
    · refine VC_seq ?_
      refine VC_region ?_
      refine VL_pure 2 [4] [(4, .int .i64 ((k : Nat) : Int))] (by kernel_rfl) rfl ?_
      refine VL_end (by kernel_rfl) ?_
      refine VQ_next ?_
      refine VC_ret ?_
      refine VQ_block_ret ?_
      refine VQ_then_ret ?_
      refine VQ_then_ret ?_
      refine VQ_block_ret ?_
      refine VQ_then_ret ?_
      refine VQ_ret1 (.int .i64 ((k : Nat) : Int)) (.inr rfl) rfl rfl ?_
      exact ⟨.inr ⟨k, by omega, by assumption, rfl⟩, hS⟩
    · refine VC_skip ?_
      refine VQ_block_normal ?_
      refine VQ_next ?_
      refine VC_region ?_
      refine VL_pure 1 [0, 1, 7, 18] [(0, .slice (some ⟨sb1, so1, none⟩) n c), (1, .func (.func 31) #[] #[]), (7, .int .i64 ((n : Nat) : Int)), (18, .int .i64 (IntKind.wrap .i64 (((k : Nat) : Int) + 1)))] (by kernel_rfl) rfl ?_
      have he1 : IntKind.wrap .i64 (((k : Nat) : Int) + 1) = ((k + 1 : Nat) : Int) := (by rw [wrap_i64 _ (by omega) (by omega)]; omega)
      refine VL_eq [(0, .slice (some ⟨sb1, so1, none⟩) n c), (1, .func (.func 31) #[] #[]), (7, .int .i64 ((n : Nat) : Int)), (18, .int .i64 ((k + 1 : Nat) : Int))] (by rw [he1]) ?_
      refine VL_pure 2 [0, 1, 7, 8] [(0, .slice (some ⟨sb1, so1, none⟩) n c), (1, .func (.func 31) #[] #[]), (7, .int .i64 ((n : Nat) : Int)), (8, .int .i64 ((k + 1 : Nat) : Int))] (by kernel_rfl) rfl ?_
      refine VL_end (by kernel_rfl) ?_
      refine VQ_again (k + 1) ⟨rfl, rfl, rfl, rfl, trivial⟩ ?_ ?_
      · exact ⟨(by omega), fun i hi => by rcases Nat.lt_succ_iff_lt_or_eq.1 hi with h | rfl; exact hz i h; assumption, hS, hA⟩
      · (try dsimp only); omega
  · refine VC_exit ?_
    refine VQ_then_exit ?_
    refine VQ_then_exit ?_
    refine VQ_block_hit ?_
    refine VQ_next ?_
    refine VC_seq ?_
    refine VC_region ?_
    refine VL_pure 1 [4] [(4, .int .i64 (-1))] (by kernel_rfl) rfl ?_
    refine VL_end (by kernel_rfl) ?_
    refine VQ_next ?_
    refine VC_ret ?_
    refine VQ_ret1 (.int .i64 (-1)) (.inr rfl) rfl rfl ?_
    exact ⟨.inl ⟨rfl, fun i hi => hz i (by omega)⟩, hS⟩

theorem any_no {bs : List Int} {n : Nat} (hn : bs.length = n) (h : ∀ i, i < n → bs.getD i 0 = 0) : bs.any (fun x => x != 0) = false := by
  rw [List.any_eq_false]
  intro x hx
  obtain ⟨i, hi, rfl⟩ := List.getElem_of_mem hx
  have := h i (by omega)
  rw [List.getD, List.getElem?_eq_getElem hi] at this
  simpa using this
theorem any_yes {bs : List Int} {n k : Nat} (hn : bs.length = n) (hk : k < n) (h : bs.getD k 0 ≠ 0) : bs.any (fun x => x != 0) = true := by
  rw [List.any_eq_true]
  refine ⟨bs.getD k 0, ?_, by simpa using h⟩
  rw [List.getD, List.getElem?_eq_getElem (by omega)]
  exact List.getElem_mem _
set_option maxRecDepth 100000 in
set_option maxHeartbeats 4000000 in
theorem contains_any (A : Option Addr) (n c Bd : Nat) (bs : List Int) (w : World) (hn : bs.length = n) (hA : Sl w Bd A (iL .u8 bs)) (hBd : Bd ≤ w.heap.size) (hlen : n ≤ 1000000) :
    CV Try.prog 30 #[.slice A n c, .func (.func 31) #[] #[]] w (fun v w1 => v = .bool (bs.any (fun x => x != 0)) ∧ Step No w w1) := by
  have hS : Step No w w := Step.refl _ _
  refine CV_enter Try.f30 _ 9 [(0, .slice A n c), (1, .func (.func 31) #[] #[])] Try.func30 rfl rfl (by kernel_rfl) rfl ?_
  refine VC_seq ?_
  refine VC_region ?_
  refine VL_pure 1 [0, 1] [(0, .slice A n c), (1, .func (.func 31) #[] #[])] (by kernel_rfl) rfl ?_
  refine VL_end (by kernel_rfl) ?_
  refine VQ_next ?_
  refine VC_seq ?_
  refine VC_region ?_
  refine VL_pure 2 [5, 6] [(5, .slice A n c), (6, .func (.func 31) #[] #[])] (by kernel_rfl) rfl ?_
  refine VL_call (d := 7) (f := 35) (args := #[.slice A n c, .func (.func 31) #[] #[]]) (by kernel_rfl) (by kernel_rfl) (by kernel_rfl) Try.call35 (ixf_any A n c _ bs _ hn hA (by first | exact Nat.le_refl _ | omega) (by omega)) ?_
  rintro _ w1 ⟨(⟨rfl, hz⟩ | ⟨k, hk1, hk2, rfl⟩), hc1⟩
  · replace hS := Step.trans hS hc1
    replace hA := hA.no hc1
    refine VL_pure 5 [4] [(4, .bool false)] (by kernel_rfl) rfl ?_
    refine VL_end (by kernel_rfl) ?_
    refine VQ_next ?_
    refine VC_ret ?_
    refine VQ_ret1 (.bool false) (.inr rfl) rfl rfl ?_
    exact ⟨by rw [any_no hn hz], hS⟩
  · replace hS := Step.trans hS hc1
    replace hA := hA.no hc1
    refine VL_pure 5 [4] [(4, .bool (decide (((k : Nat) : Int) ≥ 0)))] (by kernel_rfl) rfl ?_
    refine VL_end (by kernel_rfl) ?_
    refine VQ_next ?_
    refine VC_ret ?_
    refine VQ_ret1 (.bool (decide (((k : Nat) : Int) ≥ 0))) (.inr rfl) rfl rfl ?_
    exact ⟨by rw [any_yes hn hk1 hk2]; exact congrArg Value.bool (decide_eq_true (by omega)), hS⟩

set_option maxRecDepth 100000 in
set_option maxHeartbeats 4000000 in
theorem unpack_any (A : Option Addr) (n c Bd : Nat) (bs : List Int) (w : World) (hn : bs.length = n) (hA : Sl w Bd A (iL .u8 bs)) (hb : Bytes bs) (hBd : Bd ≤ w.heap.size) (hlen : n ≤ 10000) (hc : n ≤ c) :
    CV Try.prog 25 #[.slice A n c] w (fun x w1 => ∃ A' c', x = .tuple #[.slice A' (unT bs).length c', .int .u8 (unM bs), .int .i64 (unE bs)] ∧ Rw w1 w.heap.size 5 A' (unT bs).length c' (iL .u8 (unT bs)) ∧ Step No w w1) := by
  have hS : Step No w w := Step.refl _ _
  refine CV_enter Try.f25 _ 72 [(0, .slice A n c)] Try.func25 rfl rfl (by kernel_rfl) rfl ?_
  refine VC_seq ?_
  refine VC_region ?_
  refine VL_pure 3 [0] [(0, .slice A n c)] (by kernel_rfl) rfl ?_
  refine VL_end (by kernel_rfl) ?_
  refine VQ_next ?_
  refine VC_seq ?_
  refine VC_region ?_
  refine VL_pure 3 [0, 5] [(0, .slice A n c), (5, .int .i64 ((n : Nat) : Int))] (by kernel_rfl) rfl ?_
  refine VL_end (by kernel_rfl) ?_
  refine VQ_next ?_
  refine VC_seq ?_
  refine VC_seq ?_
  refine VC_region ?_
  refine VL_pure 3 [0, 5, 12] [(0, .slice A n c), (5, .int .i64 ((n : Nat) : Int)), (12, .bool (((n : Nat) : Int) == 0))] (by kernel_rfl) rfl ?_
  refine VL_beq ((n : Nat) : Int) 0 (fun bV => [(0, .slice A n c), (5, .int .i64 ((n : Nat) : Int)), (12, .bool bV)]) rfl (fun hg1 => ?_) (fun hg1 => ?_)
  · refine VL_pure 7 [0, 5, 16] [(0, .slice A n c), (5, .int .i64 ((n : Nat) : Int)), (16, .bool true)] (by kernel_rfl) rfl ?_
    refine VL_end (by kernel_rfl) ?_
    refine VQ_next ?_
    refine VC_true (by kernel_rfl) ?_
    refine VC_seq ?_
    refine VC_region ?_
    refine VL_pure 3 [2, 3, 4] [(2, .slice none 0 0), (3, .int .u8 0), (4, .int .i64 5)] (by kernel_rfl) rfl ?_
    refine VL_end (by kernel_rfl) ?_
    refine VQ_next ?_
    refine VC_ret ?_
    refine VQ_then_ret ?_
    refine VQ_ret3 (.slice none 0 0) (.int .u8 0) (.int .i64 5) (.inr rfl) rfl rfl rfl rfl ?_
    have e0 : unE bs = 5 := (by first | exact un_5a (by omega) | exact un_5b hn (by omega) (by omega) ‹_› (by first | exact .inl ‹_› | exact .inr (.inl (by omega)) | exact .inr (.inr (by omega))) | exact un_5c hn (by omega) (by omega) ‹_› ‹_› (by omega) (by omega) ‹_›)
    obtain ⟨e1, e2⟩ := un_err e0 (by decide)
    exact ⟨none, 0, by rw [e0, e1, e2]; rfl, by rw [e1]; exact Rw.nil _ _ _, hS⟩
  · refine VL_pure 5 [0, 5, 12, 14] [(0, .slice A n c), (5, .int .i64 ((n : Nat) : Int)), (12, .bool false), (14, .int .i64 (((n : Nat) : Int).tmod 48))] (by kernel_rfl) rfl ?_
    have he1 : ((n : Nat) : Int).tmod 48 = ((n % 48 : Nat) : Int) := (tmod_nat n 48)
    refine VL_eq [(0, .slice A n c), (5, .int .i64 ((n : Nat) : Int)), (12, .bool false), (14, .int .i64 ((n % 48 : Nat) : Int))] (by rw [he1]) ?_
    refine VL_pure 7 [0, 5, 16] [(0, .slice A n c), (5, .int .i64 ((n : Nat) : Int)), (16, .bool (((n % 48 : Nat) : Int) != 0))] (by kernel_rfl) rfl ?_
    refine VL_end (by kernel_rfl) ?_
    refine VQ_next ?_
    refine VC_ne ((n % 48 : Nat) : Int) 0 (by kernel_rfl) (fun h1 => ?_) (fun h1 => ?_)
    · refine VC_seq ?_
      refine VC_region ?_
      refine VL_pure 3 [2, 3, 4] [(2, .slice none 0 0), (3, .int .u8 0), (4, .int .i64 5)] (by kernel_rfl) rfl ?_
      refine VL_end (by kernel_rfl) ?_
      refine VQ_next ?_
      refine VC_ret ?_
      refine VQ_then_ret ?_
      refine VQ_ret3 (.slice none 0 0) (.int .u8 0) (.int .i64 5) (.inr rfl) rfl rfl rfl rfl ?_
      have e0 : unE bs = 5 := (by first | exact un_5a (by omega) | exact un_5b hn (by omega) (by omega) ‹_› (by first | exact .inl ‹_› | exact .inr (.inl (by omega)) | exact .inr (.inr (by omega))) | exact un_5c hn (by omega) (by omega) ‹_› ‹_› (by omega) (by omega) ‹_›)
      obtain ⟨e1, e2⟩ := un_err e0 (by decide)
      exact ⟨none, 0, by rw [e0, e1, e2]; rfl, by rw [e1]; exact Rw.nil _ _ _, hS⟩
    · refine VC_skip ?_
      refine VQ_next ?_
      refine VC_seq ?_
      refine VC_seq ?_
      obtain ⟨sb1, so1, rfl, hlbsb1⟩ := hA.open (by simp only [iL_length]; omega)
      have hs1 := drew_step w
      have hs1z : w.heap.size = w.drew.heap.size := rfl
      refine VC_text [[], [], [1], [0, 1, 2], [], [], [5], [4, 5, 6], [4, 5, 6, 7], [0, 1, 2, 3, 4, 5, 6, 7, 8], [0, 1, 2, 3, 4, 5, 6, 7, 8, 9]] 9 (fun x y => Step (fun k => w.heap.size ≤ k) x y) [8] [0, 1, 2, 3, 4, 5, 6, 7, 8] (by kernel_rfl) (by kernel_rfl) (by kernel_rfl) (by kernel_rfl) (fun x => Step.refl _ x) (fun h k => Step.trans h k) Step.weak ?_
      have hzs1 := hS.size
      generalize w.drew = w1 at hs1 hs1z ⊢
      replace hS := Step.trans hS hs1
      replace hA := hA.no hs1
      refine VT_pures 3 (kn' := [(2, .int .i64 (IntKind.wrap .i64 (((n : Nat) : Int) - 4))), (1, .int .i64 ((n : Nat) : Int)), (0, .slice (some ⟨sb1, so1, none⟩) n c)]) (by kernel_rfl) ?_
      obtain ⟨so2, hso2⟩ : ∃ x, (if c = (n - 4) then so1 else so1 + (n - 4) * 1) = x := ⟨_, rfl⟩
      refine VT_slice (d := 20) (b := sb1) (o := so1) (sz := 1) (len := n) (cap := c) (lo := (some (IntKind.wrap .i64 (((n : Nat) : Int) - 4)))) (hi := none) (mx := none) (by kernel_rfl) (by kernel_rfl) (fun h => by first | exact absurd rfl h | exact (fun h => by cases h)) (n - 4) n c (show IntKind.wrap .i64 (((n : Nat) : Int) - 4) = ((n - 4 : Nat) : Int) from (by rw [wrap_i64 _ (by omega) (by omega)]; omega)) rfl rfl (by omega) (by omega) (by omega) so2 hso2 (n - (n - 4)) (by omega) (c - (n - 4)) (by omega) ?_
      have hsl1 := Sl.cutI (H := n) hA hso2 (by omega)
      refine VT_pures 3 (kn' := [(6, .int .i64 (IntKind.wrap .i64 (((n : Nat) : Int) - 4))), (5, .int .i64 ((n : Nat) : Int)), (4, .slice (some ⟨sb1, so1, none⟩) n c), (3, .slice (some ⟨sb1, so2, none⟩) (n - (n - 4)) (c - (n - 4))), (2, .int .i64 (IntKind.wrap .i64 (((n : Nat) : Int) - 4))), (1, .int .i64 ((n : Nat) : Int)), (0, .slice (some ⟨sb1, so1, none⟩) n c)]) (by kernel_rfl) ?_
      refine VT_slice (d := 24) (b := sb1) (o := so1) (sz := 1) (len := n) (cap := c) (lo := none) (hi := (some (IntKind.wrap .i64 (((n : Nat) : Int) - 4)))) (mx := none) (by kernel_rfl) (by kernel_rfl) (fun h => by first | exact absurd rfl h | exact (fun h => by cases h)) 0 (n - 4) c rfl (show IntKind.wrap .i64 (((n : Nat) : Int) - 4) = ((n - 4 : Nat) : Int) from (by rw [wrap_i64 _ (by omega) (by omega)]; omega)) rfl (by omega) (by omega) (by omega) so1 (by split <;> omega) (n - 4) (by omega) c (by omega) ?_
      have hsl2 := Sl.takeI hA (n - 4)
      refine VT_chain (by kernel_rfl) ?_
      intro w2 hs2
      have hzhs2 := hs2.size
      replace hS := Step.trans hS hs2
      replace hA := hA.no hs2
      replace hsl1 := hsl1.no hs2
      replace hsl2 := hsl2.no hs2
      have hzs2 := hS.size
      refine VTc_call (d := 25) (f := 27) (args := #[.slice (some ⟨sb1, so1, none⟩) (n - 4) c]) (by kernel_rfl) (by kernel_rfl) (by kernel_rfl) Try.call27 (sum_any (some ⟨sb1, so1, none⟩) (n - 4) c _ (bs.take (n - 4)) _ (by simp only [List.length_take, List.length_drop]; omega) hsl2 (by omega) (by first | exact Nat.le_refl _ | omega)) ?_ ?_
      · rintro _ w3 ⟨sg1, rfl, hggsg1, ho1, hc1⟩
        exact Step.mono hc1 (by intro i hi; first | exact hi.elim | ((try simp only at hi ⊢); omega))
      rintro _ w3 ⟨sg1, rfl, hggsg1, ho1, hc1⟩
      have hzhc1 := (hc1).size
      replace hS := Step.trans hS hc1
      replace hA := hA.no hc1
      replace hsl1 := hsl1.no hc1
      replace hsl2 := hsl2.no hc1
      have hzgsg1 := ho1.lt
      refine VT_end ?_
      intro w4 hs3
      replace hS := Step.trans hS hs3
      replace hA := hA.no hs3
      replace hsl1 := hsl1.no hs3
      replace hsl2 := hsl2.no hs3
      replace ho1 := ho1.no hs3
      refine VL_keep [0, 5, 20, 25] [(0, .slice (some ⟨sb1, so1, none⟩) n c), (5, .int .i64 ((n : Nat) : Int)), (20, .slice (some ⟨sb1, so2, none⟩) (n - (n - 4)) (c - (n - 4))), (25, .slice (some ⟨sg1, 0, none⟩) 4 4)] (by kernel_rfl) ?_
      have hzs3 := hS.size
      have hzl1 := ho1.lt
      refine VL_call (d := 26) (f := 29) (args := #[.slice (some ⟨sb1, so2, none⟩) (n - (n - 4)) (c - (n - 4)), .slice (some ⟨sg1, 0, none⟩) 4 4]) (by kernel_rfl) (by kernel_rfl) (by kernel_rfl) Try.call29 (equal2_any sb1 so2 (n - (n - 4)) (c - (n - 4)) _ sg1 0 4 4 _ ((bs.drop (n - 4)).take (n - (n - 4))) (sumL (bs.take (n - 4))) _ (by simp only [List.length_take, List.length_drop]; omega) hsl1 rfl (Sl.cast (Own.sl ho1 ho1.lt) (by rfl)) ((hb.drop _).take _) (sumL_bytes _)) ?_
      rintro _ w5 ⟨rfl, hc2⟩
      replace hS := Step.trans hS hc2
      replace hA := hA.no hc2
      replace hsl1 := hsl1.no hc2
      replace hsl2 := hsl2.no hc2
      replace ho1 := ho1.no hc2
      refine VL_pure 11 [0, 5, 27] [(0, .slice (some ⟨sb1, so1, none⟩) n c), (5, .int .i64 ((n : Nat) : Int)), (27, .bool (!(((bs.drop (n - 4)).take (n - (n - 4))) == (sumL (bs.take (n - 4))))))] (by kernel_rfl) rfl ?_
      refine VL_end (by kernel_rfl) ?_
      refine VQ_next ?_
      refine VC_cond (!(((bs.drop (n - 4)).take (n - (n - 4))) == (sumL (bs.take (n - 4))))) (by kernel_rfl) (fun h2 => ?_) (fun h2 => ?_)
      · try simp only [Bool.and_eq_true, Bool.or_eq_true, decide_eq_true_eq, Bool.not_eq_true', decide_eq_false_iff_not, Bool.and_eq_false_iff, Bool.or_eq_false_iff, beq_iff_eq, bne_iff_ne, beq_eq_false_iff_ne, bne_eq_false_iff_eq, Bool.not_eq_eq_eq_not, Bool.not_true, Bool.not_false] at h2
        refine VC_seq ?_
        refine VC_region ?_
        refine VL_pure 3 [2, 3, 4] [(2, .slice none 0 0), (3, .int .u8 0), (4, .int .i64 4)] (by kernel_rfl) rfl ?_
        refine VL_end (by kernel_rfl) ?_
        refine VQ_next ?_
        refine VC_ret ?_
        refine VQ_then_ret ?_
        refine VQ_ret3 (.slice none 0 0) (.int .u8 0) (.int .i64 4) (.inr rfl) rfl rfl rfl rfl ?_
        have e0 : unE bs = 4 := un_4 hn (by omega) (by omega) ‹_›
        obtain ⟨e1, e2⟩ := un_err e0 (by decide)
        exact ⟨none, 0, by rw [e0, e1, e2]; rfl, by rw [e1]; exact Rw.nil _ _ _, hS⟩
      · try simp only [Bool.and_eq_true, Bool.or_eq_true, decide_eq_true_eq, Bool.not_eq_true', decide_eq_false_iff_not, Bool.and_eq_false_iff, Bool.or_eq_false_iff, beq_iff_eq, bne_iff_ne, beq_eq_false_iff_ne, bne_eq_false_iff_eq, Bool.not_eq_eq_eq_not, Bool.not_true, Bool.not_false] at h2
        refine VC_skip ?_
        refine VQ_next ?_
        refine VC_seq ?_
        refine VC_region ?_
        refine VL_pure 3 [0, 5, 28, 30] [(0, .slice (some ⟨sb1, so1, none⟩) n c), (5, .int .i64 ((n : Nat) : Int)), (28, .slice (some ⟨sb1, so1, none⟩) n c), (30, .int .i64 (IntKind.wrap .i64 (((n : Nat) : Int) - 8)))] (by kernel_rfl) rfl ?_
        have he2 : IntKind.wrap .i64 (((n : Nat) : Int) - 8) = ((n - 8 : Nat) : Int) := (by rw [wrap_i64 _ (by omega) (by omega)]; omega)
        refine VL_eq [(0, .slice (some ⟨sb1, so1, none⟩) n c), (5, .int .i64 ((n : Nat) : Int)), (28, .slice (some ⟨sb1, so1, none⟩) n c), (30, .int .i64 ((n - 8 : Nat) : Int))] (by rw [he2]) ?_
        obtain ⟨so3, hso3⟩ : ∃ x, (if c = (n - 8) then so1 else so1 + (n - 8) * 1) = x := ⟨_, rfl⟩
        refine VL_slice (d := 31) (b := sb1) (o := so1) (sz := 1) (len := n) (cap := c) (lo := (some ((n - 8 : Nat) : Int))) (hi := none) (mx := none) (by kernel_rfl) (by kernel_rfl) (fun h => by first | exact absurd rfl h | exact (fun h => by cases h)) (n - 8) n c rfl rfl rfl (by omega) (by omega) (by omega) so3 hso3 (n - (n - 8)) (by omega) (c - (n - 8)) (by omega) ?_
        have hsl3 := Sl.cutI (H := n) hA hso3 (by omega)
        refine VL_pure 5 [0, 5, 6] [(0, .slice (some ⟨sb1, so1, none⟩) n c), (5, .int .i64 ((n : Nat) : Int)), (6, .slice (some ⟨sb1, so3, none⟩) (n - (n - 8)) (c - (n - 8)))] (by kernel_rfl) rfl ?_
        refine VL_end (by kernel_rfl) ?_
        refine VQ_next ?_
        refine VC_seq ?_
        refine VC_det [[], [0], [0, 1], [0, 1, 2], [0, 1, 2, 3], [], [5], [5, 6], [5, 6, 7], [0, 1, 2, 3, 4, 5, 6, 7, 8], [0, 1, 2, 3, 4, 5, 6, 7, 8, 9]] 9 [.slice (some ⟨sb1, so3, none⟩) (n - (n - 8)) (c - (n - 8)), .pointer (some ⟨sb1, so3 + 2, none⟩), .int .u8 (((bs.drop (n - 8)).take (n - (n - 8))).getD 2 0), .int .i64 (IntKind.wrap .i64 (((bs.drop (n - 8)).take (n - (n - 8))).getD 2 0)), .int .i64 (IntKind.wrap .i64 ((IntKind.wrap .i64 (((bs.drop (n - 8)).take (n - (n - 8))).getD 2 0)) * 2 ^ 8)), .slice (some ⟨sb1, so3, none⟩) (n - (n - 8)) (c - (n - 8)), .pointer (some ⟨sb1, so3 + 3, none⟩), .int .u8 (((bs.drop (n - 8)).take (n - (n - 8))).getD 3 0), .int .i64 (IntKind.wrap .i64 (((bs.drop (n - 8)).take (n - (n - 8))).getD 3 0))] [0, 3, 4, 5, 8] [1, 2, 6, 7] (by kernel_rfl) (by kernel_rfl) (by kernel_rfl) (by kernel_rfl) ?_ ?_
        · intro w6 hs4
          replace hS := Step.trans hS hs4
          replace hA := hA.no hs4
          replace hsl1 := hsl1.no hs4
          replace hsl2 := hsl2.no hs4
          replace ho1 := ho1.no hs4
          replace hsl3 := hsl3.no hs4
          exact ⟨Det1_index (d := 33) (b := sb1) (o := so3) (len := (n - (n - 8))) (sz := 1) (m := 2) (by kernel_rfl) (by kernel_rfl) 2 (by rfl) (by omega) (so3 + 2) (by omega), Det1_load (d := 34) (t := 5) (a := ⟨sb1, so3 + 2, none⟩) (by kernel_rfl) (by kernel_rfl) (Sl.ldI hsl3 (by kernel_rfl) 2 (by simp only [List.length_take, List.length_drop]; omega)), Det1_index (d := 38) (b := sb1) (o := so3) (len := (n - (n - 8))) (sz := 1) (m := 3) (by kernel_rfl) (by kernel_rfl) 3 (by rfl) (by omega) (so3 + 3) (by omega), Det1_load (d := 39) (t := 5) (a := ⟨sb1, so3 + 3, none⟩) (by kernel_rfl) (by kernel_rfl) (Sl.ldI hsl3 (by kernel_rfl) 3 (by simp only [List.length_take, List.length_drop]; omega)), trivial⟩
        intro w6 hs4
        replace hS := Step.trans hS hs4
        replace hA := hA.no hs4
        replace hsl1 := hsl1.no hs4
        replace hsl2 := hsl2.no hs4
        replace ho1 := ho1.no hs4
        replace hsl3 := hsl3.no hs4
        refine VL_keep [0, 5, 6, 36, 40] [(0, .slice (some ⟨sb1, so1, none⟩) n c), (5, .int .i64 ((n : Nat) : Int)), (6, .slice (some ⟨sb1, so3, none⟩) (n - (n - 8)) (c - (n - 8))), (36, .int .i64 (IntKind.wrap .i64 ((IntKind.wrap .i64 (((bs.drop (n - 8)).take (n - (n - 8))).getD 2 0)) * 2 ^ 8))), (40, .int .i64 (IntKind.wrap .i64 (((bs.drop (n - 8)).take (n - (n - 8))).getD 3 0)))] (by kernel_rfl) ?_
        refine VL_pure 11 [0, 5, 6, 7] [(0, .slice (some ⟨sb1, so1, none⟩) n c), (5, .int .i64 ((n : Nat) : Int)), (6, .slice (some ⟨sb1, so3, none⟩) (n - (n - 8)) (c - (n - 8))), (7, .int .i64 (bOr .i64 (IntKind.wrap .i64 ((IntKind.wrap .i64 (((bs.drop (n - 8)).take (n - (n - 8))).getD 2 0)) * 2 ^ 8)) (IntKind.wrap .i64 (((bs.drop (n - 8)).take (n - (n - 8))).getD 3 0))))] (by kernel_rfl) rfl ?_
        refine VL_end (by kernel_rfl) ?_
        refine VQ_next ?_
        refine VC_seq ?_
        refine VC_seq ?_
        have hlq := lenF_lt (n := n) hb
        refine VC_eqL [(0, .slice (some ⟨sb1, so1, none⟩) n c), (5, .int .i64 ((n : Nat) : Int)), (6, .slice (some ⟨sb1, so3, none⟩) (n - (n - 8)) (c - (n - 8))), (7, .int .i64 ((lenF bs n : Nat) : Int))] (by rw [← lenF_eq hb]; rfl) ?_
        refine VC_region ?_
        refine VL_pure 1 [0, 5, 6, 7, 42] [(0, .slice (some ⟨sb1, so1, none⟩) n c), (5, .int .i64 ((n : Nat) : Int)), (6, .slice (some ⟨sb1, so3, none⟩) (n - (n - 8)) (c - (n - 8))), (7, .int .i64 ((lenF bs n : Nat) : Int)), (42, .slice (some ⟨sb1, so3, none⟩) (n - (n - 8)) (c - (n - 8)))] (by kernel_rfl) rfl ?_
        refine VL_index (d := 43) (b := sb1) (o := so3) (len := (n - (n - 8))) (sz := 1) (m := 1) (by kernel_rfl) (by kernel_rfl) 1 (by rfl) (by omega) (so3 + 1) (by omega) ?_
        refine VL_load (d := 44) (t := 5) (a := ⟨sb1, so3 + 1, none⟩) (v := .int .u8 (((bs.drop (n - 8)).take (n - (n - 8))).getD 1 0)) (by kernel_rfl) (by kernel_rfl) (Sl.ldI hsl3 (by kernel_rfl) 1 (by simp only [List.length_take, List.length_drop]; omega)) ?_
        refine VL_pure 5 [0, 5, 6, 7, 46] [(0, .slice (some ⟨sb1, so1, none⟩) n c), (5, .int .i64 ((n : Nat) : Int)), (6, .slice (some ⟨sb1, so3, none⟩) (n - (n - 8)) (c - (n - 8))), (7, .int .i64 ((lenF bs n : Nat) : Int)), (46, .bool ((((bs.drop (n - 8)).take (n - (n - 8))).getD 1 0) != 0))] (by kernel_rfl) rfl ?_
        refine VL_bne (((bs.drop (n - 8)).take (n - (n - 8))).getD 1 0) 0 (fun bV => [(0, .slice (some ⟨sb1, so1, none⟩) n c), (5, .int .i64 ((n : Nat) : Int)), (6, .slice (some ⟨sb1, so3, none⟩) (n - (n - 8)) (c - (n - 8))), (7, .int .i64 ((lenF bs n : Nat) : Int)), (46, .bool bV)]) rfl (fun hg2 => ?_) (fun hg2 => ?_)
        · refine VL_pure 15 [0, 5, 6, 7, 56] [(0, .slice (some ⟨sb1, so1, none⟩) n c), (5, .int .i64 ((n : Nat) : Int)), (6, .slice (some ⟨sb1, so3, none⟩) (n - (n - 8)) (c - (n - 8))), (7, .int .i64 ((lenF bs n : Nat) : Int)), (56, .bool true)] (by kernel_rfl) rfl ?_
          refine VL_end (by kernel_rfl) ?_
          refine VQ_next ?_
          refine VC_true (by kernel_rfl) ?_
          refine VC_seq ?_
          refine VC_region ?_
          refine VL_pure 3 [2, 3, 4] [(2, .slice none 0 0), (3, .int .u8 0), (4, .int .i64 5)] (by kernel_rfl) rfl ?_
          refine VL_end (by kernel_rfl) ?_
          refine VQ_next ?_
          refine VC_ret ?_
          refine VQ_then_ret ?_
          refine VQ_ret3 (.slice none 0 0) (.int .u8 0) (.int .i64 5) (.inr rfl) rfl rfl rfl rfl ?_
          have e0 : unE bs = 5 := (by first | exact un_5a (by omega) | exact un_5b hn (by omega) (by omega) ‹_› (by first | exact .inl ‹_› | exact .inr (.inl (by omega)) | exact .inr (.inr (by omega))) | exact un_5c hn (by omega) (by omega) ‹_› ‹_› (by omega) (by omega) ‹_›)
          obtain ⟨e1, e2⟩ := un_err e0 (by decide)
          exact ⟨none, 0, by rw [e0, e1, e2]; rfl, by rw [e1]; exact Rw.nil _ _ _, hS⟩
        · refine VL_pure 9 [0, 5, 6, 7, 50] [(0, .slice (some ⟨sb1, so1, none⟩) n c), (5, .int .i64 ((n : Nat) : Int)), (6, .slice (some ⟨sb1, so3, none⟩) (n - (n - 8)) (c - (n - 8))), (7, .int .i64 ((lenF bs n : Nat) : Int)), (50, .bool (((lenF bs n : Nat) : Int) == 0))] (by kernel_rfl) rfl ?_
          refine VL_beq ((lenF bs n : Nat) : Int) 0 (fun bV => [(0, .slice (some ⟨sb1, so1, none⟩) n c), (5, .int .i64 ((n : Nat) : Int)), (6, .slice (some ⟨sb1, so3, none⟩) (n - (n - 8)) (c - (n - 8))), (7, .int .i64 ((lenF bs n : Nat) : Int)), (50, .bool bV)]) rfl (fun hg3 => ?_) (fun hg3 => ?_)
          · refine VL_pure 15 [0, 5, 6, 7, 56] [(0, .slice (some ⟨sb1, so1, none⟩) n c), (5, .int .i64 ((n : Nat) : Int)), (6, .slice (some ⟨sb1, so3, none⟩) (n - (n - 8)) (c - (n - 8))), (7, .int .i64 ((lenF bs n : Nat) : Int)), (56, .bool true)] (by kernel_rfl) rfl ?_
            refine VL_end (by kernel_rfl) ?_
            refine VQ_next ?_
            refine VC_true (by kernel_rfl) ?_
            refine VC_seq ?_
            refine VC_region ?_
            refine VL_pure 3 [2, 3, 4] [(2, .slice none 0 0), (3, .int .u8 0), (4, .int .i64 5)] (by kernel_rfl) rfl ?_
            refine VL_end (by kernel_rfl) ?_
            refine VQ_next ?_
            refine VC_ret ?_
            refine VQ_then_ret ?_
            refine VQ_ret3 (.slice none 0 0) (.int .u8 0) (.int .i64 5) (.inr rfl) rfl rfl rfl rfl ?_
            have e0 : unE bs = 5 := (by first | exact un_5a (by omega) | exact un_5b hn (by omega) (by omega) ‹_› (by first | exact .inl ‹_› | exact .inr (.inl (by omega)) | exact .inr (.inr (by omega))) | exact un_5c hn (by omega) (by omega) ‹_› ‹_› (by omega) (by omega) ‹_›)
            obtain ⟨e1, e2⟩ := un_err e0 (by decide)
            exact ⟨none, 0, by rw [e0, e1, e2]; rfl, by rw [e1]; exact Rw.nil _ _ _, hS⟩
          · refine VL_pure 10 [0, 5, 6, 7, 50, 51] [(0, .slice (some ⟨sb1, so1, none⟩) n c), (5, .int .i64 ((n : Nat) : Int)), (6, .slice (some ⟨sb1, so3, none⟩) (n - (n - 8)) (c - (n - 8))), (7, .int .i64 ((lenF bs n : Nat) : Int)), (50, .bool false), (51, .int .i64 ((lenF bs n : Nat) : Int))] (by kernel_rfl) rfl ?_
            have hzs4 := hS.size
            have hzl2 := ho1.lt
            refine VL_call (d := 52) (f := 22) (args := #[.int .i64 ((lenF bs n : Nat) : Int)]) (by kernel_rfl) (by kernel_rfl) (by kernel_rfl) Try.call22 (many_nat (lenF bs n) _ (by omega)) ?_
            rintro _ w7 ⟨rfl, hc3⟩
            replace hS := Step.trans hS hc3
            replace hA := hA.no hc3
            replace hsl1 := hsl1.no hc3
            replace hsl2 := hsl2.no hc3
            replace ho1 := ho1.no hc3
            replace hsl3 := hsl3.no hc3
            have hmnq1 := many_le (lenF bs n)
            refine VL_pure 12 [0, 5, 6, 7, 50, 53] [(0, .slice (some ⟨sb1, so1, none⟩) n c), (5, .int .i64 ((n : Nat) : Int)), (6, .slice (some ⟨sb1, so3, none⟩) (n - (n - 8)) (c - (n - 8))), (7, .int .i64 ((lenF bs n : Nat) : Int)), (50, .bool false), (53, .int .i64 (IntKind.wrap .i64 (((manyN (lenF bs n) : Nat) : Int) * 48)))] (by kernel_rfl) rfl ?_
            have he3 : IntKind.wrap .i64 (((manyN (lenF bs n) : Nat) : Int) * 48) = (((manyN (lenF bs n)) * 48 : Nat) : Int) := (by rw [wrap_i64 _ (by omega) (by omega)]; omega)
            refine VL_eq [(0, .slice (some ⟨sb1, so1, none⟩) n c), (5, .int .i64 ((n : Nat) : Int)), (6, .slice (some ⟨sb1, so3, none⟩) (n - (n - 8)) (c - (n - 8))), (7, .int .i64 ((lenF bs n : Nat) : Int)), (50, .bool false), (53, .int .i64 (((manyN (lenF bs n)) * 48 : Nat) : Int))] (by rw [he3]) ?_
            refine VL_pure 15 [0, 5, 6, 7, 56] [(0, .slice (some ⟨sb1, so1, none⟩) n c), (5, .int .i64 ((n : Nat) : Int)), (6, .slice (some ⟨sb1, so3, none⟩) (n - (n - 8)) (c - (n - 8))), (7, .int .i64 ((lenF bs n : Nat) : Int)), (56, .bool ((((manyN (lenF bs n)) * 48 : Nat) : Int) != ((n : Nat) : Int)))] (by kernel_rfl) rfl ?_
            refine VL_end (by kernel_rfl) ?_
            refine VQ_next ?_
            refine VC_ne (((manyN (lenF bs n)) * 48 : Nat) : Int) ((n : Nat) : Int) (by kernel_rfl) (fun h3 => ?_) (fun h3 => ?_)
            · refine VC_seq ?_
              refine VC_region ?_
              refine VL_pure 3 [2, 3, 4] [(2, .slice none 0 0), (3, .int .u8 0), (4, .int .i64 5)] (by kernel_rfl) rfl ?_
              refine VL_end (by kernel_rfl) ?_
              refine VQ_next ?_
              refine VC_ret ?_
              refine VQ_then_ret ?_
              refine VQ_ret3 (.slice none 0 0) (.int .u8 0) (.int .i64 5) (.inr rfl) rfl rfl rfl rfl ?_
              have e0 : unE bs = 5 := (by first | exact un_5a (by omega) | exact un_5b hn (by omega) (by omega) ‹_› (by first | exact .inl ‹_› | exact .inr (.inl (by omega)) | exact .inr (.inr (by omega))) | exact un_5c hn (by omega) (by omega) ‹_› ‹_› (by omega) (by omega) ‹_›)
              obtain ⟨e1, e2⟩ := un_err e0 (by decide)
              exact ⟨none, 0, by rw [e0, e1, e2]; rfl, by rw [e1]; exact Rw.nil _ _ _, hS⟩
            · refine VC_skip ?_
              refine VQ_next ?_
              refine VC_seq ?_
              refine VC_seq ?_
              refine VC_region ?_
              refine VL_pure 4 [0, 6, 7, 57, 58, 60] [(0, .slice (some ⟨sb1, so1, none⟩) n c), (6, .slice (some ⟨sb1, so3, none⟩) (n - (n - 8)) (c - (n - 8))), (7, .int .i64 ((lenF bs n : Nat) : Int)), (57, .slice (some ⟨sb1, so1, none⟩) n c), (58, .int .i64 ((lenF bs n : Nat) : Int)), (60, .int .i64 (IntKind.wrap .i64 (((n : Nat) : Int) - 8)))] (by kernel_rfl) rfl ?_
              have he4 : IntKind.wrap .i64 (((n : Nat) : Int) - 8) = ((n - 8 : Nat) : Int) := (by rw [wrap_i64 _ (by omega) (by omega)]; omega)
              refine VL_eq [(0, .slice (some ⟨sb1, so1, none⟩) n c), (6, .slice (some ⟨sb1, so3, none⟩) (n - (n - 8)) (c - (n - 8))), (7, .int .i64 ((lenF bs n : Nat) : Int)), (57, .slice (some ⟨sb1, so1, none⟩) n c), (58, .int .i64 ((lenF bs n : Nat) : Int)), (60, .int .i64 ((n - 8 : Nat) : Int))] (by rw [he4]) ?_
              obtain ⟨so4, hso4⟩ : ∃ x, (if c = (lenF bs n) then so1 else so1 + (lenF bs n) * 1) = x := ⟨_, rfl⟩
              refine VL_slice (d := 61) (b := sb1) (o := so1) (sz := 1) (len := n) (cap := c) (lo := (some ((lenF bs n : Nat) : Int))) (hi := (some ((n - 8 : Nat) : Int))) (mx := none) (by kernel_rfl) (by kernel_rfl) (fun h => by first | exact absurd rfl h | exact (fun h => by cases h)) (lenF bs n) (n - 8) c rfl rfl rfl (by omega) (by omega) (by omega) so4 hso4 ((n - 8) - (lenF bs n)) (by omega) (c - (lenF bs n)) (by omega) ?_
              have hsl4 := Sl.cutI (H := n - 8) hA hso4 (by omega)
              have hzs5 := hS.size
              have hzl3 := ho1.lt
              refine VL_call (d := 62) (f := 30) (args := #[.slice (some ⟨sb1, so4, none⟩) ((n - 8) - (lenF bs n)) (c - (lenF bs n)), .func (.func 31) #[] #[]]) (by kernel_rfl) (by kernel_rfl) (by kernel_rfl) Try.call30 (contains_any (some ⟨sb1, so4, none⟩) ((n - 8) - (lenF bs n)) (c - (lenF bs n)) _ ((bs.drop (lenF bs n)).take ((n - 8) - (lenF bs n))) _ (by simp only [List.length_take, List.length_drop]; omega) hsl4 (by first | exact Nat.le_refl _ | omega) (by omega)) ?_
              rintro _ w8 ⟨rfl, hc4⟩
              replace hS := Step.trans hS hc4
              replace hA := hA.no hc4
              replace hsl1 := hsl1.no hc4
              replace hsl2 := hsl2.no hc4
              replace ho1 := ho1.no hc4
              replace hsl3 := hsl3.no hc4
              replace hsl4 := hsl4.no hc4
              refine VL_end (by kernel_rfl) ?_
              refine VQ_next ?_
              refine VC_cond ((midF bs n).any (fun x => x != 0)) (by kernel_rfl) (fun h4 => ?_) (fun h4 => ?_)
              · try simp only [Bool.and_eq_true, Bool.or_eq_true, decide_eq_true_eq, Bool.not_eq_true', decide_eq_false_iff_not, Bool.and_eq_false_iff, Bool.or_eq_false_iff, beq_iff_eq, bne_iff_ne, beq_eq_false_iff_ne, bne_eq_false_iff_eq, Bool.not_eq_eq_eq_not, Bool.not_true, Bool.not_false] at h4
                refine VC_seq ?_
                refine VC_region ?_
                refine VL_pure 3 [2, 3, 4] [(2, .slice none 0 0), (3, .int .u8 0), (4, .int .i64 5)] (by kernel_rfl) rfl ?_
                refine VL_end (by kernel_rfl) ?_
                refine VQ_next ?_
                refine VC_ret ?_
                refine VQ_then_ret ?_
                refine VQ_ret3 (.slice none 0 0) (.int .u8 0) (.int .i64 5) (.inr rfl) rfl rfl rfl rfl ?_
                have e0 : unE bs = 5 := (by first | exact un_5a (by omega) | exact un_5b hn (by omega) (by omega) ‹_› (by first | exact .inl ‹_› | exact .inr (.inl (by omega)) | exact .inr (.inr (by omega))) | exact un_5c hn (by omega) (by omega) ‹_› ‹_› (by omega) (by omega) ‹_›)
                obtain ⟨e1, e2⟩ := un_err e0 (by decide)
                exact ⟨none, 0, by rw [e0, e1, e2]; rfl, by rw [e1]; exact Rw.nil _ _ _, hS⟩
              · try simp only [Bool.and_eq_true, Bool.or_eq_true, decide_eq_true_eq, Bool.not_eq_true', decide_eq_false_iff_not, Bool.and_eq_false_iff, Bool.or_eq_false_iff, beq_iff_eq, bne_iff_ne, beq_eq_false_iff_ne, bne_eq_false_iff_eq, Bool.not_eq_eq_eq_not, Bool.not_true, Bool.not_false] at h4
                refine VC_skip ?_
                refine VQ_next ?_
                refine VC_seq ?_
                refine VC_seq ?_
                refine VC_region ?_
                refine VL_pure 2 [0, 6, 7, 64] [(0, .slice (some ⟨sb1, so1, none⟩) n c), (6, .slice (some ⟨sb1, so3, none⟩) (n - (n - 8)) (c - (n - 8))), (7, .int .i64 ((lenF bs n : Nat) : Int)), (64, .bool (decide (((lenF bs n : Nat) : Int) > 1000)))] (by kernel_rfl) rfl ?_
                refine VL_end (by kernel_rfl) ?_
                refine VQ_next ?_
                refine VC_dec (((lenF bs n : Nat) : Int) > 1000) (by kernel_rfl) (fun h5 => ?_) (fun h5 => ?_)
                · refine VC_seq ?_
                  refine VC_region ?_
                  refine VL_pure 3 [2, 3, 4] [(2, .slice none 0 0), (3, .int .u8 0), (4, .int .i64 6)] (by kernel_rfl) rfl ?_
                  refine VL_end (by kernel_rfl) ?_
                  refine VQ_next ?_
                  refine VC_ret ?_
                  refine VQ_then_ret ?_
                  refine VQ_ret3 (.slice none 0 0) (.int .u8 0) (.int .i64 6) (.inr rfl) rfl rfl rfl rfl ?_
                  have e0 : unE bs = 6 := un_6 hn (by omega) (by omega) ‹_› ‹_› (by omega) (by omega) ‹_› (by omega)
                  obtain ⟨e1, e2⟩ := un_err e0 (by decide)
                  exact ⟨none, 0, by rw [e0, e1, e2]; rfl, by rw [e1]; exact Rw.nil _ _ _, hS⟩
                · refine VC_skip ?_
                  refine VQ_next ?_
                  refine VC_seq ?_
                  have hs5 := drew_step w8
                  have hs5z : w8.heap.size = w8.drew.heap.size := rfl
                  refine VC_text [[], [], [0, 1], [0, 1, 2], [], [4], [4, 5], [0, 1, 2, 3], [0, 1, 2, 3, 4, 5, 6, 7], [0, 1, 2, 3, 4, 5, 6, 7, 8]] 8 (fun x y => Step (fun k => w8.heap.size ≤ k) x y) [3] [0, 1, 2, 4, 5, 6, 3, 7] (by kernel_rfl) (by kernel_rfl) (by kernel_rfl) (by kernel_rfl) (fun x => Step.refl _ x) (fun h k => Step.trans h k) Step.weak ?_
                  have hzs6 := hS.size
                  have hzl4 := ho1.lt
                  generalize w8.drew = w9 at hs5 hs5z ⊢
                  replace hS := Step.trans hS hs5
                  replace hA := hA.no hs5
                  replace hsl1 := hsl1.no hs5
                  replace hsl2 := hsl2.no hs5
                  replace ho1 := ho1.no hs5
                  replace hsl3 := hsl3.no hs5
                  replace hsl4 := hsl4.no hs5
                  refine VT_pures 2 (kn' := [(1, .int .i64 ((lenF bs n : Nat) : Int)), (0, .slice (some ⟨sb1, so1, none⟩) n c)]) (by kernel_rfl) ?_
                  refine VT_slice (d := 67) (b := sb1) (o := so1) (sz := 1) (len := n) (cap := c) (lo := none) (hi := (some ((lenF bs n : Nat) : Int))) (mx := none) (by kernel_rfl) (by kernel_rfl) (fun h => by first | exact absurd rfl h | exact (fun h => by cases h)) 0 (lenF bs n) c rfl rfl rfl (by omega) (by omega) (by omega) so1 (by split <;> omega) (lenF bs n) (by omega) c (by omega) ?_
                  have hsl5 := Sl.takeI hA (lenF bs n)
                  refine VT_pures 1 (kn' := [(4, .slice (some ⟨sb1, so3, none⟩) (n - (n - 8)) (c - (n - 8))), (2, .slice (some ⟨sb1, so1, none⟩) (lenF bs n) c), (1, .int .i64 ((lenF bs n : Nat) : Int)), (0, .slice (some ⟨sb1, so1, none⟩) n c)]) (by kernel_rfl) ?_
                  refine VT_index (d := 70) (b := sb1) (o := so3) (len := (n - (n - 8))) (sz := 1) (mm := 0) (by kernel_rfl) (by kernel_rfl) 0 (by rfl) (by omega) so3 (by omega) ?_
                  refine VT_load (d := 71) (t := 5) (a := ⟨sb1, so3, none⟩) (v := .int .u8 (((bs.drop (n - 8)).take (n - (n - 8))).getD 0 0)) (by kernel_rfl) (by kernel_rfl) ?_ ?_
                  · intro w10 hr1
                    replace hS := Step.transNew hS hr1 (fun i hi hG => by (try simp only at hG); omega)
                    replace hA := hA.keepB hr1 (by (try simp only); omega)
                    replace hsl1 := hsl1.keepB hr1 (by (try simp only); omega)
                    replace hsl2 := hsl2.keepB hr1 (by (try simp only); omega)
                    replace ho1 := ho1.step hr1 (by (try simp only); omega)
                    replace hsl3 := hsl3.keepB hr1 (by (try simp only); omega)
                    replace hsl4 := hsl4.keepB hr1 (by (try simp only); omega)
                    replace hsl5 := hsl5.keepB hr1 (by (try simp only); omega)
                    exact (Sl.ldI hsl3 (by kernel_rfl) 0 (by simp only [List.length_take, List.length_drop]; omega))
                  refine VT_chain (by kernel_rfl) ?_
                  intro w11 hs6
                  have hzhs6 := hs6.size
                  replace hS := Step.trans hS hs6
                  replace hA := hA.no hs6
                  replace hsl1 := hsl1.no hs6
                  replace hsl2 := hsl2.no hs6
                  replace ho1 := ho1.no hs6
                  replace hsl3 := hsl3.no hs6
                  replace hsl4 := hsl4.no hs6
                  replace hsl5 := hsl5.no hs6
                  have hzs7 := hS.size
                  have hzl5 := ho1.lt
                  refine VTc_call (d := 68) (f := 32) (args := #[.slice (some ⟨sb1, so1, none⟩) (lenF bs n) c]) (by kernel_rfl) (by kernel_rfl) (by kernel_rfl) Try.call32 (clone_any sb1 so1 (lenF bs n) c _ (bs.take (lenF bs n)) _ (by simp only [List.length_take, List.length_drop]; omega) hsl5 (by first | exact Nat.le_refl _ | omega) (by omega) (by omega)) ?_ ?_
                  · rintro _ w12 ⟨A1, c1, rfl, hr2, hc5⟩
                    exact Step.mono hc5 (by intro i hi; first | exact hi.elim | ((try simp only at hi ⊢); omega))
                  rintro _ w12 ⟨A1, c1, rfl, hr2, hc5⟩
                  have hzhc5 := (hc5).size
                  replace hS := Step.trans hS hc5
                  replace hA := hA.no hc5
                  replace hsl1 := hsl1.no hc5
                  replace hsl2 := hsl2.no hc5
                  replace ho1 := ho1.no hc5
                  replace hsl3 := hsl3.no hc5
                  replace hsl4 := hsl4.no hc5
                  replace hsl5 := hsl5.no hc5
                  obtain ⟨base1, hbase1E⟩ : ∃ x, x = w11.heap.size := ⟨_, rfl⟩
                  rw [← hbase1E] at hr2
                  have hbase1 : base1 ≤ w12.heap.size := by rw [hbase1E]; exact hc5.size
                  refine VT_pures 1 (kn' := [(7, .slice A1 (lenF bs n) c1), (3, .slice A1 (lenF bs n) c1), (6, .int .u8 (((bs.drop (n - 8)).take (n - (n - 8))).getD 0 0)), (5, .pointer (some ⟨sb1, so3, none⟩)), (4, .slice (some ⟨sb1, so3, none⟩) (n - (n - 8)) (c - (n - 8))), (2, .slice (some ⟨sb1, so1, none⟩) (lenF bs n) c), (1, .int .i64 ((lenF bs n : Nat) : Int)), (0, .slice (some ⟨sb1, so1, none⟩) n c)]) (by kernel_rfl) ?_
                  refine VT_end ?_
                  intro w13 hs7
                  replace hS := Step.trans hS hs7
                  replace hA := hA.no hs7
                  replace hsl1 := hsl1.no hs7
                  replace hsl2 := hsl2.no hs7
                  replace ho1 := ho1.no hs7
                  replace hsl3 := hsl3.no hs7
                  replace hsl4 := hsl4.no hs7
                  replace hsl5 := hsl5.no hs7
                  replace hbase1 := Nat.le_trans hbase1 (hs7).size
                  replace hr2 := hr2.no hs7
                  refine VL_keep [71, 2] [(71, .int .u8 (((bs.drop (n - 8)).take (n - (n - 8))).getD 0 0)), (2, .slice A1 (lenF bs n) c1)] (by kernel_rfl) ?_
                  refine VL_pure 10 [2, 3, 4] [(2, .slice A1 (lenF bs n) c1), (3, .int .u8 (((bs.drop (n - 8)).take (n - (n - 8))).getD 0 0)), (4, .int .i64 0)] (by kernel_rfl) rfl ?_
                  refine VL_end (by kernel_rfl) ?_
                  refine VQ_next ?_
                  refine VC_ret ?_
                  refine VQ_ret3 (.slice A1 (lenF bs n) c1) (.int .u8 (((bs.drop (n - 8)).take (n - (n - 8))).getD 0 0)) (.int .i64 0) (.inr rfl) rfl rfl rfl rfl ?_
                  obtain ⟨e0, e1, e2⟩ := un_0 hn (by omega) (by omega) ‹_› ‹_› (by omega) (by omega) ‹_› (by omega)
                  have hl9 := Rw.lenI hr2
                  exact ⟨_, _, by rw [e0, e1, e2, hl9]; rfl, by rw [e1, hl9]; exact Rw.low hr2 (by omega), hS⟩

end Go.Proofs.Ytgiefcolkohgkaa
