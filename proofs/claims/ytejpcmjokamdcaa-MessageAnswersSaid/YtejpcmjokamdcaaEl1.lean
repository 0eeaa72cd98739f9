/- Layer 15: put, get, Clone, Same. -/
import Derived.Test.YtejpcmjokamdcaaProg
import Derived.Test.YtejpcmjokamdcaaIe1
set_option linter.unusedVariables false
set_option linter.unusedSimpArgs false
namespace Go.Proofs.Ytejpcmjokamdcaa
open Go.Vc Go.RowKit

set_option maxRecDepth 100000 in
set_option maxHeartbeats 4000000 in
theorem put_any (A : Option Addr) (n c : Nat) (w : World) (base : Nat) (xs : List Int) (v many : Nat) (hA : Rw w base 5 A n c (iL .u8 xs)) (hm : 1 ≤ many ∧ many ≤ 8) (hlen : n ≤ 100000) (hbase : base ≤ w.heap.size) :
  CV Try.prog 52 #[.slice A n c, .int .i64 ((v : Nat) : Int), .int .i64 ((many : Nat) : Int)] w (fun x w1 => ∃ A' c', x = .slice A' (n + many) c' ∧ Rw w1 base 5 A' (n + many) c' (iL .u8 (xs ++ digL v many)) ∧ StepT 5 base w w1) := by
 have hS : StepT 5 base w w := StepT.refl _ _ _
 refine CV_enter Try.f52 _ 23 [(0, .slice A n c), (1, .int .i64 ((v : Nat) : Int)), (2, .int .i64 ((many : Nat) : Int))] Try.func52 rfl rfl (by kernel_rfl) rfl ?_
 refine VC_seq ?_
 refine VC_region ?_
 refine VL_pure 1 [0, 1, 2] [(0, .slice A n c), (1, .int .i64 ((v : Nat) : Int)), (2, .int .i64 ((many : Nat) : Int))] (by kernel_rfl) rfl ?_
 refine VL_end (by kernel_rfl) ?_
 refine VQ_next ?_
 refine VC_seq ?_
 refine VC_seq ?_
 refine VC_region ?_
 refine VL_pure 2 [0, 1, 9] [(0, .slice A n c), (1, .int .i64 ((v : Nat) : Int)), (9, .int .i64 (IntKind.wrap .i64 (((many : Nat) : Int) - 1)))] (by kernel_rfl) rfl ?_
 have he1 : IntKind.wrap .i64 (((many : Nat) : Int) - 1) = ((many - 1 : Nat) : Int) := (by rw [wrap_i64 _ (by omega) (by omega)]; omega)
 refine VL_eq [(0, .slice A n c), (1, .int .i64 ((v : Nat) : Int)), (9, .int .i64 ((many - 1 : Nat) : Int))] (by rw [he1]) ?_
 refine VL_eq [(0, .slice A n c), (1, .int .i64 ((v : Nat) : Int)), (9, .int .i64 (((many : Nat) : Int) - 1 - ((0 : Nat) : Int)))] (by first | rfl | (rw [show ((many - 1 : Nat) : Int) = ((many : Nat) : Int) - 1 - ((0 : Nat) : Int) by omega])) ?_
 refine VL_pure 3 [0, 1, 7] [(0, .slice A n c), (1, .int .i64 ((v : Nat) : Int)), (7, .int .i64 (((many : Nat) : Int) - 1 - ((0 : Nat) : Int)))] (by kernel_rfl) rfl ?_
 refine VL_end (by kernel_rfl) ?_
 refine VQ_next ?_
 refine VC_block ?_
 refine VC_loop (σ := Nat × (Option Addr) × Nat) (fun σs => [(1, .int .i64 ((v : Nat) : Int)), (7, .int .i64 (((many : Nat) : Int) - 1 - ((σs.1 : Nat) : Int))), (0, .slice σs.2.1 (n + σs.1) σs.2.2)]) (fun σs w1 => (σs.1 ≤ many) ∧ (StepT 5 base w w1) ∧ (base ≤ w1.heap.size) ∧ (Rw w1 base 5 σs.2.1 (n + σs.1) σs.2.2 (iL .u8 (xs ++ (digL v many).take σs.1)))) (fun σs w1 => many - σs.1) ⟨0, A, c⟩ ⟨rfl, rfl, rfl, trivial⟩ ?_ ?_
 ·exact ⟨Nat.zero_le _, hS, hbase, (Rw.cast hA rfl (by simp))⟩
 rintro ⟨j, A1, c1⟩ w1 ⟨hj, hS, hbase, hr1⟩
 try dsimp only at hj hS hbase hr1 ⊢
 refine VC_seq ?_
 refine VC_seq ?_
 refine VC_region ?_
 refine VL_pure 2 [1, 7, 0, 11] [(1, .int .i64 ((v : Nat) : Int)), (7, .int .i64 (((many : Nat) : Int) - 1 - ((j : Nat) : Int))), (0, .slice A1 (n + j) c1), (11, .bool (decide ((((many : Nat) : Int) - 1 - ((j : Nat) : Int)) ≥ 0)))] (by kernel_rfl) rfl ?_
 refine VL_end (by kernel_rfl) ?_
 refine VQ_next ?_
 refine VC_dec ((((many : Nat) : Int) - 1 - ((j : Nat) : Int)) ≥ 0) (by kernel_rfl) (fun h1 => ?_) (fun h1 => ?_)
 ·refine VC_skip ?_
  refine VQ_next ?_
  refine VC_seq ?_
  refine VC_block ?_
  refine VC_region ?_
  refine VL_pure 4 [1, 7, 14, 15, 17] [(1, .int .i64 ((v : Nat) : Int)), (7, .int .i64 (((many : Nat) : Int) - 1 - ((j : Nat) : Int))), (14, .slice A1 (n + j) c1), (15, .int .i64 ((v : Nat) : Int)), (17, .int .i64 (IntKind.wrap .i64 (8 * (((many : Nat) : Int) - 1 - ((j : Nat) : Int)))))] (by kernel_rfl) rfl ?_
  refine VL_shr (d := 18) (k := .i64) (x := ((v : Nat) : Int)) (y := (IntKind.wrap .i64 (8 * (((many : Nat) : Int) - 1 - ((j : Nat) : Int))))) (by kernel_rfl) (by kernel_rfl) (8 * (many - 1 - j)) (by rw [wrap_i64 _ (by omega) (by omega)]; omega) (by simp only [IntKind.bits]; omega) ?_
  refine VL_pure 6 [1, 7, 14, 19] [(1, .int .i64 ((v : Nat) : Int)), (7, .int .i64 (((many : Nat) : Int) - 1 - ((j : Nat) : Int))), (14, .slice A1 (n + j) c1), (19, .int .u8 (IntKind.wrap .u8 (((v : Nat) : Int).fdiv (2 ^ (8 * (many - 1 - j))))))] (by kernel_rfl) rfl ?_
  have hzs1 := hS.size
  have hzk1 := hbase
  have hub1 := hr1.ub
  refine VL_bs (d := 20) (e := 5) (c := #[.int .u8 (IntKind.wrap .u8 (((v : Nat) : Int).fdiv (2 ^ (8 * (many - 1 - j)))))]) (len := 1) (by kernel_rfl) (by kernel_rfl) ?_
  intro b1 w2 hn1
  replace hS := StepT.no hS (hn1.step No)
  replace hbase := Nat.le_trans hbase (hn1.step No).size
  replace hr1 := hr1.no (hn1.step No)
  have ho1 := hn1.own
  have hzhn1 := hn1.size
  have hqhn1 := hn1.eqb
  have hzs2 := hS.size
  have hzk2 := hbase
  have hzl1 := ho1.lt
  refine VL_appendT (d := 21) (e := 5) (A := A1) (m := (n + j)) (c := c1) (A2 := (some ⟨b1, 0, none⟩)) (m2 := 1) (c2 := 1) (bytes := 1) (by kernel_rfl) (by kernel_rfl) (by kernel_rfl) base w2.heap.size (iL .u8 (xs ++ (digL v many).take j)) (iL .u8 ([IntKind.wrap .u8 (((v : Nat) : Int).fdiv (2 ^ (8 * (many - 1 - j))))])) hr1 (by rw [iL_length]; first | done | exact rfl) (Sl.mono (Own.sl ho1 ho1.lt) (by first | exact Nat.le_refl _ | omega)) iL_one (n + j + 1) (by omega) (by simp only [maxLen]; omega) (by omega) (by omega) ?_
  intro A2 c2 w3 hr2 hg1
  replace hr2 : Rw w3 base 5 A2 (n + j + 1) c2 (iL .u8 (xs ++ (digL v many).take j ++ ([IntKind.wrap .u8 (((v : Nat) : Int).fdiv (2 ^ (8 * (many - 1 - j))))]))) := Rw.cast hr2 rfl (by simp only [iL, List.map_append, List.map_cons, List.map_nil, List.append_assoc, List.cons_append, List.nil_append, List.append_nil])
  have hzhg1 := hg1.size
  have hg1S : Step (fun k => base ≤ k) _ _ := Step.mono hg1 (fun i hi => hi.1)
  replace hS := StepT.trans hS (StepT.low hg1 (by omega))
  replace hbase := Nat.le_trans hbase (hg1S).size
  refine VL_pure 9 [1, 7, 0] [(1, .int .i64 ((v : Nat) : Int)), (7, .int .i64 (((many : Nat) : Int) - 1 - ((j : Nat) : Int))), (0, .slice A2 (n + j + 1) c2)] (by kernel_rfl) rfl ?_
  refine VL_end (by kernel_rfl) ?_
  refine VQ_block_normal ?_
  refine VQ_next ?_
  refine VC_region ?_
  refine VL_pure 2 [1, 0, 13] [(1, .int .i64 ((v : Nat) : Int)), (0, .slice A2 (n + j + 1) c2), (13, .int .i64 (IntKind.wrap .i64 ((((many : Nat) : Int) - 1 - ((j : Nat) : Int)) - 1)))] (by kernel_rfl) rfl ?_
  refine VL_eq [(1, .int .i64 ((v : Nat) : Int)), (0, .slice A2 (n + j + 1) c2), (13, .int .i64 (((many : Nat) : Int) - 1 - (((j + 1) : Nat) : Int)))] (by rw [wrap_i64 _ (by omega) (by omega)]; rw [show ((many : Nat) : Int) - 1 - ((j : Nat) : Int) - 1 = ((many : Nat) : Int) - 1 - ((j + 1 : Nat) : Int) by omega]) ?_
  refine VL_pure 3 [1, 0, 7] [(1, .int .i64 ((v : Nat) : Int)), (0, .slice A2 (n + j + 1) c2), (7, .int .i64 (((many : Nat) : Int) - 1 - (((j + 1) : Nat) : Int)))] (by kernel_rfl) rfl ?_
  refine VL_end (by kernel_rfl) ?_
  refine VQ_again ⟨j + 1, A2, c2⟩ ⟨rfl, rfl, rfl, trivial⟩ ?_ ?_
  ·exact ⟨(by omega), hS, hbase, (Rw.cast hr2 (by omega) (by rw [List.append_assoc, digL_succ _ _ _ (by omega)]))⟩
  ·(try dsimp only); omega
 ·refine VC_exit ?_
  refine VQ_then_exit ?_
  refine VQ_then_exit ?_
  refine VQ_block_hit ?_
  refine VQ_next ?_
  refine VC_seq ?_
  refine VC_region ?_
  refine VL_pure 2 [6] [(6, .slice A1 (n + j) c1)] (by kernel_rfl) rfl ?_
  refine VL_end (by kernel_rfl) ?_
  refine VQ_next ?_
  refine VC_ret ?_
  refine VQ_ret1 (.slice A1 (n + j) c1) (.inr rfl) rfl rfl ?_
  obtain rfl : many = j := by omega
  exact ⟨_, _, rfl, Rw.cast hr1 rfl (by rw [List.take_of_length_le (by rw [digL_len]; omega)]), hS⟩

set_option maxRecDepth 100000 in
set_option maxHeartbeats 4000000 in
theorem get_any (A : Option Addr) (n c Bd : Nat) (bs : List Int) (w : World) (hn : bs.length = n) (hA : Sl w Bd A (iL .u8 bs)) (hlen : n ≤ 100000) :
  CV Try.prog 53 #[.slice A n c] w (fun x w1 => x = .int .i64 (getL bs) ∧ Step No w w1) := by
 have hS : Step No w w := Step.refl _ _
 refine CV_enter Try.f53 _ 19 [(0, .slice A n c)] Try.func53 rfl rfl (by kernel_rfl) rfl ?_
 refine VC_seq ?_
 refine VC_region ?_
 refine VL_pure 1 [0] [(0, .slice A n c)] (by kernel_rfl) rfl ?_
 refine VL_end (by kernel_rfl) ?_
 refine VQ_next ?_
 refine VC_seq ?_
 refine VC_region ?_
 refine VL_pure 1 [0, 3] [(0, .slice A n c), (3, .int .i64 0)] (by kernel_rfl) rfl ?_
 refine VL_end (by kernel_rfl) ?_
 refine VQ_next ?_
 refine VC_seq ?_
 refine VC_seq ?_
 refine VC_region ?_
 refine VL_pure 3 [3, 6, 7, 8] [(3, .int .i64 0), (6, .slice A n c), (7, .int .i64 ((n : Nat) : Int)), (8, .int .i64 0)] (by kernel_rfl) rfl ?_
 refine VL_end (by kernel_rfl) ?_
 refine VQ_next ?_
 refine VC_block ?_
 refine VC_loop (σ := Nat) (fun σs => [(6, .slice A n c), (7, .int .i64 ((n : Nat) : Int)), (8, .int .i64 ((σs : Nat) : Int)), (3, .int .i64 (getL (bs.take σs)))]) (fun σs w1 => (σs ≤ n) ∧ (Step No w w1) ∧ (Sl w1 Bd A (iL .u8 bs))) (fun σs w1 => n - σs) 0 ⟨rfl, rfl, rfl, rfl, trivial⟩ ?_ ?_
 ·exact ⟨Nat.zero_le _, hS, hA⟩
 rintro j w1 ⟨hj, hS, hA⟩
 try dsimp only at hj hS hA ⊢
 refine VC_seq ?_
 refine VC_region ?_
 refine VL_pure 1 [6, 7, 8, 3, 9] [(6, .slice A n c), (7, .int .i64 ((n : Nat) : Int)), (8, .int .i64 ((j : Nat) : Int)), (3, .int .i64 (getL (bs.take j))), (9, .bool (decide (((j : Nat) : Int) < ((n : Nat) : Int))))] (by kernel_rfl) rfl ?_
 refine VL_end (by kernel_rfl) ?_
 refine VQ_next ?_
 refine VC_seq ?_
 refine VC_dec (((j : Nat) : Int) < ((n : Nat) : Int)) (by kernel_rfl) (fun h1 => ?_) (fun h1 => ?_)
 ·refine VC_skip ?_
  refine VQ_next ?_
  refine VC_seq ?_
  refine VC_block ?_
  refine VC_seq ?_
  refine VC_region ?_
  obtain ⟨sb1, so1, rfl, hlbsb1⟩ := hA.open (by simp only [iL_length]; omega)
  refine VL_index (d := 10) (b := sb1) (o := so1) (len := n) (sz := 1) (m := ((j : Nat) : Int)) (by kernel_rfl) (by kernel_rfl) j (by rfl) (by omega) (so1 + j) (by omega) ?_
  refine VL_load (d := 11) (t := 5) (a := ⟨sb1, so1 + j, none⟩) (v := .int .u8 (bs.getD j 0)) (by kernel_rfl) (by kernel_rfl) (Sl.ldI hA (by kernel_rfl) j (by (try simp only [List.length_set, List.length_append, List.length_map, List.length_replicate, List.length_cons, List.length_nil, List.length_take, List.length_drop, List.length_range]) <;> omega)) ?_
  refine VL_pure 3 [6, 7, 8, 3, 5] [(6, .slice (some ⟨sb1, so1, none⟩) n c), (7, .int .i64 ((n : Nat) : Int)), (8, .int .i64 ((j : Nat) : Int)), (3, .int .i64 (getL (bs.take j))), (5, .int .u8 (bs.getD j 0))] (by kernel_rfl) rfl ?_
  refine VL_end (by kernel_rfl) ?_
  refine VQ_next ?_
  refine VC_region ?_
  refine VL_pure 5 [6, 7, 8, 16] [(6, .slice (some ⟨sb1, so1, none⟩) n c), (7, .int .i64 ((n : Nat) : Int)), (8, .int .i64 ((j : Nat) : Int)), (16, .int .i64 (bOr .i64 (IntKind.wrap .i64 ((getL (bs.take j)) * 2 ^ 8)) (IntKind.wrap .i64 (bs.getD j 0))))] (by kernel_rfl) rfl ?_
  refine VL_eq [(6, .slice (some ⟨sb1, so1, none⟩) n c), (7, .int .i64 ((n : Nat) : Int)), (8, .int .i64 ((j : Nat) : Int)), (16, .int .i64 (getL (bs.take (j + 1))))] (by rw [getL_succ (show j < bs.length by omega)]) ?_
  refine VL_pure 6 [6, 7, 8, 3] [(6, .slice (some ⟨sb1, so1, none⟩) n c), (7, .int .i64 ((n : Nat) : Int)), (8, .int .i64 ((j : Nat) : Int)), (3, .int .i64 (getL (bs.take (j + 1))))] (by kernel_rfl) rfl ?_
  refine VL_end (by kernel_rfl) ?_
  refine VQ_block_normal ?_
  refine VQ_next ?_
  refine VC_region ?_
  refine VL_pure 1 [6, 7, 3, 17] [(6, .slice (some ⟨sb1, so1, none⟩) n c), (7, .int .i64 ((n : Nat) : Int)), (3, .int .i64 (getL (bs.take (j + 1)))), (17, .int .i64 (IntKind.wrap .i64 (((j : Nat) : Int) + 1)))] (by kernel_rfl) rfl ?_
  have he1 : IntKind.wrap .i64 (((j : Nat) : Int) + 1) = ((j + 1 : Nat) : Int) := (by rw [wrap_i64 _ (by omega) (by omega)]; omega)
  refine VL_eq [(6, .slice (some ⟨sb1, so1, none⟩) n c), (7, .int .i64 ((n : Nat) : Int)), (3, .int .i64 (getL (bs.take (j + 1)))), (17, .int .i64 ((j + 1 : Nat) : Int))] (by rw [he1]) ?_
  refine VL_pure 2 [6, 7, 3, 8] [(6, .slice (some ⟨sb1, so1, none⟩) n c), (7, .int .i64 ((n : Nat) : Int)), (3, .int .i64 (getL (bs.take (j + 1)))), (8, .int .i64 ((j + 1 : Nat) : Int))] (by kernel_rfl) rfl ?_
  refine VL_end (by kernel_rfl) ?_
  refine VQ_again (j + 1) ⟨rfl, rfl, rfl, rfl, trivial⟩ ?_ ?_
  ·exact ⟨(by omega), hS, hA⟩
  ·(try dsimp only); omega
 ·refine VC_exit ?_
  refine VQ_then_exit ?_
  refine VQ_then_exit ?_
  refine VQ_block_hit ?_
  refine VQ_next ?_
  refine VC_seq ?_
  refine VC_region ?_
  refine VL_pure 2 [2] [(2, .int .i64 (getL (bs.take j)))] (by kernel_rfl) rfl ?_
  refine VL_end (by kernel_rfl) ?_
  refine VQ_next ?_
  refine VC_ret ?_
  refine VQ_ret1 (.int .i64 (getL (bs.take j))) (.inr rfl) rfl rfl ?_
  obtain rfl : j = n := by omega
  exact ⟨by rw [List.take_of_length_le (by omega)], hS⟩

set_option maxRecDepth 100000 in
set_option maxHeartbeats 4000000 in
theorem clone_some (b o n c Bd : Nat) (bs : List Int) (w : World) (hn : bs.length = n) (hA : Sl w Bd (some ⟨b, o, none⟩) (iL .u8 bs)) (hlen : n ≤ 1000000) (hBd : Bd ≤ w.heap.size) :
  CV Try.prog 43 #[.slice (some ⟨b, o, none⟩) n c] w (fun x w1 => ∃ A' c', x = .slice A' n c' ∧ Rw w1 w.heap.size 5 A' n c' (iL .u8 bs) ∧ Step No w w1) := by
 have hS : Step No w w := Step.refl _ _
 refine CV_enter Try.f43 _ 8 [(0, .slice (some ⟨b, o, none⟩) n c)] Try.func43 rfl rfl (by kernel_rfl) rfl ?_
 refine VC_seq ?_
 refine VC_region ?_
 refine VL_pure 1 [0] [(0, .slice (some ⟨b, o, none⟩) n c)] (by kernel_rfl) rfl ?_
 refine VL_end (by kernel_rfl) ?_
 refine VQ_next ?_
 refine VC_seq ?_
 refine VC_seq ?_
 refine VC_region ?_
 refine VL_pure 2 [0, 4] [(0, .slice (some ⟨b, o, none⟩) n c), (4, .bool false)] (by kernel_rfl) rfl ?_
 refine VL_end (by kernel_rfl) ?_
 refine VQ_next ?_
 refine VC_false (by kernel_rfl) ?_
 refine VC_skip ?_
 refine VQ_next ?_
 refine VC_seq ?_
 refine VC_region ?_
 have hzs1 := hS.size
 refine VL_bs (d := 5) (e := 5) (c := #[]) (len := 0) (by kernel_rfl) (by kernel_rfl) ?_
 intro b1 w1 hn1
 replace hS := Step.trans hS (hn1.step No)
 replace hA := hA.no (hn1.step No)
 have ho1 := hn1.own
 have hzhn1 := hn1.size
 have hqhn1 := hn1.eqb
 refine VL_pure 2 [5, 6] [(5, .slice (some ⟨b1, 0, none⟩) 0 0), (6, .slice (some ⟨b, o, none⟩) n c)] (by kernel_rfl) rfl ?_
 have hzs2 := hS.size
 have hzl1 := ho1.lt
 have hbase1 := Nat.le_of_lt ho1.lt
 refine VL_appendS (d := 7) (e := 5) (A := (some ⟨b1, 0, none⟩)) (m := 0) (c := 0) (A2 := (some ⟨b, o, none⟩)) (m2 := n) (c2 := c) (bytes := 1) (by kernel_rfl) (by kernel_rfl) (by kernel_rfl) b1 w1.heap.size (iL .u8 ([])) (iL .u8 bs) (Rw.of_new ho1 (Nat.le_refl _) (Nat.le_of_ble_eq_true (by kernel_rfl))) (by rw [iL_length]; first | done | exact hn) (Sl.mono hA (by first | exact Nat.le_refl _ | omega)) iL_one n (by omega) (by simp only [maxLen]; omega) (by omega) (by omega) ?_
 intro A1 c1 w2 hr1 hg1
 replace hr1 : Rw w2 b1 5 A1 n c1 (iL .u8 bs) := Rw.cast hr1 rfl (by simp only [iL, List.map_append, List.map_cons, List.map_nil, List.append_assoc, List.cons_append, List.nil_append, List.append_nil])
 have hzhg1 := hg1.size
 replace hS := Step.transNew hS hg1 (fun i hi hG => by (try simp only at hG); omega)
 replace hA := hA.step hg1 (fun k hk hG => by (try simp only at hG); omega)
 replace hbase1 := Nat.le_trans hbase1 (hg1).size
 refine VL_pure 4 [2] [(2, .slice A1 n c1)] (by kernel_rfl) rfl ?_
 refine VL_end (by kernel_rfl) ?_
 refine VQ_next ?_
 refine VC_ret ?_
 refine VQ_ret1 (.slice A1 n c1) (.inr rfl) rfl rfl ?_
 exact ⟨_, _, rfl, Rw.low hr1 (by omega), hS⟩

set_option maxRecDepth 100000 in
set_option maxHeartbeats 4000000 in
theorem clone_none (w : World) :
  CV Try.prog 43 #[.slice none 0 0] w (fun x w1 => x = .slice none 0 0 ∧ Step No w w1) := by
 have hS : Step No w w := Step.refl _ _
 refine CV_enter Try.f43 _ 8 [(0, .slice none 0 0)] Try.func43 rfl rfl (by kernel_rfl) rfl ?_
 refine VC_seq ?_
 refine VC_region ?_
 refine VL_pure 1 [0] [(0, .slice none 0 0)] (by kernel_rfl) rfl ?_
 refine VL_end (by kernel_rfl) ?_
 refine VQ_next ?_
 refine VC_seq ?_
 refine VC_seq ?_
 refine VC_region ?_
 refine VL_pure 2 [0, 4] [(0, .slice none 0 0), (4, .bool true)] (by kernel_rfl) rfl ?_
 refine VL_end (by kernel_rfl) ?_
 refine VQ_next ?_
 refine VC_true (by kernel_rfl) ?_
 refine VC_seq ?_
 refine VC_region ?_
 refine VL_pure 1 [2] [(2, .slice none 0 0)] (by kernel_rfl) rfl ?_
 refine VL_end (by kernel_rfl) ?_
 refine VQ_next ?_
 refine VC_ret ?_
 refine VQ_then_ret ?_
 refine VQ_ret1 (.slice none 0 0) (.inr rfl) rfl rfl ?_
 exact ⟨rfl, hS⟩

end Go.Proofs.Ytejpcmjokamdcaa
