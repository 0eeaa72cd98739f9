/- Layer 1, the document's: Rest, the first bits turned over. -/
import Derived.Test.YtgiefcolkohgkaaProg
import Derived.Test.YtgiefcolkohgkaaRf1
import Derived.Test.YtgiefcolkohgkaaRf6
set_option linter.unusedVariables false
set_option linter.unusedSimpArgs false
namespace Go.Proofs.Ytgiefcolkohgkaa
open Go.Vc Go.RowKit

set_option maxRecDepth 100000 in
set_option maxHeartbeats 4000000 in
theorem rrestT_any (A : Option Addr) (n c Bd : Nat) (bs : List Int) (w : World) (hn : bs.length = n) (hA : Sl w Bd A (iL .i64 bs)) (hlen : n ≤ 100000) (hBd : Bd ≤ w.heap.size) (by_ : Int) (d : Nat) (hd0 : 1 ≤ d) (hd : d ≤ 64) :
    CV Try.prog 36 #[.slice A n c, .int .u64 by_, .int .i64 ((d : Nat) : Int), .bool true] w (fun x w1 => x = .int .u64 (numF (divF (gF by_ d d) (flipF (bs ++ List.replicate d 0) d) n) n d) ∧ Step No w w1) := by
  have hS : Step No w w := Step.refl _ _
  refine CV_enter Try.f36 _ 113 [(0, .slice A n c), (1, .int .u64 by_), (2, .int .i64 ((d : Nat) : Int)), (3, .bool true)] Try.func36 rfl rfl (by kernel_rfl) rfl ?_
  refine VC_seq ?_
  refine VC_region ?_
  refine VL_pure 1 [0, 1, 2, 3] [(0, .slice A n c), (1, .int .u64 by_), (2, .int .i64 ((d : Nat) : Int)), (3, .bool true)] (by kernel_rfl) rfl ?_
  refine VL_end (by kernel_rfl) ?_
  refine VQ_next ?_
  refine VC_seq ?_
  refine VC_region ?_
  have hzs1 := hS.size
  refine VL_bs (d := 18) (e := 3) (c := #[]) (len := 0) (by kernel_rfl) (by kernel_rfl) ?_
  intro b1 w1 hn1
  replace hS := Step.trans hS (hn1.step No)
  replace hA := hA.no (hn1.step No)
  have ho1 := hn1.own
  have hzhn1 := hn1.size
  have hqhn1 := hn1.eqb
  refine VL_pure 2 [1, 2, 3, 18, 19] [(1, .int .u64 by_), (2, .int .i64 ((d : Nat) : Int)), (3, .bool true), (18, .slice (some ⟨b1, 0, none⟩) 0 0), (19, .slice A n c)] (by kernel_rfl) rfl ?_
  have hzs2 := hS.size
  have hzl1 := ho1.lt
  have hbase1 := Nat.le_of_lt ho1.lt
  refine VL_appendS (d := 20) (e := 3) (A := (some ⟨b1, 0, none⟩)) (m := 0) (c := 0) (A2 := A) (m2 := n) (c2 := c) (bytes := 8) (by kernel_rfl) (by kernel_rfl) (by kernel_rfl) b1 w1.heap.size (iL .i64 ([])) (iL .i64 bs) (Rw.of_new ho1 (Nat.le_refl _) (Nat.le_of_ble_eq_true (by kernel_rfl))) (by rw [iL_length]; first | done | exact hn) (Sl.mono hA (by first | exact Nat.le_refl _ | omega)) iL_one n (by omega) (by simp only [maxLen]; omega) (by omega) (by omega) ?_
  intro A1 c1 w2 hr1 hg1
  replace hr1 : Rw w2 b1 3 A1 n c1 (iL .i64 bs) := Rw.cast hr1 rfl (by simp only [iL, List.map_append, List.map_cons, List.map_nil, List.append_assoc, List.cons_append, List.nil_append, List.append_nil])
  have hzhg1 := hg1.size
  replace hS := Step.transNew hS hg1 (fun i hi hG => by (try simp only at hG); omega)
  replace hA := hA.step hg1 (fun k hk hG => by (try simp only at hG); omega)
  replace hbase1 := Nat.le_trans hbase1 (hg1).size
  refine VL_pure 4 [1, 2, 3, 9] [(1, .int .u64 by_), (2, .int .i64 ((d : Nat) : Int)), (3, .bool true), (9, .slice A1 n c1)] (by kernel_rfl) rfl ?_
  refine VL_end (by kernel_rfl) ?_
  refine VQ_next ?_
  refine VC_seq ?_
  refine VC_seq ?_
  refine VC_region ?_
  refine VL_pure 1 [1, 2, 3, 9, 10] [(1, .int .u64 by_), (2, .int .i64 ((d : Nat) : Int)), (3, .bool true), (9, .slice A1 n c1), (10, .int .i64 0)] (by kernel_rfl) rfl ?_
  refine VL_end (by kernel_rfl) ?_
  refine VQ_next ?_
  refine VC_block ?_
  refine VC_loop (σ := Nat × (Option Addr) × Nat) (fun σs => [(1, .int .u64 by_), (2, .int .i64 ((d : Nat) : Int)), (3, .bool true), (10, .int .i64 ((σs.1 : Nat) : Int)), (9, .slice σs.2.1 (n + σs.1) σs.2.2)]) (fun σs w3 => (σs.1 ≤ d) ∧ (Step No w w3) ∧ (Sl w3 Bd A (iL .i64 bs)) ∧ (b1 ≤ w3.heap.size) ∧ (Rw w3 b1 3 σs.2.1 (n + σs.1) σs.2.2 (iL .i64 (bs ++ List.replicate σs.1 0)))) (fun σs w3 => d - σs.1) ⟨0, A1, c1⟩ ⟨rfl, rfl, rfl, rfl, rfl, trivial⟩ ?_ ?_
  · exact ⟨Nat.zero_le _, hS, hA, hbase1, (Rw.cast hr1 rfl (by simp))⟩
  rintro ⟨i, A2, c2⟩ w3 ⟨hi, hS, hA, hbase1, hr2⟩
  try dsimp only at hi hS hA hbase1 hr2 ⊢
  refine VC_seq ?_
  refine VC_seq ?_
  refine VC_region ?_
  refine VL_pure 3 [1, 2, 3, 10, 9, 23] [(1, .int .u64 by_), (2, .int .i64 ((d : Nat) : Int)), (3, .bool true), (10, .int .i64 ((i : Nat) : Int)), (9, .slice A2 (n + i) c2), (23, .bool (decide (((i : Nat) : Int) < ((d : Nat) : Int))))] (by kernel_rfl) rfl ?_
  refine VL_end (by kernel_rfl) ?_
  refine VQ_next ?_
  refine VC_dec (((i : Nat) : Int) < ((d : Nat) : Int)) (by kernel_rfl) (fun h1 => ?_) (fun h1 => ?_)
  · refine VC_skip ?_
    refine VQ_next ?_
    refine VC_seq ?_
    refine VC_block ?_
    refine VC_region ?_
    refine VL_pure 1 [1, 2, 3, 10, 26] [(1, .int .u64 by_), (2, .int .i64 ((d : Nat) : Int)), (3, .bool true), (10, .int .i64 ((i : Nat) : Int)), (26, .slice A2 (n + i) c2)] (by kernel_rfl) rfl ?_
    have hzs3 := hS.size
    have hzk1 := hbase1
    refine VL_bs (d := 27) (e := 3) (c := #[.int .i64 0]) (len := 1) (by kernel_rfl) (by kernel_rfl) ?_
    intro b2 w4 hn2
    replace hS := Step.trans hS (hn2.step No)
    replace hA := hA.no (hn2.step No)
    replace hbase1 := Nat.le_trans hbase1 (hn2.step No).size
    replace hr2 := hr2.no (hn2.step No)
    have ho2 := hn2.own
    have hzhn2 := hn2.size
    have hqhn2 := hn2.eqb
    have hzs4 := hS.size
    have hzk2 := hbase1
    have hzl2 := ho2.lt
    refine VL_appendS (d := 28) (e := 3) (A := A2) (m := (n + i)) (c := c2) (A2 := (some ⟨b2, 0, none⟩)) (m2 := 1) (c2 := 1) (bytes := 8) (by kernel_rfl) (by kernel_rfl) (by kernel_rfl) b1 w4.heap.size (iL .i64 (bs ++ List.replicate i 0)) (iL .i64 ([0])) hr2 (by rw [iL_length]; first | done | exact rfl) (Sl.mono (Own.sl ho2 ho2.lt) (by first | exact Nat.le_refl _ | omega)) iL_one (n + i + 1) (by omega) (by simp only [maxLen]; omega) (by omega) (by omega) ?_
    intro A3 c3 w5 hr3 hg2
    replace hr3 : Rw w5 b1 3 A3 (n + i + 1) c3 (iL .i64 (bs ++ List.replicate i 0 ++ ([0]))) := Rw.cast hr3 rfl (by simp only [iL, List.map_append, List.map_cons, List.map_nil, List.append_assoc, List.cons_append, List.nil_append, List.append_nil])
    have hzhg2 := hg2.size
    replace hS := Step.transNew hS hg2 (fun i hi hG => by (try simp only at hG); omega)
    replace hA := hA.step hg2 (fun k hk hG => by (try simp only at hG); omega)
    replace hbase1 := Nat.le_trans hbase1 (hg2).size
    refine VL_pure 4 [1, 2, 3, 10, 9] [(1, .int .u64 by_), (2, .int .i64 ((d : Nat) : Int)), (3, .bool true), (10, .int .i64 ((i : Nat) : Int)), (9, .slice A3 (n + i + 1) c3)] (by kernel_rfl) rfl ?_
    refine VL_end (by kernel_rfl) ?_
    refine VQ_block_normal ?_
    refine VQ_next ?_
    refine VC_region ?_
    refine VL_pure 2 [1, 2, 3, 9, 25] [(1, .int .u64 by_), (2, .int .i64 ((d : Nat) : Int)), (3, .bool true), (9, .slice A3 (n + i + 1) c3), (25, .int .i64 (IntKind.wrap .i64 (((i : Nat) : Int) + 1)))] (by kernel_rfl) rfl ?_
    have he1 : IntKind.wrap .i64 (((i : Nat) : Int) + 1) = ((i + 1 : Nat) : Int) := (by rw [wrap_i64 _ (by omega) (by omega)]; omega)
    refine VL_eq [(1, .int .u64 by_), (2, .int .i64 ((d : Nat) : Int)), (3, .bool true), (9, .slice A3 (n + i + 1) c3), (25, .int .i64 ((i + 1 : Nat) : Int))] (by rw [he1]) ?_
    refine VL_pure 3 [1, 2, 3, 9, 10] [(1, .int .u64 by_), (2, .int .i64 ((d : Nat) : Int)), (3, .bool true), (9, .slice A3 (n + i + 1) c3), (10, .int .i64 ((i + 1 : Nat) : Int))] (by kernel_rfl) rfl ?_
    refine VL_end (by kernel_rfl) ?_
    refine VQ_again ⟨i + 1, A3, c3⟩ ⟨rfl, rfl, rfl, rfl, rfl, trivial⟩ ?_ ?_
    · exact ⟨(by omega), hS, hA, hbase1, (Rw.cast hr3 rfl (by rw [List.replicate_succ', List.append_assoc]))⟩
    · (try dsimp only); omega
  · refine VC_exit ?_
    refine VQ_then_exit ?_
    refine VQ_then_exit ?_
    refine VQ_block_hit ?_
    refine VQ_next ?_
    refine VC_seq ?_
    refine VC_seq ?_
    obtain rfl : d = i := by omega
    try dsimp only
    obtain ⟨g1, cur1, rfl, hgbg1, hglg1, -⟩ := hr2.open (by omega)
    refine VC_region ?_
    refine VL_pure 1 [1, 2, 9, 29] [(1, .int .u64 by_), (2, .int .i64 ((d : Nat) : Int)), (9, .slice (some ⟨g1, 0, none⟩) (n + d) c2), (29, .bool true)] (by kernel_rfl) rfl ?_
    refine VL_end (by kernel_rfl) ?_
    refine VQ_next ?_
    refine VC_true (by kernel_rfl) ?_
    refine VC_seq ?_
    refine VC_region ?_
    refine VL_pure 1 [1, 2, 9, 11] [(1, .int .u64 by_), (2, .int .i64 ((d : Nat) : Int)), (9, .slice (some ⟨g1, 0, none⟩) (n + d) c2), (11, .int .i64 0)] (by kernel_rfl) rfl ?_
    refine VL_end (by kernel_rfl) ?_
    refine VQ_next ?_
    refine VC_block ?_
    refine VC_loop (σ := Nat) (fun σs => [(1, .int .u64 by_), (2, .int .i64 ((d : Nat) : Int)), (9, .slice (some ⟨g1, 0, none⟩) (n + d) c2), (11, .int .i64 ((σs : Nat) : Int))]) (fun σs w6 => (σs ≤ d) ∧ (Step No w w6) ∧ (Sl w6 Bd A (iL .i64 bs)) ∧ (b1 ≤ w6.heap.size) ∧ (g1 < w6.heap.size) ∧ (Rw w6 b1 3 (some ⟨g1, 0, none⟩) (n + d) c2 (iL .i64 (flipF (bs ++ List.replicate d 0) σs)))) (fun σs w6 => d - σs) 0 ⟨rfl, rfl, rfl, rfl, trivial⟩ ?_ ?_
    · exact ⟨Nat.zero_le _, hS, hA, hbase1, hglg1, (Rw.cast hr2 rfl rfl)⟩
    rintro i w6 ⟨hi, hS, hA, hbase1, hglg1, hr4⟩
    try dsimp only at hi hS hA hbase1 hglg1 hr4 ⊢
    refine VC_seq ?_
    refine VC_seq ?_
    refine VC_region ?_
    refine VL_pure 3 [1, 2, 9, 11, 32] [(1, .int .u64 by_), (2, .int .i64 ((d : Nat) : Int)), (9, .slice (some ⟨g1, 0, none⟩) (n + d) c2), (11, .int .i64 ((i : Nat) : Int)), (32, .bool (decide (((i : Nat) : Int) < ((d : Nat) : Int))))] (by kernel_rfl) rfl ?_
    refine VL_end (by kernel_rfl) ?_
    refine VQ_next ?_
    refine VC_dec (((i : Nat) : Int) < ((d : Nat) : Int)) (by kernel_rfl) (fun h2 => ?_) (fun h2 => ?_)
    · refine VC_skip ?_
      refine VQ_next ?_
      refine VC_seq ?_
      refine VC_block ?_
      refine VC_region ?_
      refine VL_pure 4 [1, 2, 9, 11, 35, 36, 37, 38] [(1, .int .u64 by_), (2, .int .i64 ((d : Nat) : Int)), (9, .slice (some ⟨g1, 0, none⟩) (n + d) c2), (11, .int .i64 ((i : Nat) : Int)), (35, .slice (some ⟨g1, 0, none⟩) (n + d) c2), (36, .int .i64 ((i : Nat) : Int)), (37, .slice (some ⟨g1, 0, none⟩) (n + d) c2), (38, .int .i64 ((i : Nat) : Int))] (by kernel_rfl) rfl ?_
      refine VL_index (d := 39) (b := g1) (o := 0) (len := (n + d)) (sz := 1) (m := ((i : Nat) : Int)) (by kernel_rfl) (by kernel_rfl) i (by rfl) (by omega) i (by omega) ?_
      refine VL_load (d := 40) (t := 3) (a := ⟨g1, i, none⟩) (v := .int .i64 ((flipF (bs ++ List.replicate d 0) i).getD i 0)) (by kernel_rfl) (by kernel_rfl) (Rw.ldI hr4 (by kernel_rfl) (by omega)) ?_
      refine VL_pure 7 [1, 2, 9, 11, 35, 36, 41] [(1, .int .u64 by_), (2, .int .i64 ((d : Nat) : Int)), (9, .slice (some ⟨g1, 0, none⟩) (n + d) c2), (11, .int .i64 ((i : Nat) : Int)), (35, .slice (some ⟨g1, 0, none⟩) (n + d) c2), (36, .int .i64 ((i : Nat) : Int)), (41, .int .i64 (IntKind.wrap .i64 (1 - ((flipF (bs ++ List.replicate d 0) i).getD i 0))))] (by kernel_rfl) rfl ?_
      refine VL_index (d := 42) (b := g1) (o := 0) (len := (n + d)) (sz := 1) (m := ((i : Nat) : Int)) (by kernel_rfl) (by kernel_rfl) i (by rfl) (by omega) i (by omega) ?_
      obtain ⟨cur2, hgbcur2, hglcur2, howcur2, hcscur2, hcncur2, hcmcur2, hctcur2⟩ := hr4.openG
      refine VL_store (b := g1) (o := i) (vs := [.int .i64 (IntKind.wrap .i64 (1 - ((flipF (bs ++ List.replicate d 0) i).getD i 0)))]) (by kernel_rfl) (by kernel_rfl) howcur2 (by simp only [List.length_singleton]; omega) ?_
      intro w7 hw1
      replace hS := Step.transNew hS hw1.step (fun _ _ _ => by omega)
      replace hA := hA.step hw1.step (fun k hk (hF : k = g1) => by omega)
      replace hbase1 := Nat.le_trans hbase1 (hw1.step).size
      replace hglg1 := Nat.lt_of_lt_of_le hglg1 (hw1.step).size
      have ho3 := Rw.putI hctcur2 hw1 hgbcur2 hcscur2 hcncur2 hcmcur2 (j := i) (by omega)
      have hzhw1 := hw1.same
      refine VL_end (by kernel_rfl) ?_
      refine VQ_block_normal ?_
      refine VQ_next ?_
      refine VC_region ?_
      refine VL_pure 2 [1, 2, 9, 34] [(1, .int .u64 by_), (2, .int .i64 ((d : Nat) : Int)), (9, .slice (some ⟨g1, 0, none⟩) (n + d) c2), (34, .int .i64 (IntKind.wrap .i64 (((i : Nat) : Int) + 1)))] (by kernel_rfl) rfl ?_
      have he2 : IntKind.wrap .i64 (((i : Nat) : Int) + 1) = ((i + 1 : Nat) : Int) := (by rw [wrap_i64 _ (by omega) (by omega)]; omega)
      refine VL_eq [(1, .int .u64 by_), (2, .int .i64 ((d : Nat) : Int)), (9, .slice (some ⟨g1, 0, none⟩) (n + d) c2), (34, .int .i64 ((i + 1 : Nat) : Int))] (by rw [he2]) ?_
      refine VL_pure 3 [1, 2, 9, 11] [(1, .int .u64 by_), (2, .int .i64 ((d : Nat) : Int)), (9, .slice (some ⟨g1, 0, none⟩) (n + d) c2), (11, .int .i64 ((i + 1 : Nat) : Int))] (by kernel_rfl) rfl ?_
      refine VL_end (by kernel_rfl) ?_
      refine VQ_again (i + 1) ⟨rfl, rfl, rfl, rfl, trivial⟩ ?_ ?_
      · exact ⟨(by omega), hS, hA, hbase1, hglg1, (Rw.cast ho3 rfl rfl)⟩
      · (try dsimp only); omega
    · refine VC_exit ?_
      refine VQ_then_exit ?_
      refine VQ_then_exit ?_
      refine VQ_block_hit ?_
      refine VQ_next ?_
      refine VC_seq ?_
      obtain rfl : d = i := by omega
      try dsimp only
      refine VC_region ?_
      have hzs5 := hS.size
      have hzk3 := hbase1
      have hzk4 := hglg1
      refine VL_bs (d := 43) (e := 3) (c := #[.int .i64 1]) (len := 1) (by kernel_rfl) (by kernel_rfl) ?_
      intro b3 w8 hn3
      replace hS := Step.trans hS (hn3.step No)
      replace hA := hA.no (hn3.step No)
      replace hbase1 := Nat.le_trans hbase1 (hn3.step No).size
      replace hglg1 := Nat.lt_of_lt_of_le hglg1 (hn3.step No).size
      replace hr4 := hr4.no (hn3.step No)
      have ho4 := hn3.own
      have hzhn3 := hn3.size
      have hqhn3 := hn3.eqb
      refine VL_pure 2 [1, 2, 9, 12] [(1, .int .u64 by_), (2, .int .i64 ((d : Nat) : Int)), (9, .slice (some ⟨g1, 0, none⟩) (n + d) c2), (12, .slice (some ⟨b3, 0, none⟩) 1 1)] (by kernel_rfl) rfl ?_
      refine VL_end (by kernel_rfl) ?_
      refine VQ_next ?_
      refine VC_seq ?_
      refine VC_seq ?_
      refine VC_region ?_
      refine VL_pure 2 [1, 2, 9, 12, 45] [(1, .int .u64 by_), (2, .int .i64 ((d : Nat) : Int)), (9, .slice (some ⟨g1, 0, none⟩) (n + d) c2), (12, .slice (some ⟨b3, 0, none⟩) 1 1), (45, .int .i64 (IntKind.wrap .i64 (((d : Nat) : Int) - 1)))] (by kernel_rfl) rfl ?_
      have he3 : IntKind.wrap .i64 (((d : Nat) : Int) - 1) = ((d - 1 : Nat) : Int) := (by rw [wrap_i64 _ (by omega) (by omega)]; omega)
      refine VL_eq [(1, .int .u64 by_), (2, .int .i64 ((d : Nat) : Int)), (9, .slice (some ⟨g1, 0, none⟩) (n + d) c2), (12, .slice (some ⟨b3, 0, none⟩) 1 1), (45, .int .i64 ((d - 1 : Nat) : Int))] (by rw [he3]) ?_
      refine VL_eq [(1, .int .u64 by_), (2, .int .i64 ((d : Nat) : Int)), (9, .slice (some ⟨g1, 0, none⟩) (n + d) c2), (12, .slice (some ⟨b3, 0, none⟩) 1 1), (45, .int .i64 (((d : Nat) : Int) - 1 - ((0 : Nat) : Int)))] (by rw [show ((d - 1 : Nat) : Int) = ((d : Nat) : Int) - 1 - ((0 : Nat) : Int) by omega]) ?_
      refine VL_pure 3 [1, 2, 9, 12, 13] [(1, .int .u64 by_), (2, .int .i64 ((d : Nat) : Int)), (9, .slice (some ⟨g1, 0, none⟩) (n + d) c2), (12, .slice (some ⟨b3, 0, none⟩) 1 1), (13, .int .i64 (((d : Nat) : Int) - 1 - ((0 : Nat) : Int)))] (by kernel_rfl) rfl ?_
      refine VL_end (by kernel_rfl) ?_
      refine VQ_next ?_
      refine VC_block ?_
      have hbase2 := Nat.le_of_lt ho4.lt
      refine VC_loop (σ := Nat × (Option Addr) × Nat) (fun σs => [(1, .int .u64 by_), (2, .int .i64 ((d : Nat) : Int)), (9, .slice (some ⟨g1, 0, none⟩) (n + d) c2), (13, .int .i64 (((d : Nat) : Int) - 1 - ((σs.1 : Nat) : Int))), (12, .slice σs.2.1 (σs.1 + 1) σs.2.2)]) (fun σs w9 => (σs.1 ≤ d) ∧ (Step No w w9) ∧ (Sl w9 Bd A (iL .i64 bs)) ∧ (b1 ≤ w9.heap.size) ∧ (g1 < w9.heap.size) ∧ (Rw w9 b1 3 (some ⟨g1, 0, none⟩) (n + d) c2 (iL .i64 (flipF (bs ++ List.replicate d 0) d))) ∧ (b3 ≤ w9.heap.size) ∧ (Rw w9 b3 3 σs.2.1 (σs.1 + 1) σs.2.2 (iL .i64 (gF by_ d σs.1)))) (fun σs w9 => d - σs.1) (⟨0, (some ⟨b3, 0, none⟩), 1⟩) ⟨rfl, rfl, rfl, rfl, rfl, trivial⟩ ?_ ?_
      · exact ⟨Nat.zero_le _, hS, hA, hbase1, hglg1, hr4, hbase2, (Rw.cast (Rw.of_new ho4 (Nat.le_refl _) (Nat.le_of_ble_eq_true (by kernel_rfl))) rfl rfl)⟩
      rintro ⟨k, A4, c4⟩ w9 ⟨hk, hS, hA, hbase1, hglg1, hr4, hbase2, hr5⟩
      try dsimp only at hk hS hA hbase1 hglg1 hr4 hbase2 hr5 ⊢
      refine VC_seq ?_
      refine VC_seq ?_
      refine VC_region ?_
      refine VL_pure 2 [1, 2, 9, 13, 12, 47] [(1, .int .u64 by_), (2, .int .i64 ((d : Nat) : Int)), (9, .slice (some ⟨g1, 0, none⟩) (n + d) c2), (13, .int .i64 (((d : Nat) : Int) - 1 - ((k : Nat) : Int))), (12, .slice A4 (k + 1) c4), (47, .bool (decide ((((d : Nat) : Int) - 1 - ((k : Nat) : Int)) ≥ 0)))] (by kernel_rfl) rfl ?_
      refine VL_end (by kernel_rfl) ?_
      refine VQ_next ?_
      refine VC_dec ((((d : Nat) : Int) - 1 - ((k : Nat) : Int)) ≥ 0) (by kernel_rfl) (fun h3 => ?_) (fun h3 => ?_)
      · refine VC_skip ?_
        refine VQ_next ?_
        refine VC_seq ?_
        refine VC_block ?_
        refine VC_region ?_
        refine VL_pure 3 [1, 2, 9, 13, 50, 51, 52] [(1, .int .u64 by_), (2, .int .i64 ((d : Nat) : Int)), (9, .slice (some ⟨g1, 0, none⟩) (n + d) c2), (13, .int .i64 (((d : Nat) : Int) - 1 - ((k : Nat) : Int))), (50, .slice A4 (k + 1) c4), (51, .int .u64 by_), (52, .int .i64 (((d : Nat) : Int) - 1 - ((k : Nat) : Int)))] (by kernel_rfl) rfl ?_
        refine VL_shr (d := 53) (k := .u64) (x := by_) (y := (((d : Nat) : Int) - 1 - ((k : Nat) : Int))) (by kernel_rfl) (by kernel_rfl) (d - 1 - k) (by omega) (by simp only [IntKind.bits]; omega) ?_
        refine VL_pure 6 [1, 2, 9, 13, 50, 55] [(1, .int .u64 by_), (2, .int .i64 ((d : Nat) : Int)), (9, .slice (some ⟨g1, 0, none⟩) (n + d) c2), (13, .int .i64 (((d : Nat) : Int) - 1 - ((k : Nat) : Int))), (50, .slice A4 (k + 1) c4), (55, .int .i64 (IntKind.wrap .i64 ((by_.fdiv (2 ^ (d - 1 - k))).tmod 2)))] (by kernel_rfl) rfl ?_
        have hzs6 := hS.size
        have hzk5 := hbase1
        have hzk6 := hglg1
        have hzk7 := hbase2
        refine VL_bs (d := 56) (e := 3) (c := #[.int .i64 (IntKind.wrap .i64 ((by_.fdiv (2 ^ (d - 1 - k))).tmod 2))]) (len := 1) (by kernel_rfl) (by kernel_rfl) ?_
        intro b4 w10 hn4
        replace hS := Step.trans hS (hn4.step No)
        replace hA := hA.no (hn4.step No)
        replace hbase1 := Nat.le_trans hbase1 (hn4.step No).size
        replace hglg1 := Nat.lt_of_lt_of_le hglg1 (hn4.step No).size
        replace hr4 := hr4.no (hn4.step No)
        replace hbase2 := Nat.le_trans hbase2 (hn4.step No).size
        replace hr5 := hr5.no (hn4.step No)
        have ho5 := hn4.own
        have hzhn4 := hn4.size
        have hqhn4 := hn4.eqb
        have hzs7 := hS.size
        have hzk8 := hbase1
        have hzk9 := hglg1
        have hzk10 := hbase2
        have hzl3 := ho5.lt
        refine VL_appendS (d := 57) (e := 3) (A := A4) (m := (k + 1)) (c := c4) (A2 := (some ⟨b4, 0, none⟩)) (m2 := 1) (c2 := 1) (bytes := 8) (by kernel_rfl) (by kernel_rfl) (by kernel_rfl) b3 w10.heap.size (iL .i64 (gF by_ d k)) (iL .i64 ([IntKind.wrap .i64 ((by_.fdiv (2 ^ (d - 1 - k))).tmod 2)])) hr5 (by rw [iL_length]; first | done | exact rfl) (Sl.mono (Own.sl ho5 ho5.lt) (by first | exact Nat.le_refl _ | omega)) iL_one (k + 1 + 1) (by omega) (by simp only [maxLen]; omega) (by omega) (by omega) ?_
        intro A5 c5 w11 hr6 hg3
        replace hr6 : Rw w11 b3 3 A5 (k + 1 + 1) c5 (iL .i64 ((gF by_ d k) ++ ([IntKind.wrap .i64 ((by_.fdiv (2 ^ (d - 1 - k))).tmod 2)]))) := Rw.cast hr6 rfl (by simp only [iL, List.map_append, List.map_cons, List.map_nil, List.append_assoc, List.cons_append, List.nil_append, List.append_nil])
        have hzhg3 := hg3.size
        replace hS := Step.transNew hS hg3 (fun i hi hG => by (try simp only at hG); omega)
        replace hA := hA.step hg3 (fun k hk hG => by (try simp only at hG); omega)
        replace hbase1 := Nat.le_trans hbase1 (hg3).size
        replace hglg1 := Nat.lt_of_lt_of_le hglg1 (hg3).size
        replace hr4 := hr4.keepG hg3 (by (try simp only); omega)
        replace hbase2 := Nat.le_trans hbase2 (hg3).size
        refine VL_pure 9 [1, 2, 9, 13, 12] [(1, .int .u64 by_), (2, .int .i64 ((d : Nat) : Int)), (9, .slice (some ⟨g1, 0, none⟩) (n + d) c2), (13, .int .i64 (((d : Nat) : Int) - 1 - ((k : Nat) : Int))), (12, .slice A5 (k + 1 + 1) c5)] (by kernel_rfl) rfl ?_
        refine VL_end (by kernel_rfl) ?_
        refine VQ_block_normal ?_
        refine VQ_next ?_
        refine VC_region ?_
        refine VL_pure 2 [1, 2, 9, 12, 49] [(1, .int .u64 by_), (2, .int .i64 ((d : Nat) : Int)), (9, .slice (some ⟨g1, 0, none⟩) (n + d) c2), (12, .slice A5 (k + 1 + 1) c5), (49, .int .i64 (IntKind.wrap .i64 ((((d : Nat) : Int) - 1 - ((k : Nat) : Int)) - 1)))] (by kernel_rfl) rfl ?_
        refine VL_eq [(1, .int .u64 by_), (2, .int .i64 ((d : Nat) : Int)), (9, .slice (some ⟨g1, 0, none⟩) (n + d) c2), (12, .slice A5 (k + 1 + 1) c5), (49, .int .i64 (((d : Nat) : Int) - 1 - ((k + 1 : Nat) : Int)))] (by rw [wrap_i64 _ (by omega) (by omega), show ((d : Nat) : Int) - 1 - ((k : Nat) : Int) - 1 = ((d : Nat) : Int) - 1 - ((k + 1 : Nat) : Int) by omega]) ?_
        refine VL_pure 3 [1, 2, 9, 12, 13] [(1, .int .u64 by_), (2, .int .i64 ((d : Nat) : Int)), (9, .slice (some ⟨g1, 0, none⟩) (n + d) c2), (12, .slice A5 (k + 1 + 1) c5), (13, .int .i64 (((d : Nat) : Int) - 1 - ((k + 1 : Nat) : Int)))] (by kernel_rfl) rfl ?_
        refine VL_end (by kernel_rfl) ?_
        refine VQ_again ⟨k + 1, A5, c5⟩ ⟨rfl, rfl, rfl, rfl, rfl, trivial⟩ ?_ ?_
        · exact ⟨(by omega), hS, hA, hbase1, hglg1, hr4, hbase2, (Rw.cast hr6 (by omega) (by rw [gF]))⟩
        · (try dsimp only); omega
      · refine VC_exit ?_
        refine VQ_then_exit ?_
        refine VQ_then_exit ?_
        refine VQ_block_hit ?_
        refine VQ_next ?_
        refine VC_seq ?_
        refine VC_seq ?_
        obtain rfl : d = k := by omega
        have hgl := gF_len by_ d d
        try dsimp only
        refine VC_region ?_
        refine VL_pure 1 [2, 9, 12, 14] [(2, .int .i64 ((d : Nat) : Int)), (9, .slice (some ⟨g1, 0, none⟩) (n + d) c2), (12, .slice A4 (d + 1) c4), (14, .int .i64 0)] (by kernel_rfl) rfl ?_
        refine VL_end (by kernel_rfl) ?_
        refine VQ_next ?_
        refine VC_block ?_
        refine VC_loop (σ := Nat) (fun σs => [(2, .int .i64 ((d : Nat) : Int)), (9, .slice (some ⟨g1, 0, none⟩) (n + d) c2), (12, .slice A4 (d + 1) c4), (14, .int .i64 ((σs : Nat) : Int))]) (fun σs w12 => (σs ≤ n) ∧ (Step No w w12) ∧ (Sl w12 Bd A (iL .i64 bs)) ∧ (b1 ≤ w12.heap.size) ∧ (g1 < w12.heap.size) ∧ (b3 ≤ w12.heap.size) ∧ (Rw w12 b3 3 A4 (d + 1) c4 (iL .i64 (gF by_ d d))) ∧ (Rw w12 b1 3 (some ⟨g1, 0, none⟩) (n + d) c2 (iL .i64 (divF (gF by_ d d) (flipF (bs ++ List.replicate d 0) d) σs)))) (fun σs w12 => n - σs) 0 ⟨rfl, rfl, rfl, rfl, trivial⟩ ?_ ?_
        · exact ⟨Nat.zero_le _, hS, hA, hbase1, hglg1, hbase2, hr5, (Rw.cast hr4 rfl rfl)⟩
        rintro i w12 ⟨hi, hS, hA, hbase1, hglg1, hbase2, hr5, hr7⟩
        try dsimp only at hi hS hA hbase1 hglg1 hbase2 hr5 hr7 ⊢
        refine VC_seq ?_
        refine VC_seq ?_
        refine VC_region ?_
        refine VL_pure 3 [2, 9, 12, 14, 60] [(2, .int .i64 ((d : Nat) : Int)), (9, .slice (some ⟨g1, 0, none⟩) (n + d) c2), (12, .slice A4 (d + 1) c4), (14, .int .i64 ((i : Nat) : Int)), (60, .int .i64 (IntKind.wrap .i64 (((i : Nat) : Int) + ((d : Nat) : Int))))] (by kernel_rfl) rfl ?_
        have he4 : IntKind.wrap .i64 (((i : Nat) : Int) + ((d : Nat) : Int)) = ((i + d : Nat) : Int) := (by rw [wrap_i64 _ (by omega) (by omega)]; omega)
        refine VL_eq [(2, .int .i64 ((d : Nat) : Int)), (9, .slice (some ⟨g1, 0, none⟩) (n + d) c2), (12, .slice A4 (d + 1) c4), (14, .int .i64 ((i : Nat) : Int)), (60, .int .i64 ((i + d : Nat) : Int))] (by rw [he4]) ?_
        refine VL_pure 6 [2, 9, 12, 14, 63] [(2, .int .i64 ((d : Nat) : Int)), (9, .slice (some ⟨g1, 0, none⟩) (n + d) c2), (12, .slice A4 (d + 1) c4), (14, .int .i64 ((i : Nat) : Int)), (63, .bool (decide (((i + d : Nat) : Int) < ((n + d : Nat) : Int))))] (by kernel_rfl) rfl ?_
        refine VL_end (by kernel_rfl) ?_
        refine VQ_next ?_
        refine VC_dec (((i + d : Nat) : Int) < ((n + d : Nat) : Int)) (by kernel_rfl) (fun h4 => ?_) (fun h4 => ?_)
        · refine VC_skip ?_
          refine VQ_next ?_
          refine VC_seq ?_
          refine VC_block ?_
          refine VC_seq ?_
          refine VC_seq ?_
          refine VC_region ?_
          refine VL_pure 2 [2, 9, 12, 14, 66, 67] [(2, .int .i64 ((d : Nat) : Int)), (9, .slice (some ⟨g1, 0, none⟩) (n + d) c2), (12, .slice A4 (d + 1) c4), (14, .int .i64 ((i : Nat) : Int)), (66, .slice (some ⟨g1, 0, none⟩) (n + d) c2), (67, .int .i64 ((i : Nat) : Int))] (by kernel_rfl) rfl ?_
          refine VL_index (d := 68) (b := g1) (o := 0) (len := (n + d)) (sz := 1) (m := ((i : Nat) : Int)) (by kernel_rfl) (by kernel_rfl) i (by rfl) (by omega) i (by omega) ?_
          refine VL_load (d := 69) (t := 3) (a := ⟨g1, i, none⟩) (v := .int .i64 ((divF (gF by_ d d) (flipF (bs ++ List.replicate d 0) d) i).getD i 0)) (by kernel_rfl) (by kernel_rfl) (Rw.ldI hr7 (by kernel_rfl) (by omega)) ?_
          refine VL_pure 5 [2, 9, 12, 14, 70] [(2, .int .i64 ((d : Nat) : Int)), (9, .slice (some ⟨g1, 0, none⟩) (n + d) c2), (12, .slice A4 (d + 1) c4), (14, .int .i64 ((i : Nat) : Int)), (70, .bool (((divF (gF by_ d d) (flipF (bs ++ List.replicate d 0) d) i).getD i 0) == 0))] (by kernel_rfl) rfl ?_
          refine VL_end (by kernel_rfl) ?_
          refine VQ_next ?_
          refine VC_eq ((divF (gF by_ d d) (flipF (bs ++ List.replicate d 0) d) i).getD i 0) 0 (by kernel_rfl) (fun h5 => ?_) (fun h5 => ?_)
          · refine VC_exit ?_
            refine VQ_then_exit ?_
            refine VQ_block_hit ?_
            refine VQ_next ?_
            refine VC_region ?_
            refine VL_pure 2 [2, 9, 12, 65] [(2, .int .i64 ((d : Nat) : Int)), (9, .slice (some ⟨g1, 0, none⟩) (n + d) c2), (12, .slice A4 (d + 1) c4), (65, .int .i64 (IntKind.wrap .i64 (((i : Nat) : Int) + 1)))] (by kernel_rfl) rfl ?_
            have he5 : IntKind.wrap .i64 (((i : Nat) : Int) + 1) = ((i + 1 : Nat) : Int) := (by rw [wrap_i64 _ (by omega) (by omega)]; omega)
            refine VL_eq [(2, .int .i64 ((d : Nat) : Int)), (9, .slice (some ⟨g1, 0, none⟩) (n + d) c2), (12, .slice A4 (d + 1) c4), (65, .int .i64 ((i + 1 : Nat) : Int))] (by rw [he5]) ?_
            refine VL_pure 3 [2, 9, 12, 14] [(2, .int .i64 ((d : Nat) : Int)), (9, .slice (some ⟨g1, 0, none⟩) (n + d) c2), (12, .slice A4 (d + 1) c4), (14, .int .i64 ((i + 1 : Nat) : Int))] (by kernel_rfl) rfl ?_
            refine VL_end (by kernel_rfl) ?_
            refine VQ_again (i + 1) ⟨rfl, rfl, rfl, rfl, trivial⟩ ?_ ?_
            · exact ⟨(by omega), hS, hA, hbase1, hglg1, hbase2, hr5, (Rw.cast hr7 rfl (by rw [divF]; first | rw [if_pos (by assumption)] | rw [if_neg (by assumption), hgl]))⟩
            · (try dsimp only); omega
          · refine VC_skip ?_
            refine VQ_next ?_
            refine VC_seq ?_
            refine VC_region ?_
            refine VL_pure 3 [2, 9, 12, 14, 72, 73] [(2, .int .i64 ((d : Nat) : Int)), (9, .slice (some ⟨g1, 0, none⟩) (n + d) c2), (12, .slice A4 (d + 1) c4), (14, .int .i64 ((i : Nat) : Int)), (72, .int .i64 ((d + 1 : Nat) : Int)), (73, .int .i64 0)] (by kernel_rfl) rfl ?_
            refine VL_end (by kernel_rfl) ?_
            refine VQ_next ?_
            refine VC_block ?_
            refine VC_loop (σ := Nat) (fun σs => [(2, .int .i64 ((d : Nat) : Int)), (9, .slice (some ⟨g1, 0, none⟩) (n + d) c2), (12, .slice A4 (d + 1) c4), (14, .int .i64 ((i : Nat) : Int)), (72, .int .i64 ((d + 1 : Nat) : Int)), (73, .int .i64 ((σs : Nat) : Int))]) (fun σs w13 => (σs ≤ d + 1) ∧ (Step No w w13) ∧ (Sl w13 Bd A (iL .i64 bs)) ∧ (b1 ≤ w13.heap.size) ∧ (g1 < w13.heap.size) ∧ (b3 ≤ w13.heap.size) ∧ (Rw w13 b3 3 A4 (d + 1) c4 (iL .i64 (gF by_ d d))) ∧ (Rw w13 b1 3 (some ⟨g1, 0, none⟩) (n + d) c2 (iL .i64 (addF (gF by_ d d) i (divF (gF by_ d d) (flipF (bs ++ List.replicate d 0) d) i) σs)))) (fun σs w13 => d + 1 - σs) 0 ⟨rfl, rfl, rfl, rfl, rfl, rfl, trivial⟩ ?_ ?_
            · exact ⟨Nat.zero_le _, hS, hA, hbase1, hglg1, hbase2, hr5, (Rw.cast hr7 rfl rfl)⟩
            rintro k w13 ⟨hk, hS, hA, hbase1, hglg1, hbase2, hr5, hr8⟩
            try dsimp only at hk hS hA hbase1 hglg1 hbase2 hr5 hr8 ⊢
            refine VC_seq ?_
            refine VC_region ?_
            refine VL_pure 1 [2, 9, 12, 14, 72, 73, 74] [(2, .int .i64 ((d : Nat) : Int)), (9, .slice (some ⟨g1, 0, none⟩) (n + d) c2), (12, .slice A4 (d + 1) c4), (14, .int .i64 ((i : Nat) : Int)), (72, .int .i64 ((d + 1 : Nat) : Int)), (73, .int .i64 ((k : Nat) : Int)), (74, .bool (decide (((k : Nat) : Int) < ((d + 1 : Nat) : Int))))] (by kernel_rfl) rfl ?_
            refine VL_end (by kernel_rfl) ?_
            refine VQ_next ?_
            refine VC_seq ?_
            refine VC_dec (((k : Nat) : Int) < ((d + 1 : Nat) : Int)) (by kernel_rfl) (fun h6 => ?_) (fun h6 => ?_)
            · refine VC_skip ?_
              refine VQ_next ?_
              refine VC_seq ?_
              refine VC_block ?_
              refine VC_seq ?_
              refine VC_region ?_
              refine VL_pure 2 [2, 9, 12, 14, 72, 73, 15] [(2, .int .i64 ((d : Nat) : Int)), (9, .slice (some ⟨g1, 0, none⟩) (n + d) c2), (12, .slice A4 (d + 1) c4), (14, .int .i64 ((i : Nat) : Int)), (72, .int .i64 ((d + 1 : Nat) : Int)), (73, .int .i64 ((k : Nat) : Int)), (15, .int .i64 ((k : Nat) : Int))] (by kernel_rfl) rfl ?_
              refine VL_end (by kernel_rfl) ?_
              refine VQ_next ?_
              obtain ⟨g2, cur3, rfl, hgbg2, hglg2, -⟩ := hr5.open (by omega)
              refine VC_det [[], [], [], [1, 2], [], [], [], [5, 6], [4, 5, 6, 7], [4, 5, 6, 7, 8], [], [], [10, 11], [10, 11, 12], [4, 5, 6, 7, 8, 9, 10, 11, 12, 13], [4, 5, 6, 7, 8, 9, 10, 11, 12, 13, 14], [0, 1, 2, 3, 4, 5, 6, 7, 8, 9, 10, 11, 12, 13, 14, 15], [0, 1, 2, 3, 4, 5, 6, 7, 8, 9, 10, 11, 12, 13, 14, 15, 16]] 16 [.slice (some ⟨g1, 0, none⟩) (n + d) c2, .int .i64 ((i : Nat) : Int), .int .i64 ((k : Nat) : Int), .int .i64 (IntKind.wrap .i64 (((i : Nat) : Int) + ((k : Nat) : Int))), .slice (some ⟨g1, 0, none⟩) (n + d) c2, .int .i64 ((i : Nat) : Int), .int .i64 ((k : Nat) : Int), .int .i64 (IntKind.wrap .i64 (((i : Nat) : Int) + ((k : Nat) : Int))), .pointer (some ⟨g1, (i + k), none⟩), .int .i64 ((addF (gF by_ d d) i (divF (gF by_ d d) (flipF (bs ++ List.replicate d 0) d) i) k).getD (i + k) 0), .slice (some ⟨g2, 0, none⟩) (d + 1) c4, .int .i64 ((k : Nat) : Int), .pointer (some ⟨g2, k, none⟩), .int .i64 ((gF by_ d d).getD k 0), .int .i64 (IntKind.wrap .i64 (((addF (gF by_ d d) i (divF (gF by_ d d) (flipF (bs ++ List.replicate d 0) d) i) k).getD (i + k) 0) + ((gF by_ d d).getD k 0))), .int .i64 ((IntKind.wrap .i64 (((addF (gF by_ d d) i (divF (gF by_ d d) (flipF (bs ++ List.replicate d 0) d) i) k).getD (i + k) 0) + ((gF by_ d d).getD k 0))).tmod 2)] [0, 1, 2, 3, 4, 5, 6, 7, 10, 11, 14, 15] [8, 9, 12, 13] (by kernel_rfl) (by kernel_rfl) (by kernel_rfl) (by kernel_rfl) ?_ ?_
              · intro w14 hs1
                replace hS := Step.trans hS hs1
                replace hA := hA.no hs1
                replace hbase1 := Nat.le_trans hbase1 (hs1).size
                replace hglg1 := Nat.lt_of_lt_of_le hglg1 (hs1).size
                replace hbase2 := Nat.le_trans hbase2 (hs1).size
                replace hr5 := hr5.no hs1
                replace hr8 := hr8.no hs1
                replace hglg2 := Nat.lt_of_lt_of_le hglg2 (hs1).size
                exact ⟨Det1_index (d := 84) (b := g1) (o := 0) (len := (n + d)) (sz := 1) (m := (IntKind.wrap .i64 (((i : Nat) : Int) + ((k : Nat) : Int)))) (by kernel_rfl) (by kernel_rfl) (i + k) (by rw [wrap_i64 _ (by omega) (by omega)]; omega) (by omega) (i + k) (by omega), Det1_load (d := 85) (t := 3) (a := ⟨g1, (i + k), none⟩) (by kernel_rfl) (by kernel_rfl) (Rw.ldI hr8 (by kernel_rfl) (by omega)), Det1_index (d := 88) (b := g2) (o := 0) (len := (d + 1)) (sz := 1) (m := ((k : Nat) : Int)) (by kernel_rfl) (by kernel_rfl) k (by rfl) (by omega) k (by omega), Det1_load (d := 89) (t := 3) (a := ⟨g2, k, none⟩) (by kernel_rfl) (by kernel_rfl) (Rw.ldI hr5 (by kernel_rfl) (by omega)), trivial⟩
              intro w14 hs1
              replace hS := Step.trans hS hs1
              replace hA := hA.no hs1
              replace hbase1 := Nat.le_trans hbase1 (hs1).size
              replace hglg1 := Nat.lt_of_lt_of_le hglg1 (hs1).size
              replace hbase2 := Nat.le_trans hbase2 (hs1).size
              replace hr5 := hr5.no hs1
              replace hr8 := hr8.no hs1
              replace hglg2 := Nat.lt_of_lt_of_le hglg2 (hs1).size
              refine VL_keep [2, 9, 12, 14, 72, 73, 76, 79, 91] [(2, .int .i64 ((d : Nat) : Int)), (9, .slice (some ⟨g1, 0, none⟩) (n + d) c2), (12, .slice (some ⟨g2, 0, none⟩) (d + 1) c4), (14, .int .i64 ((i : Nat) : Int)), (72, .int .i64 ((d + 1 : Nat) : Int)), (73, .int .i64 ((k : Nat) : Int)), (76, .slice (some ⟨g1, 0, none⟩) (n + d) c2), (79, .int .i64 (IntKind.wrap .i64 (((i : Nat) : Int) + ((k : Nat) : Int)))), (91, .int .i64 ((IntKind.wrap .i64 (((addF (gF by_ d d) i (divF (gF by_ d d) (flipF (bs ++ List.replicate d 0) d) i) k).getD (i + k) 0) + ((gF by_ d d).getD k 0))).tmod 2))] (by kernel_rfl) ?_
              refine VL_index (d := 92) (b := g1) (o := 0) (len := (n + d)) (sz := 1) (m := (IntKind.wrap .i64 (((i : Nat) : Int) + ((k : Nat) : Int)))) (by kernel_rfl) (by kernel_rfl) (i + k) (by rw [wrap_i64 _ (by omega) (by omega)]; omega) (by omega) (i + k) (by omega) ?_
              obtain ⟨cur4, hgbcur4, hglcur4, howcur4, hcscur4, hcncur4, hcmcur4, hctcur4⟩ := hr8.openG
              refine VL_store (b := g1) (o := (i + k)) (vs := [.int .i64 ((IntKind.wrap .i64 (((addF (gF by_ d d) i (divF (gF by_ d d) (flipF (bs ++ List.replicate d 0) d) i) k).getD (i + k) 0) + ((gF by_ d d).getD k 0))).tmod 2)]) (by kernel_rfl) (by kernel_rfl) howcur4 (by simp only [List.length_singleton]; omega) ?_
              intro w15 hw2
              replace hS := Step.transNew hS hw2.step (fun _ _ _ => by omega)
              replace hA := hA.step hw2.step (fun k hk (hF : k = g1) => by omega)
              replace hbase1 := Nat.le_trans hbase1 (hw2.step).size
              replace hglg1 := Nat.lt_of_lt_of_le hglg1 (hw2.step).size
              replace hbase2 := Nat.le_trans hbase2 (hw2.step).size
              replace hr5 := hr5.keepG hw2.step (show ¬ g2 = g1 by omega)
              replace hglg2 := Nat.lt_of_lt_of_le hglg2 (hw2.step).size
              have ho6 := Rw.putI hctcur4 hw2 hgbcur4 hcscur4 hcncur4 hcmcur4 (j := (i + k)) (by omega)
              have hzhw2 := hw2.same
              refine VL_end (by kernel_rfl) ?_
              refine VQ_block_normal ?_
              refine VQ_next ?_
              refine VC_region ?_
              refine VL_pure 1 [2, 9, 12, 14, 72, 93] [(2, .int .i64 ((d : Nat) : Int)), (9, .slice (some ⟨g1, 0, none⟩) (n + d) c2), (12, .slice (some ⟨g2, 0, none⟩) (d + 1) c4), (14, .int .i64 ((i : Nat) : Int)), (72, .int .i64 ((d + 1 : Nat) : Int)), (93, .int .i64 (IntKind.wrap .i64 (((k : Nat) : Int) + 1)))] (by kernel_rfl) rfl ?_
              have he6 : IntKind.wrap .i64 (((k : Nat) : Int) + 1) = ((k + 1 : Nat) : Int) := (by rw [wrap_i64 _ (by omega) (by omega)]; omega)
              refine VL_eq [(2, .int .i64 ((d : Nat) : Int)), (9, .slice (some ⟨g1, 0, none⟩) (n + d) c2), (12, .slice (some ⟨g2, 0, none⟩) (d + 1) c4), (14, .int .i64 ((i : Nat) : Int)), (72, .int .i64 ((d + 1 : Nat) : Int)), (93, .int .i64 ((k + 1 : Nat) : Int))] (by rw [he6]) ?_
              refine VL_pure 2 [2, 9, 12, 14, 72, 73] [(2, .int .i64 ((d : Nat) : Int)), (9, .slice (some ⟨g1, 0, none⟩) (n + d) c2), (12, .slice (some ⟨g2, 0, none⟩) (d + 1) c4), (14, .int .i64 ((i : Nat) : Int)), (72, .int .i64 ((d + 1 : Nat) : Int)), (73, .int .i64 ((k + 1 : Nat) : Int))] (by kernel_rfl) rfl ?_
              refine VL_end (by kernel_rfl) ?_
              refine VQ_again (k + 1) ⟨rfl, rfl, rfl, rfl, rfl, rfl, trivial⟩ ?_ ?_
              · exact ⟨(by omega), hS, hA, hbase1, hglg1, hbase2, hr5, (Rw.cast ho6 rfl rfl)⟩
              · (try dsimp only); omega
            · refine VC_exit ?_
              refine VQ_then_exit ?_
              refine VQ_then_exit ?_
              refine VQ_block_hit ?_
              refine VQ_block_normal ?_
              refine VQ_next ?_
              obtain rfl : k = d + 1 := by omega
              try dsimp only
              refine VC_region ?_
              refine VL_pure 2 [2, 9, 12, 65] [(2, .int .i64 ((d : Nat) : Int)), (9, .slice (some ⟨g1, 0, none⟩) (n + d) c2), (12, .slice A4 (d + 1) c4), (65, .int .i64 (IntKind.wrap .i64 (((i : Nat) : Int) + 1)))] (by kernel_rfl) rfl ?_
              have he7 : IntKind.wrap .i64 (((i : Nat) : Int) + 1) = ((i + 1 : Nat) : Int) := (by rw [wrap_i64 _ (by omega) (by omega)]; omega)
              refine VL_eq [(2, .int .i64 ((d : Nat) : Int)), (9, .slice (some ⟨g1, 0, none⟩) (n + d) c2), (12, .slice A4 (d + 1) c4), (65, .int .i64 ((i + 1 : Nat) : Int))] (by rw [he7]) ?_
              refine VL_pure 3 [2, 9, 12, 14] [(2, .int .i64 ((d : Nat) : Int)), (9, .slice (some ⟨g1, 0, none⟩) (n + d) c2), (12, .slice A4 (d + 1) c4), (14, .int .i64 ((i + 1 : Nat) : Int))] (by kernel_rfl) rfl ?_
              refine VL_end (by kernel_rfl) ?_
              refine VQ_again (i + 1) ⟨rfl, rfl, rfl, rfl, trivial⟩ ?_ ?_
              · exact ⟨(by omega), hS, hA, hbase1, hglg1, hbase2, hr5, (Rw.cast hr8 rfl (by rw [divF]; first | rw [if_pos (by assumption)] | rw [if_neg (by assumption), hgl]))⟩
              · (try dsimp only); omega
        · refine VC_exit ?_
          refine VQ_then_exit ?_
          refine VQ_then_exit ?_
          refine VQ_block_hit ?_
          refine VQ_next ?_
          refine VC_seq ?_
          obtain rfl : n = i := by omega
          try dsimp only
          refine VC_region ?_
          refine VL_pure 1 [2, 9, 16] [(2, .int .i64 ((d : Nat) : Int)), (9, .slice (some ⟨g1, 0, none⟩) (n + d) c2), (16, .int .u64 0)] (by kernel_rfl) rfl ?_
          refine VL_end (by kernel_rfl) ?_
          refine VQ_next ?_
          refine VC_seq ?_
          refine VC_seq ?_
          refine VC_region ?_
          refine VL_pure 4 [9, 16, 97] [(9, .slice (some ⟨g1, 0, none⟩) (n + d) c2), (16, .int .u64 0), (97, .int .i64 (IntKind.wrap .i64 (((n + d : Nat) : Int) - ((d : Nat) : Int))))] (by kernel_rfl) rfl ?_
          have he8 : IntKind.wrap .i64 (((n + d : Nat) : Int) - ((d : Nat) : Int)) = (((n + d) - d : Nat) : Int) := (by rw [wrap_i64 _ (by omega) (by omega)]; omega)
          refine VL_eq [(9, .slice (some ⟨g1, 0, none⟩) (n + d) c2), (16, .int .u64 0), (97, .int .i64 (((n + d) - d : Nat) : Int))] (by rw [he8]) ?_
          refine VL_eq [(9, .slice (some ⟨g1, 0, none⟩) (n + d) c2), (16, .int .u64 0), (97, .int .i64 ((n + 0 : Nat) : Int))] (by rw [show n + d - d = n + 0 by omega]) ?_
          refine VL_pure 5 [9, 16, 17] [(9, .slice (some ⟨g1, 0, none⟩) (n + d) c2), (16, .int .u64 0), (17, .int .i64 ((n + 0 : Nat) : Int))] (by kernel_rfl) rfl ?_
          refine VL_end (by kernel_rfl) ?_
          refine VQ_next ?_
          refine VC_block ?_
          refine VC_loop (σ := Nat) (fun σs => [(9, .slice (some ⟨g1, 0, none⟩) (n + d) c2), (17, .int .i64 ((n + σs : Nat) : Int)), (16, .int .u64 (numF (divF (gF by_ d d) (flipF (bs ++ List.replicate d 0) d) n) n σs))]) (fun σs w16 => (σs ≤ d) ∧ (Step No w w16) ∧ (Sl w16 Bd A (iL .i64 bs)) ∧ (b1 ≤ w16.heap.size) ∧ (g1 < w16.heap.size) ∧ (b3 ≤ w16.heap.size) ∧ (Rw w16 b1 3 (some ⟨g1, 0, none⟩) (n + d) c2 (iL .i64 (divF (gF by_ d d) (flipF (bs ++ List.replicate d 0) d) n)))) (fun σs w16 => d - σs) 0 ⟨rfl, rfl, rfl, trivial⟩ ?_ ?_
          · exact ⟨Nat.zero_le _, hS, hA, hbase1, hglg1, hbase2, hr7⟩
          rintro q w16 ⟨hq, hS, hA, hbase1, hglg1, hbase2, hr7⟩
          try dsimp only at hq hS hA hbase1 hglg1 hbase2 hr7 ⊢
          refine VC_seq ?_
          refine VC_seq ?_
          refine VC_region ?_
          refine VL_pure 4 [9, 17, 16, 101] [(9, .slice (some ⟨g1, 0, none⟩) (n + d) c2), (17, .int .i64 ((n + q : Nat) : Int)), (16, .int .u64 (numF (divF (gF by_ d d) (flipF (bs ++ List.replicate d 0) d) n) n q)), (101, .bool (decide (((n + q : Nat) : Int) < ((n + d : Nat) : Int))))] (by kernel_rfl) rfl ?_
          refine VL_end (by kernel_rfl) ?_
          refine VQ_next ?_
          refine VC_dec (((n + q : Nat) : Int) < ((n + d : Nat) : Int)) (by kernel_rfl) (fun h7 => ?_) (fun h7 => ?_)
          · refine VC_skip ?_
            refine VQ_next ?_
            refine VC_seq ?_
            refine VC_block ?_
            refine VC_region ?_
            refine VL_pure 4 [9, 17, 105, 106, 107] [(9, .slice (some ⟨g1, 0, none⟩) (n + d) c2), (17, .int .i64 ((n + q : Nat) : Int)), (105, .int .u64 (IntKind.wrap .u64 (2 * (numF (divF (gF by_ d d) (flipF (bs ++ List.replicate d 0) d) n) n q)))), (106, .slice (some ⟨g1, 0, none⟩) (n + d) c2), (107, .int .i64 ((n + q : Nat) : Int))] (by kernel_rfl) rfl ?_
            refine VL_index (d := 108) (b := g1) (o := 0) (len := (n + d)) (sz := 1) (m := ((n + q : Nat) : Int)) (by kernel_rfl) (by kernel_rfl) (n + q) (by rfl) (by omega) (n + q) (by omega) ?_
            refine VL_load (d := 109) (t := 3) (a := ⟨g1, (n + q), none⟩) (v := .int .i64 ((divF (gF by_ d d) (flipF (bs ++ List.replicate d 0) d) n).getD (n + q) 0)) (by kernel_rfl) (by kernel_rfl) (Rw.ldI hr7 (by kernel_rfl) (by omega)) ?_
            refine VL_pure 9 [9, 17, 16] [(9, .slice (some ⟨g1, 0, none⟩) (n + d) c2), (17, .int .i64 ((n + q : Nat) : Int)), (16, .int .u64 (IntKind.wrap .u64 ((IntKind.wrap .u64 (2 * (numF (divF (gF by_ d d) (flipF (bs ++ List.replicate d 0) d) n) n q))) + (IntKind.wrap .u64 ((divF (gF by_ d d) (flipF (bs ++ List.replicate d 0) d) n).getD (n + q) 0)))))] (by kernel_rfl) rfl ?_
            refine VL_end (by kernel_rfl) ?_
            refine VQ_block_normal ?_
            refine VQ_next ?_
            refine VC_region ?_
            refine VL_pure 2 [9, 16, 103] [(9, .slice (some ⟨g1, 0, none⟩) (n + d) c2), (16, .int .u64 (IntKind.wrap .u64 ((IntKind.wrap .u64 (2 * (numF (divF (gF by_ d d) (flipF (bs ++ List.replicate d 0) d) n) n q))) + (IntKind.wrap .u64 ((divF (gF by_ d d) (flipF (bs ++ List.replicate d 0) d) n).getD (n + q) 0))))), (103, .int .i64 (IntKind.wrap .i64 (((n + q : Nat) : Int) + 1)))] (by kernel_rfl) rfl ?_
            have he9 : IntKind.wrap .i64 (((n + q : Nat) : Int) + 1) = ((n + q + 1 : Nat) : Int) := (by rw [wrap_i64 _ (by omega) (by omega)]; omega)
            refine VL_eq [(9, .slice (some ⟨g1, 0, none⟩) (n + d) c2), (16, .int .u64 (IntKind.wrap .u64 ((IntKind.wrap .u64 (2 * (numF (divF (gF by_ d d) (flipF (bs ++ List.replicate d 0) d) n) n q))) + (IntKind.wrap .u64 ((divF (gF by_ d d) (flipF (bs ++ List.replicate d 0) d) n).getD (n + q) 0))))), (103, .int .i64 ((n + q + 1 : Nat) : Int))] (by rw [he9]) ?_
            refine VL_pure 3 [9, 16, 17] [(9, .slice (some ⟨g1, 0, none⟩) (n + d) c2), (16, .int .u64 (IntKind.wrap .u64 ((IntKind.wrap .u64 (2 * (numF (divF (gF by_ d d) (flipF (bs ++ List.replicate d 0) d) n) n q))) + (IntKind.wrap .u64 ((divF (gF by_ d d) (flipF (bs ++ List.replicate d 0) d) n).getD (n + q) 0))))), (17, .int .i64 ((n + q + 1 : Nat) : Int))] (by kernel_rfl) rfl ?_
            refine VL_end (by kernel_rfl) ?_
            refine VQ_again (q + 1) ⟨rfl, rfl, rfl, trivial⟩ ?_ ?_
            · exact ⟨(by omega), hS, hA, hbase1, hglg1, hbase2, hr7⟩
            · (try dsimp only); omega
          · refine VC_exit ?_
            refine VQ_then_exit ?_
            refine VQ_then_exit ?_
            refine VQ_block_hit ?_
            refine VQ_next ?_
            refine VC_seq ?_
            refine VC_region ?_
            refine VL_pure 2 [8] [(8, .int .u64 (numF (divF (gF by_ d d) (flipF (bs ++ List.replicate d 0) d) n) n q))] (by kernel_rfl) rfl ?_
            refine VL_end (by kernel_rfl) ?_
            refine VQ_next ?_
            refine VC_ret ?_
            refine VQ_ret1 (.int .u64 (numF (divF (gF by_ d d) (flipF (bs ++ List.replicate d 0) d) n) n q)) (.inr rfl) rfl rfl ?_
            obtain rfl : d = q := by omega
            exact ⟨rfl, hS⟩

theorem rrestT2_any (A : Option Addr) (n c Bd : Nat) (bs : List Int) (w : World) (hn : bs.length = n) (hA : Sl w Bd A (iL .i64 bs)) (hlen : n ≤ 100000) (hBd : Bd ≤ w.heap.size) (by_ : Int) (d : Nat) (hd0 : 1 ≤ d) (hd : d ≤ 64) :
    CV Try.prog 36 #[.slice A n c, .int .u64 by_, .int .i64 ((d : Nat) : Int), .bool true] w (fun x w1 => x = .int .u64 (restT by_ d bs) ∧ Step No w w1) := by
  have := rrestT_any A n c Bd bs w hn hA hlen hBd by_ d hd0 hd
  subst hn
  exact this
end Go.Proofs.Ytgiefcolkohgkaa
