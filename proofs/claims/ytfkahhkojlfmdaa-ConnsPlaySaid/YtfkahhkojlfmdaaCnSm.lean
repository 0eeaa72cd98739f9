/- Layer 9: same. -/
import Derived.Test.YtfkahhkojlfmdaaProg
import Derived.Test.YtfkahhkojlfmdaaCnh
set_option linter.unusedVariables false
set_option linter.unusedSimpArgs false
namespace Go.Proofs.Ytfkahhkojlfmdaa
open Go.Vc Go.RowKit

def entB (x y : Ent) : Bool := decide (x.p = y.p ∧ x.v = y.v ∧ x.c = y.c ∧ x.n = y.n)
theorem entB_yes {x y : Ent} (h : entB x y = true) : x = y := by
  have h := of_decide_eq_true h
  cases x; cases y; simp_all
theorem entB_no {x y : Ent} (h : entB x y = false) : x ≠ y := by
  have h := of_decide_eq_false h
  rintro rfl; exact h ⟨rfl, rfl, rfl, rfl⟩
set_option maxRecDepth 100000 in
set_option maxHeartbeats 4000000 in
theorem lsame_any (A A2 : Option Addr) (n n2 c c2 B1 B2 : Nat) (xs ys : List Ent) (w : World) (hn : xs.length = n) (hn2 : ys.length = n2) (hA : Sl w B1 A (flat Ent.cells xs)) (hA2 : Sl w B2 A2 (flat Ent.cells ys)) (hm : n ≤ 1000) (hm2 : n2 ≤ 1000) :
    CV Try.prog 19 #[.slice A n c, .slice A2 n2 c2] w (fun x w1 => x = .bool (decide (xs = ys)) ∧ Step No w w1) := by
  have hS : Step No w w := Step.refl _ _
  refine CV_enter Try.f19 _ 26 [(0, .slice A n c), (1, .slice A2 n2 c2)] Try.func19 rfl rfl (by kernel_rfl) rfl ?_
  refine VC_seq ?_
  refine VC_region ?_
  refine VL_pure 1 [0, 1] [(0, .slice A n c), (1, .slice A2 n2 c2)] (by kernel_rfl) rfl ?_
  refine VL_end (by kernel_rfl) ?_
  refine VQ_next ?_
  refine VC_seq ?_
  refine VC_seq ?_
  refine VC_region ?_
  refine VL_pure 5 [0, 1, 10] [(0, .slice A n c), (1, .slice A2 n2 c2), (10, .bool (((n : Nat) : Int) != ((n2 : Nat) : Int)))] (by kernel_rfl) rfl ?_
  refine VL_end (by kernel_rfl) ?_
  refine VQ_next ?_
  refine VC_ne ((n : Nat) : Int) ((n2 : Nat) : Int) (by kernel_rfl) (fun h1 => ?_) (fun h1 => ?_)
  · refine VC_seq ?_
    refine VC_region ?_
    refine VL_pure 1 [4] [(4, .bool false)] (by kernel_rfl) rfl ?_
    refine VL_end (by kernel_rfl) ?_
    refine VQ_next ?_
    refine VC_ret ?_
    refine VQ_then_ret ?_
    refine VQ_ret1 (.bool false) (.inr rfl) rfl rfl ?_
    first | exact ⟨congrArg Value.bool (decide_eq_false (fun e => by subst e; omega)).symm, hS⟩ | exact ⟨congrArg Value.bool (decide_eq_false (fun e => by subst e; exact entB_no (by first | simpa using h3 | simpa using h4) (Option.some.inj (hy1.symm.trans hy2)))).symm, hS⟩
  · refine VC_skip ?_
    refine VQ_next ?_
    refine VC_seq ?_
    refine VC_seq ?_
    refine VC_region ?_
    refine VL_pure 3 [0, 1, 12, 13] [(0, .slice A n c), (1, .slice A2 n2 c2), (12, .int .i64 ((n : Nat) : Int)), (13, .int .i64 0)] (by kernel_rfl) rfl ?_
    refine VL_end (by kernel_rfl) ?_
    refine VQ_next ?_
    refine VC_block ?_
    refine VC_loop (σ := Nat) (fun σs => [(0, .slice A n c), (1, .slice A2 n2 c2), (12, .int .i64 ((n : Nat) : Int)), (13, .int .i64 ((σs : Nat) : Int))]) (fun σs wr => σs ≤ n ∧ (∀ j, j < σs → ∀ x y, xs[j]? = some x → ys[j]? = some y → x = y) ∧ (Step No w wr) ∧ (Sl wr B1 A (flat Ent.cells xs)) ∧ (Sl wr B2 A2 (flat Ent.cells ys))) (fun σs wr => n - σs) 0 ⟨rfl, rfl, rfl, rfl, trivial⟩ ?_ ?_
    · exact ⟨Nat.zero_le _, fun j h => absurd h (by omega), hS, hA, hA2⟩
    rintro i wr ⟨hi0, heq, hS, hA, hA2⟩
    try dsimp only at hi0 heq hS hA hA2 ⊢
    refine VC_seq ?_
    refine VC_region ?_
    refine VL_pure 1 [0, 1, 12, 13, 14] [(0, .slice A n c), (1, .slice A2 n2 c2), (12, .int .i64 ((n : Nat) : Int)), (13, .int .i64 ((i : Nat) : Int)), (14, .bool (decide (((i : Nat) : Int) < ((n : Nat) : Int))))] (by kernel_rfl) rfl ?_
    refine VL_end (by kernel_rfl) ?_
    refine VQ_next ?_
    refine VC_seq ?_
    refine VC_dec (((i : Nat) : Int) < ((n : Nat) : Int)) (by kernel_rfl) (fun h2 => ?_) (fun h2 => ?_)
    · refine VC_skip ?_
      refine VQ_next ?_
      refine VC_seq ?_
      refine VC_block ?_
      refine VC_seq ?_
      refine VC_region ?_
      refine VL_pure 2 [0, 1, 12, 13, 5] [(0, .slice A n c), (1, .slice A2 n2 c2), (12, .int .i64 ((n : Nat) : Int)), (13, .int .i64 ((i : Nat) : Int)), (5, .int .i64 ((i : Nat) : Int))] (by kernel_rfl) rfl ?_
      refine VL_end (by kernel_rfl) ?_
      refine VQ_next ?_
      refine VC_seq ?_
      obtain ⟨sb1, so1, rfl, hlbsb1⟩ := hA.open (by rw [flat_len ecells_len]; have hq9 : xs.length = n := hn; omega)
      obtain ⟨sb2, so2, rfl, hlbsb2⟩ := hA2.open (by rw [flat_len ecells_len]; have hq9 : ys.length = n2 := hn2; omega)
      obtain ⟨y1, hy1⟩ : ∃ x, xs[i]? = some x := ⟨_, List.getElem?_eq_getElem (by have hq9 : xs.length = n := hn; omega)⟩
      obtain ⟨y2, hy2⟩ : ∃ x, ys[i]? = some x := ⟨_, List.getElem?_eq_getElem (by have hq9 : ys.length = n2 := hn2; omega)⟩
      refine VC_det [[], [], [0, 1], [0, 1, 2], [], [], [4, 5], [4, 5, 6], [0, 1, 2, 3, 4, 5, 6, 7]] 8 [.slice (some ⟨sb1, so1, none⟩) n c, .int .i64 ((i : Nat) : Int), .pointer (some ⟨sb1, so1 + i * 4, none⟩), .agg #[.int .i64 y1.p, .int .i64 y1.v, .int .i64 y1.c, .int .i64 y1.n], .slice (some ⟨sb2, so2, none⟩) n2 c2, .int .i64 ((i : Nat) : Int), .pointer (some ⟨sb2, so2 + i * 4, none⟩), .agg #[.int .i64 y2.p, .int .i64 y2.v, .int .i64 y2.c, .int .i64 y2.n]] [0, 1, 4, 5] [2, 3, 6, 7] (by kernel_rfl) (by kernel_rfl) (by kernel_rfl) (by kernel_rfl) ?_ ?_
      · intro w1 hs1
        replace hS := Step.trans hS hs1
        replace hA := hA.no hs1
        replace hA2 := hA2.no hs1
        exact ⟨Det1_index (d := 18) (b := sb1) (o := so1) (len := n) (sz := 4) (m := ((i : Nat) : Int)) (by kernel_rfl) (by kernel_rfl) i (by rfl) (by omega) (so1 + i * 4) (by omega), Det1_load (d := 19) (t := 69) (a := ⟨sb1, so1 + i * 4, none⟩) (by kernel_rfl) (by kernel_rfl) (Sl.flatAgg (sz := 4) hA ecells_len hy1 0 4 (by kernel_rfl) (by decide) _ (by first | rfl | omega)), Det1_index (d := 22) (b := sb2) (o := so2) (len := n2) (sz := 4) (m := ((i : Nat) : Int)) (by kernel_rfl) (by kernel_rfl) i (by rfl) (by omega) (so2 + i * 4) (by omega), Det1_load (d := 23) (t := 69) (a := ⟨sb2, so2 + i * 4, none⟩) (by kernel_rfl) (by kernel_rfl) (Sl.flatAgg (sz := 4) hA2 ecells_len hy2 0 4 (by kernel_rfl) (by decide) _ (by first | rfl | omega)), trivial⟩
      intro w1 hs1
      replace hS := Step.trans hS hs1
      replace hA := hA.no hs1
      replace hA2 := hA2.no hs1
      refine VL_keep [0, 1, 12, 13, 19, 23] [(0, .slice (some ⟨sb1, so1, none⟩) n c), (1, .slice (some ⟨sb2, so2, none⟩) n2 c2), (12, .int .i64 ((n : Nat) : Int)), (13, .int .i64 ((i : Nat) : Int)), (19, .agg #[.int .i64 y1.p, .int .i64 y1.v, .int .i64 y1.c, .int .i64 y1.n]), (23, .agg #[.int .i64 y2.p, .int .i64 y2.v, .int .i64 y2.c, .int .i64 y2.n])] (by kernel_rfl) ?_
      refine VL_agEq (d := 24) (dd := 9) (ls := (([.int .i64] ++ [.int .i64] ++ [.int .i64] ++ []) ++ [.int .i64] ++ [])) (pos := false) (t := 69) (xs := #[.int .i64 y1.p, .int .i64 y1.v, .int .i64 y1.c, .int .i64 y1.n]) (ys := #[.int .i64 y2.p, .int .i64 y2.v, .int .i64 y2.c, .int .i64 y2.n]) (by kernel_rfl) (by kernel_rfl) (by kernel_rfl) (by kernel_rfl) (by first | exact ⟨⟨_, rfl⟩, ⟨_, rfl⟩, ⟨_, rfl⟩, ⟨_, rfl⟩, trivial⟩ | trivial) (by first | exact ⟨⟨_, rfl⟩, ⟨_, rfl⟩, ⟨_, rfl⟩, ⟨_, rfl⟩, trivial⟩ | trivial) (!(entB y1 y2)) (by rw [Bool.eq_iff_iff]; simp [cellsEq, leafEq, entB] <;> omega) ?_
      refine VL_end (by kernel_rfl) ?_
      refine VQ_next ?_
      refine VC_cond (!(entB y1 y2)) (by kernel_rfl) (fun h3 => ?_) (fun h3 => ?_)
      · try simp only [Bool.and_eq_true, Bool.or_eq_true, decide_eq_true_eq, Bool.not_eq_true', decide_eq_false_iff_not, Bool.and_eq_false_iff, Bool.or_eq_false_iff, beq_iff_eq, bne_iff_ne, beq_eq_false_iff_ne, bne_eq_false_iff_eq, Bool.not_eq_eq_eq_not, Bool.not_true, Bool.not_false] at h3
        refine VC_seq ?_
        refine VC_region ?_
        refine VL_pure 1 [4] [(4, .bool false)] (by kernel_rfl) rfl ?_
        refine VL_end (by kernel_rfl) ?_
        refine VQ_next ?_
        refine VC_ret ?_
        refine VQ_block_ret ?_
        refine VQ_then_ret ?_
        refine VQ_then_ret ?_
        refine VQ_block_ret ?_
        refine VQ_then_ret ?_
        refine VQ_ret1 (.bool false) (.inr rfl) rfl rfl ?_
        first | exact ⟨congrArg Value.bool (decide_eq_false (fun e => by subst e; omega)).symm, hS⟩ | exact ⟨congrArg Value.bool (decide_eq_false (fun e => by subst e; exact entB_no (by first | simpa using h3 | simpa using h4) (Option.some.inj (hy1.symm.trans hy2)))).symm, hS⟩
      · try simp only [Bool.and_eq_true, Bool.or_eq_true, decide_eq_true_eq, Bool.not_eq_true', decide_eq_false_iff_not, Bool.and_eq_false_iff, Bool.or_eq_false_iff, beq_iff_eq, bne_iff_ne, beq_eq_false_iff_ne, bne_eq_false_iff_eq, Bool.not_eq_eq_eq_not, Bool.not_true, Bool.not_false] at h3
        refine VC_skip ?_
        refine VQ_block_normal ?_
        refine VQ_next ?_
        refine VC_region ?_
        refine VL_pure 1 [0, 1, 12, 25] [(0, .slice (some ⟨sb1, so1, none⟩) n c), (1, .slice (some ⟨sb2, so2, none⟩) n2 c2), (12, .int .i64 ((n : Nat) : Int)), (25, .int .i64 (IntKind.wrap .i64 (((i : Nat) : Int) + 1)))] (by kernel_rfl) rfl ?_
        have he1 : IntKind.wrap .i64 (((i : Nat) : Int) + 1) = ((i + 1 : Nat) : Int) := (by rw [wrap_i64 _ (by omega) (by omega)]; omega)
        refine VL_eq [(0, .slice (some ⟨sb1, so1, none⟩) n c), (1, .slice (some ⟨sb2, so2, none⟩) n2 c2), (12, .int .i64 ((n : Nat) : Int)), (25, .int .i64 ((i + 1 : Nat) : Int))] (by rw [he1]) ?_
        refine VL_pure 2 [0, 1, 12, 13] [(0, .slice (some ⟨sb1, so1, none⟩) n c), (1, .slice (some ⟨sb2, so2, none⟩) n2 c2), (12, .int .i64 ((n : Nat) : Int)), (13, .int .i64 ((i + 1 : Nat) : Int))] (by kernel_rfl) rfl ?_
        refine VL_end (by kernel_rfl) ?_
        refine VQ_again (i + 1) ⟨rfl, rfl, rfl, rfl, trivial⟩ ?_ ?_
        · exact ⟨by omega, fun j h x y hx hy => by
            by_cases e : j = i
            · subst e
              rw [Option.some.inj (hx.symm.trans hy1), Option.some.inj (hy.symm.trans hy2)]
              exact entB_yes (by first | simpa using h3 | simpa using h4)
            · exact heq j (by omega) x y hx hy, hS, hA, hA2⟩
        · (try dsimp only); omega
    · refine VC_exit ?_
      refine VQ_then_exit ?_
      refine VQ_then_exit ?_
      refine VQ_block_hit ?_
      refine VQ_next ?_
      refine VC_seq ?_
      refine VC_region ?_
      refine VL_pure 1 [4] [(4, .bool true)] (by kernel_rfl) rfl ?_
      refine VL_end (by kernel_rfl) ?_
      refine VQ_next ?_
      refine VC_ret ?_
      refine VQ_ret1 (.bool true) (.inr rfl) rfl rfl ?_
      exact ⟨congrArg Value.bool (decide_eq_true (list_ext (by omega) (fun j hj => heq j (by omega)))).symm, hS⟩

theorem lsame_refl {A A2 : Option Addr} {n n2 c c2 B1 B2 : Nat} {xs : List Ent} {w : World} (hn : xs.length = n) (hn2 : xs.length = n2) (hA : Sl w B1 A (flat Ent.cells xs)) (hA2 : Sl w B2 A2 (flat Ent.cells xs)) (hm : n ≤ 1000) (hm2 : n2 ≤ 1000) : CV Try.prog 19 #[.slice A n c, .slice A2 n2 c2] w fun x w1 => x = .bool true ∧ Step No w w1 := by
  refine (lsame_any A A2 n n2 c c2 B1 B2 xs xs w hn hn2 hA hA2 hm hm2).mono ?_
  rintro x w1 ⟨rfl, hs⟩
  exact ⟨by rw [decide_eq_true rfl], hs⟩
end Go.Proofs.Ytfkahhkojlfmdaa
