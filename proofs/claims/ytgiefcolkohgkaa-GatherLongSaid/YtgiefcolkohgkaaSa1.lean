/- Layer 1, the document's: Same. -/
import Derived.Test.YtgiefcolkohgkaaProg
import Derived.Test.YtgiefcolkohgkaaVc12
set_option linter.unusedVariables false
set_option linter.unusedSimpArgs false
namespace Go.Proofs.Ytgiefcolkohgkaa
open Go.Vc Go.RowKit

theorem same_yes {xs bs : List Int} {na nb : Nat} (ha : xs.length = na) (hb : bs.length = nb) (hl : na = nb) (h : ∀ i, i < na → xs.getD i 0 = bs.getD i 0) : (xs == bs) = true := by
  rw [beq_iff_eq]
  apply List.ext_getElem (by omega)
  intro i h1 h2
  have := h i (by omega)
  simpa [List.getD, List.getElem?_eq_getElem h1, List.getElem?_eq_getElem h2] using this
theorem same_len {xs bs : List Int} {na nb : Nat} (ha : xs.length = na) (hb : bs.length = nb) (hl : ¬ na = nb) : (xs == bs) = false := by
  rw [beq_eq_false_iff_ne]
  rintro rfl
  omega
theorem same_no {xs bs : List Int} {na nb k : Nat} (ha : xs.length = na) (hb : bs.length = nb) (hl : na = nb) (h : xs.getD k 0 ≠ bs.getD k 0) : (xs == bs) = false := by
  rw [beq_eq_false_iff_ne]
  rintro rfl
  exact h rfl
set_option maxRecDepth 100000 in
set_option maxHeartbeats 4000000 in
theorem same_any (A : Option Addr) (na ca Ba : Nat) (as_ : List Int) (B : Option Addr) (nb cb Bb : Nat) (bs : List Int) (w : World) (ha : as_.length = na) (hA : Sl w Ba A (iL .u8 as_)) (hb : bs.length = nb) (hB : Sl w Bb B (iL .u8 bs)) (hla : na < 1000000) (hlb : nb < 1000000) (hBa : Ba ≤ w.heap.size) (hBb : Bb ≤ w.heap.size) :
    CV Try.prog 17 #[.slice A na ca, .slice B nb cb] w (fun x w1 => x = .bool (as_ == bs) ∧ Step No w w1) := by
  have hS : Step No w w := Step.refl _ _
  refine CV_enter Try.f17 _ 26 [(0, .slice A na ca), (1, .slice B nb cb)] Try.func17 rfl rfl (by kernel_rfl) rfl ?_
  refine VC_seq ?_
  refine VC_region ?_
  refine VL_pure 1 [0, 1] [(0, .slice A na ca), (1, .slice B nb cb)] (by kernel_rfl) rfl ?_
  refine VL_end (by kernel_rfl) ?_
  refine VQ_next ?_
  refine VC_seq ?_
  refine VC_seq ?_
  refine VC_region ?_
  refine VL_pure 5 [0, 1, 10] [(0, .slice A na ca), (1, .slice B nb cb), (10, .bool (((na : Nat) : Int) != ((nb : Nat) : Int)))] (by kernel_rfl) rfl ?_
  refine VL_end (by kernel_rfl) ?_
  refine VQ_next ?_
  refine VC_ne ((na : Nat) : Int) ((nb : Nat) : Int) (by kernel_rfl) (fun h1 => ?_) (fun h1 => ?_)
  · refine VC_seq ?_
    refine VC_region ?_
    refine VL_pure 1 [4] [(4, .bool false)] (by kernel_rfl) rfl ?_
    refine VL_end (by kernel_rfl) ?_
    refine VQ_next ?_
    refine VC_ret ?_
    refine VQ_then_ret ?_
    refine VQ_ret1 (.bool false) (.inr rfl) rfl rfl ?_
    first | exact ⟨congrArg Value.bool (Eq.symm (same_len ha hb (by omega))), hS⟩ | exact ⟨congrArg Value.bool (Eq.symm (same_no ha hb (by omega) (k := k) (by assumption))), hS⟩
  · refine VC_skip ?_
    refine VQ_next ?_
    refine VC_seq ?_
    refine VC_seq ?_
    refine VC_region ?_
    refine VL_pure 3 [0, 1, 12, 13] [(0, .slice A na ca), (1, .slice B nb cb), (12, .int .i64 ((na : Nat) : Int)), (13, .int .i64 0)] (by kernel_rfl) rfl ?_
    refine VL_end (by kernel_rfl) ?_
    refine VQ_next ?_
    refine VC_block ?_
    refine VC_loop (σ := Nat) (fun σs => [(0, .slice A na ca), (1, .slice B nb cb), (12, .int .i64 ((na : Nat) : Int)), (13, .int .i64 ((σs : Nat) : Int))]) (fun σs w1 => (σs ≤ na) ∧ (∀ i, i < σs → as_.getD i 0 = bs.getD i 0) ∧ (Step No w w1) ∧ (Sl w1 Ba A (iL .u8 as_)) ∧ (Sl w1 Bb B (iL .u8 bs))) (fun σs w1 => na - σs) 0 ⟨rfl, rfl, rfl, rfl, trivial⟩ ?_ ?_
    · exact ⟨Nat.zero_le _, fun i hi => absurd hi (Nat.not_lt_zero _), hS, hA, hB⟩
    rintro k w1 ⟨hk, hk2, hS, hA, hB⟩
    try dsimp only at hk hk2 hS hA hB ⊢
    refine VC_seq ?_
    refine VC_region ?_
    refine VL_pure 1 [0, 1, 12, 13, 14] [(0, .slice A na ca), (1, .slice B nb cb), (12, .int .i64 ((na : Nat) : Int)), (13, .int .i64 ((k : Nat) : Int)), (14, .bool (decide (((k : Nat) : Int) < ((na : Nat) : Int))))] (by kernel_rfl) rfl ?_
    refine VL_end (by kernel_rfl) ?_
    refine VQ_next ?_
    refine VC_seq ?_
    refine VC_dec (((k : Nat) : Int) < ((na : Nat) : Int)) (by kernel_rfl) (fun h2 => ?_) (fun h2 => ?_)
    · refine VC_skip ?_
      refine VQ_next ?_
      refine VC_seq ?_
      refine VC_block ?_
      refine VC_seq ?_
      refine VC_region ?_
      refine VL_pure 2 [0, 1, 12, 13, 5] [(0, .slice A na ca), (1, .slice B nb cb), (12, .int .i64 ((na : Nat) : Int)), (13, .int .i64 ((k : Nat) : Int)), (5, .int .i64 ((k : Nat) : Int))] (by kernel_rfl) rfl ?_
      refine VL_end (by kernel_rfl) ?_
      refine VQ_next ?_
      refine VC_seq ?_
      obtain ⟨sb1, so1, rfl, hlbsb1⟩ := hA.open (by simp only [iL_length]; omega)
      obtain ⟨sb2, so2, rfl, hlbsb2⟩ := hB.open (by simp only [iL_length]; omega)
      refine VC_det [[], [], [0, 1], [0, 1, 2], [], [], [4, 5], [4, 5, 6], [0, 1, 2, 3, 4, 5, 6, 7]] 8 [.slice (some ⟨sb1, so1, none⟩) na ca, .int .i64 ((k : Nat) : Int), .pointer (some ⟨sb1, so1 + k, none⟩), .int .u8 (as_.getD k 0), .slice (some ⟨sb2, so2, none⟩) nb cb, .int .i64 ((k : Nat) : Int), .pointer (some ⟨sb2, so2 + k, none⟩), .int .u8 (bs.getD k 0)] [0, 1, 4, 5] [2, 3, 6, 7] (by kernel_rfl) (by kernel_rfl) (by kernel_rfl) (by kernel_rfl) ?_ ?_
      · intro w2 hs1
        replace hS := Step.trans hS hs1
        replace hA := hA.no hs1
        replace hB := hB.no hs1
        exact ⟨Det1_index (d := 18) (b := sb1) (o := so1) (len := na) (sz := 1) (m := ((k : Nat) : Int)) (by kernel_rfl) (by kernel_rfl) k (by rfl) (by omega) (so1 + k) (by omega), Det1_load (d := 19) (t := 5) (a := ⟨sb1, so1 + k, none⟩) (by kernel_rfl) (by kernel_rfl) (Sl.ldI hA (by kernel_rfl) k (by (try simp only [List.length_set, List.length_append, List.length_map, List.length_replicate, List.length_cons, List.length_nil, List.length_take, List.length_drop, List.length_range]) <;> omega)), Det1_index (d := 22) (b := sb2) (o := so2) (len := nb) (sz := 1) (m := ((k : Nat) : Int)) (by kernel_rfl) (by kernel_rfl) k (by rfl) (by omega) (so2 + k) (by omega), Det1_load (d := 23) (t := 5) (a := ⟨sb2, so2 + k, none⟩) (by kernel_rfl) (by kernel_rfl) (Sl.ldI hB (by kernel_rfl) k (by (try simp only [List.length_set, List.length_append, List.length_map, List.length_replicate, List.length_cons, List.length_nil, List.length_take, List.length_drop, List.length_range]) <;> omega)), trivial⟩
      intro w2 hs1
      replace hS := Step.trans hS hs1
      replace hA := hA.no hs1
      replace hB := hB.no hs1
      refine VL_keep [0, 1, 12, 13, 19, 23] [(0, .slice (some ⟨sb1, so1, none⟩) na ca), (1, .slice (some ⟨sb2, so2, none⟩) nb cb), (12, .int .i64 ((na : Nat) : Int)), (13, .int .i64 ((k : Nat) : Int)), (19, .int .u8 (as_.getD k 0)), (23, .int .u8 (bs.getD k 0))] (by kernel_rfl) ?_
      refine VL_pure 9 [0, 1, 12, 13, 24] [(0, .slice (some ⟨sb1, so1, none⟩) na ca), (1, .slice (some ⟨sb2, so2, none⟩) nb cb), (12, .int .i64 ((na : Nat) : Int)), (13, .int .i64 ((k : Nat) : Int)), (24, .bool ((as_.getD k 0) != (bs.getD k 0)))] (by kernel_rfl) rfl ?_
      refine VL_end (by kernel_rfl) ?_
      refine VQ_next ?_
      refine VC_ne (as_.getD k 0) (bs.getD k 0) (by kernel_rfl) (fun h3 => ?_) (fun h3 => ?_)
      · refine VC_seq ?_
        refine VC_region ?_
        refine VL_pure 1 [4] [(4, .bool false)] (by kernel_rfl) rfl ?_
        refine VL_end (by kernel_rfl) ?_
        refine VQ_next ?_
        refine VC_ret ?_
        refine VQ_block_ret ?_
        refine VQ_then_ret ?_
        refine VQ_then_ret ?_
        refine VQ_block_ret ?_
        refine VQ_then_ret ?_
        refine VQ_ret1 (.bool false) (.inr rfl) rfl rfl ?_
        first | exact ⟨congrArg Value.bool (Eq.symm (same_len ha hb (by omega))), hS⟩ | exact ⟨congrArg Value.bool (Eq.symm (same_no ha hb (by omega) (k := k) (by assumption))), hS⟩
      · refine VC_skip ?_
        refine VQ_block_normal ?_
        refine VQ_next ?_
        refine VC_region ?_
        refine VL_pure 1 [0, 1, 12, 25] [(0, .slice (some ⟨sb1, so1, none⟩) na ca), (1, .slice (some ⟨sb2, so2, none⟩) nb cb), (12, .int .i64 ((na : Nat) : Int)), (25, .int .i64 (IntKind.wrap .i64 (((k : Nat) : Int) + 1)))] (by kernel_rfl) rfl ?_
        have he1 : IntKind.wrap .i64 (((k : Nat) : Int) + 1) = ((k + 1 : Nat) : Int) := (by rw [wrap_i64 _ (by omega) (by omega)]; omega)
        refine VL_eq [(0, .slice (some ⟨sb1, so1, none⟩) na ca), (1, .slice (some ⟨sb2, so2, none⟩) nb cb), (12, .int .i64 ((na : Nat) : Int)), (25, .int .i64 ((k + 1 : Nat) : Int))] (by rw [he1]) ?_
        refine VL_pure 2 [0, 1, 12, 13] [(0, .slice (some ⟨sb1, so1, none⟩) na ca), (1, .slice (some ⟨sb2, so2, none⟩) nb cb), (12, .int .i64 ((na : Nat) : Int)), (13, .int .i64 ((k + 1 : Nat) : Int))] (by kernel_rfl) rfl ?_
        refine VL_end (by kernel_rfl) ?_
        refine VQ_again (k + 1) ⟨rfl, rfl, rfl, rfl, trivial⟩ ?_ ?_
        · exact ⟨(by omega), fun i hi => by rcases Nat.lt_succ_iff_lt_or_eq.1 hi with h | rfl; exact hk2 i h; assumption, hS, hA, hB⟩
        · (try dsimp only); omega
    · refine VC_exit ?_
      refine VQ_then_exit ?_
      refine VQ_then_exit ?_
      refine VQ_block_hit ?_
      refine VQ_next ?_
      refine VC_seq ?_
      refine VC_region ?_
      refine VL_pure 1 [4] [(4, .bool true)] (by kernel_rfl) rfl ?_
      refine VL_end (by kernel_rfl) ?_
      refine VQ_next ?_
      refine VC_ret ?_
      refine VQ_ret1 (.bool true) (.inr rfl) rfl rfl ?_
      obtain rfl : k = na := by omega
      exact ⟨congrArg Value.bool (Eq.symm (same_yes ha hb (by omega) (fun i hi => hk2 i hi))), hS⟩

end Go.Proofs.Ytgiefcolkohgkaa
