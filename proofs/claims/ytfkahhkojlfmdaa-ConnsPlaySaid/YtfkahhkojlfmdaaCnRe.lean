/- Layer 9, the document's table: Free. -/
import Derived.Test.YtfkahhkojlfmdaaProg
import Derived.Test.YtfkahhkojlfmdaaCnRg
set_option linter.unusedVariables false
set_option linter.unusedSimpArgs false
namespace Go.Proofs.Ytfkahhkojlfmdaa
open Go.Vc Go.RowKit

def FreeR (L : List Ent) (p v fr r : Int) : Prop := (rightB p v 0 = false ∧ r = -1) ∨ (rightB p v 0 = true ∧ ∃ e, imax 0 fr ≤ e ∧ (∀ i, imax 0 fr ≤ i → i < e → (lookE L p v i).isSome = true) ∧ ((e < 65536 ∧ lookE L p v e = none ∧ r = e) ∨ (¬ e < 65536 ∧ r = -1)))
theorem freeR_next {L : List Ent} {p v e0 e : Int} (h : ∀ i, e0 ≤ i → i < e → (lookE L p v i).isSome = true) (h1 : ¬ atI L p v e < 0) : ∀ i, e0 ≤ i → i < e + 1 → (lookE L p v i).isSome = true := by
  intro i hi hlt
  by_cases e1 : i = e
  · subst e1
    rw [atI_neg] at h1
    cases hl : lookE L p v i with
    | none => exact absurd hl h1
    | some _ => rfl
  · exact h i hi (by omega)
set_option maxRecDepth 100000 in
set_option maxHeartbeats 4000000 in
theorem rfree_any (p lo : Nat) (room : Int) (L : List Ent) (fp fv ff : Int) (w : World) (hR : Rt w p lo room L) (hm : L.length ≤ 1000) :
    CV Try.prog 25 #[.pointer (some ⟨p, 0, none⟩), .int .i64 fp, .int .i64 fv, .int .i64 ff] w (fun x w1 => ∃ r, x = .int .i64 r ∧ FreeR L fp fv ff r ∧ Step No w w1) := by
  have hS : Step No w w := Step.refl _ _
  obtain ⟨A, n, c, hi, ho, hn, hcn, hhi, hv⟩ := hR
  have him : 0 ≤ imax 0 ff := by unfold imax; split <;> omega
  refine CV_enter Try.f25 _ 29 [(0, .pointer (some ⟨p, 0, none⟩)), (1, .int .i64 fp), (2, .int .i64 fv), (3, .int .i64 ff)] Try.func25 rfl rfl (by kernel_rfl) rfl ?_
  refine VC_seq ?_
  refine VC_region ?_
  refine VL_pure 1 [0, 1, 2, 3] [(0, .pointer (some ⟨p, 0, none⟩)), (1, .int .i64 fp), (2, .int .i64 fv), (3, .int .i64 ff)] (by kernel_rfl) rfl ?_
  refine VL_end (by kernel_rfl) ?_
  refine VQ_next ?_
  refine VC_seq ?_
  refine VC_seq ?_
  refine VC_region ?_
  refine VL_pure 3 [0, 1, 2, 3, 12] [(0, .pointer (some ⟨p, 0, none⟩)), (1, .int .i64 fp), (2, .int .i64 fv), (3, .int .i64 ff), (12, .agg #[.int .i64 fp, .int .i64 fv, .int .i64 0])] (by kernel_rfl) rfl ?_
  have hzs1 := hS.size
  have hzl1 := ho.lt
  refine VL_call (d := 13) (f := 26) (args := #[.agg #[.int .i64 fp, .int .i64 fv, .int .i64 0]]) (by kernel_rfl) (by kernel_rfl) (by kernel_rfl) Try.call26 (rright_any fp fv 0 _) ?_
  rintro _ w1 ⟨rfl, hc1⟩
  replace hS := Step.trans hS hc1
  replace ho := ho.no hc1
  replace hv := hv.step hc1 (fun k hk1 hk2 hF => hF)
  replace hhi := Nat.le_trans hhi (hc1).size
  refine VL_pure 5 [0, 1, 2, 3, 14] [(0, .pointer (some ⟨p, 0, none⟩)), (1, .int .i64 fp), (2, .int .i64 fv), (3, .int .i64 ff), (14, .bool (!(rightB fp fv 0)))] (by kernel_rfl) rfl ?_
  refine VL_end (by kernel_rfl) ?_
  refine VQ_next ?_
  refine VC_cond (!(rightB fp fv 0)) (by kernel_rfl) (fun h1 => ?_) (fun h1 => ?_)
  · try simp only [Bool.and_eq_true, Bool.or_eq_true, decide_eq_true_eq, Bool.not_eq_true', decide_eq_false_iff_not, Bool.and_eq_false_iff, Bool.or_eq_false_iff, beq_iff_eq, bne_iff_ne, beq_eq_false_iff_ne, bne_eq_false_iff_eq, Bool.not_eq_eq_eq_not, Bool.not_true, Bool.not_false] at h1
    refine VC_seq ?_
    refine VC_region ?_
    refine VL_pure 1 [8] [(8, .int .i64 (-1))] (by kernel_rfl) rfl ?_
    refine VL_end (by kernel_rfl) ?_
    refine VQ_next ?_
    refine VC_ret ?_
    refine VQ_then_ret ?_
    refine VQ_ret1 (.int .i64 (-1)) (.inr rfl) rfl rfl ?_
    first | exact ⟨_, rfl, .inl ⟨(by assumption), rfl⟩, hS⟩ | exact ⟨_, rfl, .inr ⟨(by assumption), v, hv0, hall, .inl ⟨by omega, atI_neg.1 (by assumption), rfl⟩⟩, hS⟩ | exact ⟨_, rfl, .inr ⟨(by assumption), v, hv0, hall, .inr ⟨by omega, rfl⟩⟩, hS⟩
  · try simp only [Bool.and_eq_true, Bool.or_eq_true, decide_eq_true_eq, Bool.not_eq_true', decide_eq_false_iff_not, Bool.and_eq_false_iff, Bool.or_eq_false_iff, beq_iff_eq, bne_iff_ne, beq_eq_false_iff_ne, bne_eq_false_iff_eq, Bool.not_eq_eq_eq_not, Bool.not_true, Bool.not_false] at h1
    refine VC_skip ?_
    refine VQ_next ?_
    refine VC_seq ?_
    refine VC_seq ?_
    refine VC_region ?_
    refine VL_pure 3 [0, 1, 2, 9] [(0, .pointer (some ⟨p, 0, none⟩)), (1, .int .i64 fp), (2, .int .i64 fv), (9, .int .i64 (imax 0 ff))] (by kernel_rfl) rfl ?_
    refine VL_end (by kernel_rfl) ?_
    refine VQ_next ?_
    refine VC_block ?_
    refine VC_loop (σ := Int) (fun σs => [(0, .pointer (some ⟨p, 0, none⟩)), (1, .int .i64 fp), (2, .int .i64 fv), (9, .int .i64 σs)]) (fun σs wr => imax 0 ff ≤ σs ∧ (∀ i, imax 0 ff ≤ i → i < σs → (lookE L fp fv i).isSome = true) ∧ (Step No w wr) ∧ (Own wr p #[.slice A n c, .int .i64 room] 54) ∧ (Sl2 wr lo hi A (flat Ent.cells L)) ∧ (hi ≤ wr.heap.size)) (fun σs wr => (65536 - σs).toNat) (imax 0 ff) ⟨rfl, rfl, rfl, rfl, trivial⟩ ?_ ?_
    · exact ⟨Int.le_refl _, fun i h1 h2 => by omega, hS, ho, hv, hhi⟩
    rintro v wr ⟨hv0, hall, hS, ho, hv, hhi⟩
    try dsimp only at hv0 hall hS ho hv hhi ⊢
    refine VC_seq ?_
    refine VC_seq ?_
    refine VC_region ?_
    refine VL_pure 2 [0, 1, 2, 9, 18] [(0, .pointer (some ⟨p, 0, none⟩)), (1, .int .i64 fp), (2, .int .i64 fv), (9, .int .i64 v), (18, .bool (decide (v < 65536)))] (by kernel_rfl) rfl ?_
    refine VL_end (by kernel_rfl) ?_
    refine VQ_next ?_
    refine VC_dec (v < 65536) (by kernel_rfl) (fun h2 => ?_) (fun h2 => ?_)
    · refine VC_skip ?_
      refine VQ_next ?_
      refine VC_seq ?_
      refine VC_block ?_
      refine VC_seq ?_
      refine VC_region ?_
      refine VL_pure 5 [0, 1, 2, 9, 21, 25] [(0, .pointer (some ⟨p, 0, none⟩)), (1, .int .i64 fp), (2, .int .i64 fv), (9, .int .i64 v), (21, .pointer (some ⟨p, 0, none⟩)), (25, .agg #[.int .i64 fp, .int .i64 fv, .int .i64 v])] (by kernel_rfl) rfl ?_
      have hzs2 := hS.size
      have hzl2 := ho.lt
      refine VL_call (d := 26) (f := 32) (args := #[.pointer (some ⟨p, 0, none⟩), .agg #[.int .i64 fp, .int .i64 fv, .int .i64 v]]) (by kernel_rfl) (by kernel_rfl) (by kernel_rfl) Try.call32 (rat_at ⟨_, _, _, _, ho, hn, hcn, hhi, hv⟩ hm (r := atI L fp fv v) rfl) ?_
      rintro _ w2 ⟨rfl, hc2⟩
      replace hS := Step.trans hS hc2
      replace ho := ho.no hc2
      replace hv := hv.step hc2 (fun k hk1 hk2 hF => hF)
      replace hhi := Nat.le_trans hhi (hc2).size
      refine VL_pure 7 [0, 1, 2, 9, 27] [(0, .pointer (some ⟨p, 0, none⟩)), (1, .int .i64 fp), (2, .int .i64 fv), (9, .int .i64 v), (27, .bool (decide ((atI L fp fv v) < 0)))] (by kernel_rfl) rfl ?_
      refine VL_end (by kernel_rfl) ?_
      refine VQ_next ?_
      refine VC_dec ((atI L fp fv v) < 0) (by kernel_rfl) (fun h3 => ?_) (fun h3 => ?_)
      · refine VC_seq ?_
        refine VC_region ?_
        refine VL_pure 2 [8] [(8, .int .i64 v)] (by kernel_rfl) rfl ?_
        refine VL_end (by kernel_rfl) ?_
        refine VQ_next ?_
        refine VC_ret ?_
        refine VQ_block_ret ?_
        refine VQ_then_ret ?_
        refine VQ_then_ret ?_
        refine VQ_block_ret ?_
        refine VQ_then_ret ?_
        refine VQ_ret1 (.int .i64 v) (.inr rfl) rfl rfl ?_
        first | exact ⟨_, rfl, .inl ⟨(by assumption), rfl⟩, hS⟩ | exact ⟨_, rfl, .inr ⟨(by assumption), v, hv0, hall, .inl ⟨by omega, atI_neg.1 (by assumption), rfl⟩⟩, hS⟩ | exact ⟨_, rfl, .inr ⟨(by assumption), v, hv0, hall, .inr ⟨by omega, rfl⟩⟩, hS⟩
      · refine VC_skip ?_
        refine VQ_block_normal ?_
        refine VQ_next ?_
        refine VC_region ?_
        refine VL_pure 2 [0, 1, 2, 20] [(0, .pointer (some ⟨p, 0, none⟩)), (1, .int .i64 fp), (2, .int .i64 fv), (20, .int .i64 (IntKind.wrap .i64 (v + 1)))] (by kernel_rfl) rfl ?_
        refine VL_eq [(0, .pointer (some ⟨p, 0, none⟩)), (1, .int .i64 fp), (2, .int .i64 fv), (20, .int .i64 (v + 1))] (by rw [wrap_i64 (v + 1) (by omega) (by omega)]) ?_
        refine VL_pure 3 [0, 1, 2, 9] [(0, .pointer (some ⟨p, 0, none⟩)), (1, .int .i64 fp), (2, .int .i64 fv), (9, .int .i64 (v + 1))] (by kernel_rfl) rfl ?_
        refine VL_end (by kernel_rfl) ?_
        refine VQ_again (v + 1) ⟨rfl, rfl, rfl, rfl, trivial⟩ ?_ ?_
        · exact ⟨by omega, freeR_next hall (by assumption), hS, ho, hv, hhi⟩
        · (try dsimp only); omega
    · refine VC_exit ?_
      refine VQ_then_exit ?_
      refine VQ_then_exit ?_
      refine VQ_block_hit ?_
      refine VQ_next ?_
      refine VC_seq ?_
      refine VC_region ?_
      refine VL_pure 1 [8] [(8, .int .i64 (-1))] (by kernel_rfl) rfl ?_
      refine VL_end (by kernel_rfl) ?_
      refine VQ_next ?_
      refine VC_ret ?_
      refine VQ_ret1 (.int .i64 (-1)) (.inr rfl) rfl rfl ?_
      first | exact ⟨_, rfl, .inl ⟨(by assumption), rfl⟩, hS⟩ | exact ⟨_, rfl, .inr ⟨(by assumption), v, hv0, hall, .inl ⟨by omega, atI_neg.1 (by assumption), rfl⟩⟩, hS⟩ | exact ⟨_, rfl, .inr ⟨(by assumption), v, hv0, hall, .inr ⟨by omega, rfl⟩⟩, hS⟩

end Go.Proofs.Ytfkahhkojlfmdaa
