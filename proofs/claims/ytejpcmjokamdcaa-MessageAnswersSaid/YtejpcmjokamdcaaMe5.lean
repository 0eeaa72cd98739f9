/- Layer 16 in plain Lean: what is cut, what has more behind it, what has no elements. -/
import Derived.Test.YtejpcmjokamdcaaMe0
set_option linter.unusedVariables false
set_option linter.unusedSimpArgs false
namespace Go.Proofs.Ytejpcmjokamdcaa
open Go.Vc
theorem msgT_bytes {r k : Int} {back : Bool} {l : List IeV} (hl : ∀ x ∈ l, IeB x) : Bytes (msgT r back k (vals l)) := by
  unfold msgT
  split
  · exact msg_bytes (packT_bytes hl)
  · exact Bytes.nil
/-- What a packed message's bytes tell of their head, however many are taken, and whatever is behind them. -/
theorem msg_head {r k : Int} {back : Bool} {L : List IeD} (h : msgE r back k L = 0) : ∃ H P : List Int, msgT r back k L = H ++ P ∧ H.length = 9 ∧ (msgT r back k L).length = 9 + P.length ∧ 9 + P.length ≤ 1000 ∧
    ∀ Q, muForm (H ++ Q) ∧ knownB ((H ++ Q).getD 5 0) = true ∧ muS (H ++ Q) = P.length := by
  obtain ⟨h1, h2, h3⟩ := msg_of h
  obtain ⟨g1, g2, g3⟩ := rightM_T h1
  obtain ⟨m, rfl⟩ : ∃ m : Nat, r = m := ⟨r.toNat, by omega⟩
  rw [Int.toNat_natCast] at h3
  obtain ⟨P, hP⟩ : ∃ P, P = packT L := ⟨_, rfl⟩
  rw [← hP] at h2
  refine ⟨hdL (msgN m back) k P.length, P, by rw [h3, hP]; rfl, rfl, by rw [h3, msgL_len, hP], h2, fun Q => ⟨⟨rfl, rfl, rfl, ?_⟩, ?_, ?_⟩⟩
  · have hN : muN (hdL (msgN m back) k P.length ++ Q) = msgN m back := by
      unfold muN
      simp only [hdL, List.cons_append, List.getD_cons_succ, List.getD_cons_zero]
      have n2 : msgN m back = if back = true then m + 8388608 else m := rfl
      have : msgN m back < 16777216 := by rw [n2]; split <;> omega
      omega
    have n2 : msgN m back = if back = true then m + 8388608 else m := rfl
    rw [hN, n2]; split <;> omega
  · simp only [hdL, List.cons_append, List.getD_cons_succ, List.getD_cons_zero]
    rw [known_small g2]; exact g2
  · unfold muS
    simp only [hdL, List.cons_append, List.getD_cons_succ, List.getD_cons_zero]
    omega
theorem msg_len {r k : Int} {back : Bool} {L : List IeD} (h : msgE r back k L = 0) : 9 ≤ (msgT r back k L).length ∧ (msgT r back k L).length ≤ 1000 := by
  obtain ⟨H, P, h1, h2, h3, h4, _⟩ := msg_head h
  omega
/-- A beginning of it is too short. -/
theorem msg_cut {r k : Int} {back : Bool} {L : List IeD} (h : msgE r back k L = 0) {N : Nat} (hN : N < (msgT r back k L).length) : muE ((msgT r back k L).take N) = 2 := by
  obtain ⟨H, P, h1, h2, h3, h4, h5⟩ := msg_head h
  have hl : ((msgT r back k L).take N).length = N := by rw [List.length_take]; omega
  by_cases h9 : N < 9
  · exact mu_2 (by omega) (by omega)
  · have e : (msgT r back k L).take N = H ++ P.take (N - 9) := by
      rw [h1, List.take_append, List.take_of_length_le (by omega), h2]
    obtain ⟨q1, q2, q3⟩ := h5 (P.take (N - 9))
    rw [← e] at q1 q2 q3
    exact mu_2b (by omega) (by omega) q1 q2 (by omega)
/-- With more behind it, it is none either. -/
theorem msg_more {r k : Int} {back : Bool} {L : List IeD} (h : msgE r back k L = 0) (x : Int) : muE (msgT r back k L ++ [x]) = 3 ∨ muE (msgT r back k L ++ [x]) = 6 := by
  obtain ⟨H, P, h1, h2, h3, h4, h5⟩ := msg_head h
  have hl : (msgT r back k L ++ [x]).length = 10 + P.length := by rw [List.length_append, h3]; simp; omega
  by_cases h9 : 1000 < (msgT r back k L ++ [x]).length
  · exact .inr (mu_6 h9)
  · have e : msgT r back k L ++ [x] = H ++ (P ++ [x]) := by rw [h1, List.append_assoc]
    obtain ⟨q1, q2, q3⟩ := h5 (P ++ [x])
    rw [← e] at q1 q2 q3
    exact .inl (mu_3 h9 (by omega) q1 q2 (by omega))
theorem mu_none {bs : List Int} {l : List IeV} (h : muE bs ≠ 0) (hv : vals l = muL bs) : l.length = 0 := by
  rw [← vals_len, hv, (mu_n h).2.2.2]; rfl
/-! ### Messages without elements -/
def fineM (r k : Int) : Bool := decide (1 ≤ r ∧ r ≤ 8388607) && knownB k
theorem packE_nil : packE (vals []) = 0 := rfl
theorem right_nil (r k : Int) : rightM r k (vals []) = fineM r k := by simp [rightM, fineM, packE_nil]
theorem msgE_nil (r k : Int) (bk : Bool) : (msgE r bk k (vals []) == 0) = fineM r k := by
  unfold msgE
  rw [right_nil]
  cases h : fineM r k with
  | true => rw [if_pos rfl]; rfl
  | false => rfl
theorem fine_is {r k : Int} : ((((k == 2 || k == 5) || k == 7) || k == 77) || k == 90) = knownB k := by
  rw [knownB, Bool.eq_iff_iff]; simp only [Bool.or_eq_true, beq_iff_eq, decide_eq_true_eq]; omega
theorem nil_msg {r k : Int} (bk : Bool) (h : fineM r k = true) : msgE r bk k (vals []) = 0 := by have := msgE_nil r k bk; rw [h, beq_iff_eq] at this; exact this
theorem nil_len {r k : Int} (bk : Bool) (h : fineM r k = true) : (msgT r bk k (vals [])).length = 9 := by
  obtain ⟨h1, h2, h3⟩ := msg_of (nil_msg bk h)
  rw [h3, msgL_len]; rfl
theorem nil_b2 {r k : Int} (bk : Bool) (h : fineM r k = true) : (decide ((msgT r bk k (vals [])).getD 2 0 > 127) == bk) = true := by
  obtain ⟨h1, h2, h3⟩ := msg_of (nil_msg bk h)
  obtain ⟨g1, _⟩ := rightM_T h1
  obtain ⟨m, rfl⟩ : ∃ m : Nat, r = m := ⟨r.toNat, by omega⟩
  rw [h3, Int.toNat_natCast]
  have e : (msgL m bk k (vals [])).getD 2 0 = ((msgN m bk / 65536 % 256 : Nat) : Int) := rfl
  rw [e, beq_iff_eq]
  have n2 : msgN m bk = if bk = true then m + 8388608 else m := rfl
  rw [n2]
  cases bk
  · simp; omega
  · simp; omega
end Go.Proofs.Ytejpcmjokamdcaa
