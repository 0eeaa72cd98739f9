/- Layer 10 in plain Lean: bits turned one after the other; frames with more ahead or behind. -/
import Derived.Test.YtfgmlgkopphekaaFr15
import Derived.Test.YtfgmlgkopphekaaFl0
set_option linter.unusedVariables false
set_option linter.unusedSimpArgs false
namespace Go.Proofs.Ytfgmlgkopphekaa
open Go.Vc
theorem getD_setI (xs : List Int) (j m : Nat) (v : Int) : (xs.set j v).getD m 0 = if m = j ∧ j < xs.length then v else xs.getD m 0 := by
  simp only [List.getD, List.getElem?_set]
  by_cases h : j = m
  · subst h
    by_cases hj : j < xs.length
    · simp [hj]
    · simp [hj]
  · simp [h, Ne.symm h]
theorem flip_fin : ∀ (a : Fin 256) (i : Fin 8), bits8 (bXor .u8 ((a.val : Nat) : Int) ((128 : Int).fdiv (2 ^ i.val))) = (bits8 ((a.val : Nat) : Int)).set i.val (!(bits8 ((a.val : Nat) : Int)).getD i.val false) ∧ 0 ≤ bXor .u8 ((a.val : Nat) : Int) ((128 : Int).fdiv (2 ^ i.val)) ∧ bXor .u8 ((a.val : Nat) : Int) ((128 : Int).fdiv (2 ^ i.val)) < 256 := by decide +kernel
theorem flip_bytes {bs : List Int} (hb : Bytes bs) (t : Nat) : Bytes (flipL bs t) := by
  intro x hx
  rcases List.mem_or_eq_of_mem_set hx with hx | rfl
  · exact hb x hx
  · obtain ⟨a, ha⟩ := byte_nat (hb.get (t / 8))
    rw [ha]
    have := flip_fin a ⟨t % 8, Nat.mod_lt _ (by decide)⟩
    exact ⟨this.2.1, this.2.2⟩
theorem flip_get {bs : List Int} (t j : Nat) (hj : j ≠ t / 8) : (flipL bs t).getD j 0 = bs.getD j 0 := by
  unfold flipL
  rw [getD_setI, if_neg (fun e => hj e.1)]
theorem flip_at {bs : List Int} (t : Nat) (ht : t < 8 * bs.length) : (flipL bs t).getD (t / 8) 0 = bXor .u8 (bs.getD (t / 8) 0) ((128 : Int).fdiv (2 ^ (t % 8))) := by
  unfold flipL
  rw [getD_setI, if_pos ⟨rfl, by omega⟩]
theorem flip_bits {bs : List Int} (hb : Bytes bs) (t : Nat) (ht : t < 8 * bs.length) : bitsL (flipL bs t) = (bitsL bs).set t (!(bitsL bs).getD t false) := by
  have hl := bitsL_len bs
  apply List.ext_getElem?
  intro q
  by_cases hq : q < 8 * bs.length
  · obtain ⟨j, i, hi, hj, rfl⟩ : ∃ j i, i < 8 ∧ j < bs.length ∧ q = 8 * j + i := ⟨q / 8, q % 8, Nat.mod_lt _ (by omega), by omega, by omega⟩
    have e1 := flat8_get bits8 bits8_len (flipL bs t) j i (by rw [flipL_len]; exact hj) hi
    have e2 := flat8_get bits8 bits8_len bs j i hj hi
    rw [show bitsL (flipL bs t) = (flipL bs t).flatMap bits8 from rfl, e1, List.getElem?_set]
    by_cases hjt : j = t / 8
    · subst hjt
      obtain ⟨a, ha⟩ := byte_nat (hb.get (t / 8))
      have e3 := flat8_get bits8 bits8_len bs (t / 8) (t % 8) hj (Nat.mod_lt _ (by decide))
      rw [flip_at t ht, ha, (flip_fin a ⟨t % 8, Nat.mod_lt _ (by decide)⟩).1, List.getElem?_set]
      rw [ha] at e2 e3
      have hlen8 : (bits8 ((a.val : Nat) : Int)).length = 8 := rfl
      have hgt : (bitsL bs).getD t false = (bits8 ((a.val : Nat) : Int)).getD (t % 8) false := by
        unfold bitsL
        rw [List.getD, List.getD, ← e3]
        congr 2; omega
      by_cases hit : t % 8 = i
      · rw [if_pos hit, if_pos (by omega), if_pos (by omega), if_pos (by omega), hgt]
      · rw [if_neg hit, if_neg (by omega)]
        exact e2.symm
    · rw [flip_get t j hjt, if_neg (by omega)]
      exact e2.symm
  · rw [List.getElem?_eq_none (by rw [bitsL_len, flipL_len]; omega), List.getElem?_eq_none (by simp; omega)]
def turnO (F : List Int) (s y : Nat) : Nat → List Int
  | 0 => F
  | i + 1 => if (y.testBit i && decide (s + i < 8 * F.length)) = true then flipL (turnO F s y i) (s + i) else turnO F s y i
def turnC (L s y : Nat) : Nat → Bool
  | 0 => false
  | i + 1 => turnC L s y i || (y.testBit i && decide (s + i < L))
theorem turnO_len (F : List Int) (s y : Nat) : ∀ i, (turnO F s y i).length = F.length
  | 0 => rfl
  | i + 1 => by
    rw [turnO]
    split
    · rw [flipL_len, turnO_len F s y i]
    · exact turnO_len F s y i
theorem turnO_bytes {F : List Int} (hb : Bytes F) (s y : Nat) : ∀ i, Bytes (turnO F s y i)
  | 0 => hb
  | i + 1 => by
    rw [turnO]
    split
    · exact flip_bytes (turnO_bytes hb s y i) _
    · exact turnO_bytes hb s y i
theorem turnO_bits {F : List Int} (hb : Bytes F) (s y : Nat) : ∀ i j, (bitsL (turnO F s y i))[j]? = if (decide (s ≤ j) && (decide (j < s + i) && y.testBit (j - s))) = true then (bitsL F)[j]?.map (fun b => !b) else (bitsL F)[j]?
  | 0, j => by
    rw [if_neg (by simp; omega)]; rfl
  | i + 1, j => by
    have ih := turnO_bits hb s y i j
    by_cases c : (y.testBit i && decide (s + i < 8 * F.length)) = true
    · rw [turnO, if_pos c]
      simp only [Bool.and_eq_true, decide_eq_true_eq] at c
      rw [flip_bits (turnO_bytes hb s y i) (s + i) (by rw [turnO_len]; exact c.2), List.getElem?_set]
      have hlen : (bitsL (turnO F s y i)).length = 8 * F.length := by rw [bitsL_len, turnO_len]
      by_cases hj : s + i = j
      · subst hj
        rw [if_neg (by simp)] at ih
        rw [if_pos rfl, if_pos (by omega), List.getD, ih, if_pos (by simp [c.1])]
        have : s + i < (bitsL F).length := by rw [bitsL_len]; exact c.2
        rw [List.getElem?_eq_getElem this]; rfl
      · rw [if_neg hj, ih]
        have : decide (j < s + (i + 1)) = decide (j < s + i) := decide_eq_decide.2 (by omega)
        rw [this]
    · rw [turnO, if_neg c, ih]
      simp only [Bool.and_eq_true, decide_eq_true_eq, not_and] at c
      by_cases hj : s + i = j
      · subst hj
        rw [if_neg (by simp)]
        by_cases ht : y.testBit i = true
        · have : (bitsL F)[s + i]? = none := List.getElem?_eq_none (by rw [bitsL_len]; have := c ht; omega)
          rw [this]; simp
        · rw [if_neg (by simp [ht])]
      · have : decide (j < s + (i + 1)) = decide (j < s + i) := decide_eq_decide.2 (by omega)
        rw [this]
theorem turnC_ex (L s y : Nat) : ∀ i, turnC L s y i = true → ∃ k, k < i ∧ y.testBit k = true ∧ s + k < L
  | 0, h => by cases h
  | i + 1, h => by
    rw [turnC, Bool.or_eq_true] at h
    rcases h with h | h
    · obtain ⟨k, h1, h2⟩ := turnC_ex L s y i h
      exact ⟨k, by omega, h2⟩
    · simp only [Bool.and_eq_true, decide_eq_true_eq] at h
      exact ⟨i, by omega, h⟩
theorem turnC_no (F : List Int) (s y : Nat) : ∀ i, turnC (8 * F.length) s y i = false → turnO F s y i = F
  | 0, _ => rfl
  | i + 1, h => by
    rw [turnC, Bool.or_eq_false_iff] at h
    rw [turnO, h.2, if_neg (by decide), turnC_no F s y i h.1]
theorem un_turnO {bs : List Int} {m : Int} {n : Nat} (hn : bs.length = n) (h0 : 0 < n) (hb : Bytes bs) (hm : 0 ≤ m ∧ m < 256) (s y : Nat) (h : turnC (8 * (48 * manyN n)) s y 32 = true) : unE (turnO (frameF bs m) s y 32) = 4 := by
  subst hn
  have hl := frameF_len (bs := bs) (m := m) h0
  have hm8 := (many_le bs.length).2 h0
  obtain ⟨k, h1, h2, h3⟩ := turnC_ex _ _ _ _ h
  exact un_turned (X := headF bs m) (by rw [turnO_len, hl]; omega) (by rw [turnO_len, hl]; omega) (by rw [turnO_len]; rfl) s y.testBit (fun j => turnO_bits (frame_bytes hb hm) s y 32 j) k h1 h2 (by rw [turnO_len, hl]; exact h3)
theorem un_nil : unE [] = 5 := by unfold unE; dsimp only; rw [if_pos (.inl rfl)]
theorem un_few {bs : List Int} (h : bs.length ≤ 1000) : unE bs = 0 ∨ unE bs = 4 ∨ unE bs = 5 := by
  unfold unE
  dsimp only
  split
  · simp
  · split
    · simp
    · split
      · simp
      · rename_i h3
        split
        · simp
        · rw [if_neg]
          · simp
          · have := (many_le (lenF bs bs.length)).2
            omega
theorem un_ahead {ys bs : List Int} {n : Nat} (hl : ys.length = 48 * manyN n + 48) (hn : bs.length = n) (h0 : 0 < n) (h : unE ys = 0) : unT ys ≠ bs := by
  intro e
  have hm := (many_le n).2 h0
  have hL : lenF ys ys.length ≠ 0 ∧ manyN (lenF ys ys.length) * 48 = ys.length := by
    unfold unE at h
    dsimp only at h
    split at h
    · cases h
    · split at h
      · cases h
      · split at h
        · cases h
        · rename_i h3
          exact ⟨fun e => h3 (.inr (.inl e)), Decidable.not_not.1 fun e => h3 (.inr (.inr e))⟩
  have hm2 := (many_le (lenF ys ys.length)).2 (by omega)
  unfold unT at e
  rw [if_pos h] at e
  have := congrArg List.length e
  rw [List.length_take, hn] at this
  have hle : lenF ys ys.length = n := by omega
  rw [hle] at hL
  omega
end Go.Proofs.Ytfgmlgkopphekaa
