/- The checks: a bit turned over is told. -/
import Derived.Test.YteipakmfiiccpaaOm11
import Derived.Test.YteipakmfiiccpaaFl0
set_option linter.unusedVariables false
set_option linter.unusedSimpArgs false
namespace Go.Proofs.Yteipakmfiiccpaa
open Go.Vc
theorem stepN_0 {d g r : Nat} {b : Bool} (hd : 1 ≤ d) (hg : g.testBit 0 = true) : (stepN d g r b).testBit 0 = (b ^^ r.testBit (d - 1)) := by
  have := stepN_bit (g := g) (r := r) (bit := b) hd (d - 1) (by omega)
  rw [Nat.sub_self, hg, Bool.and_true, decide_eq_false (by omega), Bool.false_and, Bool.false_xor] at this
  exact this
theorem stepN_inj {d g r r' : Nat} {b : Bool} (hd : 1 ≤ d) (hg : g.testBit 0 = true) (hr : r < 2 ^ d) (hr' : r' < 2 ^ d) (h : stepN d g r b = stepN d g r' b) : r = r' := by
  have h0 : r.testBit (d - 1) = r'.testBit (d - 1) := by
    have e1 := stepN_0 (r := r) (b := b) hd hg
    have e2 := stepN_0 (r := r') (b := b) hd hg
    rw [h, e2] at e1
    cases b <;> simpa using e1.symm
  apply Nat.eq_of_testBit_eq
  intro i
  by_cases hi : i < d
  · by_cases hi2 : i = d - 1
    · rw [hi2, h0]
    · have e1 := stepN_bit (g := g) (r := r) (bit := b) hd (d - 1 - (i + 1)) (by omega)
      have e2 := stepN_bit (g := g) (r := r') (bit := b) hd (d - 1 - (i + 1)) (by omega)
      rw [h, e2, h0] at e1
      rw [show d - 1 - (d - 1 - (i + 1) + 1) = i by omega, decide_eq_true (by omega), Bool.true_and, Bool.true_and] at e1
      have := congrArg (fun x => x ^^ ((b ^^ r'.testBit (d - 1)) && g.testBit (d - 1 - (d - 1 - (i + 1))))) e1
      simpa [Bool.xor_assoc] using this.symm
  · rw [Nat.testBit_lt_two_pow (Nat.lt_of_lt_of_le hr (Nat.pow_le_pow_right (by omega) (by omega))), Nat.testBit_lt_two_pow (Nat.lt_of_lt_of_le hr' (Nat.pow_le_pow_right (by omega) (by omega)))]
theorem fold_ne {d g : Nat} (hd : 1 ≤ d) (hg : g.testBit 0 = true) (hg2 : g < 2 ^ d) (l : List Bool) : ∀ r r' : Nat, r < 2 ^ d → r' < 2 ^ d → r ≠ r' → l.foldl (stepN d g) r ≠ l.foldl (stepN d g) r' := by
  induction l with
  | nil => intro r r' _ _ h; exact h
  | cons b l ih => intro r r' hr hr' h; exact ih _ _ (stepN_lt hg2) (stepN_lt hg2) fun e => h (stepN_inj hd hg hr hr' e)
theorem fold_lt {d g : Nat} (hg2 : g < 2 ^ d) (l : List Bool) : ∀ r : Nat, r < 2 ^ d → l.foldl (stepN d g) r < 2 ^ d := by
  induction l with
  | nil => intro r h; exact h
  | cons b l ih => intro r _; exact ih _ (stepN_lt hg2)
theorem fold_flip {d g r : Nat} (hd : 1 ≤ d) (hg : g.testBit 0 = true) (hg2 : g < 2 ^ d) (hr : r < 2 ^ d) (l : List Bool) (t : Nat) (ht : t < l.length) : (l.set t (!l.getD t false)).foldl (stepN d g) r ≠ l.foldl (stepN d g) r := by
  have e1 : l = l.take t ++ l.getD t false :: l.drop (t + 1) := by
    rw [List.getD, List.getElem?_eq_getElem ht, Option.getD_some, List.getElem_cons_drop, List.take_append_drop]
  have e2 : l.set t (!l.getD t false) = l.take t ++ (!l.getD t false) :: l.drop (t + 1) := by rw [List.set_eq_take_append_cons_drop, if_pos ht]
  rw [e2]
  conv => rhs; rw [e1]
  rw [List.foldl_append, List.foldl_append, List.foldl_cons, List.foldl_cons]
  have hlt := fold_lt (d := d) hg2 (l.take t) r hr
  refine fold_ne hd hg hg2 _ _ _ (stepN_lt hg2) (stepN_lt hg2) fun e => ?_
  have h1 := stepN_0 (r := (l.take t).foldl (stepN d g) r) (b := !l.getD t false) hd hg
  have h2 := stepN_0 (r := (l.take t).foldl (stepN d g) r) (b := l.getD t false) hd hg
  rw [e, h2] at h1
  cases l.getD t false <;> simp at h1

theorem flip_fin : ∀ (a : Fin 256) (i : Fin 8), bits8 (bXor .u8 ((a.val : Nat) : Int) ((128 : Int).fdiv (2 ^ i.val))) = (bits8 ((a.val : Nat) : Int)).set i.val (!(bits8 ((a.val : Nat) : Int)).getD i.val false) ∧ 0 ≤ bXor .u8 ((a.val : Nat) : Int) ((128 : Int).fdiv (2 ^ i.val)) ∧ bXor .u8 ((a.val : Nat) : Int) ((128 : Int).fdiv (2 ^ i.val)) < 256 ∧ bXor .u8 ((a.val : Nat) : Int) ((128 : Int).fdiv (2 ^ i.val)) ≠ ((a.val : Nat) : Int) ∧ ((bXor .u8 ((a.val : Nat) : Int) ((128 : Int).fdiv (2 ^ i.val))) % 4 = ((a.val : Nat) : Int) % 4 ↔ i.val < 6) := by decide +kernel
theorem flip_bytes {bs : List Int} (hb : Bytes bs) (t : Nat) : Bytes (flipL bs t) := by
  intro x hx
  rcases List.mem_or_eq_of_mem_set hx with hx | rfl
  · exact hb x hx
  · obtain ⟨a, ha⟩ := byte_nat (hb.get (t / 8))
    rw [ha]
    have := flip_fin a ⟨t % 8, Nat.mod_lt _ (by decide)⟩
    exact ⟨this.2.1, this.2.2.1⟩
theorem flip_get {bs : List Int} (t j : Nat) (hj : j ≠ t / 8) : (flipL bs t).getD j 0 = bs.getD j 0 := by
  unfold flipL
  rw [getD_set', if_neg (fun e => hj e.1)]
theorem flip_at {bs : List Int} (t : Nat) (ht : t < 8 * bs.length) : (flipL bs t).getD (t / 8) 0 = bXor .u8 (bs.getD (t / 8) 0) ((128 : Int).fdiv (2 ^ (t % 8))) := by
  unfold flipL
  rw [getD_set', if_pos ⟨rfl, by omega⟩]
theorem flip_bits {bs : List Int} (hb : Bytes bs) (t : Nat) (ht : t < 8 * bs.length) : bitsL (flipL bs t) = (bitsL bs).set t (!(bitsL bs).getD t false) := by
  have hl := bitsL_len bs
  apply List.ext_getElem?
  intro q
  by_cases hq : q < 8 * bs.length
  · obtain ⟨j, i, hi, hj, rfl⟩ : ∃ j i, i < 8 ∧ j < bs.length ∧ q = 8 * j + i := ⟨q / 8, q % 8, Nat.mod_lt _ (by omega), by omega, by omega⟩
    have e1 := flat8_get bits8 bits8_len (flipL bs t) j i (by rw [flipL_len]; exact hj) hi
    have e2 := flat8_get bits8 bits8_len bs j i hj hi
    rw [show bitsL (flipL bs t) = (flipL bs t).flatMap bits8 from rfl, e1, List.getElem?_set]
    by_cases hjt : j = t / 8
    · subst hjt
      obtain ⟨a, ha⟩ := byte_nat (hb.get (t / 8))
      have e3 := flat8_get bits8 bits8_len bs (t / 8) (t % 8) hj (Nat.mod_lt _ (by decide))
      rw [flip_at t ht, ha, (flip_fin a ⟨t % 8, Nat.mod_lt _ (by decide)⟩).1, List.getElem?_set]
      rw [ha] at e2 e3
      have hlen8 : (bits8 ((a.val : Nat) : Int)).length = 8 := rfl
      have hgt : (bitsL bs).getD t false = (bits8 ((a.val : Nat) : Int)).getD (t % 8) false := by
        unfold bitsL
        rw [List.getD, List.getD, ← e3]
        congr 2; omega
      by_cases hit : t % 8 = i
      · rw [if_pos hit, if_pos (by omega), if_pos (by omega), if_pos (by omega), hgt]
      · rw [if_neg hit, if_neg (by omega)]
        exact e2.symm
    · rw [flip_get t j hjt, if_neg (by omega)]
      exact e2.symm
  · rw [List.getElem?_eq_none (by rw [bitsL_len, flipL_len]; omega), List.getElem?_eq_none (by simp; omega)]
theorem flip_told {bs : List Int} (hb : Bytes bs) (hn : bs.length = 48) (h : sealL bs = bs) (t : Nat) (ht : t < 384) : sealL (flipL bs t) ≠ flipL bs t := by
  intro h2
  obtain ⟨a, b, ha, hb', hc⟩ := sealed_crc hb hn h
  obtain ⟨a2, b2, ha2, hb2, hc2⟩ := sealed_crc (flip_bytes hb t) (by rw [flipL_len, hn]) h2
  have hl : (bitsL bs).length = 384 := by rw [bitsL_len, hn]
  have hbits := flip_bits hb t (by omega)
  have hx := a.isLt; have hy := b.isLt; have hx2 := a2.isLt; have hy2 := b2.isLt
  by_cases h374 : t < 374
  · -- the check would be the same, and isn't
    have hne : crcN (flipL bs t) ≠ crcN bs := by
      unfold crcN
      rw [hbits, List.take_set, show (bitsL bs).getD t false = ((bitsL bs).take 374).getD t false by rw [List.getD, List.getD, List.getElem?_take, if_pos h374]]
      exact fold_flip (by decide) (by decide) (by decide) (by decide) _ t (by simp; omega)
    apply hne
    rw [hc, hc2]
    have eb : b2 = b := by
      have := flip_get (bs := bs) t 47 (by omega)
      rw [hb2, hb'] at this
      exact Fin.ext (by omega)
    have ea : a2.val % 4 = a.val % 4 := by
      by_cases h46 : t / 8 = 46
      · have := flip_at (bs := bs) t (by omega)
        rw [h46, ha2, ha] at this
        have h6 := ((flip_fin a ⟨t % 8, Nat.mod_lt _ (by decide)⟩).2.2.2.2).2 (show t % 8 < 6 by omega)
        rw [← this] at h6
        omega
      · have := flip_get (bs := bs) t 46 (by omega)
        rw [ha2, ha] at this
        omega
    rw [eb, ea]
  · -- the check is the same, and what stands there isn't
    have heq : crcN (flipL bs t) = crcN bs := by
      unfold crcN
      rw [hbits, List.take_set, List.set_eq_of_length_le (by simp; omega)]
    rw [hc, hc2] at heq
    by_cases h46 : t / 8 = 46
    · have h1 := flip_at (bs := bs) t (by omega)
      rw [h46, ha2, ha] at h1
      have h47 := flip_get (bs := bs) t 47 (by omega)
      rw [hb2, hb'] at h47
      have h6 := ((flip_fin a ⟨t % 8, Nat.mod_lt _ (by decide)⟩).2.2.2.2).1
      rw [← h1] at h6
      have := h6 (by omega)
      simp only at this
      omega
    · have h47 : t / 8 = 47 := by omega
      have h1 := flip_at (bs := bs) t (by omega)
      rw [h47, hb2, hb'] at h1
      have h46' := flip_get (bs := bs) t 46 (by omega)
      rw [ha2, ha] at h46'
      have hne := (flip_fin b ⟨t % 8, Nat.mod_lt _ (by decide)⟩).2.2.2.1
      rw [← h1] at hne
      omega
end Go.Proofs.Yteipakmfiiccpaa
