/- The checks: a register behind bits is the rest of a division of polynomials. -/
import Derived.Test.YtgiefcolkohgkaaSm0
import Derived.Test.YtgiefcolkohgkaaRf0
set_option linter.unusedVariables false
set_option linter.unusedSimpArgs false
namespace Go.Proofs.Ytgiefcolkohgkaa
open Go.Vc

/-! ### 1. Operations on numbers -/
theorem wrap_u32 (x : Nat) : IntKind.wrap .u32 (x : Int) = ((x % 2 ^ 32 : Nat) : Int) := by
  unfold IntKind.wrap
  simp [IntKind.signed, IntKind.bits]
theorem bAnd_u32 (a b : Nat) (ha : a < 2 ^ 32) (hb : b < 2 ^ 32) : bAnd .u32 (a : Int) (b : Int) = ((a &&& b : Nat) : Int) := by
  unfold bAnd
  rw [BitVec.ofInt_natCast, BitVec.ofInt_natCast, BitVec.toNat_and, BitVec.toNat_ofNat, BitVec.toNat_ofNat]
  show IntKind.wrap .u32 (((a % 2 ^ 32 &&& b % 2 ^ 32 : Nat)) : Int) = _
  rw [Nat.mod_eq_of_lt ha, Nat.mod_eq_of_lt hb, wrap_u32, Nat.mod_eq_of_lt (Nat.lt_of_le_of_lt Nat.and_le_left ha)]
theorem bXor_u32' (a b : Nat) (ha : a < 2 ^ 32) (hb : b < 2 ^ 32) : bXor .u32 (a : Int) (b : Int) = ((a ^^^ b : Nat) : Int) := by
  unfold bXor
  rw [BitVec.ofInt_natCast, BitVec.ofInt_natCast, BitVec.toNat_xor, BitVec.toNat_ofNat, BitVec.toNat_ofNat]
  show IntKind.wrap .u32 (((a % 2 ^ 32 ^^^ b % 2 ^ 32 : Nat)) : Int) = _
  rw [Nat.mod_eq_of_lt ha, Nat.mod_eq_of_lt hb, wrap_u32, Nat.mod_eq_of_lt (Nat.xor_lt_two_pow ha hb)]

/-! ### 2. The register -/
def stepN (d g r : Nat) (bit : Bool) : Nat := if r.testBit (d - 1) == bit then r * 2 % 2 ^ d else (r * 2 % 2 ^ d) ^^^ g
theorem stepN_lt {d g r : Nat} {bit : Bool} (hg : g < 2 ^ d) : stepN d g r bit < 2 ^ d := by
  unfold stepN
  split
  · exact Nat.mod_lt _ (Nat.two_pow_pos d)
  · exact Nat.xor_lt_two_pow (Nat.mod_lt _ (Nat.two_pow_pos d)) hg
theorem stepB_N {d g r : Nat} {bit : Bool} (hd : 1 ≤ d) (hd2 : d ≤ 32) (hg : g < 2 ^ d) (hr : r < 2 ^ d) : stepB ((2 ^ (d - 1) : Nat) : Int) (g : Int) (r : Int) bit = ((stepN d g r bit : Nat) : Int) := by
  have h32 : 2 ^ d ≤ 2 ^ 32 := Nat.pow_le_pow_right (by omega) hd2
  have htop : 2 ^ (d - 1) < 2 ^ 32 := Nat.pow_lt_pow_right (by omega) (by omega)
  have hm : maskOf ((2 ^ (d - 1) : Nat) : Int) = ((2 ^ d - 1 : Nat) : Int) := by
    unfold maskOf
    have e1 : (((2 ^ (d - 1) : Nat) : Int) * 2 ^ 1) = ((2 ^ d : Nat) : Int) := by
      rw [show (2 : Int) ^ 1 = ((2 : Nat) : Int) from rfl, ← Int.natCast_mul]
      congr 1
      rw [← Nat.pow_succ]
      congr 1; omega
    rw [e1, wrap_u32]
    by_cases h : d = 32
    · subst h; rfl
    · have hlt : 2 ^ d < 2 ^ 32 := Nat.pow_lt_pow_right (by omega) (by omega)
      rw [Nat.mod_eq_of_lt hlt]
      have h1 : 1 ≤ 2 ^ d := Nat.two_pow_pos d
      rw [show ((2 ^ d : Nat) : Int) - 1 = ((2 ^ d - 1 : Nat) : Int) by omega, wrap_u32, Nat.mod_eq_of_lt (by omega)]
  have hhigh : (bAnd .u32 (r : Int) ((2 ^ (d - 1) : Nat) : Int) != 0) = r.testBit (d - 1) := by
    rw [bAnd_u32 _ _ (by omega) htop]
    have e : r &&& 2 ^ (d - 1) = if r.testBit (d - 1) = true then 2 ^ (d - 1) else 0 := by
      apply Nat.eq_of_testBit_eq
      intro i
      rw [Nat.testBit_and, Nat.testBit_two_pow]
      by_cases hi : d - 1 = i
      · subst hi
        cases h : r.testBit (d - 1) <;> simp [Nat.testBit_two_pow]
      · cases h : r.testBit (d - 1) <;> simp [Nat.testBit_two_pow, hi]
    rw [e]
    have := Nat.two_pow_pos (d - 1)
    cases h : r.testBit (d - 1)
    · rfl
    · rw [if_pos rfl, bne_iff_ne]
      omega
  have hs : bAnd .u32 (IntKind.wrap .u32 ((r : Int) * 2 ^ 1)) (maskOf ((2 ^ (d - 1) : Nat) : Int)) = ((r * 2 % 2 ^ d : Nat) : Int) := by
    rw [hm, show ((r : Int) * 2 ^ 1) = ((r * 2 : Nat) : Int) by omega, wrap_u32, bAnd_u32 _ _ (Nat.mod_lt _ (by decide)) (by omega), Nat.and_two_pow_sub_one_eq_mod]
    congr 1
    exact Nat.mod_mod_of_dvd _ (Nat.pow_dvd_pow 2 hd2)
  unfold stepB stepN
  rw [hhigh, hs]
  by_cases hb : (r.testBit (d - 1) == bit) = true
  · rw [if_pos hb, if_pos hb]
  · rw [if_neg hb, if_neg hb, bXor_u32' _ _ (Nat.lt_of_lt_of_le (Nat.mod_lt _ (Nat.two_pow_pos d)) h32) (by omega)]
theorem fold_N {d g : Nat} (hd : 1 ≤ d) (hd2 : d ≤ 32) (hg : g < 2 ^ d) (l : List Bool) : ∀ r : Nat, r < 2 ^ d → l.foldl (stepB ((2 ^ (d - 1) : Nat) : Int) (g : Int)) (r : Int) = ((l.foldl (stepN d g) r : Nat) : Int) ∧ l.foldl (stepN d g) r < 2 ^ d := by
  induction l with
  | nil => intro r hr; exact ⟨rfl, hr⟩
  | cons b l ih =>
    intro r hr
    simp only [List.foldl_cons]
    rw [stepB_N hd hd2 hg hr]
    exact ih _ (stepN_lt hg)

/-! ### 3. The division -/
def b2i (b : Bool) : Int := if b = true then 1 else 0
theorem b2i_add (p q : Bool) : (IntKind.wrap .i64 (b2i p + b2i q)).tmod 2 = b2i (p ^^ q) := by cases p <;> cases q <;> rfl
theorem b2i_0 (p : Bool) : b2i p = 0 ↔ p = false := by cases p <;> simp [b2i]
theorem getD_set (xs : List Int) (j m : Nat) (v : Int) (hj : j < xs.length) : (xs.set j v).getD m 0 = if m = j then v else xs.getD m 0 := by
  simp only [List.getD, List.getElem?_set]
  by_cases h : j = m
  · subst h; simp [hj]
  · rw [if_neg h, if_neg (fun e => h e.symm)]
def regN (d g : Nat) (Y : Nat → Bool) (r0 : Nat) : Nat → Nat
  | 0 => r0
  | i + 1 => stepN d g (regN d g Y r0 i) (Y i)
theorem regN_lt {d g : Nat} {Y : Nat → Bool} {r0 : Nat} (hg : g < 2 ^ d) (hr : r0 < 2 ^ d) : ∀ i, regN d g Y r0 i < 2 ^ d
  | 0 => hr
  | i + 1 => stepN_lt hg
theorem stepN_bit {d g r : Nat} {bit : Bool} (hd : 1 ≤ d) (j : Nat) (hj : j < d) : (stepN d g r bit).testBit (d - 1 - j) = ((decide (j + 1 < d) && r.testBit (d - 1 - (j + 1))) ^^ ((bit ^^ r.testBit (d - 1)) && g.testBit (d - 1 - j))) := by
  have hs : (r * 2 % 2 ^ d).testBit (d - 1 - j) = (decide (j + 1 < d) && r.testBit (d - 1 - (j + 1))) := by
    rw [Nat.testBit_mod_two_pow, decide_eq_true (show d - 1 - j < d by omega), Bool.true_and]
    by_cases h : j + 1 < d
    · rw [decide_eq_true h, Bool.true_and, show d - 1 - j = (d - 1 - (j + 1)) + 1 by omega, Nat.testBit_succ, Nat.mul_div_cancel _ (by omega)]
    · rw [decide_eq_false h, Bool.false_and, show d - 1 - j = 0 by omega]
      simp
  unfold stepN
  cases h : r.testBit (d - 1) <;> cases bit <;> simp [hs, Nat.testBit_xor]
/-- G's list, of the divisor's coefficients. -/
theorem div_inv {d g : Nat} (hd : 1 ≤ d) (hg : g < 2 ^ d) {gl : List Int} (hgl : gl.length = d + 1) (hg0 : gl.getD 0 0 = 1) (hgj : ∀ j, j < d → gl.getD (j + 1) 0 = b2i (g.testBit (d - 1 - j)))
    {Y : Nat → Bool} {n r0 : Nat} {xs : List Int} (hr0 : r0 < 2 ^ d) (hx : xs.length = n + d) (hX : ∀ m, m < n + d → xs.getD m 0 = b2i (Y m ^^ (decide (m < d) && r0.testBit (d - 1 - m)))) :
    ∀ i, i ≤ n → ∀ m, i ≤ m → m < n + d → (divF gl xs i).getD m 0 = b2i (Y m ^^ (decide (m < i + d) && (regN d g Y r0 i).testBit (d - 1 - (m - i)))) := by
  intro i
  induction i with
  | zero => intro _ m _ hm; simpa [divF, regN] using hX m hm
  | succ i ih =>
    intro hi m hm hmn
    have ih := ih (by omega)
    have h0 := ih i (Nat.le_refl _) (by omega)
    rw [decide_eq_true (show i < i + d by omega), Bool.true_and, Nat.sub_self, Nat.sub_zero] at h0
    have hG : ∀ j, j < d + 1 → gl.getD j 0 = b2i (if j = 0 then true else g.testBit (d - 1 - (j - 1))) := by
      intro j hj
      cases j with
      | zero => rw [hg0]; rfl
      | succ j => rw [hgj j (by omega)]; simp
    rw [divF]
    obtain ⟨R, hR⟩ : ∃ R, R = regN d g Y r0 i := ⟨_, rfl⟩
    rw [regN, ← hR]
    rw [← hR] at h0
    -- what stands at m ahead of the step
    have hlow : ∀ m, i ≤ m → m < n + d → (divF gl xs i).getD m 0 = b2i (Y m ^^ (decide (m < i + d) && R.testBit (d - 1 - (m - i)))) := fun m h1 h2 => by rw [hR]; exact ih m h1 h2
    by_cases hz : (divF gl xs i).getD i 0 = 0
    · rw [if_pos hz, hlow m (by omega) hmn]
      rw [h0, b2i_0] at hz
      congr 2
      by_cases hmd : m < i + 1 + d
      · rw [decide_eq_true hmd, Bool.true_and, show m - (i + 1) = m - i - 1 by omega, stepN_bit hd (m - i - 1) (by omega)]
        rw [show m - i - 1 + 1 = m - i by omega, hz, Bool.false_and, Bool.xor_false]
        congr 1
        simp; omega
      · rw [decide_eq_false hmd, decide_eq_false (by omega)]; simp
    · rw [if_neg hz, hgl]
      rw [h0, b2i_0, Bool.not_eq_false] at hz
      have hlen : (divF gl xs i).length = n + d := by rw [divF_len, hx]
      have key : ∀ k, i + k ≤ n + d → k ≤ d + 1 → ∀ m, i ≤ m → m < n + d → (addF gl i (divF gl xs i) k).getD m 0 = b2i (if m < i + k then (Y m ^^ (decide (m < i + d) && R.testBit (d - 1 - (m - i)))) ^^ (if m - i = 0 then true else g.testBit (d - 1 - (m - i - 1))) else (Y m ^^ (decide (m < i + d) && R.testBit (d - 1 - (m - i))))) := by
        intro k
        induction k with
        | zero => intro _ _ m h1 h2; rw [addF, hlow m h1 h2, if_neg (by omega)]
        | succ k ihk =>
          intro hk hk1 m h1 h2
          have ihk := ihk (by omega) (by omega)
          rw [addF, getD_set _ _ _ _ (by rw [addF_len, hlen]; omega)]
          by_cases h : m = i + k
          · subst h
            rw [if_pos rfl, ihk (i + k) (by omega) (by omega), if_neg (show ¬ i + k < i + k by omega), hG k (by omega), b2i_add, if_pos (show i + k < i + (k + 1) by omega), Nat.add_sub_cancel_left]
          · rw [if_neg h, ihk m h1 h2]
            by_cases h3 : m < i + k
            · rw [if_pos h3, if_pos (show m < i + (k + 1) by omega)]
            · rw [if_neg h3, if_neg (show ¬ m < i + (k + 1) by omega)]
      rw [key (d + 1) (by omega) (Nat.le_refl _) m (by omega) hmn]
      by_cases hmd : m < i + 1 + d
      · rw [if_pos (show m < i + (d + 1) by omega), decide_eq_true hmd, Bool.true_and, if_neg (show ¬ m - i = 0 by omega), show m - (i + 1) = m - i - 1 by omega, stepN_bit hd (m - i - 1) (by omega), hz, Bool.true_and]
        rw [show m - i - 1 + 1 = m - i by omega, Bool.xor_assoc]
        congr 3
        congr 1
        simp; omega
      · rw [if_neg (show ¬ m < i + (d + 1) by omega), decide_eq_false hmd, decide_eq_false (show ¬ m < i + d by omega)]; simp

/-! ### 4. The rest, as a number -/
theorem wrap_u64 (x : Nat) : IntKind.wrap .u64 (x : Int) = ((x % 2 ^ 64 : Nat) : Int) := by
  unfold IntKind.wrap
  simp [IntKind.signed, IntKind.bits]
theorem num_reg {xs : List Int} {f d R : Nat} (hd : d ≤ 64) (hR : R < 2 ^ d) (h : ∀ j, j < d → xs.getD (f + j) 0 = b2i (R.testBit (d - 1 - j))) : ∀ k, k ≤ d → numF xs f k = ((R / 2 ^ (d - k) : Nat) : Int) := by
  intro k
  induction k with
  | zero => intro _; rw [numF, Nat.sub_zero, Nat.div_eq_of_lt hR]; rfl
  | succ k ih =>
    intro hk
    rw [numF, ih (by omega), h k (by omega)]
    have e : R / 2 ^ (d - (k + 1)) = 2 * (R / 2 ^ (d - k)) + (R / 2 ^ (d - (k + 1))) % 2 := by
      rw [show d - k = (d - (k + 1)) + 1 by omega, Nat.pow_succ, ← Nat.div_div_eq_div_mul]
      omega
    have hb : b2i (R.testBit (d - 1 - k)) = ((R / 2 ^ (d - (k + 1)) % 2 : Nat) : Int) := by
      rw [show d - 1 - k = d - (k + 1) by omega, Nat.testBit_eq_decide_div_mod_eq]
      rcases Nat.mod_two_eq_zero_or_one (R / 2 ^ (d - (k + 1))) with h | h <;> rw [h] <;> rfl
    have hlt : R / 2 ^ (d - (k + 1)) < 2 ^ 64 := by
      have h1 : R / 2 ^ (d - (k + 1)) ≤ R := Nat.div_le_self _ _
      have h2 : 2 ^ d ≤ 2 ^ 64 := Nat.pow_le_pow_right (by omega) hd
      omega
    rw [hb, show (2 : Int) * ((R / 2 ^ (d - k) : Nat) : Int) = ((2 * (R / 2 ^ (d - k)) : Nat) : Int) by omega, wrap_u64, wrap_u64]
    rw [Nat.mod_eq_of_lt (show 2 * (R / 2 ^ (d - k)) < 2 ^ 64 by omega), Nat.mod_eq_of_lt (show R / 2 ^ (d - (k + 1)) % 2 < 2 ^ 64 by omega)]
    rw [show ((2 * (R / 2 ^ (d - k)) : Nat) : Int) + ((R / 2 ^ (d - (k + 1)) % 2 : Nat) : Int) = ((2 * (R / 2 ^ (d - k)) + R / 2 ^ (d - (k + 1)) % 2 : Nat) : Int) by omega, ← e, wrap_u64, Nat.mod_eq_of_lt hlt]

/-! ### 5. The divisor's coefficients -/
theorem gF_get {g d : Nat} (hg : g < 2 ^ d) (hd : d ≤ 64) : ∀ k, k ≤ d → (gF (g : Int) d k).getD 0 0 = 1 ∧ ∀ j, j < k → (gF (g : Int) d k).getD (j + 1) 0 = b2i (g.testBit (d - 1 - j)) := by
  intro k
  induction k with
  | zero => intro _; exact ⟨rfl, fun j hj => by omega⟩
  | succ k ih =>
    intro hk
    obtain ⟨h1, h2⟩ := ih (by omega)
    have hl := gF_len (g : Int) d k
    have hnew : IntKind.wrap .i64 (((g : Int).fdiv (2 ^ (d - 1 - k))).tmod 2) = b2i (g.testBit (d - 1 - k)) := by
      rw [Int.fdiv_eq_ediv_of_nonneg _ (Int.le_of_lt (Int.pow_pos (by omega))), show ((2 : Int) ^ (d - 1 - k)) = ((2 ^ (d - 1 - k) : Nat) : Int) by rw [Int.natCast_pow]; rfl, ← Int.natCast_ediv, show (2 : Int) = ((2 : Nat) : Int) from rfl, ← Int.ofNat_tmod, Nat.testBit_eq_decide_div_mod_eq]
      rcases Nat.mod_two_eq_zero_or_one (g / 2 ^ (d - 1 - k)) with h | h <;> rw [h] <;> rfl
    rw [gF]
    refine ⟨?_, fun j hj => ?_⟩
    · rw [List.getD, List.getElem?_append_left (by omega)]; exact h1
    · by_cases hjk : j < k
      · rw [List.getD, List.getElem?_append_left (by omega)]; exact h2 j hjk
      · obtain rfl : j = k := by omega
        rw [List.getD, List.getElem?_append_right (by omega), hl, Nat.sub_self]
        exact hnew
/-- The rest of a division is the register's last state. -/
theorem rest_reg {d g : Nat} (hd : 1 ≤ d) (hd2 : d ≤ 64) (hg : g < 2 ^ d) {r0 : Nat} (hr0 : r0 < 2 ^ d) (l : List Bool) (xs : List Int) (hx : xs.length = l.length + d)
    (hX : ∀ m, m < l.length + d → xs.getD m 0 = b2i (l.getD m false ^^ (decide (m < d) && r0.testBit (d - 1 - m)))) :
    numF (divF (gF (g : Int) d d) xs l.length) l.length d = ((l.foldl (stepN d g) r0 : Nat) : Int) := by
  obtain ⟨h1, h2⟩ := gF_get hg hd2 d (Nat.le_refl _)
  have hinv := div_inv hd hg (gF_len (g : Int) d d) h1 h2 hr0 hx hX l.length (Nat.le_refl _)
  have hreg : ∀ i, i ≤ l.length → regN d g (fun m => l.getD m false) r0 i = (l.take i).foldl (stepN d g) r0 := by
    intro i
    induction i with
    | zero => intro _; rfl
    | succ i ih =>
      intro hi
      rw [regN, ih (by omega), foldl_take_succ (stepN d g) r0 l i (l.getD i false)]
      rw [List.getElem?_eq_getElem (by omega), List.getD, List.getElem?_eq_getElem (by omega)]; rfl
  have hend : regN d g (fun m => l.getD m false) r0 l.length = l.foldl (stepN d g) r0 := by rw [hreg _ (Nat.le_refl _), List.take_length]
  rw [num_reg hd2 (regN_lt hg hr0 l.length) (fun j hj => ?_) d (Nat.le_refl _), Nat.sub_self, Nat.pow_zero, Nat.div_one, hend]
  rw [hinv (l.length + j) (by omega) (by omega), decide_eq_true (by omega), Bool.true_and, Nat.add_sub_cancel_left]
  congr 1
  simp [List.getD]
end Go.Proofs.Ytgiefcolkohgkaa
