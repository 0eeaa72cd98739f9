/- Layer 4: both payload checks are one. -/
import Derived.Test.YtgiefcolkohgkaaCr1
import Derived.Test.YtgiefcolkohgkaaSm2
import Derived.Test.YtgiefcolkohgkaaBy0
set_option linter.unusedVariables false
set_option linter.unusedSimpArgs false
namespace Go.Proofs.Ytgiefcolkohgkaa
open Go.Vc
theorem byte_nat {x : Int} (h : 0 ≤ x ∧ x < 256) : ∃ a : Fin 256, x = ((a.val : Nat) : Int) := ⟨⟨x.toNat, by omega⟩, by simp; omega⟩
theorem bits8_fin : ∀ a : Fin 256, bits8 ((a.val : Nat) : Int) = (List.range 8).map fun i => a.val.testBit (7 - i) := by decide +kernel
theorem rbits8_fin : ∀ a : Fin 256, rbits8 ((a.val : Nat) : Int) = (bits8 ((a.val : Nat) : Int)).map b2i := by decide +kernel
theorem rbitsL_eq {bs : List Int} (h : Bytes bs) : rbitsL bs = (bitsL bs).map b2i := by
  induction bs with
  | nil => rfl
  | cons x r ih =>
    obtain ⟨a, rfl⟩ := byte_nat (h x (by simp))
    have ih := ih fun y hy => h y (by simp [hy])
    unfold rbitsL bitsL at ih ⊢
    rw [List.flatMap_cons, List.flatMap_cons, List.map_append, ih, rbits8_fin]
theorem bOr_u8 (a b : Nat) (ha : a < 2 ^ 8) (hb : b < 2 ^ 8) : bOr .u8 (a : Int) (b : Int) = ((a ||| b : Nat) : Int) := by
  unfold bOr
  rw [BitVec.ofInt_natCast, BitVec.ofInt_natCast, BitVec.toNat_or, BitVec.toNat_ofNat, BitVec.toNat_ofNat]
  show IntKind.wrap .u8 (((a % 2 ^ 8 ||| b % 2 ^ 8 : Nat)) : Int) = _
  rw [Nat.mod_eq_of_lt ha, Nat.mod_eq_of_lt hb, wrap_u8, Nat.mod_eq_of_lt (Nat.or_lt_two_pow ha hb)]
/-- A byte shifted by two places, with two places of the one ahead. -/
def shB (p q : Int) : Int := bOr .u8 (IntKind.wrap .u8 (p * 2 ^ 6)) (q.fdiv (2 ^ 2))
theorem shB_nat (p q : Fin 256) : shB ((p.val : Nat) : Int) ((q.val : Nat) : Int) = (((p.val * 64 % 2 ^ 8 ||| q.val / 2 ^ 2 : Nat)) : Int) := by
  unfold shB
  rw [show ((p.val : Nat) : Int) * 2 ^ 6 = ((p.val * 64 : Nat) : Int) by omega, wrap_u8, fdiv_nat, bOr_u8 _ _ (Nat.mod_lt _ (by decide)) (by have := q.isLt; omega)]
theorem shB_bits (p q : Fin 256) : bits8 (shB ((p.val : Nat) : Int) ((q.val : Nat) : Int)) = (bits8 ((p.val : Nat) : Int)).drop 6 ++ (bits8 ((q.val : Nat) : Int)).take 6 := by
  rw [shB_nat]
  have hlt : p.val * 64 % 2 ^ 8 ||| q.val / 2 ^ 2 < 256 := Nat.or_lt_two_pow (Nat.mod_lt _ (by decide)) (by have := q.isLt; omega)
  rw [show ((p.val * 64 % 2 ^ 8 ||| q.val / 2 ^ 2 : Nat) : Int) = (((⟨p.val * 64 % 2 ^ 8 ||| q.val / 2 ^ 2, hlt⟩ : Fin 256).val : Nat) : Int) from rfl, bits8_fin, bits8_fin, bits8_fin]
  have hq : ∀ i, 8 ≤ i → q.val.testBit i = false := fun i hi => Nat.testBit_lt_two_pow (Nat.lt_of_lt_of_le q.isLt (Nat.pow_le_pow_right (by omega) hi : 2 ^ 8 ≤ 2 ^ i))
  have key : ∀ i, (p.val * 64 % 2 ^ 8 ||| q.val / 2 ^ 2).testBit i = ((decide (i < 8) && (decide (6 ≤ i) && p.val.testBit (i - 6))) || q.val.testBit (i + 2)) := by
    intro i
    rw [Nat.testBit_or, Nat.testBit_mod_two_pow, show p.val * 64 = p.val * 2 ^ 6 from rfl, Nat.testBit_mul_two_pow, Nat.testBit_div_two_pow]
  simp only [List.range, List.range.loop, List.map_cons, List.map_nil, key, List.drop_succ_cons, List.drop_zero, List.take_succ_cons, List.take_zero, List.cons_append, List.nil_append]
  simp [hq]
theorem shB_0 (q : Fin 256) : bits8 (shB 0 ((q.val : Nat) : Int)) = [false, false] ++ (bits8 ((q.val : Nat) : Int)).take 6 := by
  have := shB_bits ⟨0, by decide⟩ q
  exact this
theorem carry_sh {bs : List Int} (k : Nat) : bOr .u8 (carryF bs k) ((bs.getD k 0).fdiv (2 ^ 2)) = shB (if k = 0 then 0 else bs.getD (k - 1) 0) (bs.getD k 0) := by
  cases k with
  | zero => rfl
  | succ k => rfl
theorem shiftF_get {bs : List Int} : ∀ k, k ≤ 47 → ∀ j, j < k → (shiftF bs k).getD j 0 = shB (if j = 0 then 0 else bs.getD (j - 1) 0) (bs.getD j 0)
  | 0, _, j, hj => by omega
  | k + 1, hk, j, hj => by
    rw [shiftF, getD_set _ _ _ _ (by rw [shiftF_len]; omega)]
    by_cases h : j = k
    · subst h; rw [if_pos rfl, carry_sh]
    · rw [if_neg h]; exact shiftF_get k (by omega) j (by omega)
theorem shift_bits {bs : List Int} (hb : Bytes bs) (hn : bs.length = 48) : bitsL (shiftF bs 47) = [false, false] ++ (bitsL bs).take 374 := by
  have hl1 : (bitsL (shiftF bs 47)).length = 376 := by rw [bitsL_len, shiftF_len]
  have hl2 : (bitsL bs).length = 384 := by rw [bitsL_len, hn]
  apply List.ext_getElem?
  intro q
  by_cases hq : q < 376
  · obtain ⟨j, i, hi, hj, rfl⟩ : ∃ j i, i < 8 ∧ j < 47 ∧ q = 8 * j + i := ⟨q / 8, q % 8, Nat.mod_lt _ (by omega), by omega, by omega⟩
    have e := flat8_get bits8 bits8_len (shiftF bs 47) j i (by rw [shiftF_len]; exact hj) hi
    rw [show (bitsL (shiftF bs 47)) = (shiftF bs 47).flatMap bits8 from rfl, e, shiftF_get 47 (Nat.le_refl _) j hj]
    obtain ⟨y, hy⟩ := byte_nat (hb.get j)
    by_cases h0 : j = 0
    · subst h0
      rw [if_pos rfl, hy, shB_0, Nat.mul_zero, Nat.zero_add]
      by_cases h2 : i < 2
      · rw [List.getElem?_append_left (by simpa using h2), List.getElem?_append_left (by simpa using h2)]
      · rw [List.getElem?_append_right (by simp; omega), List.getElem?_append_right (by simp; omega), List.getElem?_take, List.getElem?_take]
        simp only [List.length_cons, List.length_nil]
        rw [if_pos (by omega), if_pos (by omega)]
        have := flat8_get bits8 bits8_len bs 0 (i - 2) (by omega) (by omega)
        rw [Nat.mul_zero, Nat.zero_add] at this
        rw [show (bitsL bs) = bs.flatMap bits8 from rfl, this, hy]
    · obtain ⟨x, hx⟩ := byte_nat (hb.get (j - 1))
      rw [if_neg h0, hx, hy, shB_bits, List.getElem?_append_right (show ([false, false] : List Bool).length ≤ 8 * j + i by simp; omega), List.getElem?_take]
      simp only [List.length_cons, List.length_nil]
      rw [if_pos (by omega)]
      have hd6 : ((bits8 ((x.val : Nat) : Int)).drop 6).length = 2 := rfl
      by_cases h2 : i < 2
      · rw [List.getElem?_append_left (by omega), List.getElem?_drop]
        have := flat8_get bits8 bits8_len bs (j - 1) (6 + i) (by omega) (by omega)
        rw [show (bitsL bs) = bs.flatMap bits8 from rfl, show 8 * j + i - (0 + 1 + 1) = 8 * (j - 1) + (6 + i) by omega, this, hx]
      · rw [List.getElem?_append_right (by omega), hd6, List.getElem?_take, if_pos (by omega)]
        have := flat8_get bits8 bits8_len bs j (i - 2) (by omega) (by omega)
        rw [show (bitsL bs) = bs.flatMap bits8 from rfl, show 8 * j + i - (0 + 1 + 1) = 8 * j + (i - 2) by omega, this, hy]
  · rw [List.getElem?_eq_none (by omega), List.getElem?_eq_none (by simp; omega)]

/-! ### The check -/
def crcN (bs : List Int) : Nat := ((bitsL bs).take 374).foldl (stepN 10 563) 0
theorem crcN_lt (bs : List Int) : crcN bs < 1024 := (fold_N (d := 10) (g := 563) (by decide) (by decide) (by decide) ((bitsL bs).take 374) 0 (by decide)).2
theorem tenB_crc {bs : List Int} (hb : Bytes bs) (hn : bs.length = 48) : tenB (shiftF bs 47) = ((crcN bs : Nat) : Int) := by
  unfold tenB restB
  rw [shift_bits hb hn, List.foldl_append]
  have h0 : [false, false].foldl (stepB 512 563) 0 = 0 := by decide +kernel
  rw [h0]
  have h1 := (fold_N (d := 10) (g := 563) (by decide) (by decide) (by decide) ((bitsL bs).take 374) 0 (by decide)).1
  have h2 := crcN_lt bs
  rw [show ((512 : Int)) = ((2 ^ (10 - 1) : Nat) : Int) from rfl, show ((563 : Int)) = ((563 : Nat) : Int) from rfl, show ((0 : Int)) = ((0 : Nat) : Int) from rfl, h1]
  show IntKind.wrap .u16 ((crcN bs : Nat) : Int) = _
  unfold IntKind.wrap
  simp only [IntKind.signed, IntKind.bits, Bool.false_and, Bool.false_eq_true, if_false]
  omega
theorem restF_crc {bs : List Int} (hb : Bytes bs) (hn : bs.length = 48) : restF 563 10 ((rbitsL bs).take 374) = ((crcN bs : Nat) : Int) := by
  have hl2 : (bitsL bs).length = 384 := by rw [bitsL_len, hn]
  have hl : ((bitsL bs).take 374).length = 374 := by simp [hl2]
  rw [rbitsL_eq hb, ← List.map_take]
  unfold restF
  rw [List.length_map]
  refine rest_reg (d := 10) (g := 563) (by decide) (by decide) (by decide) (r0 := 0) (by decide) ((bitsL bs).take 374) _ (by simp) fun m hm => ?_
  rw [Nat.zero_testBit, Bool.and_false, Bool.xor_false]
  generalize (bitsL bs).take 374 = l at *
  simp only [List.getD]
  by_cases h : m < l.length
  · rw [List.getElem?_append_left (by simpa using h), List.getElem?_map, List.getElem?_eq_getElem h]; rfl
  · rw [List.getElem?_append_right (by simpa using Nat.le_of_not_lt h), List.getElem?_eq_none (show l.length ≤ m by omega), List.getElem?_replicate, List.length_map]
    rw [if_pos (by omega)]; rfl
theorem last_fin : ∀ (a : Fin 256) (q : Fin 4), bOr .u8 (bAndNot .u8 ((a.val : Nat) : Int) 3) (IntKind.wrap .u8 ((q.val : Nat) : Int)) = IntKind.wrap .u8 (IntKind.wrap .u8 (IntKind.wrap .u8 (((a.val : Nat) : Int).tdiv 4) * 4) + IntKind.wrap .u8 (IntKind.wrap .u64 ((q.val : Nat) : Int))) := by decide +kernel
theorem seal_eq {bs : List Int} (hb : Bytes bs) (hn : bs.length = 48) : sealL bs = sealR bs := by
  unfold sealL sealR
  rw [tenB_crc hb hn, restF_crc hb hn]
  obtain ⟨a, ha⟩ := byte_nat (hb.get 46)
  have hc := crcN_lt bs
  have e1 : (((crcN bs : Nat) : Int).fdiv (2 ^ 8)) = ((((⟨crcN bs / 256, by omega⟩ : Fin 4)).val : Nat) : Int) := fdiv_nat _ _
  have e2 : (((crcN bs : Nat) : Int).tdiv 256) = ((((⟨crcN bs / 256, by omega⟩ : Fin 4)).val : Nat) : Int) := tdiv_nat _ 256
  rw [e1, e2, ha, last_fin]
  congr 1
  rw [show (((crcN bs : Nat) : Int).tmod 256) = ((crcN bs % 256 : Nat) : Int) from tmod_nat _ 256, wrap_u8, wrap_u8, Nat.mod_mod]
end Go.Proofs.Ytgiefcolkohgkaa
