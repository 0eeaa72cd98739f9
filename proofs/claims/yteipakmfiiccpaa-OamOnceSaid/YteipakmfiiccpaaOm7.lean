/- Layer 14 in plain Lean: both sides are one; what is packed is unpacked. -/
import Derived.Test.YteipakmfiiccpaaOm6
import Derived.Test.YteipakmfiiccpaaCr2
set_option linter.unusedVariables false
set_option linter.unusedSimpArgs false
namespace Go.Proofs.Yteipakmfiiccpaa
open Go.Vc
/-- Its numbers are those of their types. -/
structure OmOk (o : Om) : Prop where
  d : 0 ≤ o.d ∧ o.d < 256
  tg : 0 ≤ o.tg ∧ o.tg < 4294967296
  p : inByte o.p
  s : inByte o.s
theorem right_kind {o : Om} (h : rightO o = true) : kindB o.k := by
  unfold rightO kindO at h
  rw [Bool.and_eq_true, decide_eq_true_eq] at h
  exact h.1
theorem omL_inj {x y : Om} (h : omL x = omL y) : x.k = y.k ∧ x.d = y.d ∧ x.a = y.a ∧ x.tg = y.tg ∧ lp x.p = lp y.p ∧ lp x.s = lp y.s := by
  simp only [omL, List.cons.injEq, Value.int.injEq, Value.bool.injEq, true_and, and_true] at h
  obtain ⟨h1, h2, h3, h4, h5⟩ := h
  refine ⟨h1, h2, h3, h4, ?_, ?_⟩ <;> simp only [lp, List.range, List.range.loop, List.map_cons, List.map_nil, h5]
theorem omEq_iff (x y : Om) : omEq x y = true ↔ omL x = omL y := by
  unfold omEq
  refine cellsEq_iff (ks := [.int .i64, .int .u8, .bool, .int .u32] ++ rep 32 [.int .u8]) ?_ ?_ <;> simp [CellsAre, rep, omL, Leaf.has]
theorem right_only {o : Om} (h : rightO o = true) : omL (onlyO o) = omL o := by
  unfold rightO at h
  rw [Bool.and_eq_true] at h
  exact (omEq_iff _ _).1 h.2
theorem right_01 {o : Om} (h : rightO o = true) (hk : o.k = 0 ∨ o.k = 1) : o.a = false ∧ o.tg = 0 ∧ lp o.s = lp zp := by
  have := omL_inj (right_only h)
  unfold onlyO at this
  rw [if_pos hk] at this
  exact ⟨this.2.2.1.symm, this.2.2.2.1.symm, this.2.2.2.2.2.symm⟩
theorem right_8 {o : Om} (h : rightO o = true) (hk : o.k = 8) : o.d = 0 := by
  have := omL_inj (right_only h)
  unfold onlyO at this
  rw [if_neg (by omega), if_pos hk] at this
  exact this.2.1.symm
theorem right_4 {o : Om} (h : rightO o = true) (hk : o.k = 4) : o.d = 0 ∧ o.a = false ∧ o.tg = 0 ∧ lp o.p = lp zp ∧ lp o.s = lp zp := by
  have := omL_inj (right_only h)
  unfold onlyO at this
  rw [if_neg (by omega), if_neg (by omega)] at this
  exact ⟨this.2.1.symm, this.2.2.1.symm, this.2.2.2.1.symm, this.2.2.2.2.1.symm, this.2.2.2.2.2.symm⟩

theorem tagB_eq {t : Int} (h : 0 ≤ t ∧ t < 4294967296) : tagB t = rtagB t := by
  obtain ⟨n, rfl⟩ : ∃ n : Nat, t = (n : Int) := ⟨t.toNat, by omega⟩
  unfold tagB rtagB
  rw [fdiv_nat, fdiv_nat, fdiv_nat, fdiv_nat, show (16777216 : Int) = ((2 ^ 24 : Nat) : Int) from rfl, show (65536 : Int) = ((2 ^ 16 : Nat) : Int) from rfl, show (256 : Int) = ((2 ^ 8 : Nat) : Int) from rfl, tdiv_nat, tdiv_nat, tdiv_nat, wrap_u32, wrap_u32, wrap_u32, Nat.pow_zero, Nat.div_one]
  rw [Nat.mod_eq_of_lt (show n / 2 ^ 24 < 2 ^ 32 by omega), Nat.mod_eq_of_lt (show n / 2 ^ 16 < 2 ^ 32 by omega), Nat.mod_eq_of_lt (show n / 2 ^ 8 < 2 ^ 32 by omega)]
theorem byte_wrap (x : Int) : 0 ≤ IntKind.wrap .u8 x ∧ IntKind.wrap .u8 x < 256 := by
  unfold IntKind.wrap
  simp only [IntKind.signed, IntKind.bits, Bool.false_and, Bool.false_eq_true, if_false]
  omega
theorem lp_bytes {p : Nat → Int} (h : inByte p) : Bytes (lp p) := lp_byte h
theorem has_bytes {o : Om} (h : OmOk o) : Bytes (hasL o) := by
  unfold hasL
  split
  · intro x hx
    rcases List.mem_cons.1 hx with rfl | hx
    · exact h.d
    · exact lp_bytes h.p x hx
  · split
    · intro x hx
      rcases List.mem_cons.1 hx with rfl | hx
      · split <;> omega
      · rcases List.mem_append.1 hx with hx | hx
        · simp only [tagB, List.mem_cons, List.mem_nil_iff, or_false] at hx
          rcases hx with rfl | rfl | rfl | rfl <;> exact byte_wrap _
        · rcases List.mem_append.1 hx with hx | hx
          · exact lp_bytes h.p x hx
          · exact lp_bytes h.s x hx
    · intro x hx; simp at hx
theorem pre_bytes {o : Om} (h : OmOk o) : Bytes (preL o) := by
  intro x hx
  unfold preL preI at hx
  rcases List.mem_cons.1 hx with rfl | hx
  · exact byte_wrap _
  · rcases List.mem_append.1 hx with hx | hx
    · exact has_bytes h x hx
    · rcases List.mem_append.1 hx with hx | hx
      · rw [(List.mem_replicate.1 hx).2]; omega
      · rw [(List.mem_replicate.1 hx).2]; omega
theorem pre_eq {o : Om} (ho : OmOk o) (h : kindB o.k) : preL o = rpreL o := by
  have hk : IntKind.wrap .u8 (16 + IntKind.wrap .u8 o.k) = IntKind.wrap .u8 (IntKind.wrap .i64 (16 + o.k)) := by
    rcases h with h | h | h | h <;> rw [h] <;> decide +kernel
  have hhead : IntKind.wrap .u8 (16 + IntKind.wrap .u8 o.k) :: hasL o = rheadL o := by
    rcases h with h | h | h | h
    · rw [has_01 (.inl h), rhead_2 (by omega), hk]
    · rw [has_01 (.inr h), rhead_2 (by omega), hk]
    · rw [has_8 h, rhead_8 h, hk, tagB_eq ho.tg]
    · rw [has_no (by omega) (by omega), rhead_no (by omega) (by omega), hk]
  unfold preL rpreL preI
  rw [← hhead]
  have := has_le o
  rw [List.cons_append]
  congr 2
  · congr 1
    · congr 1; simp only [List.length_cons]; omega
    · rw [show 47 - (hasL o).length - (45 - (hasL o).length) = 2 by omega]; rfl
theorem pack_eq {o : Om} (ho : OmOk o) (h : rightO o = true) : packV o = rpackV o := by
  unfold packV rpackV
  rw [if_pos h, if_pos h, ← pre_eq ho (right_kind h), seal_eq (pre_bytes ho) (preL_len o)]

/-! ### Unpack is one -/
theorem bOr_u32 (a b : Nat) (ha : a < 2 ^ 32) (hb : b < 2 ^ 32) : bOr .u32 (a : Int) (b : Int) = ((a ||| b : Nat) : Int) := by
  unfold bOr
  rw [BitVec.ofInt_natCast, BitVec.ofInt_natCast, BitVec.toNat_or, BitVec.toNat_ofNat, BitVec.toNat_ofNat]
  show IntKind.wrap .u32 (((a % 2 ^ 32 ||| b % 2 ^ 32 : Nat)) : Int) = _
  rw [Nat.mod_eq_of_lt ha, Nat.mod_eq_of_lt hb, wrap_u32, Nat.mod_eq_of_lt (Nat.or_lt_two_pow ha hb)]
theorem or_byte (a b : Nat) (hb : b < 256) : a * 256 ||| b = a * 256 + b := by
  rw [show a * 256 = 2 ^ 8 * a by omega, Nat.two_pow_add_eq_or_of_lt (by omega)]
theorem tag1_nat (t x : Nat) (ht : t < 2 ^ 24) (hx : x < 256) : tag1 (t : Int) (x : Int) = ((t * 256 + x : Nat) : Int) := by
  unfold tag1
  rw [show (t : Int) * 2 ^ 8 = ((t * 256 : Nat) : Int) by omega, wrap_u32, wrap_u32, Nat.mod_eq_of_lt (by omega), Nat.mod_eq_of_lt (by omega), bOr_u32 _ _ (by omega) (by omega), or_byte _ _ hx]
theorem tagN_nat {bs : List Int} (a b c d : Fin 256) (ha : bs.getD 2 0 = (a.val : Nat)) (hb : bs.getD 3 0 = (b.val : Nat)) (hc : bs.getD 4 0 = (c.val : Nat)) (hd : bs.getD 5 0 = (d.val : Nat)) : tagN bs = ((((a.val * 256 + b.val) * 256 + c.val) * 256 + d.val : Nat) : Int) := by
  unfold tagN
  have := a.isLt; have := b.isLt; have := c.isLt; have := d.isLt
  rw [ha, hb, hc, hd, show (0 : Int) = ((0 : Nat) : Int) from rfl, tag1_nat _ _ (by omega) (by omega), tag1_nat _ _ (by omega) (by omega), tag1_nat _ _ (by omega) (by omega), tag1_nat _ _ (by omega) (by omega)]
  exact congrArg (fun n : Nat => (n : Int)) (by omega)
theorem rtagN_nat {bs : List Int} (a b c d : Fin 256) (ha : bs.getD 2 0 = (a.val : Nat)) (hb : bs.getD 3 0 = (b.val : Nat)) (hc : bs.getD 4 0 = (c.val : Nat)) (hd : bs.getD 5 0 = (d.val : Nat)) : rtagN bs = ((((a.val * 256 + b.val) * 256 + c.val) * 256 + d.val : Nat) : Int) := by
  unfold rtagN
  have := a.isLt; have := b.isLt; have := c.isLt; have := d.isLt
  rw [ha, hb, hc, hd]
  simp only [wrap_u32]
  rw [Nat.mod_eq_of_lt (show a.val < 2 ^ 32 by omega), Nat.mod_eq_of_lt (show b.val < 2 ^ 32 by omega), Nat.mod_eq_of_lt (show c.val < 2 ^ 32 by omega), Nat.mod_eq_of_lt (show d.val < 2 ^ 32 by omega)]
  rw [show ((a.val : Nat) : Int) * 16777216 = ((a.val * 16777216 : Nat) : Int) by omega, show ((b.val : Nat) : Int) * 65536 = ((b.val * 65536 : Nat) : Int) by omega, show ((c.val : Nat) : Int) * 256 = ((c.val * 256 : Nat) : Int) by omega, wrap_u32, wrap_u32, wrap_u32]
  rw [Nat.mod_eq_of_lt (show a.val * 16777216 < 2 ^ 32 by omega), Nat.mod_eq_of_lt (show b.val * 65536 < 2 ^ 32 by omega), Nat.mod_eq_of_lt (show c.val * 256 < 2 ^ 32 by omega)]
  rw [show ((a.val * 16777216 : Nat) : Int) + ((b.val * 65536 : Nat) : Int) = ((a.val * 16777216 + b.val * 65536 : Nat) : Int) by omega, wrap_u32, Nat.mod_eq_of_lt (by omega)]
  rw [show ((a.val * 16777216 + b.val * 65536 : Nat) : Int) + ((c.val * 256 : Nat) : Int) = ((a.val * 16777216 + b.val * 65536 + c.val * 256 : Nat) : Int) by omega, wrap_u32, Nat.mod_eq_of_lt (by omega)]
  rw [show ((a.val * 16777216 + b.val * 65536 + c.val * 256 : Nat) : Int) + ((d.val : Nat) : Int) = ((a.val * 16777216 + b.val * 65536 + c.val * 256 + d.val : Nat) : Int) by omega, wrap_u32, Nat.mod_eq_of_lt (by omega)]
  exact congrArg (fun n : Nat => (n : Int)) (by omega)
theorem tag_eq {bs : List Int} (hb : Bytes bs) : tagN bs = rtagN bs ∧ 0 ≤ tagN bs ∧ tagN bs < 4294967296 := by
  obtain ⟨a, ha⟩ := byte_nat (hb.get 2)
  obtain ⟨b, hb'⟩ := byte_nat (hb.get 3)
  obtain ⟨c, hc⟩ := byte_nat (hb.get 4)
  obtain ⟨d, hd⟩ := byte_nat (hb.get 5)
  have := a.isLt; have := b.isLt; have := c.isLt; have := d.isLt
  rw [tagN_nat a b c d ha hb' hc hd, rtagN_nat a b c d ha hb' hc hd]
  exact ⟨rfl, by omega, by omega⟩
theorem unpO_eq {bs : List Int} (hb : Bytes bs) : unpO bs = runpO bs := by
  unfold unpO runpO
  rw [(tag_eq hb).1]
theorem plG_byte {bs : List Int} (hb : Bytes bs) (o : Nat) : inByte (plG bs o) := fun i => hb.get (o + i)
theorem unpO_ok {bs : List Int} (hb : Bytes bs) : OmOk (unpO bs) := by
  unfold unpO
  split
  · exact ⟨hb.get 1, by simp, plG_byte hb 2, inByte_zp⟩
  · split
    · exact ⟨by simp, (tag_eq hb).2, plG_byte hb 6, plG_byte hb 22⟩
    · exact ⟨by simp, by simp, inByte_zp, inByte_zp⟩
theorem unp_eq {bs : List Int} (hb : Bytes bs) (hn : bs.length = 48) : unpE bs = runpE bs ∧ unpV bs = runpV bs := by
  have hE : unpE bs = runpE bs := by
    unfold unpE runpE
    rw [← seal_eq hb hn, ← unpO_eq hb]
    by_cases h1 : sealL bs ≠ bs
    · rw [if_pos h1, if_pos h1]
    · rw [if_neg h1, if_neg h1]
      by_cases h2 : ¬ kindB (kOf bs)
      · rw [if_pos h2, if_pos h2]
      · rw [if_neg h2, if_neg h2]
        by_cases h3 : rightO (unpO bs) = true
        · have e : packE (unpO bs) = 0 := by unfold packE; rw [if_pos h3]
          rw [e, pack_eq (unpO_ok hb) h3]
          simp
        · have e : packE (unpO bs) = 1 := by unfold packE; rw [if_neg h3]
          have e2 : rpackV (unpO bs) = [] := by unfold rpackV; rw [if_neg h3]
          rw [e, e2, if_pos (by simp), if_pos (by intro h; rw [← h] at hn; simp at hn)]
  exact ⟨hE, by unfold unpV runpV; rw [hE, unpO_eq hb]⟩
end Go.Proofs.Yteipakmfiiccpaa
