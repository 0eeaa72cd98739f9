/- Layer 10 in plain Lean: both sides are one. -/
import Derived.Test.YtgiefcolkohgkaaFr5
set_option linter.unusedVariables false
set_option linter.unusedSimpArgs false
namespace Go.Proofs.Ytgiefcolkohgkaa
open Go.Vc
theorem flipF_get {xs : List Int} : ∀ i, i ≤ xs.length → ∀ m, m < xs.length → (flipF xs i).getD m 0 = if m < i then IntKind.wrap .i64 (1 - xs.getD m 0) else xs.getD m 0
  | 0, _, m, _ => by rw [flipF, if_neg (by omega)]
  | i + 1, hi, m, hm => by
    have ih := flipF_get (xs := xs) i (by omega)
    rw [flipF, getD_set (flipF xs i) i m _ (by rw [flipF_len]; omega)]
    by_cases h : m = i
    · subst h
      rw [if_pos rfl, ih m hm, if_neg (Nat.lt_irrefl m), if_pos (Nat.lt_succ_self m)]
    · rw [if_neg h, ih m hm]
      by_cases h2 : m < i
      · rw [if_pos h2, if_pos (show m < i + 1 by omega)]
      · rw [if_neg h2, if_neg (show ¬ m < i + 1 by omega)]
theorem b2i_not (p : Bool) : IntKind.wrap .i64 (1 - b2i p) = b2i (!p) := by cases p <;> rfl
def crcL (bs : List Int) : Nat := (bitsL bs).foldl (stepN 32 79764919) 4294967295
theorem crcL_lt (bs : List Int) : crcL bs < 4294967296 := (fold_N (d := 32) (g := 79764919) (by decide) (by decide) (by decide) (bitsL bs) 4294967295 (by decide)).2
theorem longB_crc (bs : List Int) : longB bs = bXor .u32 4294967295 ((crcL bs : Nat) : Int) := by
  have h := (fold_N (d := 32) (g := 79764919) (by decide) (by decide) (by decide) (bitsL bs) 4294967295 (by decide)).1
  unfold longB restB crcL
  rw [← h]; rfl
theorem restT_crc {bs : List Int} (hb : Bytes bs) : restT 79764919 32 (rbitsL bs) = ((crcL bs : Nat) : Int) := by
  rw [rbitsL_eq hb]
  unfold restT
  rw [List.length_map]
  refine rest_reg (d := 32) (g := 79764919) (by decide) (by decide) (by decide) (r0 := 4294967295) (by decide) (bitsL bs) _ (by rw [flipF_len]; simp) fun m hm => ?_
  generalize bitsL bs = l at *
  have hlen : (l.map b2i ++ List.replicate 32 (0 : Int)).length = l.length + 32 := by simp
  rw [flipF_get 32 (by omega) m (by omega)]
  have hx : (l.map b2i ++ List.replicate 32 (0 : Int)).getD m 0 = b2i (l.getD m false) := by
    simp only [List.getD]
    by_cases h : m < l.length
    · rw [List.getElem?_append_left (by simpa using h), List.getElem?_map, List.getElem?_eq_getElem h]; rfl
    · rw [List.getElem?_append_right (by simpa using Nat.le_of_not_lt h), List.getElem?_eq_none (show l.length ≤ m by omega), List.getElem?_replicate, List.length_map]
      rw [if_pos (by omega)]; rfl
  rw [hx]
  by_cases h : m < 32
  · rw [if_pos h, b2i_not, decide_eq_true h, Bool.true_and]
    have hones : ∀ j : Fin 32, (4294967295 : Nat).testBit j.val = true := by decide
    have := hones ⟨32 - 1 - m, by omega⟩
    rw [this]; simp
  · rw [if_neg h, decide_eq_false h]; simp
theorem long_eq {bs : List Int} (hb : Bytes bs) : longB bs = rlongB bs := by
  unfold rlongB
  rw [longB_crc, restT_crc hb, wrap_u32, Nat.mod_eq_of_lt (crcL_lt bs)]
theorem longB_nat (bs : List Int) : ∃ c : Nat, c < 4294967296 ∧ longB bs = (c : Int) := by
  rw [longB_crc, show (4294967295 : Int) = ((4294967295 : Nat) : Int) from rfl, bXor_u32' _ _ (by decide) (crcL_lt bs)]
  exact ⟨_, Nat.xor_lt_two_pow (n := 32) (by decide) (crcL_lt bs), rfl⟩
theorem sum_eq {bs : List Int} (hb : Bytes bs) : sumL bs = rsumL bs := by
  obtain ⟨c, hc, h⟩ := longB_nat bs
  unfold sumL rsumL
  rw [← long_eq hb, h]
  rw [fdiv_nat, fdiv_nat, fdiv_nat, show (16777216 : Int) = ((2 ^ 24 : Nat) : Int) from rfl, show (65536 : Int) = ((2 ^ 16 : Nat) : Int) from rfl, show (256 : Int) = ((2 ^ 8 : Nat) : Int) from rfl, tdiv_nat, tdiv_nat, tdiv_nat, wrap_u32, wrap_u32, wrap_u32, Nat.mod_eq_of_lt (show c / 2 ^ 24 < 2 ^ 32 by omega), Nat.mod_eq_of_lt (show c / 2 ^ 16 < 2 ^ 32 by omega), Nat.mod_eq_of_lt (show c / 2 ^ 8 < 2 ^ 32 by omega), tmod_nat, tmod_nat, tmod_nat]
  simp only [wrap_u8, Nat.mod_mod]
theorem len_eq (n : Nat) : lenB n = rlenB n := by
  unfold lenB rlenB
  rw [fdiv_nat]
  simp only [wrap_u8]
  rw [show n / 2 ^ 8 = n / 256 from rfl, show n % 256 % 2 ^ 8 = n % 2 ^ 8 by omega]
theorem pad_bytes {bs : List Int} (hb : Bytes bs) : Bytes (padF bs) := by
  intro x hx
  rcases List.mem_append.1 hx with hx | hx
  · exact hb x hx
  · rw [(List.mem_replicate.1 hx).2]; omega
theorem head_bytes {bs : List Int} {m : Int} (hb : Bytes bs) (hm : 0 ≤ m ∧ m < 256) : Bytes (headF bs m) := by
  intro x hx
  rcases List.mem_append.1 hx with hx | hx
  · exact pad_bytes hb x hx
  · simp only [lenB, List.mem_cons, List.mem_nil_iff, or_false] at hx
    rcases hx with rfl | rfl | rfl | rfl
    · exact hm
    · omega
    · exact byte_wrap _
    · exact byte_wrap _
theorem frame_bytes {bs : List Int} {m : Int} (hb : Bytes bs) (hm : 0 ≤ m ∧ m < 256) : Bytes (frameF bs m) := (head_bytes hb hm).app (sumL_bytes _)
theorem frame_eq {bs : List Int} {m : Int} (hb : Bytes bs) (hm : 0 ≤ m ∧ m < 256) : frameF bs m = rframeF bs m := by
  have hh : headF bs m = rheadF bs m := by unfold headF rheadF; rw [len_eq]
  unfold frameF rframeF
  rw [← hh, sum_eq (head_bytes hb hm)]
theorem tail_get {bs : List Int} {n j : Nat} (h8 : 8 ≤ n) (hj : j < 8) : (tailF bs n).getD j 0 = bs.getD (n - 8 + j) 0 := by
  unfold tailF
  simp only [List.getD, List.getElem?_take, if_pos (show j < n - (n - 8) by omega), List.getElem?_drop]
theorem lenF_r {bs : List Int} {n : Nat} (h8 : 8 ≤ n) : lenF bs n = rlenF bs n := by
  unfold lenF rlenF
  rw [tail_get h8 (by omega), tail_get h8 (by omega), show n - 8 + 2 = n - 6 by omega, show n - 8 + 3 = n - 5 by omega]
theorem mid_any {bs : List Int} {n : Nat} (hn : bs.length = n) : (midF bs n).any (fun x => x != 0) = true ↔ ∃ k, lenF bs n ≤ k ∧ k < n - 8 ∧ bs.getD k 0 ≠ 0 := by
  unfold midF
  rw [List.any_eq_true]
  constructor
  · rintro ⟨x, hx, hne⟩
    obtain ⟨i, hi, rfl⟩ := List.getElem_of_mem hx
    simp at hi
    refine ⟨lenF bs n + i, by omega, by omega, ?_⟩
    rw [List.getElem_take, List.getElem_drop] at hne
    rw [List.getD, List.getElem?_eq_getElem (by omega)]
    simpa using hne
  · rintro ⟨k, h1, h2, h3⟩
    refine ⟨bs.getD k 0, ?_, by simpa using h3⟩
    rw [List.mem_iff_getElem?]
    refine ⟨k - lenF bs n, ?_⟩
    rw [List.getElem?_take, if_pos (by omega), List.getElem?_drop, show lenF bs n + (k - lenF bs n) = k by omega, List.getD, List.getElem?_eq_getElem (by omega)]
    rfl
theorem many_iff {L n : Nat} (hL : L ≠ 0) (hn : n % 48 = 0) : manyN L * 48 ≠ n ↔ (n - 8 < L ∨ 47 < n - 8 - L) := by
  have h := (many_le L).2 (by omega)
  constructor
  · intro h1
    omega
  · intro h1 h2
    omega
theorem un_eq {bs : List Int} (hb : Bytes bs) : unE bs = runE bs ∧ unT bs = runT bs ∧ unM bs = runM bs := by
  have hE : unE bs = runE bs := by
    unfold unE runE
    dsimp only
    by_cases h1 : bs.length = 0 ∨ bs.length % 48 ≠ 0
    · rw [if_pos h1, if_pos h1]
    · rw [if_neg h1, if_neg h1, ← sum_eq (hb.take (bs.length - 4))]
      by_cases h2 : (bs.drop (bs.length - 4)).take (bs.length - (bs.length - 4)) ≠ sumL (bs.take (bs.length - 4))
      · rw [if_pos h2, if_pos h2]
      · rw [if_neg h2, if_neg h2, tail_get (by omega) (by omega), show bs.length - 8 + 1 = bs.length - 7 by omega, lenF_r (show 8 ≤ bs.length by omega)]
        have h3 : (bs.getD (bs.length - 7) 0 ≠ 0 ∨ rlenF bs bs.length = 0 ∨ manyN (rlenF bs bs.length) * 48 ≠ bs.length) ↔ (bs.getD (bs.length - 7) 0 ≠ 0 ∨ rlenF bs bs.length = 0 ∨ bs.length - 8 < rlenF bs bs.length ∨ 47 < bs.length - 8 - rlenF bs bs.length) := by
          by_cases hL : rlenF bs bs.length = 0
          · simp [hL]
          · rw [many_iff hL (by omega)]
        by_cases h4 : bs.getD (bs.length - 7) 0 ≠ 0 ∨ rlenF bs bs.length = 0 ∨ bs.length - 8 < rlenF bs bs.length ∨ 47 < bs.length - 8 - rlenF bs bs.length
        · rw [if_pos (h3.2 h4), if_pos h4]
        · rw [if_neg (fun h => h4 (h3.1 h)), if_neg h4]
          have h5 := mid_any (bs := bs) rfl
          rw [lenF_r (show 8 ≤ bs.length by omega)] at h5
          by_cases h6 : ∃ k, rlenF bs bs.length ≤ k ∧ k < bs.length - 8 ∧ bs.getD k 0 ≠ 0
          · rw [if_pos (h5.2 h6), if_pos h6]
          · rw [if_neg (fun h => h6 (h5.1 h)), if_neg h6]
  refine ⟨hE, ?_, ?_⟩
  · unfold unT runT
    rw [hE]
    by_cases h0 : runE bs = 0
    · have h8 : 8 ≤ bs.length := by
        by_cases h : bs.length = 0 ∨ bs.length % 48 ≠ 0
        · rw [run_5a h] at h0; omega
        · omega
      rw [if_pos h0, if_pos h0, lenF_r h8]
    · rw [if_neg h0, if_neg h0]
  · unfold unM runM
    rw [hE]
    by_cases h0 : runE bs = 0
    · have h8 : 8 ≤ bs.length := by
        by_cases h : bs.length = 0 ∨ bs.length % 48 ≠ 0
        · rw [run_5a h] at h0; omega
        · omega
      rw [if_pos h0, if_pos h0, tail_get h8 (by omega), Nat.add_zero]
    · rw [if_neg h0, if_neg h0]

/-! ### What is packed is unpacked -/
theorem frame_un {bs : List Int} {m : Int} (h0 : 0 < bs.length) (h1 : bs.length ≤ 1000) (hb : Bytes bs) (hm : 0 ≤ m ∧ m < 256) : unE (frameF bs m) = 0 ∧ unT (frameF bs m) = bs ∧ unM (frameF bs m) = m := by
  have hmn := (many_le bs.length).2 h0
  obtain ⟨n, hn⟩ : ∃ n, n = 48 * manyN bs.length := ⟨_, rfl⟩
  have hl : (frameF bs m).length = n := by rw [frameF_len h0, hn]
  have hh : (headF bs m).length = n - 4 := by rw [headF_len h0, hn]
  have hp : (padF bs).length = n - 8 := by rw [padF_len h0, hn]
  have hd : (frameF bs m).drop (n - 4) = sumL (headF bs m) := by unfold frameF; rw [List.drop_append, hh, Nat.sub_self, List.drop_of_length_le (by omega)]; simp
  have ht : (frameF bs m).take (n - 4) = headF bs m := by unfold frameF; rw [List.take_append, hh, Nat.sub_self, List.take_of_length_le (by omega)]; simp
  have htail : ∀ j, j < 4 → (frameF bs m).getD (n - 8 + j) 0 = (m :: 0 :: lenB bs.length).getD j 0 := by
    intro j hj
    unfold frameF headF
    rw [List.append_assoc]
    simp only [List.getD]
    rw [List.getElem?_append_right (by omega), hp, Nat.add_sub_cancel_left, List.getElem?_append_left (by simp [lenB]; omega)]
  have hlen : lenF (frameF bs m) n = bs.length := by
    rw [lenF_r (by omega)]
    unfold rlenF
    rw [show n - 6 = n - 8 + 2 by omega, show n - 5 = n - 8 + 3 by omega, htail 2 (by omega), htail 3 (by omega), len_eq]
    show (IntKind.wrap .u8 ((bs.length / 256 : Nat) : Int) * 256 + IntKind.wrap .u8 ((bs.length % 256 : Nat) : Int)).toNat = _
    rw [wrap_u8, wrap_u8]
    omega
  have hpad : ∀ k, bs.length ≤ k → k < n - 8 → (frameF bs m).getD k 0 = 0 := by
    intro k h1 h2
    unfold frameF headF padF
    simp only [List.getD]
    rw [List.append_assoc, List.append_assoc, List.getElem?_append_right (by omega), List.getElem?_append_left (by simp; omega), List.getElem?_replicate, if_pos (by omega)]
    rfl
  have hmid : (midF (frameF bs m) n).any (fun x => x != 0) = false := by
    cases h : (midF (frameF bs m) n).any (fun x => x != 0)
    · rfl
    · obtain ⟨k, h1, h2, h3⟩ := (mid_any hl).1 h
      rw [hlen] at h1
      exact absurd (hpad k h1 h2) h3
  obtain ⟨e0, e1, e2⟩ := un_0 hl (by omega) (by omega) (by rw [hd, ht, List.take_of_length_le (by simp [sumL]; omega)]) (by rw [tail_get (by omega) (by omega), htail 1 (by omega)]; rfl) (by rw [hlen]; omega) (by rw [hlen, hn]; omega) hmid (by rw [hlen]; omega)
  refine ⟨e0, ?_, ?_⟩
  · rw [e1, hlen]
    unfold frameF headF padF
    rw [List.append_assoc, List.append_assoc, List.take_append_of_le_length (Nat.le_refl _), List.take_length]
  · rw [e2, tail_get (by omega) (by omega), htail 0 (by omega)]; rfl
end Go.Proofs.Ytgiefcolkohgkaa
