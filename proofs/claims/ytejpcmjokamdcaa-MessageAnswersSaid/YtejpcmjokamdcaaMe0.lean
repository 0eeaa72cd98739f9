/- Layer 16 in plain Lean: messages as bytes, and bytes as messages. -/
import Derived.Test.YtejpcmjokamdcaaIe4
set_option linter.unusedVariables false
set_option linter.unusedSimpArgs false
namespace Go.Proofs.Ytejpcmjokamdcaa
open Go.Vc
def knownB (k : Int) : Bool := decide (k = 2 ∨ k = 5 ∨ k = 7 ∨ k = 77 ∨ k = 90)
def rightM (r k : Int) (L : List IeD) : Bool := decide (1 ≤ r ∧ r ≤ 8388607) && knownB k && decide (packE L = 0)
theorem rightM_T {r k : Int} {L : List IeD} (h : rightM r k L = true) : (1 ≤ r ∧ r ≤ 8388607) ∧ knownB k = true ∧ packE L = 0 := by
  simp only [rightM, Bool.and_eq_true, decide_eq_true_eq] at h
  exact ⟨h.1.1, h.1.2, h.2⟩
theorem rightM_of {r k : Int} {L : List IeD} (h : 1 ≤ r ∧ r ≤ 8388607) (h2 : knownB k = true) (h3 : packE L = 0) : rightM r k L = true := by simp [rightM, h, h2, h3]
theorem rightM_F1 {r k : Int} {L : List IeD} (h : ¬ (1 ≤ r ∧ r ≤ 8388607)) : rightM r k L = false := by simp [rightM, h]
theorem rightM_F2 {r k : Int} {L : List IeD} (h : knownB k = false) : rightM r k L = false := by simp [rightM, h]
theorem rightM_F3 {r k : Int} {L : List IeD} (h : ¬ packE L = 0) : rightM r k L = false := by simp [rightM, h]
def msgN (r : Nat) (back : Bool) : Nat := if back = true then r + 8388608 else r
/-- A message's head. -/
def hdL (n : Nat) (k : Int) (len : Nat) : List Int := [9, 3, ((n / 65536 % 256 : Nat) : Int), ((n / 256 % 256 : Nat) : Int), ((n % 256 : Nat) : Int), IntKind.wrap .u8 k, 128, ((len / 256 % 256 : Nat) : Int), ((len % 256 : Nat) : Int)]
theorem hdL_len (n : Nat) (k : Int) (len : Nat) : (hdL n k len).length = 9 := rfl
theorem byte_is (x : Nat) : IntKind.wrap .u8 ((x : Nat) : Int) = ((x % 256 : Nat) : Int) := wrap_u8 x
theorem hd_sh (n : Nat) (k : Int) (len : Nat) : [9, 3, IntKind.wrap .u8 (((n : Nat) : Int).fdiv (2 ^ 16)), IntKind.wrap .u8 (((n : Nat) : Int).fdiv (2 ^ 8)), IntKind.wrap .u8 ((n : Nat) : Int), IntKind.wrap .u8 k, 128, IntKind.wrap .u8 (((len : Nat) : Int).fdiv (2 ^ 8)), IntKind.wrap .u8 ((len : Nat) : Int)] = hdL n k len := by
  simp only [fdiv_nat, byte_is]; first | done | rfl
theorem hd_div (n : Nat) (k : Int) (len : Nat) : [9, 3, IntKind.wrap .u8 ((n / 65536 : Nat) : Int), IntKind.wrap .u8 (((n / 256) % 256 : Nat) : Int), IntKind.wrap .u8 ((n % 256 : Nat) : Int), IntKind.wrap .u8 k, 128, IntKind.wrap .u8 ((len / 256 : Nat) : Int), IntKind.wrap .u8 ((len % 256 : Nat) : Int)] = hdL n k len := by
  simp only [byte_is, Nat.mod_mod]; first | done | rfl
def msgL (r : Nat) (back : Bool) (k : Int) (L : List IeD) : List Int := hdL (msgN r back) k (packT L).length ++ packT L
def msgE (r : Int) (back : Bool) (k : Int) (L : List IeD) : Int := if rightM r k L = true then if 1000 < 9 + (packT L).length then 6 else 0 else 1
def msgT (r : Int) (back : Bool) (k : Int) (L : List IeD) : List Int := if msgE r back k L = 0 then msgL r.toNat back k L else []
theorem msgL_len (r : Nat) (back : Bool) (k : Int) (L : List IeD) : (msgL r back k L).length = 9 + (packT L).length := by simp [msgL, hdL_len]
theorem msg_no {r k : Int} {back : Bool} {L : List IeD} (h : rightM r k L = false) : msgE r back k L = 1 ∧ msgT r back k L = [] := by
  have : msgE r back k L = 1 := by rw [msgE, if_neg (by rw [h]; simp)]
  exact ⟨this, by rw [msgT, if_neg (by rw [this]; decide)]⟩
theorem msg_long {r k : Int} {back : Bool} {L : List IeD} (h : rightM r k L = true) (h2 : 1000 < 9 + (packT L).length) : msgE r back k L = 6 ∧ msgT r back k L = [] := by
  have : msgE r back k L = 6 := by rw [msgE, if_pos h, if_pos h2]
  exact ⟨this, by rw [msgT, if_neg (by rw [this]; decide)]⟩
theorem msg_yes {r k : Int} {back : Bool} {L : List IeD} (h : rightM r k L = true) (h2 : ¬ 1000 < 9 + (packT L).length) : msgE r back k L = 0 ∧ msgT r back k L = msgL r.toNat back k L := by
  have : msgE r back k L = 0 := by rw [msgE, if_pos h, if_neg h2]
  exact ⟨this, by rw [msgT, if_pos this]⟩
theorem msg_of {r k : Int} {back : Bool} {L : List IeD} (h : msgE r back k L = 0) : rightM r k L = true ∧ 9 + (packT L).length ≤ 1000 ∧ msgT r back k L = msgL r.toNat back k L := by
  by_cases h1 : rightM r k L = true
  · by_cases h2 : 1000 < 9 + (packT L).length
    · rw [(msg_long h1 h2).1] at h; cases h
    · exact ⟨h1, by omega, (msg_yes h1 h2).2⟩
  · rw [(msg_no (by simpa using h1)).1] at h; cases h
theorem msgE_few (r k : Int) (back : Bool) (L : List IeD) : msgE r back k L = 0 ∨ msgE r back k L = 1 ∨ msgE r back k L = 6 := by
  unfold msgE
  split
  · split <;> simp
  · simp
theorem msgT_le (r : Int) (back : Bool) (k : Int) (L : List IeD) : (msgT r back k L).length ≤ 1000 := by
  unfold msgT
  split
  · rename_i h; rw [msgL_len]; exact (msg_of h).2.1
  · simp
/-! ### Bytes as a message -/
def muN (bs : List Int) : Nat := (bs.getD 2 0 * 65536 + bs.getD 3 0 * 256 + bs.getD 4 0).toNat
def muS (bs : List Int) : Nat := (bs.getD 7 0 * 256 + bs.getD 8 0).toNat
def muForm (bs : List Int) : Prop := bs.getD 0 0 = 9 ∧ bs.getD 1 0 = 3 ∧ bs.getD 6 0 = 128 ∧ muN bs % 8388608 ≠ 0
instance (bs : List Int) : Decidable (muForm bs) := by unfold muForm; infer_instance
def muE (bs : List Int) : Int := if 1000 < bs.length then 6 else if bs.length < 9 then 2 else if ¬ muForm bs then 5 else if ¬ knownB (bs.getD 5 0) = true then 12 else if bs.length - 9 < muS bs then 2 else if muS bs < bs.length - 9 then 3 else ieUE (bs.drop 9)
def muR (bs : List Int) : Int := if muE bs = 0 then ((muN bs % 8388608 : Nat) : Int) else 0
def muB (bs : List Int) : Bool := if muE bs = 0 then decide (((muN bs : Nat) : Int) > 8388607) else false
def muK (bs : List Int) : Int := if muE bs = 0 then bs.getD 5 0 else 0
def muL (bs : List Int) : List IeD := if muE bs = 0 then ieUL (bs.drop 9) else []
section
variable {bs : List Int}
theorem mu_6 (h : 1000 < bs.length) : muE bs = 6 := if_pos h
theorem mu_2 (h : ¬ 1000 < bs.length) (h1 : bs.length < 9) : muE bs = 2 := by rw [muE, if_neg h, if_pos h1]
theorem mu_5 (h : ¬ 1000 < bs.length) (h1 : ¬ bs.length < 9) (h2 : ¬ muForm bs) : muE bs = 5 := by rw [muE, if_neg h, if_neg h1, if_pos h2]
theorem mu_12 (h : ¬ 1000 < bs.length) (h1 : ¬ bs.length < 9) (h2 : muForm bs) (h3 : knownB (bs.getD 5 0) = false) : muE bs = 12 := by rw [muE, if_neg h, if_neg h1, if_neg (fun q => q h2), if_pos (by rw [h3]; simp)]
theorem mu_2b (h : ¬ 1000 < bs.length) (h1 : ¬ bs.length < 9) (h2 : muForm bs) (h3 : knownB (bs.getD 5 0) = true) (h4 : bs.length - 9 < muS bs) : muE bs = 2 := by rw [muE, if_neg h, if_neg h1, if_neg (fun q => q h2), if_neg (fun q => q h3), if_pos h4]
theorem mu_3 (h : ¬ 1000 < bs.length) (h1 : ¬ bs.length < 9) (h2 : muForm bs) (h3 : knownB (bs.getD 5 0) = true) (h5 : muS bs < bs.length - 9) : muE bs = 3 := by rw [muE, if_neg h, if_neg h1, if_neg (fun q => q h2), if_neg (fun q => q h3), if_neg (by omega), if_pos h5]
theorem mu_i (h : ¬ 1000 < bs.length) (h1 : ¬ bs.length < 9) (h2 : muForm bs) (h3 : knownB (bs.getD 5 0) = true) (h4 : muS bs = bs.length - 9) : muE bs = ieUE (bs.drop 9) := by rw [muE, if_neg h, if_neg h1, if_neg (fun q => q h2), if_neg (fun q => q h3), if_neg (by omega), if_neg (by omega)]
theorem mu_of (h : muE bs = 0) : bs.length ≤ 1000 ∧ 9 ≤ bs.length ∧ muForm bs ∧ knownB (bs.getD 5 0) = true ∧ muS bs = bs.length - 9 ∧ ieUE (bs.drop 9) = 0 := by
  by_cases h1 : 1000 < bs.length
  · rw [mu_6 h1] at h; cases h
  by_cases h2 : bs.length < 9
  · rw [mu_2 h1 h2] at h; cases h
  by_cases h3 : muForm bs
  · by_cases h4 : knownB (bs.getD 5 0) = true
    · by_cases h5 : bs.length - 9 < muS bs
      · rw [mu_2b h1 h2 h3 h4 h5] at h; cases h
      by_cases h6 : muS bs < bs.length - 9
      · rw [mu_3 h1 h2 h3 h4 h6] at h; cases h
      rw [mu_i h1 h2 h3 h4 (by omega)] at h
      exact ⟨by omega, by omega, h3, h4, by omega, h⟩
    · rw [mu_12 h1 h2 h3 (by simpa using h4)] at h; cases h
  · rw [mu_5 h1 h2 h3] at h; cases h
theorem mu_n (h : muE bs ≠ 0) : muR bs = 0 ∧ muB bs = false ∧ muK bs = 0 ∧ muL bs = [] := ⟨if_neg h, if_neg h, if_neg h, if_neg h⟩
theorem mu_y (h : muE bs = 0) : muR bs = ((muN bs % 8388608 : Nat) : Int) ∧ muB bs = decide (((muN bs : Nat) : Int) > 8388607) ∧ muK bs = bs.getD 5 0 ∧ muL bs = ieUL (bs.drop 9) := ⟨if_pos h, if_pos h, if_pos h, if_pos h⟩
theorem muN_lt (hb : Bytes bs) : muN bs < 16777216 := by
  have h2 := hb.get 2; have h3 := hb.get 3; have h4 := hb.get 4
  unfold muN; omega
theorem muS_lt (hb : Bytes bs) : muS bs < 65536 := by
  have h2 := hb.get 7; have h3 := hb.get 8
  unfold muS; omega
theorem and_23 (n : Nat) (h : n < 2 ^ 62) : bAnd .i64 ((n : Nat) : Int) 8388607 = ((n % 8388608 : Nat) : Int) := by
  unfold bAnd
  rw [show (8388607 : Int) = ((8388607 : Nat) : Int) from rfl, BitVec.ofInt_natCast, BitVec.ofInt_natCast, BitVec.toNat_and, BitVec.toNat_ofNat, BitVec.toNat_ofNat]
  show IntKind.wrap .i64 (((n % 2 ^ 64 &&& 8388607 % 2 ^ 64 : Nat)) : Int) = _
  rw [Nat.mod_eq_of_lt (show n < 2 ^ 64 by omega), show 8388607 % 2 ^ 64 = 2 ^ 23 - 1 from rfl, Nat.and_two_pow_sub_one_eq_mod, wrap_i64 _ (by omega) (by omega)]
theorem mu_or (hb : Bytes bs) : bOr .i64 (bOr .i64 (IntKind.wrap .i64 (IntKind.wrap .i64 (bs.getD 2 0) * 2 ^ 16)) (IntKind.wrap .i64 (IntKind.wrap .i64 (bs.getD 3 0) * 2 ^ 8))) (IntKind.wrap .i64 (bs.getD 4 0)) = ((muN bs : Nat) : Int) := by
  obtain ⟨a, ha, ha2⟩ := bytes_getD hb 2
  obtain ⟨b, hb1, hb2⟩ := bytes_getD hb 3
  obtain ⟨c, hc, hc2⟩ := bytes_getD hb 4
  unfold muN
  rw [ha, hb1, hc, wrap_i64 ((a : Nat) : Int) (by omega) (by omega), wrap_i64 ((b : Nat) : Int) (by omega) (by omega), wrap_i64 ((c : Nat) : Int) (by omega) (by omega), show ((a : Nat) : Int) * 2 ^ 16 = ((a * 256 * 256 : Nat) : Int) by omega, show ((b : Nat) : Int) * 2 ^ 8 = ((b * 256 : Nat) : Int) by omega, wrap_i64 _ (by omega) (by omega), wrap_i64 _ (by omega) (by omega), bOr_i64 _ _ (by omega) (by omega)]
  have e1 : a * 256 * 256 ||| b * 256 = (a * 256 + b) * 256 := by
    rw [show a * 256 * 256 = 2 ^ 16 * a by omega, ← Nat.two_pow_add_eq_or_of_lt (show b * 256 < 2 ^ 16 by omega)]; omega
  rw [e1, bOr_i64 _ _ (by omega) (by omega), or_byte _ _ hc2]
  omega
theorem ms_or (hb : Bytes bs) : bOr .i64 (IntKind.wrap .i64 (IntKind.wrap .i64 (bs.getD 7 0) * 2 ^ 8)) (IntKind.wrap .i64 (bs.getD 8 0)) = ((muS bs : Nat) : Int) := by
  obtain ⟨b, hb1, hb2⟩ := bytes_getD hb 7
  obtain ⟨c, hc, hc2⟩ := bytes_getD hb 8
  unfold muS
  rw [hb1, hc, wrap_i64 ((b : Nat) : Int) (by omega) (by omega), wrap_i64 ((c : Nat) : Int) (by omega) (by omega), show ((b : Nat) : Int) * 2 ^ 8 = ((b * 256 : Nat) : Int) by omega, wrap_i64 _ (by omega) (by omega), bOr_i64 _ _ (by omega) (by omega), or_byte _ _ hc2]
  omega
theorem mk_is (hb : Bytes bs) : IntKind.wrap .i64 (bs.getD 5 0) = bs.getD 5 0 := by
  have := hb.get 5
  exact wrap_i64 _ (by omega) (by omega)
end
/-! ### There and back -/
theorem msg_bytes {r : Nat} {back : Bool} {k : Int} {L : List IeD} (h : Bytes (packT L)) : Bytes (msgL r back k L) := by
  refine Bytes.app ?_ h
  intro x hx
  simp only [hdL, List.mem_cons, List.mem_nil_iff, or_false] at hx
  have hw := byte_wrap k
  rcases hx with rfl | rfl | rfl | rfl | rfl | rfl | rfl | rfl | rfl <;> omega
theorem known_small {k : Int} (h : knownB k = true) : IntKind.wrap .u8 k = k := by
  simp only [knownB, decide_eq_true_eq] at h
  rcases h with rfl | rfl | rfl | rfl | rfl <;> rfl
/-- What is packed is unpacked. -/
theorem msg_there {r k : Int} {back : Bool} {L : List IeD} (h : msgE r back k L = 0) : muE (msgT r back k L) = 0 ∧ muR (msgT r back k L) = r ∧ muB (msgT r back k L) = back ∧ muK (msgT r back k L) = k ∧ muL (msgT r back k L) = L := by
  obtain ⟨h1, h2, h3⟩ := msg_of h
  obtain ⟨g1, g2, g3⟩ := rightM_T h1
  obtain ⟨m, rfl⟩ : ∃ m : Nat, r = m := ⟨r.toNat, by omega⟩
  rw [h3, Int.toNat_natCast]
  obtain ⟨P, hP⟩ : ∃ P, P = packT L := ⟨_, rfl⟩
  obtain ⟨bs, hbs⟩ : ∃ bs, bs = msgL m back k L := ⟨_, rfl⟩
  have hlen : bs.length = 9 + P.length := by rw [hbs, msgL_len, hP]
  have e : bs = hdL (msgN m back) k P.length ++ P := by rw [hbs, hP]; rfl
  have n2 : msgN m back = if back = true then m + 8388608 else m := rfl
  have hN : muN bs = msgN m back := by
    unfold muN
    rw [e]
    simp only [hdL, List.cons_append, List.getD_cons_succ, List.getD_cons_zero]
    have : msgN m back < 16777216 := by rw [n2]; split <;> omega
    omega
  have hS : muS bs = P.length := by
    unfold muS
    rw [e]
    simp only [hdL, List.cons_append, List.getD_cons_succ, List.getD_cons_zero]
    rw [← hP] at h2
    omega
  have hK : bs.getD 5 0 = k := by
    rw [e]
    simp only [hdL, List.cons_append, List.getD_cons_succ, List.getD_cons_zero]
    exact known_small g2
  have hD : bs.drop 9 = P := by rw [e]; rfl
  have hF : muForm bs := by
    refine ⟨by rw [e]; rfl, by rw [e]; rfl, by rw [e]; rfl, ?_⟩
    rw [hN, n2]; split <;> omega
  rw [← hP] at h2
  have hE : muE bs = 0 := by
    rw [mu_i (by omega) (by omega) hF (by rw [hK]; exact g2) (by omega), hD, hP]
    exact ie_thereE g3
  rw [← hbs]
  obtain ⟨y1, y2, y3, y4⟩ := mu_y hE
  refine ⟨hE, ?_, ?_, by rw [y3, hK], by rw [y4, hD, hP]; exact ie_thereL g3⟩
  · rw [y1, hN, n2]; split <;> omega
  · rw [y2, hN, n2, Bool.eq_iff_iff, decide_eq_true_eq]
    cases back <;> simp <;> omega
/-- What is unpacked is packed to what it was. -/
theorem msg_back {bs : List Int} (hb : Bytes bs) (h : muE bs = 0) : msgE (muR bs) (muB bs) (muK bs) (muL bs) = 0 ∧ msgT (muR bs) (muB bs) (muK bs) (muL bs) = bs := by
  obtain ⟨h1, h2, ⟨f0, f1, f2, f3⟩, h4, h5, h6⟩ := mu_of h
  obtain ⟨y1, y2, y3, y4⟩ := mu_y h
  have hlt := muN_lt hb
  obtain ⟨k1, k2⟩ := ie_back (hb.drop 9) rfl h6
  have hR : rightM (muR bs) (muK bs) (muL bs) = true := rightM_of (by rw [y1]; omega) (by rw [y3]; exact h4) (by rw [y4]; exact k1)
  have hl : (packT (muL bs)).length = bs.length - 9 := by rw [y4, k2, List.length_drop]
  obtain ⟨m1, m2⟩ := msg_yes (back := muB bs) hR (by omega)
  refine ⟨m1, ?_⟩
  rw [m2, msgL, hl, y4, k2, y1, y2, y3]
  have hn : msgN ((muN bs % 8388608 : Nat) : Int).toNat (decide (((muN bs : Nat) : Int) > 8388607)) = muN bs := by
    unfold msgN
    rw [Int.toNat_natCast]
    by_cases hc : ((muN bs : Nat) : Int) > 8388607
    · rw [if_pos (by simpa using hc)]; omega
    · rw [if_neg (by simpa using hc)]; omega
  rw [hn]
  rcases bs with _ | ⟨b0, _ | ⟨b1, _ | ⟨b2, _ | ⟨b3, _ | ⟨b4, _ | ⟨b5, _ | ⟨b6, _ | ⟨b7, _ | ⟨b8, r⟩⟩⟩⟩⟩⟩⟩⟩⟩ <;> try (simp at h2; done)
  have q2 := hb b2 (by simp); have q3 := hb b3 (by simp); have q4 := hb b4 (by simp); have q7 := hb b7 (by simp); have q8 := hb b8 (by simp)
  have hN : muN (b0 :: b1 :: b2 :: b3 :: b4 :: b5 :: b6 :: b7 :: b8 :: r) = (b2 * 65536 + b3 * 256 + b4).toNat := rfl
  have hS : muS (b0 :: b1 :: b2 :: b3 :: b4 :: b5 :: b6 :: b7 :: b8 :: r) = (b7 * 256 + b8).toNat := rfl
  have e0 : b0 = 9 := f0
  have e1 : b1 = 3 := f1
  have e6 : b6 = 128 := f2
  have hk : IntKind.wrap .u8 b5 = b5 := known_small h4
  have hlr : (b0 :: b1 :: b2 :: b3 :: b4 :: b5 :: b6 :: b7 :: b8 :: r).length - 9 = muS (b0 :: b1 :: b2 :: b3 :: b4 :: b5 :: b6 :: b7 :: b8 :: r) := h5.symm
  rw [hlr, hN, hS]
  simp only [hdL, List.cons_append, List.nil_append, List.drop_succ_cons, List.drop_zero]
  subst e0; subst e1; subst e6
  rw [show List.getD ((9 : Int) :: 3 :: b2 :: b3 :: b4 :: b5 :: 128 :: b7 :: b8 :: r) 5 0 = b5 from rfl, hk]
  congr 1; congr 1
  congr 1
  · omega
  congr 1
  · omega
  congr 1
  · omega
  congr 1; congr 1; congr 1
  · omega
  congr 1
  · omega
end Go.Proofs.Ytejpcmjokamdcaa
