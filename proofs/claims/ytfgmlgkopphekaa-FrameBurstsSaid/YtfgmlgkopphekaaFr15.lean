/- Layer 10 in plain Lean: a frame with a burst is told. -/
import Derived.Test.YtfgmlgkopphekaaFr12
import Derived.Test.YtfgmlgkopphekaaFr14
set_option linter.unusedVariables false
set_option linter.unusedSimpArgs false
namespace Go.Proofs.Ytfgmlgkopphekaa
open Go.Vc
theorem bits8_nat {a : Nat} (h : a < 2 ^ 8) : bits8 ((a : Nat) : Int) = (List.range 8).map fun i => a.testBit (7 - i) := bits8_fin ⟨a, h⟩
theorem sumL_byte (X : List Int) (k : Nat) (hk : k < 4) : (sumL X).getD k 0 = (((4294967295 ^^^ crcL X) / 2 ^ (24 - 8 * k) % 2 ^ 8 : Nat) : Int) := by
  have hx : longB X = ((4294967295 ^^^ crcL X : Nat) : Int) := by rw [longB_crc]; exact bXor_u32' 4294967295 _ (by decide) (crcL_lt X)
  unfold sumL
  rw [hx, fdiv_nat, fdiv_nat, fdiv_nat, wrap_u8, wrap_u8, wrap_u8, wrap_u8]
  rcases (show k = 0 ∨ k = 1 ∨ k = 2 ∨ k = 3 by omega) with rfl | rfl | rfl | rfl
  · rfl
  · rfl
  · rfl
  · rw [show 24 - 8 * 3 = 0 by rfl, Nat.pow_zero, Nat.div_one]; rfl
theorem sumL_bit (X : List Int) (i : Nat) (hi : i < 32) : (bitsL (sumL X)).getD i false = !(crcL X).testBit (31 - i) := by
  have e := flat8_get bits8 bits8_len (sumL X) (i / 8) (i % 8) (by show i / 8 < 4; omega) (Nat.mod_lt _ (by decide))
  rw [show 8 * (i / 8) + i % 8 = i by omega, sumL_byte X (i / 8) (by omega), bits8_nat (Nat.mod_lt _ (by decide)), List.getElem?_map, List.getElem?_range (Nat.mod_lt _ (by decide))] at e
  show ((sumL X).flatMap bits8)[i]?.getD false = _
  rw [e]
  simp only [Option.map_some, Option.getD_some]
  have hones : ∀ j : Fin 32, (4294967295 : Nat).testBit j.val = true := by decide
  have h1 := hones ⟨31 - i, by omega⟩
  simp only at h1
  rw [Nat.testBit_mod_two_pow, decide_eq_true (by omega), Bool.true_and, Nat.testBit_div_two_pow, show 7 - i % 8 + (24 - 8 * (i / 8)) = 31 - i by omega, Nat.testBit_xor, h1, Bool.true_xor]
def resK : Nat := (List.replicate 32 true).foldl (stepN 32 79764919) 0
/-- What ends with its check has one register. -/
theorem sealed_res (X : List Int) : (bitsL (X ++ sumL X)).foldl (stepN 32 79764919) 4294967295 = resK := by
  rw [show bitsL (X ++ sumL X) = bitsL X ++ bitsL (sumL X) from List.flatMap_append, List.foldl_append]
  refine run_eq (by decide) (by decide) _ _ (by rw [bitsL_len]; rfl) (by simp) _ _ (crcL_lt X) (by decide) fun i hi => ?_
  rw [sumL_bit X i hi]
  have : (List.replicate 32 true).getD i false = true := by rw [List.getD, List.getElem?_replicate, if_pos hi]; rfl
  rw [this]
  simp
  rfl
theorem un_not {O : List Int} (h0 : O.length ≠ 0) (h1 : O.length % 48 = 0) (h : ∀ X, O ≠ X ++ sumL X) : unE O = 4 := by
  unfold unE
  dsimp only
  rw [if_neg (by omega), if_pos]
  intro e
  refine h (O.take (O.length - 4)) ?_
  rw [← e]
  have : (O.drop (O.length - 4)).take (O.length - (O.length - 4)) = O.drop (O.length - 4) := List.take_of_length_le (by simp)
  rw [this, List.take_append_drop]
/-- A frame of which up to 32 bits in a row are turned is told to be wrong. -/
theorem un_burst {X O : List Int} (h0 : O.length ≠ 0) (h1 : O.length % 48 = 0) (p u u' q : List Bool) (hF : bitsL (X ++ sumL X) = p ++ u ++ q) (hO : bitsL O = p ++ u' ++ q) (hl : u.length = u'.length) (hd : u.length ≤ 32) (hne : u ≠ u') : unE O = 4 := by
  refine un_not h0 h1 fun Y e => ?_
  have e1 := sealed_res X
  have e2 := sealed_res Y
  rw [hF] at e1
  rw [← e, hO] at e2
  exact burst_ne (d := 32) (g := 79764919) (by decide) (by decide) (by decide) (by decide) p u u' q hl hd hne (e1.trans e2.symm)
/-- A list of bits of which some of the 32 behind the s-th one are turned. -/
theorem un_turned {X O : List Int} (h0 : O.length ≠ 0) (h1 : O.length % 48 = 0) (hlen : O.length = (X ++ sumL X).length) (s : Nat) (t : Nat → Bool) (ht : ∀ j, (bitsL O)[j]? = if (decide (s ≤ j) && (decide (j < s + 32) && t (j - s))) = true then (bitsL (X ++ sumL X))[j]?.map (fun b => !b) else (bitsL (X ++ sumL X))[j]?)
    (k : Nat) (hk : k < 32) (hkt : t k = true) (hks : s + k < 8 * O.length) : unE O = 4 := by
  have hlb : (bitsL O).length = (bitsL (X ++ sumL X)).length := by rw [bitsL_len, bitsL_len, hlen]
  generalize hF : bitsL (X ++ sumL X) = F at *
  have hsp : ∀ l : List Bool, l = l.take s ++ (l.drop s).take 32 ++ l.drop (s + 32) := by
    intro l
    rw [List.append_assoc, ← List.drop_drop, List.take_append_drop, List.take_append_drop]
  have hp : (bitsL O).take s = F.take s := by
    apply List.ext_getElem?
    intro j
    rw [List.getElem?_take, List.getElem?_take, ht j]
    by_cases hj : j < s
    · rw [if_pos hj, if_pos hj, if_neg (by simp; omega)]
    · rw [if_neg hj, if_neg hj]
  have hq : (bitsL O).drop (s + 32) = F.drop (s + 32) := by
    apply List.ext_getElem?
    intro j
    rw [List.getElem?_drop, List.getElem?_drop, ht, if_neg (by simp; omega)]
  refine un_burst h0 h1 (F.take s) ((F.drop s).take 32) (((bitsL O).drop s).take 32) (F.drop (s + 32)) (hF.trans (hsp F)) ?_ (by simp [hlb]) (by simp; omega) ?_
  · have := hsp (bitsL O)
    rwa [hp, hq] at this
  · intro e
    have e2 := congrArg (fun l : List Bool => l[k]?) e
    simp only [List.getElem?_take, if_pos hk, List.getElem?_drop] at e2
    rw [ht (s + k), if_pos (by simp [hk, hkt])] at e2
    have hlt : s + k < F.length := by rw [← hlb, bitsL_len]; exact hks
    rw [List.getElem?_eq_getElem hlt] at e2
    simp at e2
end Go.Proofs.Ytfgmlgkopphekaa
