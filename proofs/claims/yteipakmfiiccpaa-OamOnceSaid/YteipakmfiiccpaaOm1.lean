/- Layer 14 in plain Lean: what a payload holds. -/
import Derived.Test.YteipakmfiiccpaaAl0
import Derived.Test.YteipakmfiiccpaaSm2
import Derived.Test.YteipakmfiiccpaaRf0
set_option linter.unusedVariables false
set_option linter.unusedSimpArgs false
namespace Go.Proofs.Yteipakmfiiccpaa
open Go.Vc
def plG (bs : List Int) (o : Nat) : Nat → Int := fun i => bs.getD (o + i) 0
theorem lp_len (p : Nat → Int) : (lp p).length = 16 := rfl
def tagB (t : Int) : List Int := [IntKind.wrap .u8 (t.fdiv (2 ^ 24)), IntKind.wrap .u8 (t.fdiv (2 ^ 16)), IntKind.wrap .u8 (t.fdiv (2 ^ 8)), IntKind.wrap .u8 (t.fdiv (2 ^ 0))]
def hasL (o : Om) : List Int := if o.k = 0 ∨ o.k = 1 then o.d :: lp o.p else if o.k = 8 then (if o.a = true then 1 else 0) :: (tagB o.tg ++ (lp o.p ++ lp o.s)) else []
theorem has_01 {o : Om} (h : o.k = 0 ∨ o.k = 1) : hasL o = o.d :: lp o.p := by unfold hasL; rw [if_pos h]
theorem has_8 {o : Om} (h : o.k = 8) : hasL o = (if o.a = true then 1 else 0) :: (tagB o.tg ++ (lp o.p ++ lp o.s)) := by unfold hasL; rw [if_neg (by omega), if_pos h]
theorem has_len01 {o : Om} (h : o.k = 0 ∨ o.k = 1) : (hasL o).length = 17 := by rw [has_01 h]; rfl
theorem has_len8 {o : Om} (h : o.k = 8) : (hasL o).length = 37 := by rw [has_8 h]; rfl
theorem has_no {o : Om} (h : ¬ (o.k = 0 ∨ o.k = 1)) (h8 : o.k ≠ 8) : hasL o = [] := by unfold hasL; rw [if_neg h, if_neg h8]
theorem has_le (o : Om) : (hasL o).length ≤ 37 := by
  by_cases h : o.k = 0 ∨ o.k = 1
  · rw [has_len01 h]; omega
  · by_cases h8 : o.k = 8
    · rw [has_len8 h8]; omega
    · rw [has_no h h8]; simp
/-- The payload ahead of its check; i fillers are laid. -/
def preI (o : Om) (i : Nat) : List Int := IntKind.wrap .u8 (16 + IntKind.wrap .u8 o.k) :: (hasL o ++ (List.replicate i 106 ++ List.replicate (47 - (hasL o).length - i) 0))
def preL (o : Om) : List Int := preI o (45 - (hasL o).length)
theorem preI_len (o : Om) (i : Nat) (h : i ≤ 45 - (hasL o).length) : (preI o i).length = 48 := by have := has_le o; simp [preI]; omega
theorem preI_0 (o : Om) : putL ((List.replicate 48 0).set 0 (IntKind.wrap .u8 (16 + IntKind.wrap .u8 o.k))) 1 (hasL o) = preI o 0 := by
  have := has_le o
  rw [show (List.replicate 48 (0 : Int)).set 0 (IntKind.wrap .u8 (16 + IntKind.wrap .u8 o.k)) = IntKind.wrap .u8 (16 + IntKind.wrap .u8 o.k) :: List.replicate 47 0 from rfl]
  simp only [putL, preI, List.take_succ_cons, List.take_zero, List.cons_append, List.nil_append, List.replicate_zero, Nat.sub_zero]
  rw [show 1 + (hasL o).length = (hasL o).length + 1 by omega, List.drop_succ_cons, List.drop_replicate]
theorem preI_succ (o : Om) (i : Nat) (h : i < 45 - (hasL o).length) : (preI o i).set ((hasL o).length + 1 + i) 106 = preI o (i + 1) := by
  unfold preI
  rw [show (hasL o).length + 1 + i = ((hasL o).length + i) + 1 by omega, List.set_cons_succ, List.set_append_right _ _ (by omega), List.set_append_right _ _ (by simp)]
  congr 2
  rw [show 47 - (hasL o).length - i = (47 - (hasL o).length - (i + 1)) + 1 by omega, List.replicate_succ]
  simp only [List.length_replicate, Nat.add_sub_cancel_left, Nat.sub_self, List.set_cons_zero]
  rw [List.replicate_succ', List.append_assoc]; rfl
def packV (o : Om) : List Int := if rightO o = true then sealL (preL o) else List.replicate 48 0
def packE (o : Om) : Int := if rightO o = true then 0 else 1
theorem preL_len (o : Om) : (preL o).length = 48 := preI_len o _ (Nat.le_refl _)
theorem packV_len (o : Om) : (packV o).length = 48 := by unfold packV; split; rw [sealL_len, preL_len]; simp
/-! ### Unpack -/
def kOf (bs : List Int) : Int := IntKind.wrap .i64 (IntKind.wrap .i64 (bs.getD 0 0) - 16)
def tag1 (t x : Int) : Int := bOr .u32 (IntKind.wrap .u32 (t * 2 ^ 8)) (IntKind.wrap .u32 x)
def tagN (bs : List Int) : Int := tag1 (tag1 (tag1 (tag1 0 (bs.getD 2 0)) (bs.getD 3 0)) (bs.getD 4 0)) (bs.getD 5 0)
def unpO (bs : List Int) : Om := if kOf bs = 0 ∨ kOf bs = 1 then ⟨kOf bs, bs.getD 1 0, false, 0, plG bs 2, zp⟩ else if kOf bs = 8 then ⟨kOf bs, 0, bs.getD 1 0 == 1, tagN bs, plG bs 6, plG bs 22⟩ else ⟨kOf bs, 0, false, 0, zp, zp⟩
def kindB (k : Int) : Prop := k = 0 ∨ k = 1 ∨ k = 8 ∨ k = 4
instance (k : Int) : Decidable (kindB k) := inferInstanceAs (Decidable (_ ∨ _))
def unpE (bs : List Int) : Int := if sealL bs ≠ bs then 4 else if ¬ kindB (kOf bs) then 12 else if packE (unpO bs) ≠ 0 ∨ packV (unpO bs) ≠ bs then 5 else 0
def unpV (bs : List Int) : Om := if unpE bs = 0 then unpO bs else zeroO
theorem unpO_01 {bs : List Int} (h : kOf bs = 0 ∨ kOf bs = 1) : unpO bs = ⟨kOf bs, bs.getD 1 0, false, 0, plG bs 2, zp⟩ := by unfold unpO; rw [if_pos h]
theorem unpO_8 {bs : List Int} (h : kOf bs = 8) : unpO bs = ⟨kOf bs, 0, bs.getD 1 0 == 1, tagN bs, plG bs 6, plG bs 22⟩ := by unfold unpO; rw [if_neg (by omega), if_pos h]
theorem unpO_4 {bs : List Int} (h : kOf bs = 4) : unpO bs = ⟨kOf bs, 0, false, 0, zp, zp⟩ := by unfold unpO; rw [if_neg (by omega), if_neg (by omega)]
theorem unp_4 {bs : List Int} (h : sealL bs ≠ bs) : unpE bs = 4 ∧ unpV bs = zeroO := by
  have : unpE bs = 4 := by unfold unpE; rw [if_pos h]
  exact ⟨this, by unfold unpV; rw [this]; rfl⟩
theorem unp_12 {bs : List Int} (h : sealL bs = bs) (hk : ¬ kindB (kOf bs)) : unpE bs = 12 ∧ unpV bs = zeroO := by
  have : unpE bs = 12 := by unfold unpE; rw [if_neg (by simp [h]), if_pos hk]
  exact ⟨this, by unfold unpV; rw [this]; rfl⟩
theorem unp_5 {bs : List Int} {o : Om} (ho : unpO bs = o) (h : sealL bs = bs) (hk : kindB (kOf bs)) (hp : packE o ≠ 0 ∨ packV o ≠ bs) : unpE bs = 5 ∧ unpV bs = zeroO := by
  have : unpE bs = 5 := by unfold unpE; rw [if_neg (by simp [h]), if_neg (by simp [hk]), ho, if_pos hp]
  exact ⟨this, by unfold unpV; rw [this]; rfl⟩
theorem unp_0 {bs : List Int} {o : Om} (ho : unpO bs = o) (h : sealL bs = bs) (hk : kindB (kOf bs)) (h1 : packE o = 0) (h2 : packV o = bs) : unpE bs = 0 ∧ unpV bs = o := by
  have : unpE bs = 0 := by unfold unpE; rw [if_neg (by simp [h]), if_neg (by simp [hk]), ho, if_neg (by simp [h1, h2])]
  exact ⟨this, by unfold unpV; rw [this, ho]; rfl⟩
/-! ### The document's -/
def rtagB (t : Int) : List Int := [IntKind.wrap .u8 (IntKind.wrap .u32 (t.tdiv 16777216)), IntKind.wrap .u8 (IntKind.wrap .u32 (t.tdiv 65536)), IntKind.wrap .u8 (IntKind.wrap .u32 (t.tdiv 256)), IntKind.wrap .u8 t]
def rheadL (o : Om) : List Int := IntKind.wrap .u8 (IntKind.wrap .i64 (16 + o.k)) :: (if o.k < 2 then o.d :: lp o.p else if o.k = 8 then (if o.a = true then 1 else 0) :: (rtagB o.tg ++ (lp o.p ++ lp o.s)) else [])
theorem rhead_2 {o : Om} (h : o.k < 2) : rheadL o = IntKind.wrap .u8 (IntKind.wrap .i64 (16 + o.k)) :: o.d :: lp o.p := by unfold rheadL; rw [if_pos h]
theorem rhead_8 {o : Om} (h : o.k = 8) : rheadL o = IntKind.wrap .u8 (IntKind.wrap .i64 (16 + o.k)) :: (if o.a = true then 1 else 0) :: (rtagB o.tg ++ (lp o.p ++ lp o.s)) := by unfold rheadL; rw [if_neg (by omega), if_pos h]
theorem rhead_no {o : Om} (h : ¬ o.k < 2) (h8 : o.k ≠ 8) : rheadL o = [IntKind.wrap .u8 (IntKind.wrap .i64 (16 + o.k))] := by unfold rheadL; rw [if_neg h, if_neg h8]
def rpreL (o : Om) : List Int := rheadL o ++ (List.replicate (46 - (rheadL o).length) 106 ++ [0, 0])
theorem rhead_le (o : Om) : (rheadL o).length ≤ 38 := by
  by_cases h : o.k < 2
  · rw [rhead_2 h]; simp [lp_len]
  · by_cases h8 : o.k = 8
    · rw [rhead_8 h8]; simp [lp_len, rtagB]
    · rw [rhead_no h h8]; simp
theorem rpre_len (o : Om) : (rpreL o).length = 48 := by have := rhead_le o; simp [rpreL]; omega
def rpackN (o : Om) : Nat := if rightO o = true then 48 else 0
def rpackV (o : Om) : List Int := if rightO o = true then sealR (rpreL o) else []
end Go.Proofs.Yteipakmfiiccpaa
