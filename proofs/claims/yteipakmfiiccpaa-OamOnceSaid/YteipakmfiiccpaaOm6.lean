/- Layer 14 in plain Lean: the document's Unpack. -/
import Derived.Test.YteipakmfiiccpaaOm1
set_option linter.unusedVariables false
set_option linter.unusedSimpArgs false
namespace Go.Proofs.Yteipakmfiiccpaa
open Go.Vc
theorem rpackN_le (o : Om) : rpackN o ≤ 48 := by unfold rpackN; split <;> omega
def sixF (bs : List Int) (i : Nat) : List Int := bs.take i ++ List.replicate (16 - i) 0
theorem sixF_len {bs : List Int} {i : Nat} (h : i ≤ 16) (hb : 16 ≤ bs.length) : (sixF bs i).length = 16 := by simp [sixF]; omega
theorem sixF_succ {bs : List Int} {i : Nat} (h : i < 16) (hb : 16 ≤ bs.length) : (sixF bs i).set i (bs.getD i 0) = sixF bs (i + 1) := by
  unfold sixF
  have e : (bs.take i).length = i := by simp; omega
  have e2 : bs.take (i + 1) = bs.take i ++ [bs.getD i 0] := by
    rw [List.take_add_one, List.getElem?_eq_getElem (by omega)]
    simp only [List.getD, List.getElem?_eq_getElem (show i < bs.length by omega), Option.toList_some, Option.getD_some]
  rw [List.set_append_right _ _ (by omega), e, Nat.sub_self, show 16 - i = (16 - (i + 1)) + 1 by omega, List.replicate_succ, List.set_cons_zero, e2, List.append_assoc]
  rfl
theorem six_cells {k : IntKind} {bs : List Int} (hb : 16 ≤ bs.length) : iA k (sixF bs 16) = ((List.range 16).map fun i => Value.int k (bs.getD i 0)).toArray := by
  apply Array.ext_getElem?
  intro j
  have e : sixF bs 16 = bs.take 16 := by simp [sixF]
  rw [e]
  by_cases hj : j < 16
  · rw [iA_get j (by simp; omega)]
    simp [hj, List.getD, List.getElem?_take]
  · rw [Array.getElem?_eq_none (by simp; omega), Array.getElem?_eq_none (by simp; omega)]
theorem sub_getD {bs : List Int} {L i : Nat} (hi : i < 16) : ((bs.drop L).take 16).getD i 0 = bs.getD (L + i) 0 := by
  simp only [List.getD, List.getElem?_take, if_pos hi, List.getElem?_drop]
def rtagN (bs : List Int) : Int := IntKind.wrap .u32 (IntKind.wrap .u32 (IntKind.wrap .u32 (IntKind.wrap .u32 (IntKind.wrap .u32 (bs.getD 2 0) * 16777216) + IntKind.wrap .u32 (IntKind.wrap .u32 (bs.getD 3 0) * 65536)) + IntKind.wrap .u32 (IntKind.wrap .u32 (bs.getD 4 0) * 256)) + IntKind.wrap .u32 (bs.getD 5 0))
def runpO (bs : List Int) : Om := if kOf bs = 0 ∨ kOf bs = 1 then ⟨kOf bs, bs.getD 1 0, false, 0, plG bs 2, zp⟩ else if kOf bs = 8 then ⟨kOf bs, 0, bs.getD 1 0 == 1, rtagN bs, plG bs 6, plG bs 22⟩ else ⟨kOf bs, 0, false, 0, zp, zp⟩
def runpE (bs : List Int) : Int := if sealR bs ≠ bs then 4 else if ¬ kindB (kOf bs) then 12 else if rpackV (runpO bs) ≠ bs then 5 else 0
def runpV (bs : List Int) : Om := if runpE bs = 0 then runpO bs else zeroO
theorem runpO_01 {bs : List Int} (h : kOf bs = 0 ∨ kOf bs = 1) : runpO bs = ⟨kOf bs, bs.getD 1 0, false, 0, plG bs 2, zp⟩ := by unfold runpO; rw [if_pos h]
theorem runpO_8 {bs : List Int} (h : kOf bs = 8) : runpO bs = ⟨kOf bs, 0, bs.getD 1 0 == 1, rtagN bs, plG bs 6, plG bs 22⟩ := by unfold runpO; rw [if_neg (by omega), if_pos h]
theorem runpO_4 {bs : List Int} (h : kOf bs = 4) : runpO bs = ⟨kOf bs, 0, false, 0, zp, zp⟩ := by unfold runpO; rw [if_neg (by omega), if_neg (by omega)]
theorem runp_4 {bs : List Int} (h : sealR bs ≠ bs) : runpE bs = 4 ∧ runpV bs = zeroO := by
  have : runpE bs = 4 := by unfold runpE; rw [if_pos h]
  exact ⟨this, by unfold runpV; rw [this]; rfl⟩
theorem runp_12 {bs : List Int} (h : sealR bs = bs) (hk : ¬ kindB (kOf bs)) : runpE bs = 12 ∧ runpV bs = zeroO := by
  have : runpE bs = 12 := by unfold runpE; rw [if_neg (by simp [h]), if_pos hk]
  exact ⟨this, by unfold runpV; rw [this]; rfl⟩
theorem runp_5 {bs : List Int} {o : Om} (ho : runpO bs = o) (h : sealR bs = bs) (hk : kindB (kOf bs)) (hp : rpackV o ≠ bs) : runpE bs = 5 ∧ runpV bs = zeroO := by
  have : runpE bs = 5 := by unfold runpE; rw [if_neg (by simp [h]), if_neg (by simp [hk]), ho, if_pos hp]
  exact ⟨this, by unfold runpV; rw [this]; rfl⟩
theorem runp_0 {bs : List Int} {o : Om} (ho : runpO bs = o) (h : sealR bs = bs) (hk : kindB (kOf bs)) (h2 : rpackV o = bs) : runpE bs = 0 ∧ runpV bs = o := by
  have : runpE bs = 0 := by unfold runpE; rw [if_neg (by simp [h]), if_neg (by simp [hk]), ho, if_neg (by simp [h2])]
  exact ⟨this, by unfold runpV; rw [this, ho]; rfl⟩
end Go.Proofs.Yteipakmfiiccpaa
