/- Layer 10 in plain Lean: a frame's shape, and how many parts it has. -/
import Derived.Test.YtgiefcolkohgkaaFr7
set_option linter.unusedVariables false
set_option linter.unusedSimpArgs false
namespace Go.Proofs.Ytgiefcolkohgkaa
open Go.Vc
theorem frame_split {bs : List Int} (m : Int) : ∃ r, frameF bs m = bs ++ r := ⟨_, by unfold frameF headF padF; rw [List.append_assoc, List.append_assoc]⟩
theorem frame_take {bs : List Int} {n : Nat} (m : Int) (hn : bs.length = n) : (frameF bs m).take n = bs := by
  obtain ⟨r, h⟩ := frame_split (bs := bs) m
  rw [h, ← hn, List.take_left']; rfl
theorem frame_take' {bs : List Int} {n : Nat} (m : Int) (hn : bs.length = n) : (((frameF bs m).take n) == bs) = true := by rw [frame_take m hn]; simp
theorem frame_mark {bs : List Int} {n : Nat} {m : Int} (hn : bs.length = n) (h0 : 0 < n) : (frameF bs m).getD (48 * manyN n - 8) 0 = m := by
  subst hn
  have hl := padF_len h0
  unfold frameF headF
  rw [List.append_assoc, List.getD, List.getElem?_append_right (by omega), hl, Nat.sub_self]
  rfl
theorem frame_pad {bs : List Int} {n i : Nat} {m : Int} (hn : bs.length = n) (h0 : 0 < n) (h1 : n ≤ i) (h2 : i < 48 * manyN n - 8) : (frameF bs m).getD i 0 = 0 := by
  subst hn
  have hl := padF_len h0
  unfold frameF headF
  rw [List.append_assoc, List.getD, List.getElem?_append_left (by omega)]
  unfold padF
  rw [List.getElem?_append_right h1, List.getElem?_replicate, if_pos (by omega)]
  rfl
theorem many_mono (n : Nat) : manyN n ≤ manyN (n + 1) := by
  unfold manyN
  by_cases h : n = 0
  · rw [if_pos h]; omega
  · rw [if_neg h, if_neg (by omega)]; omega
theorem many_48 {n : Nat} (h : 1 ≤ n) : manyN (n + 48) = manyN n + 1 := by
  unfold manyN
  rw [if_neg (by omega), if_neg (by omega)]; omega
/-- What ends with its check is not told to be wrong by it. -/
theorem un_sealed {xs bs : List Int} (h : bs = xs ++ sumL xs) : unE bs ≠ 4 := by
  have hs : (sumL xs).length = 4 := rfl
  have hl : bs.length = xs.length + 4 := by rw [h, List.length_append, hs]
  have e1 : bs.take (bs.length - 4) = xs := by rw [hl, h, show xs.length + 4 - 4 = xs.length by omega, List.take_left']; rfl
  have e2 : (bs.drop (bs.length - 4)).take (bs.length - (bs.length - 4)) = sumL xs := by
    rw [hl, h, show xs.length + 4 - 4 = xs.length by omega, List.drop_left', show xs.length + 4 - xs.length = 4 by omega, ← hs, List.take_length]; rfl
  unfold unE
  dsimp only
  rw [e1, e2]
  split
  · decide
  · rw [if_neg (by simp)]
    repeat' split
    all_goals decide
end Go.Proofs.Ytgiefcolkohgkaa
