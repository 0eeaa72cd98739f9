/- Layer 10 in plain Lean: a frame that is sealed. -/
import Derived.Test.YtgiefcolkohgkaaFr12
import Derived.Test.YtgiefcolkohgkaaVc13
set_option linter.unusedVariables false
set_option linter.unusedSimpArgs false
namespace Go.Proofs.Ytgiefcolkohgkaa
open Go.Vc
theorem putL_zl {N o : Nat} {vs : List Int} (h : o + vs.length ≤ N) : (putL (List.replicate N 0) o vs).length = N := by
  simp [putL]; omega
theorem putL_zb {N o : Nat} {vs : List Int} (hb : Bytes vs) : Bytes (putL (List.replicate N 0) o vs) := by
  intro x hx
  unfold putL at hx
  simp only [List.mem_append] at hx
  rcases hx with (hx | hx) | hx
  · rw [(List.mem_replicate.1 (List.mem_of_mem_take hx)).2]; omega
  · exact hb x hx
  · rw [(List.mem_replicate.1 (List.mem_of_mem_drop hx)).2]; omega
theorem set4 {X : List Int} {N : Nat} {a b c d : Int} (hX : X.length = N) (h : 4 ≤ N) : (((X.set (N - 4) a).set (N - 3) b).set (N - 2) c).set (N - 1) d = X.take (N - 4) ++ [a, b, c, d] := by
  apply List.ext_getElem?
  intro i
  have ht : (X.take (N - 4)).length = N - 4 := by rw [List.length_take]; omega
  by_cases h1 : i < N - 4
  · rw [List.getElem?_append_left (by omega), List.getElem?_set_ne (by omega), List.getElem?_set_ne (by omega), List.getElem?_set_ne (by omega), List.getElem?_set_ne (by omega), List.getElem?_take, if_pos h1]
  · rw [List.getElem?_append_right (by omega), ht]
    rcases (show i = N - 4 ∨ i = N - 3 ∨ i = N - 2 ∨ i = N - 1 ∨ N ≤ i by omega) with rfl | rfl | rfl | rfl | h2
    · rw [List.getElem?_set_ne (by omega), List.getElem?_set_ne (by omega), List.getElem?_set_ne (by omega), List.getElem?_set_self (by omega), Nat.sub_self]; rfl
    · rw [List.getElem?_set_ne (by omega), List.getElem?_set_ne (by omega), List.getElem?_set_self (by simp; omega), show N - 3 - (N - 4) = 1 by omega]; rfl
    · rw [List.getElem?_set_ne (by omega), List.getElem?_set_self (by simp; omega), show N - 2 - (N - 4) = 2 by omega]; rfl
    · rw [List.getElem?_set_self (by simp; omega), show N - 1 - (N - 4) = 3 by omega]; rfl
    · rw [List.getElem?_eq_none (by simp; omega), List.getElem?_eq_none (by simp; omega)]
theorem nil_bytes : Bytes [] := fun x hx => by simp at hx
end Go.Proofs.Ytgiefcolkohgkaa
