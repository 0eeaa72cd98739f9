/- A text of bytes that is handed in. -/
import Derived.Test.YtgiefcolkohgkaaVc6
import Derived.Test.YtgiefcolkohgkaaFr7
set_option linter.unusedVariables false
set_option linter.unusedSimpArgs false
namespace Go.Proofs.Ytgiefcolkohgkaa
open Go.Vc Go.RowKit Go.ChangeShapes Go.WideShapes Go.ChangeAt
theorem u8_rng {x : Int} (h : (Lit.int .u8 x).wf = true) : 0 ≤ x ∧ x < 256 := by
  have h0 : IntKind.u8.min = 0 := rfl
  have h1 : IntKind.u8.max = 255 := rfl
  simp [Lit.wf] at h
  omega
theorem u16_nat {x : Int} (h : (Lit.int .u16 x).wf = true) : ∃ n : Nat, x = (n : Int) ∧ n < 65536 := by
  have h0 : IntKind.u16.min = 0 := rfl
  have h1 : IntKind.u16.max = 65535 := rfl
  simp [Lit.wf] at h
  exact ⟨x.toNat, by omega, by omega⟩
theorem u8_nat {x : Int} (h : (Lit.int .u8 x).wf = true) : ∃ n : Nat, x = (n : Int) ∧ n < 256 := by
  have := u8_rng h
  exact ⟨x.toNat, by omega, by omega⟩
theorem u32_nat {x : Int} (h : (Lit.int .u32 x).wf = true) : ∃ n : Nat, x = (n : Int) ∧ n < 4294967296 := by
  have h0 : IntKind.u32.min = 0 := rfl
  have h1 : IntKind.u32.max = 4294967295 := rfl
  simp [Lit.wf] at h
  exact ⟨x.toNat, by omega, by omega⟩
theorem u64_nat {x : Int} (h : (Lit.int .u64 x).wf = true) : ∃ n : Nat, x = (n : Int) ∧ n < 18446744073709551616 := by
  have h0 : IntKind.u64.min = 0 := rfl
  have h1 : IntKind.u64.max = 18446744073709551615 := rfl
  simp [Lit.wf] at h
  exact ⟨x.toNat, by omega, by omega⟩
theorem Sl.of_flat {w : World} {A : Option Addr} {n : Nat} (h : FlatSl w A n 1 [.int .u8]) : ∃ bs : List Int, bs.length = n ∧ Bytes bs ∧ Sl w w.heap.size A (iL .u8 bs) := by
  by_cases hn : 0 < n
  · obtain ⟨b, o, rfl, hb, hc⟩ := h hn
    have hex : ∀ i, ∃ x : Int, (0 ≤ x ∧ x < 256) ∧ (i < n → w.cell? ⟨b, o + i, none⟩ = some (.int .u8 x)) := by
      intro i
      by_cases hi : i < n
      · obtain ⟨cs, hw, hr⟩ := hc i hi
        have hlen := hw.length
        obtain ⟨c0, rfl⟩ : ∃ c0, cs = [c0] := by
          rcases cs with _ | ⟨c0, _ | ⟨c1, r⟩⟩ <;> first | exact ⟨_, rfl⟩ | (simp at hlen)
        obtain ⟨⟨a0, h0, u0⟩, u4⟩ := hw
        subst h0
        have := hr 0 (by decide)
        exact ⟨a0, u8_rng u0, fun _ => by simpa using this⟩
      · exact ⟨0, by decide, fun h => absurd h hi⟩
    obtain ⟨q, hq⟩ := Classical.axiomOfChoice hex
    refine ⟨(List.range n).map q, by simp, ?_, ?_⟩
    · intro x hx
      obtain ⟨i, _, rfl⟩ := List.mem_map.1 hx
      exact (hq i).1
    · intro _
      refine ⟨b, o, rfl, hb, fun j u hu => ?_⟩
      have hj : j < n := by
        have := (List.getElem?_eq_some_iff.1 hu).1
        simpa [iL] using this
      have hu2 : some (Value.int .u8 (q j)) = some u := by rw [← hu]; simp [iL, hj]
      rw [← hu2]
      exact (hq j).2 hj
  · obtain rfl : n = 0 := by omega
    exact ⟨[], rfl, fun x hx => by simp at hx, Sl.nil⟩
end Go.Proofs.Ytgiefcolkohgkaa
