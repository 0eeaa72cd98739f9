/- Layer 15: what a key, a cause, a contract comes to, whatever it is. -/
import Derived.Test.YtpfggjaoinfegaaProg
import Derived.Test.YtpfggjaoinfegaaEl4
import Derived.Test.YtpfggjaoinfegaaEl6
set_option linter.unusedVariables false
set_option linter.unusedSimpArgs false
namespace Go.Proofs.Ytpfggjaoinfegaa
open Go.Vc Go.RowKit

def keyE (p v c : Int) : Int := if rightK p v c = true then 0 else 1
def causeE (m : Int) : Int := if 0 ≤ m ∧ m ≤ 127 then 0 else 1
theorem keyE_is (p v c : Int) : ((keyE p v c == 0) == rightK p v c) = true := by
  unfold keyE
  by_cases h : rightK p v c = true
  · rw [if_pos h, h]; rfl
  · rw [if_neg h]; simp at h; rw [h]; rfl
theorem keyE_1 {p v c : Int} (h : ¬ keyE p v c = 0) : keyE p v c = 1 := by
  unfold keyE at h ⊢
  split at h
  · exact absurd rfl h
  · rw [if_neg (by assumption)]
theorem causeE_1 {m : Int} (h : ¬ causeE m = 0) : causeE m = 1 := by
  unfold causeE at h ⊢
  split at h
  · exact absurd rfl h
  · rw [if_neg (by assumption)]
theorem causeE_T {m : Int} (h : 0 ≤ m ∧ m < 128) : causeE m = 0 := if_pos (by omega)
theorem causeE_F {m : Int} (h : ¬ (0 ≤ m ∧ m < 128)) : causeE m = 1 := if_neg (by omega)
theorem keyU_any (p v c : Int) (w : World) : CV Try.prog 19 #[.agg #[.int .i64 p, .int .i64 v, .int .i64 c]] w (fun x w1 => (∃ id A n c9, x = .tuple #[.agg #[.int .u8 id, .slice A n c9], .int .i64 (keyE p v c)]) ∧ Step No w w1) := by
  by_cases h : rightK p v c = true
  · have h2 := rightK_T h
    obtain ⟨p, rfl⟩ : ∃ q : Nat, p = q := ⟨p.toNat, by omega⟩
    obtain ⟨v, rfl⟩ : ∃ q : Nat, v = q := ⟨v.toNat, by omega⟩
    obtain ⟨c, rfl⟩ : ∃ q : Nat, c = q := ⟨c.toNat, by omega⟩
    refine (key_yes p v c w h).mono ?_
    rintro x w1 ⟨A, c9, rfl, _, hs⟩
    exact ⟨⟨90, A, 5, c9, by rw [keyE, if_pos h]⟩, hs⟩
  · refine (key_no p v c w (by simpa using h)).mono ?_
    rintro x w1 ⟨rfl, hs⟩
    exact ⟨⟨0, none, 0, 0, by rw [keyE, if_neg h]⟩, hs⟩
theorem causeU_any (m : Int) (w : World) : CV Try.prog 27 #[.int .i64 m] w (fun x w1 => (∃ id A n c9, x = .tuple #[.agg #[.int .u8 id, .slice A n c9], .int .i64 (causeE m)]) ∧ Step No w w1) := by
  by_cases h : 0 ≤ m
  · by_cases h2 : m ≤ 127
    · obtain ⟨m, rfl⟩ : ∃ q : Nat, m = q := ⟨m.toNat, by omega⟩
      refine (cause_yes m w (by omega)).mono ?_
      rintro x w1 ⟨A, rfl, _, hs⟩
      exact ⟨⟨8, A, 2, 2, by rw [causeE, if_pos ⟨h, h2⟩]⟩, hs⟩
    · refine (cause_big m w (by omega)).mono ?_
      rintro x w1 ⟨rfl, hs⟩
      exact ⟨⟨0, none, 0, 0, by rw [causeE, if_neg (by omega)]⟩, hs⟩
  · refine (cause_neg m w (by omega)).mono ?_
    rintro x w1 ⟨rfl, hs⟩
    exact ⟨⟨0, none, 0, 0, by rw [causeE, if_neg (by omega)]⟩, hs⟩
theorem trafU_any (k p e h b t : Int) (w : World) : CV Try.prog 18 #[.agg #[.int .i64 k, .int .i64 p, .int .i64 e, .int .i64 h, .int .i64 b, .int .i64 t]] w (fun x w1 => (∃ id A n c9, x = .tuple #[.agg #[.int .u8 id, .slice A n c9], .int .i64 (rightC k p e h b t)]) ∧ Step No w w1) := by
  by_cases hr : rightC k p e h b t = 0
  · have h2 := right_nat hr
    obtain ⟨p, rfl⟩ : ∃ q : Nat, p = q := ⟨p.toNat, by omega⟩
    obtain ⟨e, rfl⟩ : ∃ q : Nat, e = q := ⟨e.toNat, by omega⟩
    obtain ⟨h, rfl⟩ : ∃ q : Nat, h = q := ⟨h.toNat, by omega⟩
    obtain ⟨b, rfl⟩ : ∃ q : Nat, b = q := ⟨b.toNat, by omega⟩
    obtain ⟨t, rfl⟩ : ∃ q : Nat, t = q := ⟨t.toNat, by omega⟩
    refine (traffic_yes k p e h b t w hr).mono ?_
    rintro x w1 ⟨A, c9, rfl, _, hs⟩
    exact ⟨⟨89, A, 31, c9, by rw [hr]⟩, hs⟩
  · refine (traffic_no k p e h b t w hr).mono ?_
    rintro x w1 ⟨rfl, hs⟩
    exact ⟨⟨0, none, 0, 0, rfl⟩, hs⟩
end Go.Proofs.Ytpfggjaoinfegaa
