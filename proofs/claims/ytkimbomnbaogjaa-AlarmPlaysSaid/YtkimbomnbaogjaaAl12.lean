/- Layer 21: what asks to be sent back. -/
import Derived.Test.YtkimbomnbaogjaaAl5
set_option linter.unusedVariables false
set_option linter.unusedSimpArgs false
namespace Go.Proofs.Ytkimbomnbaogjaa
open Go.Vc
theorem replyB_no {o : Om} {h : Nat → Int} (hk : o.k ≠ 8) : replyB o h = false := by
  unfold replyB
  rw [show (o.k == 8) = false from by simpa using hk]; rfl
theorem gotB_no {s : Al} {o : Om} (h : o.k ≠ 8 ∨ rightO o = false) : gotB s o = false := by
  unfold gotB
  rcases h with h | h
  · rw [replyB_no h, Bool.and_false]
  · rw [h]; rfl
theorem gotV_no {s : Al} {o : Om} (h : o.k ≠ 8 ∨ rightO o = false) : gotV s o = zeroO := by
  unfold gotV
  rcases h with h | h
  · split
    · unfold replyV; rw [replyB_no h]; rfl
    · rfl
  · rw [h]; rfl
theorem gotB_8 {s : Al} {o : Om} (hr : rightO o = true) (hk : o.k = 8) : gotB s o = (o.a && (plEq o.p s.here || plEq o.p ones)) := by
  unfold gotB replyB
  rw [hr, hk]; rfl
theorem gotV_yes {s : Al} {o : Om} (h : gotB s o = true) : gotV s o = ⟨o.k, o.d, false, o.tg, s.here, o.s⟩ := by
  unfold gotB at h
  simp only [Bool.and_eq_true] at h
  unfold gotV replyV
  rw [if_pos h.1, if_pos h.2]
theorem gotV_tg {s : Al} {o : Om} (h : gotB s o = true) : (gotV s o).tg = o.tg := by rw [gotV_yes h]
theorem gotV_a {s : Al} {o : Om} (h : gotB s o = true) : (gotV s o).a = false := by rw [gotV_yes h]
theorem gotV_place {s : Al} {o : Om} {p : Nat → Int} (h : gotB s o = true) (hp : s.here = p) : cellsEq (pl (gotV s o).p) (pl p) = true := by
  rw [gotV_yes h]
  exact place_eq hp
end Go.Proofs.Ytkimbomnbaogjaa
