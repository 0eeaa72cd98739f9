/- The statement 'ConnsAgain' holds: whatever its arguments are, the law's call returns true, and its arguments read behind the call as they read before; no condition. -/
import Derived.Test.YtfkahhkojlfmdaaRows
import Derived.Test.YtfkahhkojlfmdaaVc6
import Derived.Test.YtfkahhkojlfmdaaCnAg
set_option linter.unusedVariables false
set_option linter.unusedSimpArgs false
namespace Go.Proofs.Ytfkahhkojlfmdaa
open Go.Vc Go.RowKit Go.ChangeShapes Go.WideShapes Go.ChangeAt


theorem connsAgain_own : ownKnob Try.prog.godebug = none := by kernel_rfl
theorem connsAgain_laid : laidOutB Try.prog = true := by kernel_rfl
set_option maxRecDepth 100000 in
set_option maxHeartbeats 4000000 in
theorem connsAgain_lifted (os : Os) (started : os.Started) (H : Type) (enc : TypeId × Value → H) :
    ReturnsInHanded {} Try.checked os 5 .any (Rows.connsAgainSpec.pre6 enc Try.prog Try.f5 Rows.connsAgainRow.domain false) (Rows.connsAgainSpec.post enc Try.prog Try.f5 false true false false) := by
  refine returnsInHanded_of_change (C := Try.checked) connsAgain_own started (by kernel_rfl) Try.func5
    (ChangeSpec.witness6 (enc := enc) (C := Try.checked) false ⟨#[], #[.slice none 0 0, .slice none 0 0], []⟩ 60 (by kernel_rfl) (by kernel_rfl) (by kernel_rfl) (by kernel_rfl)) ?_
  intro W base args ds gs before hval0 hW hcnd _
  have hval : ∀ (j : Nat) t v, Try.f5.params[j]? = some t → args[j]? = some v → Value.okWide Try.prog W .any base t v := hval0
  have hW' := hW
  obtain ⟨p, q, hA0, hV, rfl, hfz, hnd⟩ := hW
  have hA : DataW.TrodAll enc Try.prog W 0 (fun _ => true) true Try.f5.params.toList args.toList ds p := hA0
  rw [Try.params5] at hA hval
  obtain ⟨v0, vs0, d0, ds0, p0, q0, hargs, rfl, rfl, h0, r0⟩ := trodAll_cons hA
  obtain ⟨v1, vs1, d1, ds1, p1, q1, rfl, rfl, rfl, h1, r1⟩ := trodAll_cons r0
  obtain ⟨rfl, rfl, rfl⟩ := trodAll_nil r1
  obtain rfl : args = #[v0, v1] := by cases args; simp_all
  obtain ⟨rfl, rfl⟩ := trodVars_none hV
  obtain ⟨A, n, cc, rfl, hn_le, hn_max, hFq⟩ := open_flat (dd := 9) (ls := (([.int .i64] ++ [.int .i64] ++ [.int .i64] ++ []) ++ [.int .i64] ++ [])) Try.underlying22 (by kernel_rfl) (by kernel_rfl) (by decide) (hval 0 22 v0 rfl rfl) h0
  obtain ⟨q, hA1⟩ := OpsAt.of_flat hFq
  obtain ⟨A2, n2, cc2, rfl, hn2_le, hn2_max, hFq2⟩ := open_flat (dd := 9) (ls := (([.int .i64] ++ [.int .i64] ++ [.int .i64] ++ []) ++ [.int .i64] ++ [])) Try.underlying22 (by kernel_rfl) (by kernel_rfl) (by decide) (hval 1 22 v1 rfl rfl) h1
  obtain ⟨q2, hA2⟩ := OpsAt.of_flat hFq2
  refine Calls.mono (connsAgain_any A A2 n cc n2 cc2 q q2 W hA1 hA2) fun e W' hh => ?_
  obtain ⟨x, rfl, rfl, hs⟩ := hh
  exact ⟨_, rfl, post_law (tb := 4) connsAgain_laid (by intro t ht; simp only [Try.params5, List.mem_cons, List.mem_nil_iff, or_false] at ht; rcases ht with rfl | rfl <;> exact ⟨by kernel_rfl, of_decide_eq_true (by kernel_rfl)⟩) hW' rfl rfl Try.underlying4 rfl rfl rfl hs⟩
theorem connsAgain_holds : Rows.ConnsAgainSaid :=
  OpenClaim.holds_of_wide 5 Try.f5 rfl rfl rfl rfl rfl rfl rfl ⟨rfl, rfl, rfl, rfl, rfl⟩ rfl rfl rfl rfl rfl (by kernel_rfl) Try.func5 (by kernel_rfl)
    (of_decide_eq_true (by kernel_rfl)) (by unfold Func.isWrapper; first | (rw [if_pos (by decide +kernel)]; kernel_rfl) | (rw [if_neg (by decide +kernel)]; exact ⟨rfl, rfl⟩))
    (fun os started H enc _ => connsAgain_lifted os started H enc)
end Go.Proofs.Ytfkahhkojlfmdaa
