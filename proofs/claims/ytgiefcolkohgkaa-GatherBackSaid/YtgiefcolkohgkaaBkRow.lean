/- The statement 'GatherBack' holds: whatever its arguments are, the law's call returns true, and its arguments read behind the call as they read before; no condition. -/
import Derived.Test.YtgiefcolkohgkaaRows
import Derived.Test.YtgiefcolkohgkaaVc6
import Derived.Test.YtgiefcolkohgkaaGaBk
import Derived.Test.YtgiefcolkohgkaaFr10
set_option linter.unusedVariables false
set_option linter.unusedSimpArgs false
namespace Go.Proofs.Ytgiefcolkohgkaa
open Go.Vc Go.RowKit Go.ChangeShapes Go.WideShapes Go.ChangeAt


theorem gatherBack_own : ownKnob Try.prog.godebug = none := by kernel_rfl
theorem gatherBack_laid : laidOutB Try.prog = true := by kernel_rfl
set_option maxRecDepth 100000 in
set_option maxHeartbeats 4000000 in
theorem gatherBack_lifted (os : Os) (started : os.Started) (H : Type) (enc : TypeId × Value → H) :
    ReturnsInHanded {} Try.checked os 5 .any (Rows.gatherBackSpec.pre6 enc Try.prog Try.f5 Rows.gatherBackRow.domain false) (Rows.gatherBackSpec.post enc Try.prog Try.f5 false true false false) := by
  refine returnsInHanded_of_change (C := Try.checked) gatherBack_own started (by kernel_rfl) Try.func5
    (ChangeSpec.witness6 (enc := enc) (C := Try.checked) false ⟨#[], #[.slice none 0 0, .int .u16 0, .int .u8 0], []⟩ 60 (by kernel_rfl) (by kernel_rfl) (by kernel_rfl) (by kernel_rfl)) ?_
  intro W base args ds gs before hval0 hW hcnd _
  have hval : ∀ (j : Nat) t v, Try.f5.params[j]? = some t → args[j]? = some v → Value.okWide Try.prog W .any base t v := hval0
  have hW' := hW
  obtain ⟨p, q, hA0, hV, rfl, hfz, hnd⟩ := hW
  have hA : DataW.TrodAll enc Try.prog W 0 (fun _ => true) true Try.f5.params.toList args.toList ds p := hA0
  rw [Try.params5] at hA hval
  obtain ⟨v0, vs0, d0, ds0, p0, q0, hargs, rfl, rfl, h0, r0⟩ := trodAll_cons hA
  obtain ⟨v1, vs1, d1, ds1, p1, q1, rfl, rfl, rfl, h1, r1⟩ := trodAll_cons r0
  obtain ⟨v2, vs2, d2, ds2, p2, q2, rfl, rfl, rfl, h2, r2⟩ := trodAll_cons r1
  obtain ⟨rfl, rfl, rfl⟩ := trodAll_nil r2
  obtain rfl : args = #[v0, v1, v2] := by cases args; simp_all
  obtain ⟨rfl, rfl⟩ := trodVars_none hV
  obtain ⟨A, n, cc, q, rfl, hcc9, hP9⟩ := open_txs Try.underlying46 Try.underlying32 Try.underlying5 (by kernel_rfl) (by kernel_rfl) h0 (hval 0 46 v0 rfl rfl)
  obtain ⟨m0, rfl, rfl, rfl, wm0⟩ := open_int Try.underlying43 (hval 1 43 v1 rfl rfl) h1
  obtain ⟨m, rfl, hm⟩ := u16_nat wm0
  obtain ⟨mk, rfl, rfl, rfl, wmk⟩ := open_int Try.underlying5 (hval 2 5 v2 rfl rfl) h2
  refine Calls.mono (back_law A n cc q m mk W hP9 hm (u8_rng wmk)) fun e W' hh => ?_
  obtain ⟨x, rfl, rfl, hs⟩ := hh
  exact ⟨_, rfl, post_law (tb := 4) gatherBack_laid (by intro t ht; simp only [Try.params5, List.mem_cons, List.mem_nil_iff, or_false] at ht; rcases ht with rfl | rfl | rfl <;> exact ⟨by kernel_rfl, of_decide_eq_true (by kernel_rfl)⟩) hW' rfl rfl Try.underlying4 rfl rfl rfl hs⟩
theorem gatherBack_holds : Rows.GatherBackSaid :=
  OpenClaim.holds_of_wide 5 Try.f5 rfl rfl rfl rfl rfl rfl rfl ⟨rfl, rfl, rfl, rfl, rfl⟩ rfl rfl rfl rfl rfl (by kernel_rfl) Try.func5 (by kernel_rfl)
    (of_decide_eq_true (by kernel_rfl)) (by unfold Func.isWrapper; first | (rw [if_pos (by decide +kernel)]; kernel_rfl) | (rw [if_neg (by decide +kernel)]; exact ⟨rfl, rfl⟩))
    (fun os started H enc _ => gatherBack_lifted os started H enc)
end Go.Proofs.Ytgiefcolkohgkaa
