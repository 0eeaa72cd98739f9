/- The statement 'AlarmPlays' holds: whatever its arguments are, the law's call returns true, and its arguments read behind the call as they read before; no condition. -/
import Derived.Test.YtkimbomnbaogjaaRows
import Derived.Test.YtkimbomnbaogjaaVc6
import Derived.Test.YtkimbomnbaogjaaAl20
set_option linter.unusedVariables false
set_option linter.unusedSimpArgs false
namespace Go.Proofs.Ytkimbomnbaogjaa
open Go.Vc Go.RowKit Go.ChangeShapes Go.WideShapes Go.ChangeAt


theorem alarmPlays_own : ownKnob Try.prog.godebug = none := by kernel_rfl
theorem alarmPlays_laid : laidOutB Try.prog = true := by kernel_rfl
set_option maxRecDepth 100000 in
theorem alarmPlays_lifted (os : Os) (started : os.Started) (H : Type) (enc : TypeId × Value → H) :
    ReturnsInHanded {} Try.checked os 3 .any (Rows.alarmPlaysSpec.pre6 enc Try.prog Try.f3 Rows.alarmPlaysRow.domain false) (Rows.alarmPlaysSpec.post enc Try.prog Try.f3 false true false false) := by
  refine returnsInHanded_of_change (C := Try.checked) alarmPlays_own started (by kernel_rfl) Try.func3
    (ChangeSpec.witness6 (enc := enc) (C := Try.checked) false ⟨#[], #[.agg #[.int .u8 0, .int .u8 0, .int .u8 0, .int .u8 0, .int .u8 0, .int .u8 0, .int .u8 0, .int .u8 0, .int .u8 0, .int .u8 0, .int .u8 0, .int .u8 0, .int .u8 0, .int .u8 0, .int .u8 0, .int .u8 0], .int .i64 0, .slice none 0 0, .int .i64 0], []⟩ 60 (by kernel_rfl) (by kernel_rfl) (by kernel_rfl) (by kernel_rfl)) ?_
  intro W base args ds gs before hval0 hW hcnd _
  have hval : ∀ (j : Nat) t v, Try.f3.params[j]? = some t → args[j]? = some v → Value.okWide Try.prog W .any base t v := hval0
  have hW' := hW
  obtain ⟨p, q, hA0, hV, rfl, hfz, hnd⟩ := hW
  have hA : DataW.TrodAll enc Try.prog W 0 (fun _ => true) true Try.f3.params.toList args.toList ds p := hA0
  rw [Try.params3] at hA hval
  obtain ⟨v0, vs0, d0, ds0, p0, q0, hargs, rfl, rfl, h0, r0⟩ := trodAll_cons hA
  obtain ⟨v1, vs1, d1, ds1, p1, q1, rfl, rfl, rfl, h1, r1⟩ := trodAll_cons r0
  obtain ⟨v2, vs2, d2, ds2, p2, q2, rfl, rfl, rfl, h2, r2⟩ := trodAll_cons r1
  obtain ⟨v3, vs3, d3, ds3, p3, q3, rfl, rfl, rfl, h3, r3⟩ := trodAll_cons r2
  obtain ⟨rfl, rfl, rfl⟩ := trodAll_nil r3
  obtain rfl : args = #[v0, v1, v2, v3] := by cases args; simp_all
  obtain ⟨rfl, rfl⟩ := trodVars_none hV
  obtain ⟨cshere, rfl, hchere⟩ := open_agg (dd := 9) (ls := (rep 16 [.int .u8])) (by kernel_rfl) (hval 0 22 v0 rfl rfl) (by kernel_rfl) (by kernel_rfl) h0
  obtain ⟨here, rfl, hbhere⟩ := pl_arr hchere
  obtain ⟨wait, rfl, rfl, rfl, wwait⟩ := open_int Try.underlying3 (hval 1 3 v1 rfl rfl) h1
  obtain ⟨A, n, cc, rfl, hn_le, hn_max, hFA⟩ := open_flat (dd := 9) (ls := ([.int .i64] ++ [.int .i64] ++ ([.int .i64] ++ [.int .u8] ++ [.bool] ++ [.int .u32] ++ (rep 16 [.int .u8]) ++ (rep 16 [.int .u8]) ++ []) ++ [])) Try.underlying23 (by kernel_rfl) (by kernel_rfl) (by decide) (hval 2 23 v2 rfl rfl) h2
  obtain ⟨q, hA9⟩ := OpsAt.of_flat hFA
  obtain ⟨t, rfl, rfl, rfl, wt⟩ := open_int Try.underlying3 (hval 3 3 v3 rfl rfl) h3
  refine Calls.mono (alarmPlays_any here wait A n cc q t W hA9) fun e W' hh => ?_
  obtain ⟨x, rfl, rfl, hs⟩ := hh
  exact ⟨_, rfl, post_law (tb := 4) alarmPlays_laid (by intro t ht; simp only [Try.params3, List.mem_cons, List.mem_nil_iff, or_false] at ht; rcases ht with rfl | rfl | rfl | rfl <;> exact ⟨by kernel_rfl, of_decide_eq_true (by kernel_rfl)⟩) hW' rfl rfl Try.underlying4 rfl rfl rfl hs⟩
theorem alarmPlays_holds : Rows.AlarmPlaysSaid :=
  OpenClaim.holds_of_wide 3 Try.f3 rfl rfl rfl rfl rfl rfl rfl ⟨rfl, rfl, rfl, rfl, rfl⟩ rfl rfl rfl rfl rfl (by kernel_rfl) Try.func3 (by kernel_rfl)
    (of_decide_eq_true (by kernel_rfl)) (by unfold Func.isWrapper; first | (rw [if_pos (by decide +kernel)]; kernel_rfl) | (rw [if_neg (by decide +kernel)]; exact ⟨rfl, rfl⟩))
    (fun os started H enc _ => alarmPlays_lifted os started H enc)
end Go.Proofs.Ytkimbomnbaogjaa
