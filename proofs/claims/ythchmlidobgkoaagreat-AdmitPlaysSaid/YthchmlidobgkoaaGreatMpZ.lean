import Derived.Test.YthchmlidobgkoaaGreatRows
import Derived.Test.YthchmlidobgkoaaGreatMp7
/- The statement 'AdmitPlays' holds: whatever its arguments are, the law's call returns true, and its arguments read behind the call as they read before; no condition. -/
set_option linter.unusedVariables false
set_option linter.unusedSimpArgs false
namespace Go.Proofs.YthchmlidobgkoaaGreat
open Go.Vc Go.RowKit Go.ChangeShapes Go.WideShapes Go.ChangeAt


theorem admitPlays_own : ownKnob Tryz.prog.godebug = none := by kernel_rfl
theorem admitPlays_laid : laidOutB Tryz.prog = true := by kernel_rfl
set_option maxRecDepth 100000 in
set_option maxHeartbeats 4000000 in
theorem admitPlays_lifted (os : Os) (started : os.Started) (H : Type) (enc : TypeId × Value → H) :
    ReturnsInHanded {} Tryz.checked os 3 .any (Rows.admitPlaysSpec.pre6 enc Tryz.prog Tryz.f3 Rows.admitPlaysRow.domain false) (Rows.admitPlaysSpec.post enc Tryz.prog Tryz.f3 false true false false) := by
  refine returnsInHanded_of_change (C := Tryz.checked) admitPlays_own started (by kernel_rfl) Tryz.func3
    (ChangeSpec.witness6 (enc := enc) (C := Tryz.checked) false ⟨#[], #[.slice none 0 0, .slice none 0 0], []⟩ 60 (by kernel_rfl) (by kernel_rfl) (by kernel_rfl) (by kernel_rfl)) ?_
  intro W base args ds gs before hval0 hW hcnd _
  have hval : ∀ (j : Nat) t v, Tryz.f3.params[j]? = some t → args[j]? = some v → Value.okWide Tryz.prog W .any base t v := hval0
  have hW' := hW
  obtain ⟨p, q, hA0, hV, rfl, hfz, hnd⟩ := hW
  have hA : DataW.TrodAll enc Tryz.prog W 0 (fun _ => true) true Tryz.f3.params.toList args.toList ds p := hA0
  rw [Tryz.params3] at hA hval
  obtain ⟨v0, vs0, d0, ds0, p0, q0, hargs, rfl, rfl, h0, r0⟩ := trodAll_cons hA
  obtain ⟨v1, vs1, d1, ds1, p1, q1, rfl, rfl, rfl, h1, r1⟩ := trodAll_cons r0
  obtain ⟨rfl, rfl, rfl⟩ := trodAll_nil r1
  obtain rfl : args = #[v0, v1] := by cases args; simp_all
  obtain ⟨rfl, rfl⟩ := trodVars_none hV
  obtain ⟨A, m, c, rfl, hm_le, hm_max, hF0⟩ := open_flat (dd := 9) (ls := [.int .i64]) Tryz.underlying22 (by kernel_rfl) (by kernel_rfl) (by decide) (hval 0 22 v0 rfl rfl) h0
  obtain ⟨rs, hrs, hA1⟩ := ints_of_flat hF0
  obtain ⟨A2, m2, c2, rfl, hm2_le, hm2_max, hFos⟩ := open_flat (dd := 9) (ls := ([.int .i64] ++ ([.int .i64] ++ [.int .i64] ++ [.int .i64] ++ []) ++ ([.int .i64] ++ [.int .i64] ++ [.int .i64] ++ [.int .i64] ++ [.int .i64] ++ [.int .i64] ++ []) ++ [.int .i64] ++ [.int .i64] ++ [])) Tryz.underlying23 (by kernel_rfl) (by kernel_rfl) (by decide) (hval 1 23 v1 rfl rfl) h1
  obtain ⟨os, hos, hA2⟩ := ops_of_flat hFos
  refine Calls.mono (admitPlays_any A m c rs A2 m2 c2 os W hrs hm_le hA1 hos hA2 (Nat.le_trans hm2_le hm2_max)) fun e W' hh => ?_
  obtain ⟨x, rfl, rfl, hs⟩ := hh
  exact ⟨_, rfl, post_law (tb := 4) admitPlays_laid (by intro t ht; simp only [Tryz.params3, List.mem_cons, List.mem_nil_iff, or_false] at ht; rcases ht with rfl | rfl <;> exact ⟨by kernel_rfl, of_decide_eq_true (by kernel_rfl)⟩) hW' rfl rfl Tryz.underlying4 rfl rfl rfl hs⟩
theorem admitPlays_holds : Rows.AdmitPlaysSaid :=
  OpenClaim.holds_of_wide 3 Tryz.f3 rfl rfl rfl rfl rfl rfl rfl ⟨rfl, rfl, rfl, rfl, rfl⟩ rfl rfl rfl rfl rfl (by kernel_rfl) Tryz.func3 (by kernel_rfl)
    (of_decide_eq_true (by kernel_rfl)) (by unfold Func.isWrapper; first | (rw [if_pos (by decide +kernel)]; kernel_rfl) | (rw [if_neg (by decide +kernel)]; exact ⟨rfl, rfl⟩))
    (fun os started H enc _ => admitPlays_lifted os started H enc)
end Go.Proofs.YthchmlidobgkoaaGreat
