import Derived.Test.YthchmlidobgkoaaGreatRows
import Derived.Test.YthchmlidobgkoaaGreatMb6
/- The statement 'AdmitBack' holds: whatever its arguments are, the law's call returns true, and its arguments read behind the call as they read before; no condition. -/
set_option linter.unusedVariables false
set_option linter.unusedSimpArgs false
namespace Go.Proofs.YthchmlidobgkoaaGreat
open Go.Vc Go.RowKit Go.ChangeShapes Go.WideShapes Go.ChangeAt


theorem admitBack_own : ownKnob Tryz.prog.godebug = none := by kernel_rfl
theorem admitBack_laid : laidOutB Tryz.prog = true := by kernel_rfl
set_option maxRecDepth 100000 in
set_option maxHeartbeats 4000000 in
theorem admitBack_lifted (os : Os) (started : os.Started) (H : Type) (enc : TypeId × Value → H) :
    ReturnsInHanded {} Tryz.checked os 4 .any (Rows.admitBackSpec.pre6 enc Tryz.prog Tryz.f4 Rows.admitBackRow.domain false) (Rows.admitBackSpec.post enc Tryz.prog Tryz.f4 false true false false) := by
  refine returnsInHanded_of_change (C := Tryz.checked) admitBack_own started (by kernel_rfl) Tryz.func4
    (ChangeSpec.witness6 (enc := enc) (C := Tryz.checked) false ⟨#[], #[.slice none 0 0, .slice none 0 0, .slice none 0 0], []⟩ 60 (by kernel_rfl) (by kernel_rfl) (by kernel_rfl) (by kernel_rfl)) ?_
  intro W base args ds gs before hval0 hW hcnd _
  have hval : ∀ (j : Nat) t v, Tryz.f4.params[j]? = some t → args[j]? = some v → Value.okWide Tryz.prog W .any base t v := hval0
  have hW' := hW
  obtain ⟨p, q, hA0, hV, rfl, hfz, hnd⟩ := hW
  have hA : DataW.TrodAll enc Tryz.prog W 0 (fun _ => true) true Tryz.f4.params.toList args.toList ds p := hA0
  rw [Tryz.params4] at hA hval
  obtain ⟨v0, vs0, d0, ds0, p0, q0, hargs, rfl, rfl, h0, r0⟩ := trodAll_cons hA
  obtain ⟨v1, vs1, d1, ds1, p1, q1, rfl, rfl, rfl, h1, r1⟩ := trodAll_cons r0
  obtain ⟨v2, vs2, d2, ds2, p2, q2, rfl, rfl, rfl, h2, r2⟩ := trodAll_cons r1
  obtain ⟨rfl, rfl, rfl⟩ := trodAll_nil r2
  obtain rfl : args = #[v0, v1, v2] := by cases args; simp_all
  obtain ⟨rfl, rfl⟩ := trodVars_none hV
  obtain ⟨A, m, c, rfl, hm_le, hm_max, hF0⟩ := open_flat (dd := 9) (ls := [.int .i64]) Tryz.underlying22 (by kernel_rfl) (by kernel_rfl) (by decide) (hval 0 22 v0 rfl rfl) h0
  obtain ⟨rs, hrs, hA1⟩ := ints_of_flat hF0
  obtain ⟨A2, m2, c2, rfl, hm2_le, hm2_max, hFos⟩ := open_flat (dd := 9) (ls := ([.int .i64] ++ ([.int .i64] ++ [.int .i64] ++ [.int .i64] ++ []) ++ ([.int .i64] ++ [.int .i64] ++ [.int .i64] ++ [.int .i64] ++ [.int .i64] ++ [.int .i64] ++ []) ++ [.int .i64] ++ [.int .i64] ++ [])) Tryz.underlying23 (by kernel_rfl) (by kernel_rfl) (by decide) (hval 1 23 v1 rfl rfl) h1
  obtain ⟨os, hos, hA2⟩ := ops_of_flat hFos
  obtain ⟨A3, m3, c3, rfl, hm3_le, hm3_max, hFos3⟩ := open_flat (dd := 9) (ls := ([.int .i64] ++ ([.int .i64] ++ [.int .i64] ++ [.int .i64] ++ []) ++ ([.int .i64] ++ [.int .i64] ++ [.int .i64] ++ [.int .i64] ++ [.int .i64] ++ [.int .i64] ++ []) ++ [.int .i64] ++ [.int .i64] ++ [])) Tryz.underlying23 (by kernel_rfl) (by kernel_rfl) (by decide) (hval 2 23 v2 rfl rfl) h2
  obtain ⟨os3, hos3, hA3⟩ := ops_of_flat hFos3
  refine Calls.mono (admitBack_any A m c rs A2 m2 c2 os A3 m3 c3 os3 W hrs hm_le hA1 hos hA2 hos3 hA3 (Nat.le_trans hm2_le hm2_max) (Nat.le_trans hm3_le hm3_max)) fun e W' hh => ?_
  obtain ⟨x, rfl, rfl, hs⟩ := hh
  exact ⟨_, rfl, post_law (tb := 4) admitBack_laid (by intro t ht; simp only [Tryz.params4, List.mem_cons, List.mem_nil_iff, or_false] at ht; rcases ht with rfl | rfl | rfl <;> exact ⟨by kernel_rfl, of_decide_eq_true (by kernel_rfl)⟩) hW' rfl rfl Tryz.underlying4 rfl rfl rfl hs⟩
theorem admitBack_holds : Rows.AdmitBackSaid :=
  OpenClaim.holds_of_wide 4 Tryz.f4 rfl rfl rfl rfl rfl rfl rfl ⟨rfl, rfl, rfl, rfl, rfl⟩ rfl rfl rfl rfl rfl (by kernel_rfl) Tryz.func4 (by kernel_rfl)
    (of_decide_eq_true (by kernel_rfl)) (by unfold Func.isWrapper; first | (rw [if_pos (by decide +kernel)]; kernel_rfl) | (rw [if_neg (by decide +kernel)]; exact ⟨rfl, rfl⟩))
    (fun os started H enc _ => admitBack_lifted os started H enc)
end Go.Proofs.YthchmlidobgkoaaGreat
