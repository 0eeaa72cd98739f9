import Derived.Test.YtcablikikkmfjaaGreatRows
import Derived.Test.YtcablikikkmfjaaGreatMn7
/- The statement 'PlaneNil' holds: whatever its arguments are, the law's call returns true, and its arguments read behind the call as they read before; no condition. -/
set_option linter.unusedVariables false
set_option linter.unusedSimpArgs false
namespace Go.Proofs.YtcablikikkmfjaaGreat
open Go.Vc Go.RowKit Go.ChangeShapes Go.WideShapes Go.ChangeAt


theorem planeNil_own : ownKnob Tryz.prog.godebug = none := by kernel_rfl
theorem planeNil_laid : laidOutB Tryz.prog = true := by kernel_rfl
set_option maxRecDepth 100000 in
set_option maxHeartbeats 4000000 in
theorem planeNil_lifted (os : Os) (started : os.Started) (H : Type) (enc : TypeId × Value → H) :
    ReturnsInHanded {} Tryz.checked os 13 .any (Rows.planeNilSpec.pre6 enc Tryz.prog Tryz.f13 Rows.planeNilRow.domain false) (Rows.planeNilSpec.post enc Tryz.prog Tryz.f13 false true false false) := by
  refine returnsInHanded_of_change (C := Tryz.checked) planeNil_own started (by kernel_rfl) Tryz.func13
    (ChangeSpec.witness6 (enc := enc) (C := Tryz.checked) false ⟨#[], #[.int .i64 0, .int .i64 0, .slice none 0 0], []⟩ 60 (by kernel_rfl) (by kernel_rfl) (by kernel_rfl) (by kernel_rfl)) ?_
  intro W base args ds gs before hval0 hW hcnd _
  have hval : ∀ (j : Nat) t v, Tryz.f13.params[j]? = some t → args[j]? = some v → Value.okWide Tryz.prog W .any base t v := hval0
  have hW' := hW
  obtain ⟨p, q, hA0, hV, rfl, hfz, hnd⟩ := hW
  have hA : DataW.TrodAll enc Tryz.prog W 0 (fun _ => true) true Tryz.f13.params.toList args.toList ds p := hA0
  rw [Tryz.params13] at hA hval
  obtain ⟨v0, vs0, d0, ds0, p0, q0, hargs, rfl, rfl, h0, r0⟩ := trodAll_cons hA
  obtain ⟨v1, vs1, d1, ds1, p1, q1, rfl, rfl, rfl, h1, r1⟩ := trodAll_cons r0
  obtain ⟨v2, vs2, d2, ds2, p2, q2, rfl, rfl, rfl, h2, r2⟩ := trodAll_cons r1
  obtain ⟨rfl, rfl, rfl⟩ := trodAll_nil r2
  obtain rfl : args = #[v0, v1, v2] := by cases args; simp_all
  obtain ⟨rfl, rfl⟩ := trodVars_none hV
  obtain ⟨t, rfl, rfl, rfl, wt⟩ := open_int Tryz.underlying3 (hval 0 3 v0 rfl rfl) h0
  obtain ⟨q, rfl, rfl, rfl, wq⟩ := open_int Tryz.underlying3 (hval 1 3 v1 rfl rfl) h1
  obtain ⟨A, n, c, rfl, hn_le, hn_max, hF⟩ := open_flat (dd := 9) (ls := [.int .u8]) Tryz.underlying26 (by kernel_rfl) (by kernel_rfl) (by decide) (hval 2 26 v2 rfl rfl) h2
  refine Calls.mono (planeNil_any t q A n c W) fun e W' hh => ?_
  obtain ⟨x, rfl, rfl, hs⟩ := hh
  exact ⟨_, rfl, post_law (tb := 4) planeNil_laid (by intro t ht; simp only [Tryz.params13, List.mem_cons, List.mem_nil_iff, or_false] at ht; rcases ht with rfl | rfl | rfl <;> exact ⟨by kernel_rfl, of_decide_eq_true (by kernel_rfl)⟩) hW' rfl rfl Tryz.underlying4 rfl rfl rfl hs⟩
theorem planeNil_jb : (Rows.planeNilRow.inPlace == Tryz.pinned.checked.prog.inPlace 13) = true := by kernel_rfl
theorem planeNil_jc : (Rows.planeNilRow.unfollowed == Tryz.pinned.checked.prog.unfollowed 13) = true := by kernel_rfl
theorem planeNil_jd : (Rows.planeNilRow.recurses == Tryz.pinned.checked.prog.recurses 13) = true := by kernel_rfl
theorem planeNil_je : (Rows.planeNilRow.named == Tryz.pinned.checked.prog.varsNamed 13) = true := by kernel_rfl
theorem planeNil_jf : (Rows.planeNilRow.plainKeys == Tryz.pinned.checked.prog.plainKeys) = true := by kernel_rfl
theorem planeNil_jg : (Rows.planeNilRow.lifted == Tryz.pinned.checked.prog.liftsFinal) = true := by kernel_rfl
theorem planeNil_jh : mapsRowed Tryz.pinned.checked.prog = true := by kernel_rfl
theorem planeNil_ji : Tryz.pinned.checked.prog.mayEnter = true := by kernel_rfl
theorem planeNil_jj : (Tryz.pinned.checked.prog.make == some Rows.planeNilRow.make) = true := by kernel_rfl
theorem planeNil_jk : Tryz.pinned.checked.prog.stopsHeard = true := by kernel_rfl
theorem planeNil_jl : laidOutB Tryz.pinned.checked.prog = true := by kernel_rfl
theorem planeNil_ja : Tryz.pinned.checked.prog.funcNamed Rows.planeNilRow.func = some 13 := by kernel_rfl
theorem planeNil_closed : joinedFacts Tryz.pinned.checked.prog 13 Tryz.f13 Rows.planeNilSpec Rows.planeNilRow = true := by
  unfold joinedFacts
  simp only [Bool.and_eq_true]
  repeat' apply And.intro
  all_goals first | with_reducible (first | exact planeNil_jb | exact planeNil_jc | exact planeNil_jd | exact planeNil_je | exact planeNil_jf | exact planeNil_jg | exact planeNil_jh | exact planeNil_ji | exact planeNil_jj | exact planeNil_jk | exact planeNil_jl) | kernel_rfl
theorem planeNil_holds : Rows.PlaneNilSaid :=
  OpenClaim.holds_of_wide 13 Tryz.f13 rfl rfl rfl rfl rfl rfl rfl ⟨rfl, rfl, rfl, rfl, rfl⟩ rfl rfl rfl rfl rfl planeNil_ja Tryz.func13 planeNil_closed
    (of_decide_eq_true (by kernel_rfl)) (by unfold Func.isWrapper; first | (rw [if_pos (by decide +kernel)]; kernel_rfl) | (rw [if_neg (by decide +kernel)]; exact ⟨rfl, rfl⟩))
    (fun os started H enc _ => planeNil_lifted os started H enc)
end Go.Proofs.YtcablikikkmfjaaGreat
