import Derived.Test.YthchmlidobgkoaaRows
import Derived.Test.YthchmlidobgkoaaMx7
/- The statement 'AdmitExact' holds: whatever its arguments are, the law's call returns true, and its arguments read behind the call as they read before; no condition. -/
set_option linter.unusedVariables false
set_option linter.unusedSimpArgs false
namespace Go.Proofs.Ythchmlidobgkoaa
open Go.Vc Go.RowKit Go.ChangeShapes Go.WideShapes Go.ChangeAt


theorem key_of {cs : Array Value} (hw : CellsW cs.toList [.int .i64, .int .i64, .int .i64]) : ∃ p v c, cs = #[.int .i64 p, .int .i64 v, .int .i64 c] := by
  obtain ⟨l⟩ := cs
  have hlen := hw.length
  obtain ⟨c0, c1, c2, rfl⟩ : ∃ c0 c1 c2, l = [c0, c1, c2] := by
    rcases l with _ | ⟨c0, _ | ⟨c1, _ | ⟨c2, _ | ⟨c3, r⟩⟩⟩⟩ <;> first | exact ⟨_, _, _, rfl⟩ | (simp at hlen)
  obtain ⟨⟨a0, h0, u0⟩, ⟨a1, h1, u1⟩, ⟨a2, h2, u2⟩, u4⟩ := hw
  clear u0 u1 u2 u4
  subst h0; subst h1; subst h2
  exact ⟨a0, a1, a2, rfl⟩
theorem con_of {cs : Array Value} (hw : CellsW cs.toList [.int .i64, .int .i64, .int .i64, .int .i64, .int .i64, .int .i64]) : ∃ k : Con, cs = #[.int .i64 k.kind, .int .i64 k.peak, .int .i64 k.early, .int .i64 k.whole, .int .i64 k.burst, .int .i64 k.least] := by
  obtain ⟨l⟩ := cs
  have hlen := hw.length
  obtain ⟨c0, c1, c2, c3, c4, c5, rfl⟩ : ∃ c0 c1 c2 c3 c4 c5, l = [c0, c1, c2, c3, c4, c5] := by
    rcases l with _ | ⟨c0, _ | ⟨c1, _ | ⟨c2, _ | ⟨c3, _ | ⟨c4, _ | ⟨c5, _ | ⟨c6, r⟩⟩⟩⟩⟩⟩⟩ <;> first | exact ⟨_, _, _, _, _, _, rfl⟩ | (simp at hlen)
  obtain ⟨⟨a0, h0, u0⟩, ⟨a1, h1, u1⟩, ⟨a2, h2, u2⟩, ⟨a3, h3, u3⟩, ⟨a4, h4, u4⟩, ⟨a5, h5, u5⟩, u6⟩ := hw
  clear u0 u1 u2 u3 u4 u5 u6
  subst h0; subst h1; subst h2; subst h3; subst h4; subst h5
  exact ⟨⟨a0, a1, a2, a3, a4, a5⟩, rfl⟩
theorem admitExact_own : ownKnob Try.prog.godebug = none := by kernel_rfl
theorem admitExact_laid : laidOutB Try.prog = true := by kernel_rfl
set_option maxRecDepth 100000 in
set_option maxHeartbeats 4000000 in
theorem admitExact_lifted (os : Os) (started : os.Started) (H : Type) (enc : TypeId × Value → H) :
    ReturnsInHanded {} Try.checked os 5 .any (Rows.admitExactSpec.pre6 enc Try.prog Try.f5 Rows.admitExactRow.domain false) (Rows.admitExactSpec.post enc Try.prog Try.f5 false true false false) := by
  refine returnsInHanded_of_change (C := Try.checked) admitExact_own started (by kernel_rfl) Try.func5
    (ChangeSpec.witness6 (enc := enc) (C := Try.checked) false ⟨#[], #[.slice none 0 0, .slice none 0 0, .agg #[.int .i64 0, .int .i64 0, .int .i64 0], .agg #[.int .i64 0, .int .i64 0, .int .i64 0, .int .i64 0, .int .i64 0, .int .i64 0]], []⟩ 60 (by kernel_rfl) (by kernel_rfl) (by kernel_rfl) (by kernel_rfl)) ?_
  intro W base args ds gs before hval0 hW hcnd _
  have hval : ∀ (j : Nat) t v, Try.f5.params[j]? = some t → args[j]? = some v → Value.okWide Try.prog W .any base t v := hval0
  have hW' := hW
  obtain ⟨p, q, hA0, hV, rfl, hfz, hnd⟩ := hW
  have hA : DataW.TrodAll enc Try.prog W 0 (fun _ => true) true Try.f5.params.toList args.toList ds p := hA0
  rw [Try.params5] at hA hval
  obtain ⟨v0, vs0, d0, ds0, p0, q0, hargs, rfl, rfl, h0, r0⟩ := trodAll_cons hA
  obtain ⟨v1, vs1, d1, ds1, p1, q1, rfl, rfl, rfl, h1, r1⟩ := trodAll_cons r0
  obtain ⟨v2, vs2, d2, ds2, p2, q2, rfl, rfl, rfl, h2, r2⟩ := trodAll_cons r1
  obtain ⟨v3, vs3, d3, ds3, p3, q3, rfl, rfl, rfl, h3, r3⟩ := trodAll_cons r2
  obtain ⟨rfl, rfl, rfl⟩ := trodAll_nil r3
  obtain rfl : args = #[v0, v1, v2, v3] := by cases args; simp_all
  obtain ⟨rfl, rfl⟩ := trodVars_none hV
  obtain ⟨A, m, c, rfl, hm_le, hm_max, hF0⟩ := open_flat (dd := 9) (ls := [.int .i64]) Try.underlying22 (by kernel_rfl) (by kernel_rfl) (by decide) (hval 0 22 v0 rfl rfl) h0
  obtain ⟨rs, hrs, hA1⟩ := ints_of_flat hF0
  obtain ⟨A2, m2, c2, rfl, hm2_le, hm2_max, hFos⟩ := open_flat (dd := 9) (ls := ([.int .i64] ++ ([.int .i64] ++ [.int .i64] ++ [.int .i64] ++ []) ++ ([.int .i64] ++ [.int .i64] ++ [.int .i64] ++ [.int .i64] ++ [.int .i64] ++ [.int .i64] ++ []) ++ [.int .i64] ++ [.int .i64] ++ [])) Try.underlying23 (by kernel_rfl) (by kernel_rfl) (by decide) (hval 1 23 v1 rfl rfl) h1
  obtain ⟨os, hos, hA2⟩ := ops_of_flat hFos
  obtain ⟨csk, rfl, hwk⟩ := open_agg (dd := 9) (ls := ([.int .i64] ++ [.int .i64] ++ [.int .i64] ++ [])) (by kernel_rfl) (hval 2 28 v2 rfl rfl) (by kernel_rfl) (by kernel_rfl) h2
  obtain ⟨kp, kv, kc, rfl⟩ := key_of hwk
  obtain ⟨csc, rfl, hwc⟩ := open_agg (dd := 9) (ls := ([.int .i64] ++ [.int .i64] ++ [.int .i64] ++ [.int .i64] ++ [.int .i64] ++ [.int .i64] ++ [])) (by kernel_rfl) (hval 3 30 v3 rfl rfl) (by kernel_rfl) (by kernel_rfl) h3
  obtain ⟨kk, rfl⟩ := con_of hwc
  refine Calls.mono (admitExact_any A m c rs A2 m2 c2 os kp kv kc kk W hrs hm_le hA1 hos hA2 (Nat.le_trans hm2_le hm2_max)) fun e W' hh => ?_
  obtain ⟨x, rfl, rfl, hs⟩ := hh
  exact ⟨_, rfl, post_law (tb := 4) admitExact_laid (by intro t ht; simp only [Try.params5, List.mem_cons, List.mem_nil_iff, or_false] at ht; rcases ht with rfl | rfl | rfl | rfl <;> exact ⟨by kernel_rfl, of_decide_eq_true (by kernel_rfl)⟩) hW' rfl rfl Try.underlying4 rfl rfl rfl hs⟩
theorem admitExact_holds : Rows.AdmitExactSaid :=
  OpenClaim.holds_of_wide 5 Try.f5 rfl rfl rfl rfl rfl rfl rfl ⟨rfl, rfl, rfl, rfl, rfl⟩ rfl rfl rfl rfl rfl (by kernel_rfl) Try.func5 (by kernel_rfl)
    (of_decide_eq_true (by kernel_rfl)) (by unfold Func.isWrapper; first | (rw [if_pos (by decide +kernel)]; kernel_rfl) | (rw [if_neg (by decide +kernel)]; exact ⟨rfl, rfl⟩))
    (fun os started H enc _ => admitExact_lifted os started H enc)
end Go.Proofs.Ythchmlidobgkoaa
