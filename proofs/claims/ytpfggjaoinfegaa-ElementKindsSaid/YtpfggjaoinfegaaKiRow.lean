/- The statement 'ElementKinds' holds: whatever its arguments are, the law's call returns true, and its arguments read behind the call as they read before; no condition. -/
import Derived.Test.YtpfggjaoinfegaaRows
import Derived.Test.YtpfggjaoinfegaaVc6
import Derived.Test.YtpfggjaoinfegaaElKi
import Derived.Test.YtpfggjaoinfegaaIe7
set_option linter.unusedVariables false
set_option linter.unusedSimpArgs false
namespace Go.Proofs.Ytpfggjaoinfegaa
open Go.Vc Go.RowKit Go.ChangeShapes Go.WideShapes Go.ChangeAt

theorem u8_nat7 {x : Int} (h : (Lit.int .u8 x).wf = true) : ∃ n : Nat, x = (n : Int) ∧ n < 256 := by
  have := wf_u8 h
  exact ⟨x.toNat, by omega, by omega⟩
theorem elementKinds_any (k p e h b t kp kv kc : Int) (m : Nat) (w : World) (hm : m < 256) : CV Try.prog 8 #[.agg #[.int .i64 k, .int .i64 p, .int .i64 e, .int .i64 h, .int .i64 b, .int .i64 t], .agg #[.int .i64 kp, .int .i64 kv, .int .i64 kc], .int .u8 ((m : Nat) : Int)] w (fun x w1 => x = .bool true ∧ Step No w w1) := by
  by_cases hr : rightC k p e h b t = 0
  · obtain ⟨p, e, h, b, t, rfl, rfl, rfl, rfl, rfl⟩ := nats_of hr
    by_cases hk : rightK kp kv kc = true
    · obtain ⟨kp, kv, kc, rfl, rfl, rfl⟩ := natk_of hk
      exact kinds_yes_yes k p e h b t kp kv kc m w hm hr hk
    · exact kinds_yes_no k p e h b t kp kv kc m w hm hr (by simpa using hk)
  · by_cases hk : rightK kp kv kc = true
    · obtain ⟨kp, kv, kc, rfl, rfl, rfl⟩ := natk_of hk
      exact kinds_no_yes k p e h b t kp kv kc m w hm hr hk
    · exact kinds_no_no k p e h b t kp kv kc m w hm hr (by simpa using hk)
theorem elementKinds_own : ownKnob Try.prog.godebug = none := by kernel_rfl
theorem elementKinds_laid : laidOutB Try.prog = true := by kernel_rfl
set_option maxRecDepth 100000 in
theorem elementKinds_lifted (os : Os) (started : os.Started) (H : Type) (enc : TypeId × Value → H) :
    ReturnsInHanded {} Try.checked os 8 .any (Rows.elementKindsSpec.pre6 enc Try.prog Try.f8 Rows.elementKindsRow.domain false) (Rows.elementKindsSpec.post enc Try.prog Try.f8 false true false false) := by
  refine returnsInHanded_of_change (C := Try.checked) elementKinds_own started (by kernel_rfl) Try.func8
    (ChangeSpec.witness6 (enc := enc) (C := Try.checked) false ⟨#[], #[.agg #[.int .i64 0, .int .i64 0, .int .i64 0, .int .i64 0, .int .i64 0, .int .i64 0], .agg #[.int .i64 0, .int .i64 0, .int .i64 0], .int .u8 0], []⟩ 60 (by kernel_rfl) (by kernel_rfl) (by kernel_rfl) (by kernel_rfl)) ?_
  intro W base args ds gs before hval0 hW hcnd _
  have hval : ∀ (j : Nat) t v, Try.f8.params[j]? = some t → args[j]? = some v → Value.okWide Try.prog W .any base t v := hval0
  have hW' := hW
  obtain ⟨p, q, hA0, hV, rfl, hfz, hnd⟩ := hW
  have hA : DataW.TrodAll enc Try.prog W 0 (fun _ => true) true Try.f8.params.toList args.toList ds p := hA0
  rw [Try.params8] at hA hval
  obtain ⟨v0, vs0, d0, ds0, p0, q0, hargs, rfl, rfl, h0, r0⟩ := trodAll_cons hA
  obtain ⟨v1, vs1, d1, ds1, p1, q1, rfl, rfl, rfl, h1, r1⟩ := trodAll_cons r0
  obtain ⟨v2, vs2, d2, ds2, p2, q2, rfl, rfl, rfl, h2, r2⟩ := trodAll_cons r1
  obtain ⟨rfl, rfl, rfl⟩ := trodAll_nil r2
  obtain rfl : args = #[v0, v1, v2] := by cases args; simp_all
  obtain ⟨rfl, rfl⟩ := trodVars_none hV
  obtain ⟨csa, rfl, hcsa⟩ := open_agg (dd := 9) (ls := ([.int .i64] ++ [.int .i64] ++ [.int .i64] ++ [.int .i64] ++ [.int .i64] ++ [.int .i64] ++ [])) (by kernel_rfl) (hval 0 45 v0 rfl rfl) (by kernel_rfl) (by kernel_rfl) h0
  obtain ⟨k, p, e, h, b, t, rfl⟩ := ints6 hcsa
  obtain ⟨csb, rfl, hcsb⟩ := open_agg (dd := 9) (ls := ([.int .i64] ++ [.int .i64] ++ [.int .i64] ++ [])) (by kernel_rfl) (hval 1 47 v1 rfl rfl) (by kernel_rfl) (by kernel_rfl) h1
  obtain ⟨kp, kv, kc, rfl⟩ := ints3 hcsb
  obtain ⟨m0, rfl, rfl, rfl, wm0⟩ := open_int Try.underlying5 (hval 2 5 v2 rfl rfl) h2
  obtain ⟨m, rfl, hm⟩ := u8_nat7 wm0
  refine Calls.mono (elementKinds_any k p e h b t kp kv kc m W hm) fun e W' hh => ?_
  obtain ⟨x, rfl, rfl, hs⟩ := hh
  exact ⟨_, rfl, post_law (tb := 4) elementKinds_laid (by intro t ht; simp only [Try.params8, List.mem_cons, List.mem_nil_iff, or_false] at ht; rcases ht with rfl | rfl | rfl <;> exact ⟨by kernel_rfl, of_decide_eq_true (by kernel_rfl)⟩) hW' rfl rfl Try.underlying4 rfl rfl rfl hs⟩
theorem elementKinds_holds : Rows.ElementKindsSaid :=
  OpenClaim.holds_of_wide 8 Try.f8 rfl rfl rfl rfl rfl rfl rfl ⟨rfl, rfl, rfl, rfl, rfl⟩ rfl rfl rfl rfl rfl (by kernel_rfl) Try.func8 (by kernel_rfl)
    (of_decide_eq_true (by kernel_rfl)) (by unfold Func.isWrapper; first | (rw [if_pos (by decide +kernel)]; kernel_rfl) | (rw [if_neg (by decide +kernel)]; exact ⟨rfl, rfl⟩))
    (fun os started H enc _ => elementKinds_lifted os started H enc)
end Go.Proofs.Ytpfggjaoinfegaa
