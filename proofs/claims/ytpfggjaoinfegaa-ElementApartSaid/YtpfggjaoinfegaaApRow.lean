/- The statement 'ElementApart' holds: whatever its arguments are, the law's call returns true, and its arguments read behind the call as they read before; no condition. -/
import Derived.Test.YtpfggjaoinfegaaRows
import Derived.Test.YtpfggjaoinfegaaVc6
import Derived.Test.YtpfggjaoinfegaaElAp
import Derived.Test.YtpfggjaoinfegaaIe7
set_option linter.unusedVariables false
set_option linter.unusedSimpArgs false
namespace Go.Proofs.Ytpfggjaoinfegaa
open Go.Vc Go.RowKit Go.ChangeShapes Go.WideShapes Go.ChangeAt

theorem elementApart_any (k p e h b t k9 p9 e9 h9 b9 t9 kp kv kc lp lv lc : Int) (w : World) : CV Try.prog 6 #[.agg #[.int .i64 k, .int .i64 p, .int .i64 e, .int .i64 h, .int .i64 b, .int .i64 t], .agg #[.int .i64 k9, .int .i64 p9, .int .i64 e9, .int .i64 h9, .int .i64 b9, .int .i64 t9], .agg #[.int .i64 kp, .int .i64 kv, .int .i64 kc], .agg #[.int .i64 lp, .int .i64 lv, .int .i64 lc]] w (fun x w1 => x = .bool true ∧ Step No w w1) := by
  by_cases hr : rightC k p e h b t = 0
  · obtain ⟨p, e, h, b, t, rfl, rfl, rfl, rfl, rfl⟩ := nats_of hr
    by_cases hs : rightC k9 p9 e9 h9 b9 t9 = 0
    · obtain ⟨p9, e9, h9, b9, t9, rfl, rfl, rfl, rfl, rfl⟩ := nats_of hs
      by_cases hk : rightK kp kv kc = true
      · obtain ⟨kp, kv, kc, rfl, rfl, rfl⟩ := natk_of hk
        by_cases hl : rightK lp lv lc = true
        · obtain ⟨lp, lv, lc, rfl, rfl, rfl⟩ := natk_of hl
          exact apart_yy_yy k p e h b t k9 p9 e9 h9 b9 t9 kp kv kc lp lv lc w hr hs hk hl
        · exact apart_yy_yn k p e h b t k9 p9 e9 h9 b9 t9 kp kv kc lp lv lc w hr hs hk (by simpa using hl)
      · exact apart_yy_nU k p e h b t k9 p9 e9 h9 b9 t9 kp kv kc lp lv lc w hr hs (by simpa using hk)
    · by_cases hk : rightK kp kv kc = true
      · obtain ⟨kp, kv, kc, rfl, rfl, rfl⟩ := natk_of hk
        by_cases hl : rightK lp lv lc = true
        · obtain ⟨lp, lv, lc, rfl, rfl, rfl⟩ := natk_of hl
          exact apart_yn_yy k p e h b t k9 p9 e9 h9 b9 t9 kp kv kc lp lv lc w hr hs hk hl
        · exact apart_yn_yn k p e h b t k9 p9 e9 h9 b9 t9 kp kv kc lp lv lc w hr hs hk (by simpa using hl)
      · exact apart_yn_nU k p e h b t k9 p9 e9 h9 b9 t9 kp kv kc lp lv lc w hr hs (by simpa using hk)
  · by_cases hk : rightK kp kv kc = true
    · obtain ⟨kp, kv, kc, rfl, rfl, rfl⟩ := natk_of hk
      by_cases hl : rightK lp lv lc = true
      · obtain ⟨lp, lv, lc, rfl, rfl, rfl⟩ := natk_of hl
        exact apart_nU_yy k p e h b t k9 p9 e9 h9 b9 t9 kp kv kc lp lv lc w hr hk hl
      · exact apart_nU_yn k p e h b t k9 p9 e9 h9 b9 t9 kp kv kc lp lv lc w hr hk (by simpa using hl)
    · exact apart_nU_nU k p e h b t k9 p9 e9 h9 b9 t9 kp kv kc lp lv lc w hr (by simpa using hk)
theorem elementApart_own : ownKnob Try.prog.godebug = none := by kernel_rfl
theorem elementApart_laid : laidOutB Try.prog = true := by kernel_rfl
set_option maxRecDepth 100000 in
set_option maxHeartbeats 4000000 in
theorem elementApart_lifted (os : Os) (started : os.Started) (H : Type) (enc : TypeId × Value → H) :
    ReturnsInHanded {} Try.checked os 6 .any (Rows.elementApartSpec.pre6 enc Try.prog Try.f6 Rows.elementApartRow.domain false) (Rows.elementApartSpec.post enc Try.prog Try.f6 false true false false) := by
  refine returnsInHanded_of_change (C := Try.checked) elementApart_own started (by kernel_rfl) Try.func6
    (ChangeSpec.witness6 (enc := enc) (C := Try.checked) false ⟨#[], #[.agg #[.int .i64 0, .int .i64 0, .int .i64 0, .int .i64 0, .int .i64 0, .int .i64 0], .agg #[.int .i64 0, .int .i64 0, .int .i64 0, .int .i64 0, .int .i64 0, .int .i64 0], .agg #[.int .i64 0, .int .i64 0, .int .i64 0], .agg #[.int .i64 0, .int .i64 0, .int .i64 0]], []⟩ 60 (by kernel_rfl) (by kernel_rfl) (by kernel_rfl) (by kernel_rfl)) ?_
  intro W base args ds gs before hval0 hW hcnd _
  have hval : ∀ (j : Nat) t v, Try.f6.params[j]? = some t → args[j]? = some v → Value.okWide Try.prog W .any base t v := hval0
  have hW' := hW
  obtain ⟨p, q, hA0, hV, rfl, hfz, hnd⟩ := hW
  have hA : DataW.TrodAll enc Try.prog W 0 (fun _ => true) true Try.f6.params.toList args.toList ds p := hA0
  rw [Try.params6] at hA hval
  obtain ⟨v0, vs0, d0, ds0, p0, q0, hargs, rfl, rfl, h0, r0⟩ := trodAll_cons hA
  obtain ⟨v1, vs1, d1, ds1, p1, q1, rfl, rfl, rfl, h1, r1⟩ := trodAll_cons r0
  obtain ⟨v2, vs2, d2, ds2, p2, q2, rfl, rfl, rfl, h2, r2⟩ := trodAll_cons r1
  obtain ⟨v3, vs3, d3, ds3, p3, q3, rfl, rfl, rfl, h3, r3⟩ := trodAll_cons r2
  obtain ⟨rfl, rfl, rfl⟩ := trodAll_nil r3
  obtain rfl : args = #[v0, v1, v2, v3] := by cases args; simp_all
  obtain ⟨rfl, rfl⟩ := trodVars_none hV
  obtain ⟨csa, rfl, hcsa⟩ := open_agg (dd := 9) (ls := ([.int .i64] ++ [.int .i64] ++ [.int .i64] ++ [.int .i64] ++ [.int .i64] ++ [.int .i64] ++ [])) (by kernel_rfl) (hval 0 45 v0 rfl rfl) (by kernel_rfl) (by kernel_rfl) h0
  obtain ⟨k, p, e, h, b, t, rfl⟩ := ints6 hcsa
  obtain ⟨csb, rfl, hcsb⟩ := open_agg (dd := 9) (ls := ([.int .i64] ++ [.int .i64] ++ [.int .i64] ++ [.int .i64] ++ [.int .i64] ++ [.int .i64] ++ [])) (by kernel_rfl) (hval 1 45 v1 rfl rfl) (by kernel_rfl) (by kernel_rfl) h1
  obtain ⟨k9, p9, e9, h9, b9, t9, rfl⟩ := ints6 hcsb
  obtain ⟨csc, rfl, hcsc⟩ := open_agg (dd := 9) (ls := ([.int .i64] ++ [.int .i64] ++ [.int .i64] ++ [])) (by kernel_rfl) (hval 2 47 v2 rfl rfl) (by kernel_rfl) (by kernel_rfl) h2
  obtain ⟨kp, kv, kc, rfl⟩ := ints3 hcsc
  obtain ⟨csd, rfl, hcsd⟩ := open_agg (dd := 9) (ls := ([.int .i64] ++ [.int .i64] ++ [.int .i64] ++ [])) (by kernel_rfl) (hval 3 47 v3 rfl rfl) (by kernel_rfl) (by kernel_rfl) h3
  obtain ⟨lp, lv, lc, rfl⟩ := ints3 hcsd
  refine Calls.mono (elementApart_any k p e h b t k9 p9 e9 h9 b9 t9 kp kv kc lp lv lc W) fun e W' hh => ?_
  obtain ⟨x, rfl, rfl, hs⟩ := hh
  exact ⟨_, rfl, post_law (tb := 4) elementApart_laid (by intro t ht; simp only [Try.params6, List.mem_cons, List.mem_nil_iff, or_false] at ht; rcases ht with rfl | rfl | rfl | rfl <;> exact ⟨by kernel_rfl, of_decide_eq_true (by kernel_rfl)⟩) hW' rfl rfl Try.underlying4 rfl rfl rfl hs⟩
theorem elementApart_holds : Rows.ElementApartSaid :=
  OpenClaim.holds_of_wide 6 Try.f6 rfl rfl rfl rfl rfl rfl rfl ⟨rfl, rfl, rfl, rfl, rfl⟩ rfl rfl rfl rfl rfl (by kernel_rfl) Try.func6 (by kernel_rfl)
    (of_decide_eq_true (by kernel_rfl)) (by unfold Func.isWrapper; first | (rw [if_pos (by decide +kernel)]; kernel_rfl) | (rw [if_neg (by decide +kernel)]; exact ⟨rfl, rfl⟩))
    (fun os started H enc _ => elementApart_lifted os started H enc)
end Go.Proofs.Ytpfggjaoinfegaa
