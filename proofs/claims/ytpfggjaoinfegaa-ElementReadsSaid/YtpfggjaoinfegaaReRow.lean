/- The statement 'ElementReads' holds: whatever its arguments are, the law's call returns true, and its arguments read behind the call as they read before; no condition. -/
import Derived.Test.YtpfggjaoinfegaaRows
import Derived.Test.YtpfggjaoinfegaaVc6
import Derived.Test.YtpfggjaoinfegaaElRe
import Derived.Test.YtpfggjaoinfegaaIe7
set_option linter.unusedVariables false
set_option linter.unusedSimpArgs false
namespace Go.Proofs.Ytpfggjaoinfegaa
open Go.Vc Go.RowKit Go.ChangeShapes Go.WideShapes Go.ChangeAt

theorem isIe : IsIe Try.prog 40 := ⟨⟨_, _, _, 5, Try.underlying40, rfl, rfl, rfl, by kernel_rfl, by kernel_rfl, by kernel_rfl, by kernel_rfl, by kernel_rfl, by kernel_rfl, by kernel_rfl⟩⟩
theorem elementReads_any (k p e h b t kp kv kc m xi : Int) (A : Option Addr) (n c : Nat) (bs : List Int) (w : World) (hn : bs.length = n) (hA : Sl w w.heap.size A (iL .u8 bs)) (hc : n ≤ c) (hb : Bytes bs) : CV Try.prog 7 #[.agg #[.int .i64 k, .int .i64 p, .int .i64 e, .int .i64 h, .int .i64 b, .int .i64 t], .agg #[.int .i64 kp, .int .i64 kv, .int .i64 kc], .int .i64 m, .agg #[.int .u8 xi, .slice A n c]] w (fun x w1 => x = .bool true ∧ Step No w w1) := by
  by_cases h3 : n ≤ 300
  · by_cases hr : rightC k p e h b t = 0
    · obtain ⟨p, e, h, b, t, rfl, rfl, rfl, rfl, rfl⟩ := nats_of hr
      exact reads_yes k p e h b t kp kv kc m xi A n c bs w hn hA hc hb h3 hr
    · exact reads_no k p e h b t kp kv kc m xi A n c bs w hn hA hc hb h3 hr
  · exact reads_o k p e h b t kp kv kc m xi A n c w (by omega)
theorem elementReads_own : ownKnob Try.prog.godebug = none := by kernel_rfl
theorem elementReads_laid : laidOutB Try.prog = true := by kernel_rfl
set_option maxRecDepth 100000 in
theorem elementReads_lifted (os : Os) (started : os.Started) (H : Type) (enc : TypeId × Value → H) :
    ReturnsInHanded {} Try.checked os 7 .any (Rows.elementReadsSpec.pre6 enc Try.prog Try.f7 Rows.elementReadsRow.domain false) (Rows.elementReadsSpec.post enc Try.prog Try.f7 false true false false) := by
  refine returnsInHanded_of_change (C := Try.checked) elementReads_own started (by kernel_rfl) Try.func7
    (ChangeSpec.witness6 (enc := enc) (C := Try.checked) false ⟨#[], #[.agg #[.int .i64 0, .int .i64 0, .int .i64 0, .int .i64 0, .int .i64 0, .int .i64 0], .agg #[.int .i64 0, .int .i64 0, .int .i64 0], .int .i64 0, .agg #[.int .u8 0, .slice none 0 0]], []⟩ 60 (by kernel_rfl) (by kernel_rfl) (by kernel_rfl) (by kernel_rfl)) ?_
  intro W base args ds gs before hval0 hW hcnd _
  have hval : ∀ (j : Nat) t v, Try.f7.params[j]? = some t → args[j]? = some v → Value.okWide Try.prog W .any base t v := hval0
  have hW' := hW
  obtain ⟨p, q, hA0, hV, rfl, hfz, hnd⟩ := hW
  have hA : DataW.TrodAll enc Try.prog W 0 (fun _ => true) true Try.f7.params.toList args.toList ds p := hA0
  rw [Try.params7] at hA hval
  obtain ⟨v0, vs0, d0, ds0, p0, q0, hargs, rfl, rfl, h0, r0⟩ := trodAll_cons hA
  obtain ⟨v1, vs1, d1, ds1, p1, q1, rfl, rfl, rfl, h1, r1⟩ := trodAll_cons r0
  obtain ⟨v2, vs2, d2, ds2, p2, q2, rfl, rfl, rfl, h2, r2⟩ := trodAll_cons r1
  obtain ⟨v3, vs3, d3, ds3, p3, q3, rfl, rfl, rfl, h3, r3⟩ := trodAll_cons r2
  obtain ⟨rfl, rfl, rfl⟩ := trodAll_nil r3
  obtain rfl : args = #[v0, v1, v2, v3] := by cases args; simp_all
  obtain ⟨rfl, rfl⟩ := trodVars_none hV
  obtain ⟨csa, rfl, hcsa⟩ := open_agg (dd := 9) (ls := ([.int .i64] ++ [.int .i64] ++ [.int .i64] ++ [.int .i64] ++ [.int .i64] ++ [.int .i64] ++ [])) (by kernel_rfl) (hval 0 45 v0 rfl rfl) (by kernel_rfl) (by kernel_rfl) h0
  obtain ⟨k, p, e, h, b, t, rfl⟩ := ints6 hcsa
  obtain ⟨csb, rfl, hcsb⟩ := open_agg (dd := 9) (ls := ([.int .i64] ++ [.int .i64] ++ [.int .i64] ++ [])) (by kernel_rfl) (hval 1 47 v1 rfl rfl) (by kernel_rfl) (by kernel_rfl) h1
  obtain ⟨kp, kv, kc, rfl⟩ := ints3 hcsb
  obtain ⟨m, rfl, rfl, rfl, wm⟩ := open_int Try.underlying3 (hval 2 3 v2 rfl rfl) h2
  obtain ⟨⟨xi, A, n, c, bs⟩, rfl, ⟨hyL, hyC, hyS⟩, ⟨hyI, hyB⟩⟩ := open_ie isIe h3 (by kernel_rfl) (hval 3 40 v3 rfl rfl)
  refine Calls.mono (elementReads_any k p e h b t kp kv kc m xi A n c bs W hyL hyS.sl hyC hyB) fun e W' hh => ?_
  obtain ⟨x, rfl, rfl, hs⟩ := hh
  exact ⟨_, rfl, post_law (tb := 4) elementReads_laid (by intro t ht; simp only [Try.params7, List.mem_cons, List.mem_nil_iff, or_false] at ht; rcases ht with rfl | rfl | rfl | rfl <;> exact ⟨by kernel_rfl, of_decide_eq_true (by kernel_rfl)⟩) hW' rfl rfl Try.underlying4 rfl rfl rfl hs⟩
theorem elementReads_holds : Rows.ElementReadsSaid :=
  OpenClaim.holds_of_wide 7 Try.f7 rfl rfl rfl rfl rfl rfl rfl ⟨rfl, rfl, rfl, rfl, rfl⟩ rfl rfl rfl rfl rfl (by kernel_rfl) Try.func7 (by kernel_rfl)
    (of_decide_eq_true (by kernel_rfl)) (by unfold Func.isWrapper; first | (rw [if_pos (by decide +kernel)]; kernel_rfl) | (rw [if_neg (by decide +kernel)]; exact ⟨rfl, rfl⟩))
    (fun os started H enc _ => elementReads_lifted os started H enc)
end Go.Proofs.Ytpfggjaoinfegaa
