/- The statement 'MessageAnswers' holds: whatever its arguments are, the law's call returns true, and its arguments read behind the call as they read before; no condition. -/
import Derived.Test.YtejpcmjokamdcaaRows
import Derived.Test.YtejpcmjokamdcaaVc6
import Derived.Test.YtejpcmjokamdcaaMeAn
import Derived.Test.YtejpcmjokamdcaaMe6
set_option linter.unusedVariables false
set_option linter.unusedSimpArgs false
namespace Go.Proofs.Ytejpcmjokamdcaa
open Go.Vc Go.RowKit Go.ChangeShapes Go.WideShapes Go.ChangeAt

theorem isIe : IsIe Try.prog 60 := ⟨⟨_, _, _, 5, Try.underlying60, rfl, rfl, rfl, by kernel_rfl, by kernel_rfl, by kernel_rfl, by kernel_rfl, by kernel_rfl, by kernel_rfl, by kernel_rfl⟩⟩
theorem isMsg : IsMsg Try.prog 24 := ⟨⟨_, _, _, _, _, 60, Try.underlying24, rfl, rfl, rfl, rfl, rfl, by kernel_rfl, by kernel_rfl, by kernel_rfl, by kernel_rfl, by kernel_rfl, by kernel_rfl, by kernel_rfl, by kernel_rfl, by kernel_rfl, isIe, by kernel_rfl⟩⟩
theorem messageAnswers_any (r : Int) (bk : Bool) (k : Int) (A : Option Addr) (n c : Nat) (l : List IeV) (kd m : Int) (w : World) (hn : l.length = n) (hA : Ies w 0 w.heap.size A l) (hc : n ≤ c) (hl : ∀ x ∈ l, IeB x) (hmx : n ≤ 9223372036854775807) : CV Try.prog 8 #[.agg #[.int .i64 r, .bool bk, .int .i64 k, .slice A n c], .int .i64 kd, .int .i64 m] w (fun x w1 => x = .bool true ∧ Step No w w1) := by
  by_cases hf : fewB l = true
  · by_cases h6 : 1 ≤ m ∧ m ≤ 127
    · obtain ⟨m, rfl⟩ : ∃ q : Nat, m = q := ⟨m.toNat, by omega⟩
      exact answers_yes r bk k A n c l kd m w hn hA hc hl hmx hf (by omega)
    · exact answers_no r bk k A n c l kd m w hn hA hc hl hmx hf (by omega)
  · exact answers_o1 r bk k A n c l kd m w hn hA hc hl hmx (by simpa using hf)
theorem messageAnswers_own : ownKnob Try.prog.godebug = none := by kernel_rfl
theorem messageAnswers_laid : laidOutB Try.prog = true := by kernel_rfl
set_option maxRecDepth 100000 in
set_option maxHeartbeats 4000000 in
theorem messageAnswers_lifted (os : Os) (started : os.Started) (H : Type) (enc : TypeId × Value → H) :
    ReturnsInHanded {} Try.checked os 8 .any (Rows.messageAnswersSpec.pre6 enc Try.prog Try.f8 Rows.messageAnswersRow.domain false) (Rows.messageAnswersSpec.post enc Try.prog Try.f8 false true false false) := by
  refine returnsInHanded_of_change (C := Try.checked) messageAnswers_own started (by kernel_rfl) Try.func8
    (ChangeSpec.witness6 (enc := enc) (C := Try.checked) false ⟨#[], #[.agg #[.int .i64 0, .bool false, .int .i64 0, .slice none 0 0], .int .i64 0, .int .i64 0], []⟩ 60 (by kernel_rfl) (by kernel_rfl) (by kernel_rfl) (by kernel_rfl)) ?_
  intro W base args ds gs before hval0 hW hcnd _
  have hval : ∀ (j : Nat) t v, Try.f8.params[j]? = some t → args[j]? = some v → Value.okWide Try.prog W .any base t v := hval0
  have hW' := hW
  obtain ⟨p, q, hA0, hV, rfl, hfz, hnd⟩ := hW
  have hA : DataW.TrodAll enc Try.prog W 0 (fun _ => true) true Try.f8.params.toList args.toList ds p := hA0
  rw [Try.params8] at hA hval
  obtain ⟨v0, vs0, d0, ds0, p0, q0, hargs, rfl, rfl, h0, r0⟩ := trodAll_cons hA
  obtain ⟨v1, vs1, d1, ds1, p1, q1, rfl, rfl, rfl, h1, r1⟩ := trodAll_cons r0
  obtain ⟨v2, vs2, d2, ds2, p2, q2, rfl, rfl, rfl, h2, r2⟩ := trodAll_cons r1
  obtain ⟨rfl, rfl, rfl⟩ := trodAll_nil r2
  obtain rfl : args = #[v0, v1, v2] := by cases args; simp_all
  obtain ⟨rfl, rfl⟩ := trodVars_none hV
  obtain ⟨r, bk, k, A, n, c, l, rfl, hn_c, hn_m, hnl, hAl, hll⟩ := open_msg isMsg h0 (by kernel_rfl) (hval 0 24 v0 rfl rfl)
  obtain ⟨kd, rfl, rfl, rfl, wkd⟩ := open_int Try.underlying3 (hval 1 3 v1 rfl rfl) h1
  obtain ⟨m, rfl, rfl, rfl, wm⟩ := open_int Try.underlying3 (hval 2 3 v2 rfl rfl) h2
  refine Calls.mono (messageAnswers_any r bk k A n c l kd m W hnl hAl hn_c hll (by simp only [maxLen] at *; omega)) fun e W' hh => ?_
  obtain ⟨x, rfl, rfl, hs⟩ := hh
  exact ⟨_, rfl, post_law (tb := 4) messageAnswers_laid (by intro t ht; simp only [Try.params8, List.mem_cons, List.mem_nil_iff, or_false] at ht; rcases ht with rfl | rfl | rfl <;> exact ⟨by kernel_rfl, of_decide_eq_true (by kernel_rfl)⟩) hW' rfl rfl Try.underlying4 rfl rfl rfl hs⟩
theorem messageAnswers_holds : Rows.MessageAnswersSaid :=
  OpenClaim.holds_of_wide 8 Try.f8 rfl rfl rfl rfl rfl rfl rfl ⟨rfl, rfl, rfl, rfl, rfl⟩ rfl rfl rfl rfl rfl (by kernel_rfl) Try.func8 (by kernel_rfl)
    (of_decide_eq_true (by kernel_rfl)) (by unfold Func.isWrapper; first | (rw [if_pos (by decide +kernel)]; kernel_rfl) | (rw [if_neg (by decide +kernel)]; exact ⟨rfl, rfl⟩))
    (fun os started H enc _ => messageAnswers_lifted os started H enc)
end Go.Proofs.Ytejpcmjokamdcaa
