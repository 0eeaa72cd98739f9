/- The statement 'ElementOwn' holds: whatever its arguments are, the law's call returns true, and its arguments read behind the call as they read before; no condition. -/
import Derived.Test.YtpfggjaoinfegaaRows
import Derived.Test.YtpfggjaoinfegaaVc6
import Derived.Test.YtpfggjaoinfegaaElOw
import Derived.Test.YtpfggjaoinfegaaIe5
set_option linter.unusedVariables false
set_option linter.unusedSimpArgs false
namespace Go.Proofs.Ytpfggjaoinfegaa
open Go.Vc Go.RowKit Go.ChangeShapes Go.WideShapes Go.ChangeAt

theorem isIe : IsIe Try.prog 40 := ⟨⟨_, _, _, 5, Try.underlying40, rfl, rfl, rfl, by kernel_rfl, by kernel_rfl, by kernel_rfl, by kernel_rfl, by kernel_rfl, by kernel_rfl, by kernel_rfl⟩⟩
theorem elementOwn_any (A : Option Addr) (n c : Nat) (l : List IeV) (A' : Option Addr) (n' c' : Nat) (l' : List IeV) (x : Int) (w : World) (hn : l.length = n) (hA : Ies w 0 w.heap.size A l) (hc : n ≤ c) (hl : ∀ x ∈ l, IeB x) (hmx : n ≤ 9223372036854775807) (hn' : l'.length = n') (hA' : Ies w 0 w.heap.size A' l') (hc' : n' ≤ c') (hl' : ∀ x ∈ l', IeB x) (hmx' : n' ≤ 9223372036854775807) : CV Try.prog 4 #[.slice A n c, .slice A' n' c', .int .u8 x] w (fun x w1 => x = .bool true ∧ Step No w w1) := by
  by_cases hf : fewB l = true
  · by_cases hf' : fewB l' = true
    · exact own_yes A n c l A' n' c' l' x w hn hA hc hl hmx hn' hA' hc' hl' hmx' hf hf'
    · exact own_o2 A n c l A' n' c' l' x w hn hA hc hl hmx hn' hA' hc' hl' hmx' hf (by simpa using hf')
  · exact own_o1 A n c l A' n' c' l' x w hn hA hc hl hmx hn' hA' hc' hl' hmx' (by simpa using hf)
theorem elementOwn_own : ownKnob Try.prog.godebug = none := by kernel_rfl
theorem elementOwn_laid : laidOutB Try.prog = true := by kernel_rfl
set_option maxRecDepth 100000 in
theorem elementOwn_lifted (os : Os) (started : os.Started) (H : Type) (enc : TypeId × Value → H) :
    ReturnsInHanded {} Try.checked os 4 .any (Rows.elementOwnSpec.pre6 enc Try.prog Try.f4 Rows.elementOwnRow.domain false) (Rows.elementOwnSpec.post enc Try.prog Try.f4 false true false false) := by
  refine returnsInHanded_of_change (C := Try.checked) elementOwn_own started (by kernel_rfl) Try.func4
    (ChangeSpec.witness6 (enc := enc) (C := Try.checked) false ⟨#[], #[.slice none 0 0, .slice none 0 0, .int .u8 0], []⟩ 60 (by kernel_rfl) (by kernel_rfl) (by kernel_rfl) (by kernel_rfl)) ?_
  intro W base args ds gs before hval0 hW hcnd _
  have hval : ∀ (j : Nat) t v, Try.f4.params[j]? = some t → args[j]? = some v → Value.okWide Try.prog W .any base t v := hval0
  have hW' := hW
  obtain ⟨p, q, hA0, hV, rfl, hfz, hnd⟩ := hW
  have hA : DataW.TrodAll enc Try.prog W 0 (fun _ => true) true Try.f4.params.toList args.toList ds p := hA0
  rw [Try.params4] at hA hval
  obtain ⟨v0, vs0, d0, ds0, p0, q0, hargs, rfl, rfl, h0, r0⟩ := trodAll_cons hA
  obtain ⟨v1, vs1, d1, ds1, p1, q1, rfl, rfl, rfl, h1, r1⟩ := trodAll_cons r0
  obtain ⟨v2, vs2, d2, ds2, p2, q2, rfl, rfl, rfl, h2, r2⟩ := trodAll_cons r1
  obtain ⟨rfl, rfl, rfl⟩ := trodAll_nil r2
  obtain rfl : args = #[v0, v1, v2] := by cases args; simp_all
  obtain ⟨rfl, rfl⟩ := trodVars_none hV
  obtain ⟨A, n, c, l, rfl, hn_c, hn_m, hnl, hAl, hll⟩ := open_ies Try.underlying22 isIe h0 (hval 0 22 v0 rfl rfl)
  obtain ⟨A2, n2, c2, l2, rfl, hn2_c, hn2_m, hnl2, hAl2, hll2⟩ := open_ies Try.underlying22 isIe h1 (hval 1 22 v1 rfl rfl)
  obtain ⟨x, rfl, rfl, rfl, wx⟩ := open_int Try.underlying5 (hval 2 5 v2 rfl rfl) h2
  refine Calls.mono (elementOwn_any A n c l A2 n2 c2 l2 x W hnl hAl hn_c hll (by simp only [maxLen] at *; omega) hnl2 hAl2 hn2_c hll2 (by simp only [maxLen] at *; omega)) fun e W' hh => ?_
  obtain ⟨x, rfl, rfl, hs⟩ := hh
  exact ⟨_, rfl, post_law (tb := 4) elementOwn_laid (by intro t ht; simp only [Try.params4, List.mem_cons, List.mem_nil_iff, or_false] at ht; rcases ht with rfl | rfl | rfl <;> exact ⟨by kernel_rfl, of_decide_eq_true (by kernel_rfl)⟩) hW' rfl rfl Try.underlying4 rfl rfl rfl hs⟩
theorem elementOwn_holds : Rows.ElementOwnSaid :=
  OpenClaim.holds_of_wide 4 Try.f4 rfl rfl rfl rfl rfl rfl rfl ⟨rfl, rfl, rfl, rfl, rfl⟩ rfl rfl rfl rfl rfl (by kernel_rfl) Try.func4 (by kernel_rfl)
    (of_decide_eq_true (by kernel_rfl)) (by unfold Func.isWrapper; first | (rw [if_pos (by decide +kernel)]; kernel_rfl) | (rw [if_neg (by decide +kernel)]; exact ⟨rfl, rfl⟩))
    (fun os started H enc _ => elementOwn_lifted os started H enc)
end Go.Proofs.Ytpfggjaoinfegaa
