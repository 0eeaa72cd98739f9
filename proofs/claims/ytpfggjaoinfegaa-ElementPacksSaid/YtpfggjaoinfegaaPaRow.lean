/- The statement 'ElementPacks' holds: whatever its arguments are, the law's call returns true, and its arguments read behind the call as they read before; no condition. -/
import Derived.Test.YtpfggjaoinfegaaRows
import Derived.Test.YtpfggjaoinfegaaVc6
import Derived.Test.YtpfggjaoinfegaaElPa
import Derived.Test.YtpfggjaoinfegaaIe5
set_option linter.unusedVariables false
set_option linter.unusedSimpArgs false
namespace Go.Proofs.Ytpfggjaoinfegaa
open Go.Vc Go.RowKit Go.ChangeShapes Go.WideShapes Go.ChangeAt

theorem isIe : IsIe Try.prog 40 := ⟨⟨_, _, _, 5, Try.underlying40, rfl, rfl, rfl, by kernel_rfl, by kernel_rfl, by kernel_rfl, by kernel_rfl, by kernel_rfl, by kernel_rfl, by kernel_rfl⟩⟩
theorem elementPacks_any (A : Option Addr) (n c : Nat) (l : List IeV) (D : Option Addr) (nD cD : Nat) (bt : List Int) (id : Int) (w : World) (hn : l.length = n) (hA : Ies w 0 w.heap.size A l) (hc : n ≤ c) (hl : ∀ x ∈ l, IeB x) (hmx : n ≤ 9223372036854775807) (hnD : bt.length = nD) (hD : Sl w w.heap.size D (iL .u8 bt)) (hcD : nD ≤ cD) (hb : Bytes bt) : CV Try.prog 5 #[.slice A n c, .slice D nD cD, .int .u8 id] w (fun x w1 => x = .bool true ∧ Step No w w1) := by
  by_cases hf : fewB l = true
  · by_cases h6 : nD ≤ 600
    · exact packs_yes A n c l D nD cD bt id w hn hA hc hl hmx hnD hD hcD hb hf (Nat.zero_le _) h6
    · exact packs_o2 A n c l D nD cD bt id w hn hA hc hl hmx hnD hD hcD hb hf (by omega)
  · exact packs_o1 A n c l D nD cD bt id w hn hA hc hl hmx hnD hD hcD hb (by simpa using hf)
theorem elementPacks_own : ownKnob Try.prog.godebug = none := by kernel_rfl
theorem elementPacks_laid : laidOutB Try.prog = true := by kernel_rfl
set_option maxRecDepth 100000 in
theorem elementPacks_lifted (os : Os) (started : os.Started) (H : Type) (enc : TypeId × Value → H) :
    ReturnsInHanded {} Try.checked os 5 .any (Rows.elementPacksSpec.pre6 enc Try.prog Try.f5 Rows.elementPacksRow.domain false) (Rows.elementPacksSpec.post enc Try.prog Try.f5 false true false false) := by
  refine returnsInHanded_of_change (C := Try.checked) elementPacks_own started (by kernel_rfl) Try.func5
    (ChangeSpec.witness6 (enc := enc) (C := Try.checked) false ⟨#[], #[.slice none 0 0, .slice none 0 0, .int .u8 0], []⟩ 60 (by kernel_rfl) (by kernel_rfl) (by kernel_rfl) (by kernel_rfl)) ?_
  intro W base args ds gs before hval0 hW hcnd _
  have hval : ∀ (j : Nat) t v, Try.f5.params[j]? = some t → args[j]? = some v → Value.okWide Try.prog W .any base t v := hval0
  have hW' := hW
  obtain ⟨p, q, hA0, hV, rfl, hfz, hnd⟩ := hW
  have hA : DataW.TrodAll enc Try.prog W 0 (fun _ => true) true Try.f5.params.toList args.toList ds p := hA0
  rw [Try.params5] at hA hval
  obtain ⟨v0, vs0, d0, ds0, p0, q0, hargs, rfl, rfl, h0, r0⟩ := trodAll_cons hA
  obtain ⟨v1, vs1, d1, ds1, p1, q1, rfl, rfl, rfl, h1, r1⟩ := trodAll_cons r0
  obtain ⟨v2, vs2, d2, ds2, p2, q2, rfl, rfl, rfl, h2, r2⟩ := trodAll_cons r1
  obtain ⟨rfl, rfl, rfl⟩ := trodAll_nil r2
  obtain rfl : args = #[v0, v1, v2] := by cases args; simp_all
  obtain ⟨rfl, rfl⟩ := trodVars_none hV
  obtain ⟨A, n, c, l, rfl, hn_c, hn_m, hnl, hAl, hll⟩ := open_ies Try.underlying22 isIe h0 (hval 0 22 v0 rfl rfl)
  obtain ⟨D, nD, cD, bt, rfl, hnD_c, hnD_m, hnbt, hbbt, hSbt⟩ := open_txt Try.underlying23 (by kernel_rfl) (by kernel_rfl) h1 (hval 1 23 v1 rfl rfl)
  obtain ⟨id, rfl, rfl, rfl, wid⟩ := open_int Try.underlying5 (hval 2 5 v2 rfl rfl) h2
  refine Calls.mono (elementPacks_any A n c l D nD cD bt id W hnl hAl hn_c hll (by simp only [maxLen] at *; omega) hnbt hSbt hnD_c hbbt) fun e W' hh => ?_
  obtain ⟨x, rfl, rfl, hs⟩ := hh
  exact ⟨_, rfl, post_law (tb := 4) elementPacks_laid (by intro t ht; simp only [Try.params5, List.mem_cons, List.mem_nil_iff, or_false] at ht; rcases ht with rfl | rfl | rfl <;> exact ⟨by kernel_rfl, of_decide_eq_true (by kernel_rfl)⟩) hW' rfl rfl Try.underlying4 rfl rfl rfl hs⟩
theorem elementPacks_holds : Rows.ElementPacksSaid :=
  OpenClaim.holds_of_wide 5 Try.f5 rfl rfl rfl rfl rfl rfl rfl ⟨rfl, rfl, rfl, rfl, rfl⟩ rfl rfl rfl rfl rfl (by kernel_rfl) Try.func5 (by kernel_rfl)
    (of_decide_eq_true (by kernel_rfl)) (by unfold Func.isWrapper; first | (rw [if_pos (by decide +kernel)]; kernel_rfl) | (rw [if_neg (by decide +kernel)]; exact ⟨rfl, rfl⟩))
    (fun os started H enc _ => elementPacks_lifted os started H enc)
end Go.Proofs.Ytpfggjaoinfegaa
