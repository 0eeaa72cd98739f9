/- The statement 'OamOnce' holds: whatever its arguments are, the law's call returns true, and its arguments read behind the call as they read before; no condition. -/
import Derived.Test.YteipakmfiiccpaaRows
import Derived.Test.YteipakmfiiccpaaVc6
import Derived.Test.YteipakmfiiccpaaOmOn
import Derived.Test.YteipakmfiiccpaaOm10
set_option linter.unusedVariables false
set_option linter.unusedSimpArgs false
namespace Go.Proofs.Yteipakmfiiccpaa
open Go.Vc Go.RowKit Go.ChangeShapes Go.WideShapes Go.ChangeAt

theorem oamOnce_any (o : Om) (here there : Nat → Int) (w : World) (hoA : OmOk o) (hh : inByte here) : CV Try.prog 8 #[.agg (omL o).toArray, .agg (pl here).toArray, .agg (pl there).toArray] w (fun x w1 => x = .bool true ∧ Step No w w1) := by
  cases hr : replyB o here
  · exact once_no o here there w hoA hh hr
  · exact once_yes o here there w hoA hh hr
theorem oamOnce_own : ownKnob Try.prog.godebug = none := by kernel_rfl
theorem oamOnce_laid : laidOutB Try.prog = true := by kernel_rfl
set_option maxRecDepth 100000 in
theorem oamOnce_lifted (os : Os) (started : os.Started) (H : Type) (enc : TypeId × Value → H) :
    ReturnsInHanded {} Try.checked os 8 .any (Rows.oamOnceSpec.pre6 enc Try.prog Try.f8 Rows.oamOnceRow.domain false) (Rows.oamOnceSpec.post enc Try.prog Try.f8 false true false false) := by
  refine returnsInHanded_of_change (C := Try.checked) oamOnce_own started (by kernel_rfl) Try.func8
    (ChangeSpec.witness6 (enc := enc) (C := Try.checked) false ⟨#[], #[.agg #[.int .i64 0, .int .u8 0, .bool false, .int .u32 0, .int .u8 0, .int .u8 0, .int .u8 0, .int .u8 0, .int .u8 0, .int .u8 0, .int .u8 0, .int .u8 0, .int .u8 0, .int .u8 0, .int .u8 0, .int .u8 0, .int .u8 0, .int .u8 0, .int .u8 0, .int .u8 0, .int .u8 0, .int .u8 0, .int .u8 0, .int .u8 0, .int .u8 0, .int .u8 0, .int .u8 0, .int .u8 0, .int .u8 0, .int .u8 0, .int .u8 0, .int .u8 0, .int .u8 0, .int .u8 0, .int .u8 0, .int .u8 0], .agg #[.int .u8 0, .int .u8 0, .int .u8 0, .int .u8 0, .int .u8 0, .int .u8 0, .int .u8 0, .int .u8 0, .int .u8 0, .int .u8 0, .int .u8 0, .int .u8 0, .int .u8 0, .int .u8 0, .int .u8 0, .int .u8 0], .agg #[.int .u8 0, .int .u8 0, .int .u8 0, .int .u8 0, .int .u8 0, .int .u8 0, .int .u8 0, .int .u8 0, .int .u8 0, .int .u8 0, .int .u8 0, .int .u8 0, .int .u8 0, .int .u8 0, .int .u8 0, .int .u8 0]], []⟩ 60 (by kernel_rfl) (by kernel_rfl) (by kernel_rfl) (by kernel_rfl)) ?_
  intro W base args ds gs before hval0 hW hcnd _
  have hval : ∀ (j : Nat) t v, Try.f8.params[j]? = some t → args[j]? = some v → Value.okWide Try.prog W .any base t v := hval0
  have hW' := hW
  obtain ⟨p, q, hA0, hV, rfl, hfz, hnd⟩ := hW
  have hA : DataW.TrodAll enc Try.prog W 0 (fun _ => true) true Try.f8.params.toList args.toList ds p := hA0
  rw [Try.params8] at hA hval
  obtain ⟨v0, vs0, d0, ds0, p0, q0, hargs, rfl, rfl, h0, r0⟩ := trodAll_cons hA
  obtain ⟨v1, vs1, d1, ds1, p1, q1, rfl, rfl, rfl, h1, r1⟩ := trodAll_cons r0
  obtain ⟨v2, vs2, d2, ds2, p2, q2, rfl, rfl, rfl, h2, r2⟩ := trodAll_cons r1
  obtain ⟨rfl, rfl, rfl⟩ := trodAll_nil r2
  obtain rfl : args = #[v0, v1, v2] := by cases args; simp_all
  obtain ⟨rfl, rfl⟩ := trodVars_none hV
  obtain ⟨cso, rfl, hco⟩ := open_agg (dd := 9) (ls := ([.int .i64] ++ [.int .u8] ++ [.bool] ++ [.int .u32] ++ (rep 16 [.int .u8]) ++ (rep 16 [.int .u8]) ++ [])) (by kernel_rfl) (hval 0 25 v0 rfl rfl) (by kernel_rfl) (by kernel_rfl) h0
  obtain ⟨o, rfl, ho⟩ := om14_arr hco
  obtain ⟨cshere, rfl, hchere⟩ := open_agg (dd := 9) (ls := (rep 16 [.int .u8])) (by kernel_rfl) (hval 1 23 v1 rfl rfl) (by kernel_rfl) (by kernel_rfl) h1
  obtain ⟨here, rfl, hbhere⟩ := pl14_arr hchere
  obtain ⟨csthere, rfl, hcthere⟩ := open_agg (dd := 9) (ls := (rep 16 [.int .u8])) (by kernel_rfl) (hval 2 23 v2 rfl rfl) (by kernel_rfl) (by kernel_rfl) h2
  obtain ⟨there, rfl, hbthere⟩ := pl14_arr hcthere
  refine Calls.mono (oamOnce_any o here there W ho hbhere) fun e W' hh => ?_
  obtain ⟨x, rfl, rfl, hs⟩ := hh
  exact ⟨_, rfl, post_law (tb := 4) oamOnce_laid (by intro t ht; simp only [Try.params8, List.mem_cons, List.mem_nil_iff, or_false] at ht; rcases ht with rfl | rfl | rfl <;> exact ⟨by kernel_rfl, of_decide_eq_true (by kernel_rfl)⟩) hW' rfl rfl Try.underlying4 rfl rfl rfl hs⟩
theorem oamOnce_holds : Rows.OamOnceSaid :=
  OpenClaim.holds_of_wide 8 Try.f8 rfl rfl rfl rfl rfl rfl rfl ⟨rfl, rfl, rfl, rfl, rfl⟩ rfl rfl rfl rfl rfl (by kernel_rfl) Try.func8 (by kernel_rfl)
    (of_decide_eq_true (by kernel_rfl)) (by unfold Func.isWrapper; first | (rw [if_pos (by decide +kernel)]; kernel_rfl) | (rw [if_neg (by decide +kernel)]; exact ⟨rfl, rfl⟩))
    (fun os started H enc _ => oamOnce_lifted os started H enc)
end Go.Proofs.Yteipakmfiiccpaa
