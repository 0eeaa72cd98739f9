import Derived.Test.YtejpcmjokamdcaaRows
import Derived.Test.YtejpcmjokamdcaaMg5
/- The statement 'MessageFrames' holds: whatever its arguments are, the law's call returns true, and its arguments read behind the call as they read before; no condition. -/
set_option linter.unusedVariables false
set_option linter.unusedSimpArgs false
namespace Go.Proofs.Ytejpcmjokamdcaa
open Go.Vc Go.RowKit Go.ChangeShapes Go.WideShapes Go.ChangeAt

theorem isIe : IsIe Try.prog 60 := ⟨⟨_, _, _, 5, Try.underlying60, rfl, rfl, rfl, by kernel_rfl, by kernel_rfl, by kernel_rfl, by kernel_rfl, by kernel_rfl, by kernel_rfl, by kernel_rfl⟩⟩
theorem isMsg : IsMsg Try.prog 24 := ⟨⟨_, _, _, _, _, 60, Try.underlying24, rfl, rfl, rfl, rfl, rfl, by kernel_rfl, by kernel_rfl, by kernel_rfl, by kernel_rfl, by kernel_rfl, by kernel_rfl, by kernel_rfl, by kernel_rfl, by kernel_rfl, isIe, by kernel_rfl⟩⟩
theorem wf_nat {x : Int} (h : (Lit.int .u16 x).wf = true) : ∃ n : Nat, x = (n : Int) ∧ n < 65536 := by
  have h0 : IntKind.u16.min = 0 := rfl
  have h1 : IntKind.u16.max = 65535 := rfl
  simp [Lit.wf] at h
  exact ⟨x.toNat, by omega, by omega⟩
theorem messageFrames_any (r : Int) (bk : Bool) (k : Int) (A : Option Addr) (n c : Nat) (l : List IeV) (q : Nat) (w : World) (hn : l.length = n) (hA : Ies w 0 w.heap.size A l) (hc : n ≤ c) (hl : ∀ x ∈ l, IeB x) (hmx : n ≤ 9223372036854775807) (hq : q < 65536) : CV Try.prog 7 #[.agg #[.int .i64 r, .bool bk, .int .i64 k, .slice A n c], .int .u16 ((q : Nat) : Int)] w (fun x w1 => x = .bool true ∧ Step No w w1) := by
  by_cases hf : fewB l = true
  · exact frames_yes r bk k A n c l q w hn hA hc hl hmx hq hf
  · exact frames_o1 r bk k A n c l q w hn hA hc hl hmx hq (by simpa using hf)
theorem messageFrames_own : ownKnob Try.prog.godebug = none := by kernel_rfl
theorem messageFrames_laid : laidOutB Try.prog = true := by kernel_rfl
set_option maxRecDepth 100000 in
set_option maxHeartbeats 4000000 in
theorem messageFrames_lifted (os : Os) (started : os.Started) (H : Type) (enc : TypeId × Value → H) :
    ReturnsInHanded {} Try.checked os 7 .any (Rows.messageFramesSpec.pre6 enc Try.prog Try.f7 Rows.messageFramesRow.domain false) (Rows.messageFramesSpec.post enc Try.prog Try.f7 false true false false) := by
  refine returnsInHanded_of_change (C := Try.checked) messageFrames_own started (by kernel_rfl) Try.func7
    (ChangeSpec.witness6 (enc := enc) (C := Try.checked) false ⟨#[], #[.agg #[.int .i64 0, .bool false, .int .i64 0, .slice none 0 0], .int .u16 0], []⟩ 60 (by kernel_rfl) (by kernel_rfl) (by kernel_rfl) (by kernel_rfl)) ?_
  intro W base args ds gs before hval0 hW hcnd _
  have hval : ∀ (j : Nat) t v, Try.f7.params[j]? = some t → args[j]? = some v → Value.okWide Try.prog W .any base t v := hval0
  have hW' := hW
  obtain ⟨p, q, hA0, hV, rfl, hfz, hnd⟩ := hW
  have hA : DataW.TrodAll enc Try.prog W 0 (fun _ => true) true Try.f7.params.toList args.toList ds p := hA0
  rw [Try.params7] at hA hval
  obtain ⟨v0, vs0, d0, ds0, p0, q0, hargs, rfl, rfl, h0, r0⟩ := trodAll_cons hA
  obtain ⟨v1, vs1, d1, ds1, p1, q1, rfl, rfl, rfl, h1, r1⟩ := trodAll_cons r0
  obtain ⟨rfl, rfl, rfl⟩ := trodAll_nil r1
  obtain rfl : args = #[v0, v1] := by cases args; simp_all
  obtain ⟨rfl, rfl⟩ := trodVars_none hV
  obtain ⟨r, bk, k, A, n, c, l, rfl, hn_c, hn_m, hnl, hAl, hll⟩ := open_msg isMsg h0 (by kernel_rfl) (hval 0 24 v0 rfl rfl)
  obtain ⟨q0, rfl, rfl, rfl, wq0⟩ := open_int Try.underlying40 (hval 1 40 v1 rfl rfl) h1
  obtain ⟨q, rfl, hq⟩ := wf_nat wq0
  refine Calls.mono (messageFrames_any r bk k A n c l q W hnl hAl hn_c hll (by simp only [maxLen] at *; omega) hq) fun e W' hh => ?_
  obtain ⟨x, rfl, rfl, hs⟩ := hh
  exact ⟨_, rfl, post_law (tb := 4) messageFrames_laid (by intro t ht; simp only [Try.params7, List.mem_cons, List.mem_nil_iff, or_false] at ht; rcases ht with rfl | rfl <;> exact ⟨by kernel_rfl, of_decide_eq_true (by kernel_rfl)⟩) hW' rfl rfl Try.underlying4 rfl rfl rfl hs⟩
theorem messageFrames_holds : Rows.MessageFramesSaid :=
  OpenClaim.holds_of_wide 7 Try.f7 rfl rfl rfl rfl rfl rfl rfl ⟨rfl, rfl, rfl, rfl, rfl⟩ rfl rfl rfl rfl rfl (by kernel_rfl) Try.func7 (by kernel_rfl)
    (of_decide_eq_true (by kernel_rfl)) (by unfold Func.isWrapper; first | (rw [if_pos (by decide +kernel)]; kernel_rfl) | (rw [if_neg (by decide +kernel)]; exact ⟨rfl, rfl⟩))
    (fun os started H enc _ => messageFrames_lifted os started H enc)
end Go.Proofs.Ytejpcmjokamdcaa
