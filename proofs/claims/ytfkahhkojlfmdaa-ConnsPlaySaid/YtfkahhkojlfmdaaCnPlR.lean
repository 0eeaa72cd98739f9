/- The statement 'ConnsPlay' holds: whatever its arguments are, the law's call returns true, and its arguments read behind the call as they read before; no condition. -/
import Derived.Test.YtfkahhkojlfmdaaRows
import Derived.Test.YtfkahhkojlfmdaaVc6
import Derived.Test.YtfkahhkojlfmdaaCnPy
set_option linter.unusedVariables false
set_option linter.unusedSimpArgs false
namespace Go.Proofs.Ytfkahhkojlfmdaa
open Go.Vc Go.RowKit Go.ChangeShapes Go.WideShapes Go.ChangeAt


theorem key_of {cs : Array Value} (hw : CellsW cs.toList [.int .i64, .int .i64, .int .i64]) : ∃ p v c, cs = #[.int .i64 p, .int .i64 v, .int .i64 c] := by
  obtain ⟨l⟩ := cs
  have hlen := hw.length
  obtain ⟨c0, c1, c2, rfl⟩ : ∃ c0 c1 c2, l = [c0, c1, c2] := by
    rcases l with _ | ⟨c0, _ | ⟨c1, _ | ⟨c2, _ | ⟨c3, r⟩⟩⟩⟩ <;> first | exact ⟨_, _, _, rfl⟩ | (simp at hlen)
  obtain ⟨⟨a0, h0, u0⟩, ⟨a1, h1, u1⟩, ⟨a2, h2, u2⟩, u4⟩ := hw
  clear u0 u1 u2 u4
  subst h0; subst h1; subst h2
  exact ⟨a0, a1, a2, rfl⟩
theorem connsPlay_own : ownKnob Try.prog.godebug = none := by kernel_rfl
theorem connsPlay_laid : laidOutB Try.prog = true := by kernel_rfl
set_option maxRecDepth 100000 in
set_option maxHeartbeats 4000000 in
theorem connsPlay_lifted (os : Os) (started : os.Started) (H : Type) (enc : TypeId × Value → H) :
    ReturnsInHanded {} Try.checked os 7 .any (Rows.connsPlaySpec.pre6 enc Try.prog Try.f7 Rows.connsPlayRow.domain false) (Rows.connsPlaySpec.post enc Try.prog Try.f7 false true false false) := by
  refine returnsInHanded_of_change (C := Try.checked) connsPlay_own started (by kernel_rfl) Try.func7
    (ChangeSpec.witness6 (enc := enc) (C := Try.checked) false ⟨#[], #[.int .i64 0, .slice none 0 0, .agg #[.int .i64 0, .int .i64 0, .int .i64 0]], []⟩ 60 (by kernel_rfl) (by kernel_rfl) (by kernel_rfl) (by kernel_rfl)) ?_
  intro W base args ds gs before hval0 hW hcnd _
  have hval : ∀ (j : Nat) t v, Try.f7.params[j]? = some t → args[j]? = some v → Value.okWide Try.prog W .any base t v := hval0
  have hW' := hW
  obtain ⟨p, q, hA0, hV, rfl, hfz, hnd⟩ := hW
  have hA : DataW.TrodAll enc Try.prog W 0 (fun _ => true) true Try.f7.params.toList args.toList ds p := hA0
  rw [Try.params7] at hA hval
  obtain ⟨v0, vs0, d0, ds0, p0, q0, hargs, rfl, rfl, h0, r0⟩ := trodAll_cons hA
  obtain ⟨v1, vs1, d1, ds1, p1, q1, rfl, rfl, rfl, h1, r1⟩ := trodAll_cons r0
  obtain ⟨v2, vs2, d2, ds2, p2, q2, rfl, rfl, rfl, h2, r2⟩ := trodAll_cons r1
  obtain ⟨rfl, rfl, rfl⟩ := trodAll_nil r2
  obtain rfl : args = #[v0, v1, v2] := by cases args; simp_all
  obtain ⟨rfl, rfl⟩ := trodVars_none hV
  obtain ⟨room, rfl, rfl, rfl, wroom⟩ := open_int Try.underlying3 (hval 0 3 v0 rfl rfl) h0
  obtain ⟨A, n, cc, rfl, hn_le, hn_max, hFq⟩ := open_flat (dd := 9) (ls := (([.int .i64] ++ [.int .i64] ++ [.int .i64] ++ []) ++ [.int .i64] ++ [])) Try.underlying22 (by kernel_rfl) (by kernel_rfl) (by decide) (hval 1 22 v1 rfl rfl) h1
  obtain ⟨q, hA1⟩ := OpsAt.of_flat hFq
  obtain ⟨csk, rfl, hwk⟩ := open_agg (dd := 9) (ls := ([.int .i64] ++ [.int .i64] ++ [.int .i64] ++ [])) (by kernel_rfl) (hval 2 29 v2 rfl rfl) (by kernel_rfl) (by kernel_rfl) h2
  obtain ⟨kp, kv, kc, rfl⟩ := key_of hwk
  refine Calls.mono (connsPlay_any room A n cc q kp kv kc W hA1) fun e W' hh => ?_
  obtain ⟨x, rfl, rfl, hs⟩ := hh
  exact ⟨_, rfl, post_law (tb := 4) connsPlay_laid (by intro t ht; simp only [Try.params7, List.mem_cons, List.mem_nil_iff, or_false] at ht; rcases ht with rfl | rfl | rfl <;> exact ⟨by kernel_rfl, of_decide_eq_true (by kernel_rfl)⟩) hW' rfl rfl Try.underlying4 rfl rfl rfl hs⟩
theorem connsPlay_holds : Rows.ConnsPlaySaid :=
  OpenClaim.holds_of_wide 7 Try.f7 rfl rfl rfl rfl rfl rfl rfl ⟨rfl, rfl, rfl, rfl, rfl⟩ rfl rfl rfl rfl rfl (by kernel_rfl) Try.func7 (by kernel_rfl)
    (of_decide_eq_true (by kernel_rfl)) (by unfold Func.isWrapper; first | (rw [if_pos (by decide +kernel)]; kernel_rfl) | (rw [if_neg (by decide +kernel)]; exact ⟨rfl, rfl⟩))
    (fun os started H enc _ => connsPlay_lifted os started H enc)
end Go.Proofs.Ytfkahhkojlfmdaa
