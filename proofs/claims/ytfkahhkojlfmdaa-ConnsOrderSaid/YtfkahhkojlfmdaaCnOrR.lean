/- The statement 'ConnsOrder' holds: whatever its arguments are, the law's call returns true, and its arguments read behind the call as they read before; no condition. -/
import Derived.Test.YtfkahhkojlfmdaaRows
import Derived.Test.YtfkahhkojlfmdaaVc6
import Derived.Test.YtfkahhkojlfmdaaCnOr
set_option linter.unusedVariables false
set_option linter.unusedSimpArgs false
namespace Go.Proofs.Ytfkahhkojlfmdaa
open Go.Vc Go.RowKit Go.ChangeShapes Go.WideShapes Go.ChangeAt

theorem u8_nat {x : Int} (h : (Lit.int .u8 x).wf = true) : ∃ n : Nat, x = (n : Int) ∧ n < 256 := by
  have h0 : IntKind.u8.min = 0 := rfl
  have h1 : IntKind.u8.max = 255 := rfl
  simp [Lit.wf] at h
  exact ⟨x.toNat, by omega, by omega⟩
theorem key_of {cs : Array Value} (hw : CellsW cs.toList [.int .i64, .int .i64, .int .i64]) : ∃ p v c, cs = #[.int .i64 p, .int .i64 v, .int .i64 c] := by
  obtain ⟨l⟩ := cs
  have hlen := hw.length
  obtain ⟨c0, c1, c2, rfl⟩ : ∃ c0 c1 c2, l = [c0, c1, c2] := by
    rcases l with _ | ⟨c0, _ | ⟨c1, _ | ⟨c2, _ | ⟨c3, r⟩⟩⟩⟩ <;> first | exact ⟨_, _, _, rfl⟩ | (simp at hlen)
  obtain ⟨⟨a0, h0, u0⟩, ⟨a1, h1, u1⟩, ⟨a2, h2, u2⟩, u4⟩ := hw
  clear u0 u1 u2 u4
  subst h0; subst h1; subst h2
  exact ⟨a0, a1, a2, rfl⟩
theorem connsOrder_own : ownKnob Try.prog.godebug = none := by kernel_rfl
theorem connsOrder_laid : laidOutB Try.prog = true := by kernel_rfl
set_option maxRecDepth 100000 in
set_option maxHeartbeats 4000000 in
theorem connsOrder_lifted (os : Os) (started : os.Started) (H : Type) (enc : TypeId × Value → H) :
    ReturnsInHanded {} Try.checked os 6 .any (Rows.connsOrderSpec.pre6 enc Try.prog Try.f6 Rows.connsOrderRow.domain false) (Rows.connsOrderSpec.post enc Try.prog Try.f6 false true false false) := by
  refine returnsInHanded_of_change (C := Try.checked) connsOrder_own started (by kernel_rfl) Try.func6
    (ChangeSpec.witness6 (enc := enc) (C := Try.checked) false ⟨#[], #[.slice none 0 0, .agg #[.int .i64 0, .int .i64 0, .int .i64 0], .agg #[.int .i64 0, .int .i64 0, .int .i64 0], .agg #[.int .i64 0, .int .i64 0, .int .i64 0], .int .u8 0], []⟩ 60 (by kernel_rfl) (by kernel_rfl) (by kernel_rfl) (by kernel_rfl)) ?_
  intro W base args ds gs before hval0 hW hcnd _
  have hval : ∀ (j : Nat) t v, Try.f6.params[j]? = some t → args[j]? = some v → Value.okWide Try.prog W .any base t v := hval0
  have hW' := hW
  obtain ⟨p, q, hA0, hV, rfl, hfz, hnd⟩ := hW
  have hA : DataW.TrodAll enc Try.prog W 0 (fun _ => true) true Try.f6.params.toList args.toList ds p := hA0
  rw [Try.params6] at hA hval
  obtain ⟨v0, vs0, d0, ds0, p0, q0, hargs, rfl, rfl, h0, r0⟩ := trodAll_cons hA
  obtain ⟨v1, vs1, d1, ds1, p1, q1, rfl, rfl, rfl, h1, r1⟩ := trodAll_cons r0
  obtain ⟨v2, vs2, d2, ds2, p2, q2, rfl, rfl, rfl, h2, r2⟩ := trodAll_cons r1
  obtain ⟨v3, vs3, d3, ds3, p3, q3, rfl, rfl, rfl, h3, r3⟩ := trodAll_cons r2
  obtain ⟨v4, vs4, d4, ds4, p4, q4, rfl, rfl, rfl, h4, r4⟩ := trodAll_cons r3
  obtain ⟨rfl, rfl, rfl⟩ := trodAll_nil r4
  obtain rfl : args = #[v0, v1, v2, v3, v4] := by cases args; simp_all
  obtain ⟨rfl, rfl⟩ := trodVars_none hV
  obtain ⟨A, n, cc, rfl, hn_le, hn_max, hFq⟩ := open_flat (dd := 9) (ls := (([.int .i64] ++ [.int .i64] ++ [.int .i64] ++ []) ++ [.int .i64] ++ [])) Try.underlying22 (by kernel_rfl) (by kernel_rfl) (by decide) (hval 0 22 v0 rfl rfl) h0
  obtain ⟨q, hA1⟩ := OpsAt.of_flat hFq
  obtain ⟨csa, rfl, hwa⟩ := open_agg (dd := 9) (ls := ([.int .i64] ++ [.int .i64] ++ [.int .i64] ++ [])) (by kernel_rfl) (hval 1 29 v1 rfl rfl) (by kernel_rfl) (by kernel_rfl) h1
  obtain ⟨ap, av, ac, rfl⟩ := key_of hwa
  obtain ⟨csb, rfl, hwb⟩ := open_agg (dd := 9) (ls := ([.int .i64] ++ [.int .i64] ++ [.int .i64] ++ [])) (by kernel_rfl) (hval 2 29 v2 rfl rfl) (by kernel_rfl) (by kernel_rfl) h2
  obtain ⟨bp, bv, bc, rfl⟩ := key_of hwb
  obtain ⟨csd, rfl, hwd⟩ := open_agg (dd := 9) (ls := ([.int .i64] ++ [.int .i64] ++ [.int .i64] ++ [])) (by kernel_rfl) (hval 3 29 v3 rfl rfl) (by kernel_rfl) (by kernel_rfl) h3
  obtain ⟨dp, dv, dc, rfl⟩ := key_of hwd
  obtain ⟨e0, rfl, rfl, rfl, we0⟩ := open_int Try.underlying5 (hval 4 5 v4 rfl rfl) h4
  obtain ⟨ea, rfl, hea⟩ := u8_nat we0
  refine Calls.mono (connsOrder_any A n cc q ap av ac bp bv bc dp dv dc ea hea W hA1) fun e W' hh => ?_
  obtain ⟨x, rfl, rfl, hs⟩ := hh
  exact ⟨_, rfl, post_law (tb := 4) connsOrder_laid (by intro t ht; simp only [Try.params6, List.mem_cons, List.mem_nil_iff, or_false] at ht; rcases ht with rfl | rfl | rfl | rfl | rfl <;> exact ⟨by kernel_rfl, of_decide_eq_true (by kernel_rfl)⟩) hW' rfl rfl Try.underlying4 rfl rfl rfl hs⟩
theorem connsOrder_holds : Rows.ConnsOrderSaid :=
  OpenClaim.holds_of_wide 6 Try.f6 rfl rfl rfl rfl rfl rfl rfl ⟨rfl, rfl, rfl, rfl, rfl⟩ rfl rfl rfl rfl rfl (by kernel_rfl) Try.func6 (by kernel_rfl)
    (of_decide_eq_true (by kernel_rfl)) (by unfold Func.isWrapper; first | (rw [if_pos (by decide +kernel)]; kernel_rfl) | (rw [if_neg (by decide +kernel)]; exact ⟨rfl, rfl⟩))
    (fun os started H enc _ => connsOrder_lifted os started H enc)
end Go.Proofs.Ytfkahhkojlfmdaa
