/- The statement 'GatherLong' holds: whatever its arguments are, the law's call returns true, and its arguments read behind the call as they read before; no condition. -/
import Derived.Test.YtgiefcolkohgkaaRows
import Derived.Test.YtgiefcolkohgkaaVc6
import Derived.Test.YtgiefcolkohgkaaGaLg
import Derived.Test.YtgiefcolkohgkaaFr10
import Derived.Test.YtgiefcolkohgkaaFr18
set_option linter.unusedVariables false
set_option linter.unusedSimpArgs false
namespace Go.Proofs.Ytgiefcolkohgkaa
open Go.Vc Go.RowKit Go.ChangeShapes Go.WideShapes Go.ChangeAt

theorem gatherLong_any (ps : List Int) (my : Nat) (D : Option Addr) (nD cD : Nat) (bt : List Int) (w : World) (hps : ps.length = 48) (hbp : Bytes ps) (hmy : my < 256) (hnD : bt.length = nD) (hDs : Sl w w.heap.size D (iL .u8 bt)) (hcD : nD ≤ cD) (hbD : Bytes bt) : CV Try.prog 8 #[.agg (iA .u8 ps), .int .u8 ((my : Nat) : Int), .slice D nD cD] w (fun x w1 => x = .bool true ∧ Step No w w1) := by
  by_cases h2 : 1000 < nD
  · exact long_o3 ps my D nD cD bt w hps hbp hmy hnD hDs hcD hbD (by omega)
  by_cases h3 : nD = 0
  · exact long_o4 ps my D nD cD bt w hps hbp hmy hnD hDs hcD hbD (by omega) (by omega)
  exact long_yes ps my D nD cD bt w hps hbp hmy hnD hDs hcD hbD (by omega) (by omega)
theorem gatherLong_own : ownKnob Try.prog.godebug = none := by kernel_rfl
theorem gatherLong_laid : laidOutB Try.prog = true := by kernel_rfl
set_option maxRecDepth 100000 in
set_option maxHeartbeats 4000000 in
theorem gatherLong_lifted (os : Os) (started : os.Started) (H : Type) (enc : TypeId × Value → H) :
    ReturnsInHanded {} Try.checked os 8 .any (Rows.gatherLongSpec.pre6 enc Try.prog Try.f8 Rows.gatherLongRow.domain false) (Rows.gatherLongSpec.post enc Try.prog Try.f8 false true false false) := by
  refine returnsInHanded_of_change (C := Try.checked) gatherLong_own started (by kernel_rfl) Try.func8
    (ChangeSpec.witness6 (enc := enc) (C := Try.checked) false ⟨#[], #[.agg #[.int .u8 0, .int .u8 0, .int .u8 0, .int .u8 0, .int .u8 0, .int .u8 0, .int .u8 0, .int .u8 0, .int .u8 0, .int .u8 0, .int .u8 0, .int .u8 0, .int .u8 0, .int .u8 0, .int .u8 0, .int .u8 0, .int .u8 0, .int .u8 0, .int .u8 0, .int .u8 0, .int .u8 0, .int .u8 0, .int .u8 0, .int .u8 0, .int .u8 0, .int .u8 0, .int .u8 0, .int .u8 0, .int .u8 0, .int .u8 0, .int .u8 0, .int .u8 0, .int .u8 0, .int .u8 0, .int .u8 0, .int .u8 0, .int .u8 0, .int .u8 0, .int .u8 0, .int .u8 0, .int .u8 0, .int .u8 0, .int .u8 0, .int .u8 0, .int .u8 0, .int .u8 0, .int .u8 0, .int .u8 0], .int .u8 0, .slice none 0 0], []⟩ 60 (by kernel_rfl) (by kernel_rfl) (by kernel_rfl) (by kernel_rfl)) ?_
  intro W base args ds gs before hval0 hW hcnd _
  have hval : ∀ (j : Nat) t v, Try.f8.params[j]? = some t → args[j]? = some v → Value.okWide Try.prog W .any base t v := hval0
  have hW' := hW
  obtain ⟨p, q, hA0, hV, rfl, hfz, hnd⟩ := hW
  have hA : DataW.TrodAll enc Try.prog W 0 (fun _ => true) true Try.f8.params.toList args.toList ds p := hA0
  rw [Try.params8] at hA hval
  obtain ⟨v0, vs0, d0, ds0, p0, q0, hargs, rfl, rfl, h0, r0⟩ := trodAll_cons hA
  obtain ⟨v1, vs1, d1, ds1, p1, q1, rfl, rfl, rfl, h1, r1⟩ := trodAll_cons r0
  obtain ⟨v2, vs2, d2, ds2, p2, q2, rfl, rfl, rfl, h2, r2⟩ := trodAll_cons r1
  obtain ⟨rfl, rfl, rfl⟩ := trodAll_nil r2
  obtain rfl : args = #[v0, v1, v2] := by cases args; simp_all
  obtain ⟨rfl, rfl⟩ := trodVars_none hV
  obtain ⟨csps, rfl, hcps⟩ := open_agg (dd := 9) (ls := (rep 48 [.int .u8])) (by kernel_rfl) (hval 0 28 v0 rfl rfl) (by kernel_rfl) (by kernel_rfl) h0
  obtain ⟨ps, rfl, hnps, hbps⟩ := bytes_arr hcps
  obtain ⟨q0, rfl, rfl, rfl, wq0⟩ := open_int Try.underlying5 (hval 1 5 v1 rfl rfl) h1
  obtain ⟨my, rfl, hmy⟩ := u8_nat wq0
  obtain ⟨D, nD, cD, rfl, hnD_le, hnD_max, hFbt⟩ := open_flat (dd := 9) (ls := [.int .u8]) Try.underlying32 (by kernel_rfl) (by kernel_rfl) (by decide) (hval 2 32 v2 rfl rfl) h2
  obtain ⟨bt, hnbt, hbbt, hSbt⟩ := Sl.of_flat hFbt
  refine Calls.mono (gatherLong_any ps my D nD cD bt W hnps hbps hmy hnbt hSbt hnD_le hbbt) fun e W' hh => ?_
  obtain ⟨x, rfl, rfl, hs⟩ := hh
  exact ⟨_, rfl, post_law (tb := 4) gatherLong_laid (by intro t ht; simp only [Try.params8, List.mem_cons, List.mem_nil_iff, or_false] at ht; rcases ht with rfl | rfl | rfl <;> exact ⟨by kernel_rfl, of_decide_eq_true (by kernel_rfl)⟩) hW' rfl rfl Try.underlying4 rfl rfl rfl hs⟩
theorem gatherLong_holds : Rows.GatherLongSaid :=
  OpenClaim.holds_of_wide 8 Try.f8 rfl rfl rfl rfl rfl rfl rfl ⟨rfl, rfl, rfl, rfl, rfl⟩ rfl rfl rfl rfl rfl (by kernel_rfl) Try.func8 (by kernel_rfl)
    (of_decide_eq_true (by kernel_rfl)) (by unfold Func.isWrapper; first | (rw [if_pos (by decide +kernel)]; kernel_rfl) | (rw [if_neg (by decide +kernel)]; exact ⟨rfl, rfl⟩))
    (fun os started H enc _ => gatherLong_lifted os started H enc)
end Go.Proofs.Ytgiefcolkohgkaa
