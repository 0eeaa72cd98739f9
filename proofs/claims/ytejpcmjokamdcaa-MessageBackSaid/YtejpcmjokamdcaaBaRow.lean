/- The statement 'MessageBack' holds: whatever its arguments are, the law's call returns true, and its arguments read behind the call as they read before; no condition. -/
import Derived.Test.YtejpcmjokamdcaaRows
import Derived.Test.YtejpcmjokamdcaaVc6
import Derived.Test.YtejpcmjokamdcaaMeBa
import Derived.Test.YtejpcmjokamdcaaMe6
set_option linter.unusedVariables false
set_option linter.unusedSimpArgs false
namespace Go.Proofs.Ytejpcmjokamdcaa
open Go.Vc Go.RowKit Go.ChangeShapes Go.WideShapes Go.ChangeAt

theorem isIe : IsIe Try.prog 60 := ⟨⟨_, _, _, 5, Try.underlying60, rfl, rfl, rfl, by kernel_rfl, by kernel_rfl, by kernel_rfl, by kernel_rfl, by kernel_rfl, by kernel_rfl, by kernel_rfl⟩⟩
theorem isMsg : IsMsg Try.prog 24 := ⟨⟨_, _, _, _, _, 60, Try.underlying24, rfl, rfl, rfl, rfl, rfl, by kernel_rfl, by kernel_rfl, by kernel_rfl, by kernel_rfl, by kernel_rfl, by kernel_rfl, by kernel_rfl, by kernel_rfl, by kernel_rfl, isIe, by kernel_rfl⟩⟩
theorem wf_nat {x : Int} (h : (Lit.int .u16 x).wf = true) : ∃ n : Nat, x = (n : Int) ∧ n < 65536 := by
  have h0 : IntKind.u16.min = 0 := rfl
  have h1 : IntKind.u16.max = 65535 := rfl
  simp [Lit.wf] at h
  exact ⟨x.toNat, by omega, by omega⟩
theorem messageBack_any (r : Int) (bk : Bool) (k : Int) (A : Option Addr) (n c : Nat) (l : List IeV) (D : Option Addr) (nD cD : Nat) (bt : List Int) (q : Nat) (x : Int) (w : World) (hn : l.length = n) (hA : Ies w 0 w.heap.size A l) (hc : n ≤ c) (hl : ∀ x ∈ l, IeB x) (hmx : n ≤ 9223372036854775807) (hnD : bt.length = nD) (hD : Sl w w.heap.size D (iL .u8 bt)) (hcD : nD ≤ cD) (hb : Bytes bt) (hq : q < 65536) (hx : 0 ≤ x ∧ x < 256) : CV Try.prog 4 #[.agg #[.int .i64 r, .bool bk, .int .i64 k, .slice A n c], .slice D nD cD, .int .u16 ((q : Nat) : Int), .int .u8 x] w (fun x w1 => x = .bool true ∧ Step No w w1) := by
  by_cases hf : fewB l = true
  · by_cases h6 : nD ≤ 1500
    · exact back_yes r bk k A n c l D nD cD bt q x w hn hA hc hl hmx hnD hD hcD hb hq hx hf (Nat.zero_le _) h6
    · exact back_o2 r bk k A n c l D nD cD bt q x w hn hA hc hl hmx hnD hD hcD hb hq hx hf (by omega)
  · exact back_o1 r bk k A n c l D nD cD bt q x w hn hA hc hl hmx hnD hD hcD hb hq hx (by simpa using hf)
theorem messageBack_own : ownKnob Try.prog.godebug = none := by kernel_rfl
theorem messageBack_laid : laidOutB Try.prog = true := by kernel_rfl
set_option maxRecDepth 100000 in
set_option maxHeartbeats 4000000 in
theorem messageBack_lifted (os : Os) (started : os.Started) (H : Type) (enc : TypeId × Value → H) :
    ReturnsInHanded {} Try.checked os 4 .any (Rows.messageBackSpec.pre6 enc Try.prog Try.f4 Rows.messageBackRow.domain false) (Rows.messageBackSpec.post enc Try.prog Try.f4 false true false false) := by
  refine returnsInHanded_of_change (C := Try.checked) messageBack_own started (by kernel_rfl) Try.func4
    (ChangeSpec.witness6 (enc := enc) (C := Try.checked) false ⟨#[], #[.agg #[.int .i64 0, .bool false, .int .i64 0, .slice none 0 0], .slice none 0 0, .int .u16 0, .int .u8 0], []⟩ 60 (by kernel_rfl) (by kernel_rfl) (by kernel_rfl) (by kernel_rfl)) ?_
  intro W base args ds gs before hval0 hW hcnd _
  have hval : ∀ (j : Nat) t v, Try.f4.params[j]? = some t → args[j]? = some v → Value.okWide Try.prog W .any base t v := hval0
  have hW' := hW
  obtain ⟨p, q, hA0, hV, rfl, hfz, hnd⟩ := hW
  have hA : DataW.TrodAll enc Try.prog W 0 (fun _ => true) true Try.f4.params.toList args.toList ds p := hA0
  rw [Try.params4] at hA hval
  obtain ⟨v0, vs0, d0, ds0, p0, q0, hargs, rfl, rfl, h0, r0⟩ := trodAll_cons hA
  obtain ⟨v1, vs1, d1, ds1, p1, q1, rfl, rfl, rfl, h1, r1⟩ := trodAll_cons r0
  obtain ⟨v2, vs2, d2, ds2, p2, q2, rfl, rfl, rfl, h2, r2⟩ := trodAll_cons r1
  obtain ⟨v3, vs3, d3, ds3, p3, q3, rfl, rfl, rfl, h3, r3⟩ := trodAll_cons r2
  obtain ⟨rfl, rfl, rfl⟩ := trodAll_nil r3
  obtain rfl : args = #[v0, v1, v2, v3] := by cases args; simp_all
  obtain ⟨rfl, rfl⟩ := trodVars_none hV
  obtain ⟨r, bk, k, A, n, c, l, rfl, hn_c, hn_m, hnl, hAl, hll⟩ := open_msg isMsg h0 (by kernel_rfl) (hval 0 24 v0 rfl rfl)
  obtain ⟨D, nD, cD, bt, rfl, hnD_c, hnD_m, hnbt, hbbt, hSbt⟩ := open_txt Try.underlying25 (by kernel_rfl) (by kernel_rfl) h1 (hval 1 25 v1 rfl rfl)
  obtain ⟨q0, rfl, rfl, rfl, wq0⟩ := open_int Try.underlying40 (hval 2 40 v2 rfl rfl) h2
  obtain ⟨q, rfl, hq⟩ := wf_nat wq0
  obtain ⟨x, rfl, rfl, rfl, wx⟩ := open_int Try.underlying5 (hval 3 5 v3 rfl rfl) h3
  refine Calls.mono (messageBack_any r bk k A n c l D nD cD bt q x W hnl hAl hn_c hll (by simp only [maxLen] at *; omega) hnbt hSbt hnD_c hbbt hq (wf_u8 wx)) fun e W' hh => ?_
  obtain ⟨x, rfl, rfl, hs⟩ := hh
  exact ⟨_, rfl, post_law (tb := 4) messageBack_laid (by intro t ht; simp only [Try.params4, List.mem_cons, List.mem_nil_iff, or_false] at ht; rcases ht with rfl | rfl | rfl | rfl <;> exact ⟨by kernel_rfl, of_decide_eq_true (by kernel_rfl)⟩) hW' rfl rfl Try.underlying4 rfl rfl rfl hs⟩
theorem messageBack_holds : Rows.MessageBackSaid :=
  OpenClaim.holds_of_wide 4 Try.f4 rfl rfl rfl rfl rfl rfl rfl ⟨rfl, rfl, rfl, rfl, rfl⟩ rfl rfl rfl rfl rfl (by kernel_rfl) Try.func4 (by kernel_rfl)
    (of_decide_eq_true (by kernel_rfl)) (by unfold Func.isWrapper; first | (rw [if_pos (by decide +kernel)]; kernel_rfl) | (rw [if_neg (by decide +kernel)]; exact ⟨rfl, rfl⟩))
    (fun os started H enc _ => messageBack_lifted os started H enc)
end Go.Proofs.Ytejpcmjokamdcaa
