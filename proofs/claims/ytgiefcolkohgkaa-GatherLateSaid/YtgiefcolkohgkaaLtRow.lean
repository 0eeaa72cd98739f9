/- The statement 'GatherLate' holds: whatever its arguments are, the law's call returns true, and its arguments read behind the call as they read before; no condition. -/
import Derived.Test.YtgiefcolkohgkaaRows
import Derived.Test.YtgiefcolkohgkaaVc6
import Derived.Test.YtgiefcolkohgkaaGaLt
import Derived.Test.YtgiefcolkohgkaaFr10
set_option linter.unusedVariables false
set_option linter.unusedSimpArgs false
namespace Go.Proofs.Ytgiefcolkohgkaa
open Go.Vc Go.RowKit Go.ChangeShapes Go.WideShapes Go.ChangeAt

theorem gatherLate_any (A : Option Addr) (n c : Nat) (bs : List Int) (D : Option Addr) (nD cD : Nat) (bt : List Int) (cut m : Nat) (tk : Bool) (w : World) (hn : bs.length = n) (hA : Sl w w.heap.size A (iL .u8 bs)) (hc : n ≤ c) (hb : Bytes bs) (hnD : bt.length = nD) (hDs : Sl w w.heap.size D (iL .u8 bt)) (hcD : nD ≤ cD) (hbD : Bytes bt) (hcut : cut < 256) (hm : m < 65536) : CV Try.prog 6 #[.slice A n c, .slice D nD cD, .int .u8 ((cut : Nat) : Int), .int .u16 ((m : Nat) : Int), .bool tk] w (fun x w1 => x = .bool true ∧ Step No w w1) := by
  by_cases h0 : n ≤ 40
  · exact late_o1 A n c bs D nD cD bt cut m tk w hn hA hc hb hnD hDs hcD hbD hcut hm (by omega) (by omega)
  by_cases h1 : 1000 < n
  · exact late_o2 A n c bs D nD cD bt cut m tk w hn hA hc hb hnD hDs hcD hbD hcut hm (by omega)
  by_cases h2 : 1000 < nD
  · exact late_o3 A n c bs D nD cD bt cut m tk w hn hA hc hb hnD hDs hcD hbD hcut hm (by omega) (by omega) (by omega)
  by_cases h3 : nD = 0
  · exact late_o4 A n c bs D nD cD bt cut m tk w hn hA hc hb hnD hDs hcD hbD hcut hm (by omega) (by omega) (by omega) (by omega)
  exact late_yes A n c bs D nD cD bt cut m tk w hn hA hc hb hnD hDs hcD hbD hcut hm (by omega) (by omega) (by omega) (by omega)
theorem gatherLate_own : ownKnob Try.prog.godebug = none := by kernel_rfl
theorem gatherLate_laid : laidOutB Try.prog = true := by kernel_rfl
set_option maxRecDepth 100000 in
set_option maxHeartbeats 4000000 in
theorem gatherLate_lifted (os : Os) (started : os.Started) (H : Type) (enc : TypeId × Value → H) :
    ReturnsInHanded {} Try.checked os 6 .any (Rows.gatherLateSpec.pre6 enc Try.prog Try.f6 Rows.gatherLateRow.domain false) (Rows.gatherLateSpec.post enc Try.prog Try.f6 false true false false) := by
  refine returnsInHanded_of_change (C := Try.checked) gatherLate_own started (by kernel_rfl) Try.func6
    (ChangeSpec.witness6 (enc := enc) (C := Try.checked) false ⟨#[], #[.slice none 0 0, .slice none 0 0, .int .u8 0, .int .u16 0, .bool false], []⟩ 60 (by kernel_rfl) (by kernel_rfl) (by kernel_rfl) (by kernel_rfl)) ?_
  intro W base args ds gs before hval0 hW hcnd _
  have hval : ∀ (j : Nat) t v, Try.f6.params[j]? = some t → args[j]? = some v → Value.okWide Try.prog W .any base t v := hval0
  have hW' := hW
  obtain ⟨p, q, hA0, hV, rfl, hfz, hnd⟩ := hW
  have hA : DataW.TrodAll enc Try.prog W 0 (fun _ => true) true Try.f6.params.toList args.toList ds p := hA0
  rw [Try.params6] at hA hval
  obtain ⟨v0, vs0, d0, ds0, p0, q0, hargs, rfl, rfl, h0, r0⟩ := trodAll_cons hA
  obtain ⟨v1, vs1, d1, ds1, p1, q1, rfl, rfl, rfl, h1, r1⟩ := trodAll_cons r0
  obtain ⟨v2, vs2, d2, ds2, p2, q2, rfl, rfl, rfl, h2, r2⟩ := trodAll_cons r1
  obtain ⟨v3, vs3, d3, ds3, p3, q3, rfl, rfl, rfl, h3, r3⟩ := trodAll_cons r2
  obtain ⟨v4, vs4, d4, ds4, p4, q4, rfl, rfl, rfl, h4, r4⟩ := trodAll_cons r3
  obtain ⟨rfl, rfl, rfl⟩ := trodAll_nil r4
  obtain rfl : args = #[v0, v1, v2, v3, v4] := by cases args; simp_all
  obtain ⟨rfl, rfl⟩ := trodVars_none hV
  obtain ⟨A, n, c, rfl, hn_le, hn_max, hFbs⟩ := open_flat (dd := 9) (ls := [.int .u8]) Try.underlying32 (by kernel_rfl) (by kernel_rfl) (by decide) (hval 0 32 v0 rfl rfl) h0
  obtain ⟨bs, hnbs, hbbs, hSbs⟩ := Sl.of_flat hFbs
  obtain ⟨D, nD, cD, rfl, hnD_le, hnD_max, hFbt⟩ := open_flat (dd := 9) (ls := [.int .u8]) Try.underlying32 (by kernel_rfl) (by kernel_rfl) (by decide) (hval 1 32 v1 rfl rfl) h1
  obtain ⟨bt, hnbt, hbbt, hSbt⟩ := Sl.of_flat hFbt
  obtain ⟨q0, rfl, rfl, rfl, wq0⟩ := open_int Try.underlying5 (hval 2 5 v2 rfl rfl) h2
  obtain ⟨cut, rfl, hcut⟩ := u8_nat wq0
  obtain ⟨m0, rfl, rfl, rfl, wm0⟩ := open_int Try.underlying43 (hval 3 43 v3 rfl rfl) h3
  obtain ⟨m, rfl, hm⟩ := u16_nat wm0
  obtain ⟨tk, rfl, rfl, rfl⟩ := open_bool Try.underlying4 (hval 4 4 v4 rfl rfl) h4
  refine Calls.mono (gatherLate_any A n c bs D nD cD bt cut m tk W hnbs hSbs hn_le hbbs hnbt hSbt hnD_le hbbt hcut hm) fun e W' hh => ?_
  obtain ⟨x, rfl, rfl, hs⟩ := hh
  exact ⟨_, rfl, post_law (tb := 4) gatherLate_laid (by intro t ht; simp only [Try.params6, List.mem_cons, List.mem_nil_iff, or_false] at ht; rcases ht with rfl | rfl | rfl | rfl | rfl <;> exact ⟨by kernel_rfl, of_decide_eq_true (by kernel_rfl)⟩) hW' rfl rfl Try.underlying4 rfl rfl rfl hs⟩
theorem gatherLate_holds : Rows.GatherLateSaid :=
  OpenClaim.holds_of_wide 6 Try.f6 rfl rfl rfl rfl rfl rfl rfl ⟨rfl, rfl, rfl, rfl, rfl⟩ rfl rfl rfl rfl rfl (by kernel_rfl) Try.func6 (by kernel_rfl)
    (of_decide_eq_true (by kernel_rfl)) (by unfold Func.isWrapper; first | (rw [if_pos (by decide +kernel)]; kernel_rfl) | (rw [if_neg (by decide +kernel)]; exact ⟨rfl, rfl⟩))
    (fun os started H enc _ => gatherLate_lifted os started H enc)
end Go.Proofs.Ytgiefcolkohgkaa
