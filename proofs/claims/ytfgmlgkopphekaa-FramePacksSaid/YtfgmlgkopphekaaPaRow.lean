/- The statement 'FramePacks' holds: whatever its arguments are, the law's call returns true, and its arguments read behind the call as they read before; no condition. -/
import Derived.Test.YtfgmlgkopphekaaRows
import Derived.Test.YtfgmlgkopphekaaVc6
import Derived.Test.YtfgmlgkopphekaaFrPa
import Derived.Test.YtfgmlgkopphekaaFr10
set_option linter.unusedVariables false
set_option linter.unusedSimpArgs false
namespace Go.Proofs.Ytfgmlgkopphekaa
open Go.Vc Go.RowKit Go.ChangeShapes Go.WideShapes Go.ChangeAt

theorem framePacks_any (A : Option Addr) (n c : Nat) (bs : List Int) (m : Int) (D : Option Addr) (nD cD : Nat) (bt : List Int) (w : World) (hn : bs.length = n) (hA : Sl w w.heap.size A (iL .u8 bs)) (hc : n ≤ c) (hb : Bytes bs) (hm : 0 ≤ m ∧ m < 256) (hnD : bt.length = nD) (hD : Sl w w.heap.size D (iL .u8 bt)) (hcD : nD ≤ cD) (hbD : Bytes bt) : CV Try.prog 3 #[.slice A n c, .int .u8 m, .slice D nD cD] w (fun x w1 => x = .bool true ∧ Step No w w1) := by
  by_cases h0 : 2000 < n
  · exact packs_o2 A n c bs m D nD cD bt w hn hA hc hb hm hnD hD hcD hbD (by omega)
  by_cases h1 : 400 < n ∧ n ≤ 1000
  · exact packs_o1 A n c bs m D nD cD bt w hn hA hc hb hm hnD hD hcD hbD (by omega) (by omega)
  by_cases h2 : 400 < nD
  · by_cases h3 : n ≤ 400
    · exact packs_o3 A n c bs m D nD cD bt w hn hA hc hb hm hnD hD hcD hbD (by omega) (by omega) (by omega)
    · exact packs_o4 A n c bs m D nD cD bt w hn hA hc hb hm hnD hD hcD hbD (by omega) (by omega) (by omega)
  by_cases h4 : n = 0
  · exact packs_0 A n c bs m D nD cD bt w hn hA hc hb hm hnD hD hcD hbD (by omega) (by omega) (by omega) (by omega)
  by_cases h5 : n ≤ 400
  · exact packs_yes A n c bs m D nD cD bt w hn hA hc hb hm hnD hD hcD hbD (by omega) (by omega) (by omega) (by omega)
  exact packs_long A n c bs m D nD cD bt w hn hA hc hb hm hnD hD hcD hbD (by omega) (by omega) (by omega) (by omega)
theorem framePacks_own : ownKnob Try.prog.godebug = none := by kernel_rfl
theorem framePacks_laid : laidOutB Try.prog = true := by kernel_rfl
set_option maxRecDepth 100000 in
theorem framePacks_lifted (os : Os) (started : os.Started) (H : Type) (enc : TypeId × Value → H) :
    ReturnsInHanded {} Try.checked os 3 .any (Rows.framePacksSpec.pre6 enc Try.prog Try.f3 Rows.framePacksRow.domain false) (Rows.framePacksSpec.post enc Try.prog Try.f3 false true false false) := by
  refine returnsInHanded_of_change (C := Try.checked) framePacks_own started (by kernel_rfl) Try.func3
    (ChangeSpec.witness6 (enc := enc) (C := Try.checked) false ⟨#[], #[.slice none 0 0, .int .u8 0, .slice none 0 0], []⟩ 60 (by kernel_rfl) (by kernel_rfl) (by kernel_rfl) (by kernel_rfl)) ?_
  intro W base args ds gs before hval0 hW hcnd _
  have hval : ∀ (j : Nat) t v, Try.f3.params[j]? = some t → args[j]? = some v → Value.okWide Try.prog W .any base t v := hval0
  have hW' := hW
  obtain ⟨p, q, hA0, hV, rfl, hfz, hnd⟩ := hW
  have hA : DataW.TrodAll enc Try.prog W 0 (fun _ => true) true Try.f3.params.toList args.toList ds p := hA0
  rw [Try.params3] at hA hval
  obtain ⟨v0, vs0, d0, ds0, p0, q0, hargs, rfl, rfl, h0, r0⟩ := trodAll_cons hA
  obtain ⟨v1, vs1, d1, ds1, p1, q1, rfl, rfl, rfl, h1, r1⟩ := trodAll_cons r0
  obtain ⟨v2, vs2, d2, ds2, p2, q2, rfl, rfl, rfl, h2, r2⟩ := trodAll_cons r1
  obtain ⟨rfl, rfl, rfl⟩ := trodAll_nil r2
  obtain rfl : args = #[v0, v1, v2] := by cases args; simp_all
  obtain ⟨rfl, rfl⟩ := trodVars_none hV
  obtain ⟨A, n, c, rfl, hn_le, hn_max, hFbs⟩ := open_flat (dd := 9) (ls := [.int .u8]) Try.underlying22 (by kernel_rfl) (by kernel_rfl) (by decide) (hval 0 22 v0 rfl rfl) h0
  obtain ⟨bs, hnbs, hbbs, hSbs⟩ := Sl.of_flat hFbs
  obtain ⟨m, rfl, rfl, rfl, wm⟩ := open_int Try.underlying5 (hval 1 5 v1 rfl rfl) h1
  obtain ⟨D, nD, cD, rfl, hnD_le, hnD_max, hFbt⟩ := open_flat (dd := 9) (ls := [.int .u8]) Try.underlying22 (by kernel_rfl) (by kernel_rfl) (by decide) (hval 2 22 v2 rfl rfl) h2
  obtain ⟨bt, hnbt, hbbt, hSbt⟩ := Sl.of_flat hFbt
  refine Calls.mono (framePacks_any A n c bs m D nD cD bt W hnbs hSbs hn_le hbbs (u8_rng wm) hnbt hSbt hnD_le hbbt) fun e W' hh => ?_
  obtain ⟨x, rfl, rfl, hs⟩ := hh
  exact ⟨_, rfl, post_law (tb := 4) framePacks_laid (by intro t ht; simp only [Try.params3, List.mem_cons, List.mem_nil_iff, or_false] at ht; rcases ht with rfl | rfl | rfl <;> exact ⟨by kernel_rfl, of_decide_eq_true (by kernel_rfl)⟩) hW' rfl rfl Try.underlying4 rfl rfl rfl hs⟩
theorem framePacks_holds : Rows.FramePacksSaid :=
  OpenClaim.holds_of_wide 3 Try.f3 rfl rfl rfl rfl rfl rfl rfl ⟨rfl, rfl, rfl, rfl, rfl⟩ rfl rfl rfl rfl rfl (by kernel_rfl) Try.func3 (by kernel_rfl)
    (of_decide_eq_true (by kernel_rfl)) (by unfold Func.isWrapper; first | (rw [if_pos (by decide +kernel)]; kernel_rfl) | (rw [if_neg (by decide +kernel)]; exact ⟨rfl, rfl⟩))
    (fun os started H enc _ => framePacks_lifted os started H enc)
end Go.Proofs.Ytfgmlgkopphekaa
