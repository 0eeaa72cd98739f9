/- The statement 'FrameBursts' holds: whatever its arguments are, the law's call returns true, and its arguments read behind the call as they read before; no condition. -/
import Derived.Test.YtfgmlgkopphekaaRows
import Derived.Test.YtfgmlgkopphekaaVc6
import Derived.Test.YtfgmlgkopphekaaFrBu
import Derived.Test.YtfgmlgkopphekaaFr18
set_option linter.unusedVariables false
set_option linter.unusedSimpArgs false
namespace Go.Proofs.Ytfgmlgkopphekaa
open Go.Vc Go.RowKit Go.ChangeShapes Go.WideShapes Go.ChangeAt

theorem frameBursts_any (A : Option Addr) (n c : Nat) (bs : List Int) (m : Int) (q y : Nat) (mo : List Int) (w : World) (hn : bs.length = n) (hA : Sl w w.heap.size A (iL .u8 bs)) (hc : n ≤ c) (hb : Bytes bs) (hm : 0 ≤ m ∧ m < 256) (hq : q < 18446744073709551616) (hy : y < 4294967296) (hmo : mo.length = 48) (hbm : Bytes mo) : CV Try.prog 6 #[.slice A n c, .int .u8 m, .int .u64 ((q : Nat) : Int), .int .u32 ((y : Nat) : Int), .agg (iA .u8 mo)] w (fun x w1 => x = .bool true ∧ Step No w w1) := by
  by_cases h0 : 400 < n
  · exact bursts_o A n c bs m q y mo w hn hA hc hb hm hq hy hmo hbm (by omega)
  by_cases h1 : n = 0
  · exact bursts_0 A n c bs m q y mo w hn hA hc hb hm hq hy hmo hbm (by omega) (by omega)
  exact bursts_yes A n c bs m q y mo w hn hA hc hb hm hq hy hmo hbm (by omega) (by omega)
theorem frameBursts_own : ownKnob Try.prog.godebug = none := by kernel_rfl
theorem frameBursts_laid : laidOutB Try.prog = true := by kernel_rfl
set_option maxRecDepth 100000 in
theorem frameBursts_lifted (os : Os) (started : os.Started) (H : Type) (enc : TypeId × Value → H) :
    ReturnsInHanded {} Try.checked os 6 .any (Rows.frameBurstsSpec.pre6 enc Try.prog Try.f6 Rows.frameBurstsRow.domain false) (Rows.frameBurstsSpec.post enc Try.prog Try.f6 false true false false) := by
  refine returnsInHanded_of_change (C := Try.checked) frameBursts_own started (by kernel_rfl) Try.func6
    (ChangeSpec.witness6 (enc := enc) (C := Try.checked) false ⟨#[], #[.slice none 0 0, .int .u8 0, .int .u64 0, .int .u32 0, .agg #[.int .u8 0, .int .u8 0, .int .u8 0, .int .u8 0, .int .u8 0, .int .u8 0, .int .u8 0, .int .u8 0, .int .u8 0, .int .u8 0, .int .u8 0, .int .u8 0, .int .u8 0, .int .u8 0, .int .u8 0, .int .u8 0, .int .u8 0, .int .u8 0, .int .u8 0, .int .u8 0, .int .u8 0, .int .u8 0, .int .u8 0, .int .u8 0, .int .u8 0, .int .u8 0, .int .u8 0, .int .u8 0, .int .u8 0, .int .u8 0, .int .u8 0, .int .u8 0, .int .u8 0, .int .u8 0, .int .u8 0, .int .u8 0, .int .u8 0, .int .u8 0, .int .u8 0, .int .u8 0, .int .u8 0, .int .u8 0, .int .u8 0, .int .u8 0, .int .u8 0, .int .u8 0, .int .u8 0, .int .u8 0]], []⟩ 60 (by kernel_rfl) (by kernel_rfl) (by kernel_rfl) (by kernel_rfl)) ?_
  intro W base args ds gs before hval0 hW hcnd _
  have hval : ∀ (j : Nat) t v, Try.f6.params[j]? = some t → args[j]? = some v → Value.okWide Try.prog W .any base t v := hval0
  have hW' := hW
  obtain ⟨p, q, hA0, hV, rfl, hfz, hnd⟩ := hW
  have hA : DataW.TrodAll enc Try.prog W 0 (fun _ => true) true Try.f6.params.toList args.toList ds p := hA0
  rw [Try.params6] at hA hval
  obtain ⟨v0, vs0, d0, ds0, p0, q0, hargs, rfl, rfl, h0, r0⟩ := trodAll_cons hA
  obtain ⟨v1, vs1, d1, ds1, p1, q1, rfl, rfl, rfl, h1, r1⟩ := trodAll_cons r0
  obtain ⟨v2, vs2, d2, ds2, p2, q2, rfl, rfl, rfl, h2, r2⟩ := trodAll_cons r1
  obtain ⟨v3, vs3, d3, ds3, p3, q3, rfl, rfl, rfl, h3, r3⟩ := trodAll_cons r2
  obtain ⟨v4, vs4, d4, ds4, p4, q4, rfl, rfl, rfl, h4, r4⟩ := trodAll_cons r3
  obtain ⟨rfl, rfl, rfl⟩ := trodAll_nil r4
  obtain rfl : args = #[v0, v1, v2, v3, v4] := by cases args; simp_all
  obtain ⟨rfl, rfl⟩ := trodVars_none hV
  obtain ⟨A, n, c, rfl, hn_le, hn_max, hFbs⟩ := open_flat (dd := 9) (ls := [.int .u8]) Try.underlying22 (by kernel_rfl) (by kernel_rfl) (by decide) (hval 0 22 v0 rfl rfl) h0
  obtain ⟨bs, hnbs, hbbs, hSbs⟩ := Sl.of_flat hFbs
  obtain ⟨m, rfl, rfl, rfl, wm⟩ := open_int Try.underlying5 (hval 1 5 v1 rfl rfl) h1
  obtain ⟨q0, rfl, rfl, rfl, wq0⟩ := open_int Try.underlying37 (hval 2 37 v2 rfl rfl) h2
  obtain ⟨q, rfl, hq⟩ := u64_nat wq0
  obtain ⟨y0, rfl, rfl, rfl, wy0⟩ := open_int Try.underlying35 (hval 3 35 v3 rfl rfl) h3
  obtain ⟨y, rfl, hy⟩ := u32_nat wy0
  obtain ⟨csmo, rfl, hcmo⟩ := open_agg (dd := 9) (ls := (rep 48 [.int .u8])) (by kernel_rfl) (hval 4 40 v4 rfl rfl) (by kernel_rfl) (by kernel_rfl) h4
  obtain ⟨mo, rfl, hnmo, hbmo⟩ := bytes_arr hcmo
  refine Calls.mono (frameBursts_any A n c bs m q y mo W hnbs hSbs hn_le hbbs (u8_rng wm) hq hy hnmo hbmo) fun e W' hh => ?_
  obtain ⟨x, rfl, rfl, hs⟩ := hh
  exact ⟨_, rfl, post_law (tb := 4) frameBursts_laid (by intro t ht; simp only [Try.params6, List.mem_cons, List.mem_nil_iff, or_false] at ht; rcases ht with rfl | rfl | rfl | rfl | rfl <;> exact ⟨by kernel_rfl, of_decide_eq_true (by kernel_rfl)⟩) hW' rfl rfl Try.underlying4 rfl rfl rfl hs⟩
theorem frameBursts_holds : Rows.FrameBurstsSaid :=
  OpenClaim.holds_of_wide 6 Try.f6 rfl rfl rfl rfl rfl rfl rfl ⟨rfl, rfl, rfl, rfl, rfl⟩ rfl rfl rfl rfl rfl (by kernel_rfl) Try.func6 (by kernel_rfl)
    (of_decide_eq_true (by kernel_rfl)) (by unfold Func.isWrapper; first | (rw [if_pos (by decide +kernel)]; kernel_rfl) | (rw [if_neg (by decide +kernel)]; exact ⟨rfl, rfl⟩))
    (fun os started H enc _ => frameBursts_lifted os started H enc)
end Go.Proofs.Ytfgmlgkopphekaa
