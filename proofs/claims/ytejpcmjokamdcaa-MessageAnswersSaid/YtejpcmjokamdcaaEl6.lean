/- Layer 15: contracts, keys, causes out of elements. -/
import Derived.Test.YtejpcmjokamdcaaProg
import Derived.Test.YtejpcmjokamdcaaEl5
set_option linter.unusedVariables false
set_option linter.unusedSimpArgs false
namespace Go.Proofs.Ytejpcmjokamdcaa
open Go.Vc Go.RowKit

set_option maxRecDepth 100000 in
set_option maxHeartbeats 4000000 in
theorem rdtraf_any (xi : Int) (A : Option Addr) (n c Bd : Nat) (bs : List Int) (w : World) (hn : bs.length = n) (hc : n ≤ c) (hA : Sl w Bd A (iL .u8 bs)) (hb : Bytes bs) (hBd : Bd ≤ w.heap.size) :
  CV Try.prog 44 #[.agg #[.int .u8 xi, .slice A n c]] w (fun x w1 => x = .tuple #[.agg #[.int .i64 (rtV xi bs (IntKind.wrap .i64 (bs.getD 0 0))), .int .i64 (rtV xi bs (fld bs 0)), .int .i64 (rtV xi bs (fld bs 1)), .int .i64 (rtV xi bs (fld bs 2)), .int .i64 (rtV xi bs (fld bs 3)), .int .i64 (rtV xi bs (fld bs 4))], .int .i64 (rtE xi bs)] ∧ Step No w w1) := by
 have hS : Step No w w := Step.refl _ _
 refine CV_enter Try.f44 _ 47 [(0, .agg #[.int .u8 xi, .slice A n c])] Try.func44 rfl rfl (by kernel_rfl) rfl ?_
 refine VC_seq ?_
 refine VC_region ?_
 have hzs1 := hS.size
 refine VL_box (d := 1) (t := 60) (c := #[.int .u8 xi, .slice A n c]) (by kernel_rfl) (by kernel_rfl) ?_
 intro b1 w1 hn1
 replace hS := Step.trans hS (hn1.step No)
 replace hA := hA.no (hn1.step No)
 have ho1 := hn1.own
 have hzhn1 := hn1.size
 have hqhn1 := hn1.eqb
 have hzs2 := hS.size
 have hzl1 := ho1.lt
 refine VL_box (d := 2) (t := 52) (c := #[.int .i64 0, .int .i64 0, .int .i64 0, .int .i64 0, .int .i64 0, .int .i64 0]) (by kernel_rfl) (by kernel_rfl) ?_
 intro b2 w2 hn2
 replace hS := Step.trans hS (hn2.step No)
 replace hA := hA.no (hn2.step No)
 replace ho1 := ho1.no (hn2.step No)
 have ho2 := hn2.own
 have hzhn2 := hn2.size
 have hqhn2 := hn2.eqb
 refine VL_pure 3 [1, 2] [(1, .pointer (some ⟨b1, 0, none⟩)), (2, .pointer (some ⟨b2, 0, none⟩))] (by kernel_rfl) rfl ?_
 refine VL_end (by kernel_rfl) ?_
 refine VQ_next ?_
 refine VC_seq ?_
 refine VC_seq ?_
 refine VC_region ?_
 refine VL_load (d := 9) (t := 60) (a := ⟨b1, 0, none⟩) (v := .agg #[.int .u8 xi, .slice A n c]) (by kernel_rfl) (by kernel_rfl) (Loads.ownL ho1 (n := 2) (by kernel_rfl) (by kernel_rfl) (by kernel_rfl)) ?_
 have hzs3 := hS.size
 have hzl2 := ho1.lt
 have hzl3 := ho2.lt
 refine VL_call (d := 10) (f := 56) (by kernel_rfl) (by kernel_rfl) (by kernel_rfl) Try.call56 (is_any xi A n c 89 31 _) ?_
 rintro _ w3 ⟨rfl, hc1⟩
 replace hS := Step.trans hS hc1
 replace hA := hA.no hc1
 replace ho1 := ho1.no hc1
 replace ho2 := ho2.no hc1
 refine VL_pure 3 [1, 2, 4] [(1, .pointer (some ⟨b1, 0, none⟩)), (2, .pointer (some ⟨b2, 0, none⟩)), (4, .int .i64 (isE xi 89 ((n : Nat) : Int) 31))] (by kernel_rfl) rfl ?_
 refine VL_end (by kernel_rfl) ?_
 refine VQ_next ?_
 refine VC_seq ?_
 refine VC_region ?_
 refine VL_pure 2 [1, 2, 4, 12] [(1, .pointer (some ⟨b1, 0, none⟩)), (2, .pointer (some ⟨b2, 0, none⟩)), (4, .int .i64 (isE xi 89 ((n : Nat) : Int) 31)), (12, .bool ((isE xi 89 ((n : Nat) : Int) 31) != 0))] (by kernel_rfl) rfl ?_
 refine VL_end (by kernel_rfl) ?_
 refine VQ_next ?_
 refine VC_ne (isE xi 89 ((n : Nat) : Int) 31) 0 (by kernel_rfl) (fun h1 => ?_) (fun h1 => ?_)
 ·refine VC_seq ?_
  refine VC_region ?_
  refine VL_pure 2 [2, 13, 14] [(2, .pointer (some ⟨b2, 0, none⟩)), (13, .agg #[.int .i64 0, .int .i64 0, .int .i64 0, .int .i64 0, .int .i64 0, .int .i64 0]), (14, .int .i64 (isE xi 89 ((n : Nat) : Int) 31))] (by kernel_rfl) rfl ?_
  refine VL_store (b := b2) (o := 0) (vs := [.int .i64 0, .int .i64 0, .int .i64 0, .int .i64 0, .int .i64 0, .int .i64 0]) (by kernel_rfl) (by kernel_rfl) ho2 (Nat.le_of_ble_eq_true (by kernel_rfl)) ?_
  intro w4 hw1
  replace hS := Step.transNew hS hw1.step (fun _ _ _ => by omega)
  replace hA := hA.step hw1.step (fun k hk (hF : k = b2) => by omega)
  replace ho1 := ho1.step hw1.step (show ¬ b1 = b2 by omega)
  have ho3 : Own w4 b2 #[.int .i64 0, .int .i64 0, .int .i64 0, .int .i64 0, .int .i64 0, .int .i64 0] 52 := Own.cast hw1.own (by kernel_rfl)
  have hzhw1 := hw1.same
  refine VL_pure 4 [2, 3] [(2, .pointer (some ⟨b2, 0, none⟩)), (3, .int .i64 (isE xi 89 ((n : Nat) : Int) 31))] (by kernel_rfl) rfl ?_
  refine VL_end (by kernel_rfl) ?_
  refine VQ_next ?_
  refine VC_ret ?_
  refine VQ_then_ret ?_
  refine VQ_retC1T1 (T := 52) (.agg #[.int .i64 0, .int .i64 0, .int .i64 0, .int .i64 0, .int .i64 0, .int .i64 0]) (.int .i64 (isE xi 89 ((n : Nat) : Int) 31)) (.inr rfl) rfl rfl rfl (Loads.ownL ho3 (n := 6) (by kernel_rfl) (by kernel_rfl) (by kernel_rfl)) ?_
  obtain ⟨hq1, hq2⟩ := rt_is hn (by assumption)
  exact ⟨by rw [hq1]; simp only [rtV_n hq2], hS⟩
 ·refine VC_skip ?_
  refine VQ_next ?_
  refine VC_seq ?_
  obtain ⟨hxi, hn31⟩ := isE_0 (by first | assumption | exact Classical.not_not.1 (by assumption))
  obtain ⟨sb1, so1, rfl, hlbsb1⟩ := hA.open (by simp only [iL_length]; omega)
  refine VC_region ?_
  refine VL_pure 1 [1, 2, 15] [(1, .pointer (some ⟨b1, 0, none⟩)), (2, .pointer (some ⟨b2, 0, none⟩)), (15, .pointer (some ⟨b1, 1, none⟩))] (by kernel_rfl) rfl ?_
  refine VL_load (d := 16) (t := 25) (a := ⟨b1, 1, none⟩) (v := .slice (some ⟨sb1, so1, none⟩) n c) (by kernel_rfl) (by kernel_rfl) (Loads.own1 ho1 (by kernel_rfl) (by rfl)) ?_
  refine VL_index (d := 17) (b := sb1) (o := so1) (len := n) (sz := 1) (m := 0) (by kernel_rfl) (by kernel_rfl) 0 (by rfl) (by omega) so1 (by omega) ?_
  refine VL_load (d := 18) (t := 5) (a := ⟨sb1, so1, none⟩) (v := .int .u8 (bs.getD 0 0)) (by kernel_rfl) (by kernel_rfl) (Sl.ldI hA (by kernel_rfl) 0 (by (try simp only [List.length_set, List.length_append, List.length_map, List.length_replicate, List.length_cons, List.length_nil, List.length_take, List.length_drop, List.length_range]) <;> omega)) ?_
  refine VL_pure 6 [1, 2, 20] [(1, .pointer (some ⟨b1, 0, none⟩)), (2, .pointer (some ⟨b2, 0, none⟩)), (20, .agg #[.int .i64 (IntKind.wrap .i64 (bs.getD 0 0)), .int .i64 0, .int .i64 0, .int .i64 0, .int .i64 0, .int .i64 0])] (by kernel_rfl) rfl ?_
  have hzs4 := hS.size
  have hzl4 := ho1.lt
  have hzl5 := ho2.lt
  refine VL_box (d := 5) (t := 52) (c := #[.int .i64 0, .int .i64 0, .int .i64 0, .int .i64 0, .int .i64 0, .int .i64 0]) (by kernel_rfl) (by kernel_rfl) ?_
  intro b3 w5 hn3
  replace hS := Step.trans hS (hn3.step No)
  replace hA := hA.no (hn3.step No)
  replace ho1 := ho1.no (hn3.step No)
  replace ho2 := ho2.no (hn3.step No)
  have ho4 := hn3.own
  have hzhn3 := hn3.size
  have hqhn3 := hn3.eqb
  refine VL_store (b := b3) (o := 0) (vs := [.int .i64 (IntKind.wrap .i64 (bs.getD 0 0)), .int .i64 0, .int .i64 0, .int .i64 0, .int .i64 0, .int .i64 0]) (by kernel_rfl) (by kernel_rfl) ho4 (Nat.le_of_ble_eq_true (by kernel_rfl)) ?_
  intro w6 hw2
  replace hS := Step.transNew hS hw2.step (fun _ _ _ => by omega)
  replace hA := hA.keepB hw2.step (show ¬ sb1 = b3 by omega)
  replace ho1 := ho1.step hw2.step (show ¬ b1 = b3 by omega)
  replace ho2 := ho2.step hw2.step (show ¬ b2 = b3 by omega)
  have ho5 : Own w6 b3 #[.int .i64 (IntKind.wrap .i64 (bs.getD 0 0)), .int .i64 0, .int .i64 0, .int .i64 0, .int .i64 0, .int .i64 0] 52 := Own.cast hw2.own (by kernel_rfl)
  have hzhw2 := hw2.same
  refine VL_end (by kernel_rfl) ?_
  refine VQ_next ?_
  refine VC_seq ?_
  refine VC_seq ?_
  refine VC_region ?_
  have hzs5 := hS.size
  have hzl6 := ho1.lt
  have hzl7 := ho2.lt
  have hzl8 := ho5.lt
  refine VL_call (d := 21) (f := 59) (args := #[.pointer (some ⟨b3, 0, none⟩)]) (by kernel_rfl) (by kernel_rfl) (by kernel_rfl) Try.call59 (spans_any b3 _) ?_
  rintro _ w7 ⟨rfl, hc2⟩
  replace hS := Step.trans hS hc2
  replace hA := hA.no hc2
  replace ho1 := ho1.no hc2
  replace ho2 := ho2.no hc2
  replace ho5 := ho5.no hc2
  refine VL_pure 2 [1, 2, 5, 21, 22] [(1, .pointer (some ⟨b1, 0, none⟩)), (2, .pointer (some ⟨b2, 0, none⟩)), (5, .pointer (some ⟨b3, 0, none⟩)), (21, .agg #[.pointer (some ⟨b3, 1, none⟩), .pointer (some ⟨b3, 2, none⟩), .pointer (some ⟨b3, 3, none⟩), .pointer (some ⟨b3, 4, none⟩), .pointer (some ⟨b3, 5, none⟩)]), (22, .int .i64 0)] (by kernel_rfl) rfl ?_
  refine VL_end (by kernel_rfl) ?_
  refine VQ_next ?_
  refine VC_block ?_
  refine VC_rounds ?_
  refine VCL_round ?_
  refine VC_seq ?_
  refine VC_region ?_
  refine VL_pure 1 [1, 2, 5, 21, 22, 23] [(1, .pointer (some ⟨b1, 0, none⟩)), (2, .pointer (some ⟨b2, 0, none⟩)), (5, .pointer (some ⟨b3, 0, none⟩)), (21, .agg #[.pointer (some ⟨b3, 1, none⟩), .pointer (some ⟨b3, 2, none⟩), .pointer (some ⟨b3, 3, none⟩), .pointer (some ⟨b3, 4, none⟩), .pointer (some ⟨b3, 5, none⟩)]), (22, .int .i64 0), (23, .bool true)] (by kernel_rfl) rfl ?_
  refine VL_end (by kernel_rfl) ?_
  refine VQ_next ?_
  refine VC_seq ?_
  refine VC_true (by kernel_rfl) ?_
  refine VC_skip ?_
  refine VQ_next ?_
  refine VC_seq ?_
  refine VC_block ?_
  refine VC_seq ?_
  refine VC_region ?_
  refine VL_pure 4 [1, 2, 5, 21, 22, 6, 7] [(1, .pointer (some ⟨b1, 0, none⟩)), (2, .pointer (some ⟨b2, 0, none⟩)), (5, .pointer (some ⟨b3, 0, none⟩)), (21, .agg #[.pointer (some ⟨b3, 1, none⟩), .pointer (some ⟨b3, 2, none⟩), .pointer (some ⟨b3, 3, none⟩), .pointer (some ⟨b3, 4, none⟩), .pointer (some ⟨b3, 5, none⟩)]), (22, .int .i64 0), (6, .int .i64 0), (7, .pointer (some ⟨b3, 1, none⟩))] (by kernel_rfl) rfl ?_
  refine VL_end (by kernel_rfl) ?_
  refine VQ_next ?_
  refine VC_region ?_
  refine VL_pure 2 [1, 2, 5, 21, 22, 6, 26, 27] [(1, .pointer (some ⟨b1, 0, none⟩)), (2, .pointer (some ⟨b2, 0, none⟩)), (5, .pointer (some ⟨b3, 0, none⟩)), (21, .agg #[.pointer (some ⟨b3, 1, none⟩), .pointer (some ⟨b3, 2, none⟩), .pointer (some ⟨b3, 3, none⟩), .pointer (some ⟨b3, 4, none⟩), .pointer (some ⟨b3, 5, none⟩)]), (22, .int .i64 0), (6, .int .i64 0), (26, .pointer (some ⟨b3, 1, none⟩)), (27, .pointer (some ⟨b1, 1, none⟩))] (by kernel_rfl) rfl ?_
  refine VL_load (d := 28) (t := 25) (a := ⟨b1, 1, none⟩) (v := .slice (some ⟨sb1, so1, none⟩) n c) (by kernel_rfl) (by kernel_rfl) (Loads.own1 ho1 (by kernel_rfl) (by rfl)) ?_
  refine VL_pure 10 [1, 2, 5, 21, 22, 26, 28, 31, 35] [(1, .pointer (some ⟨b1, 0, none⟩)), (2, .pointer (some ⟨b2, 0, none⟩)), (5, .pointer (some ⟨b3, 0, none⟩)), (21, .agg #[.pointer (some ⟨b3, 1, none⟩), .pointer (some ⟨b3, 2, none⟩), .pointer (some ⟨b3, 3, none⟩), .pointer (some ⟨b3, 4, none⟩), .pointer (some ⟨b3, 5, none⟩)]), (22, .int .i64 0), (26, .pointer (some ⟨b3, 1, none⟩)), (28, .slice (some ⟨sb1, so1, none⟩) n c), (31, .int .i64 1), (35, .int .i64 7)] (by kernel_rfl) rfl ?_
  obtain ⟨so2, hso2⟩ : ∃ x, (if c = 1 then so1 else so1 + 1 * 1) = x := ⟨_, rfl⟩
  refine VL_slice (d := 36) (b := sb1) (o := so1) (sz := 1) (len := n) (cap := c) (lo := (some 1)) (hi := (some 7)) (mx := none) (by kernel_rfl) (by kernel_rfl) (fun h => by first | exact absurd rfl h | exact (fun h => by cases h)) 1 7 c rfl rfl rfl (by omega) (by omega) (by omega) so2 hso2 6 (by omega) (c - 1) (by omega) ?_
  try (have so2q := hso2; rw [if_neg (by omega)] at so2q)
  have hsl1 := Sl.cutI (H := 7) hA hso2 (by omega)
  have hzs6 := hS.size
  have hzl9 := ho1.lt
  have hzl10 := ho2.lt
  have hzl11 := ho5.lt
  refine VL_call (d := 37) (f := 53) (args := #[.slice (some ⟨sb1, so2, none⟩) 6 (c - 1)]) (by kernel_rfl) (by kernel_rfl) (by kernel_rfl) Try.call53 (getN_any (some ⟨sb1, so2, none⟩) 6 (c - 1) _ ((bs.drop 1).take (7 - 1)) _ (by simp only [List.length_take, List.length_drop]; omega) hsl1 ((hb.drop _).take _) (by omega)) ?_
  rintro _ w8 ⟨rfl, hc3⟩
  replace hS := Step.trans hS hc3
  replace hA := hA.no hc3
  replace ho1 := ho1.no hc3
  replace ho2 := ho2.no hc3
  replace ho5 := ho5.no hc3
  replace hsl1 := hsl1.no hc3
  refine VL_pure 13 [1, 2, 5, 21, 22, 37, 38] [(1, .pointer (some ⟨b1, 0, none⟩)), (2, .pointer (some ⟨b2, 0, none⟩)), (5, .pointer (some ⟨b3, 0, none⟩)), (21, .agg #[.pointer (some ⟨b3, 1, none⟩), .pointer (some ⟨b3, 2, none⟩), .pointer (some ⟨b3, 3, none⟩), .pointer (some ⟨b3, 4, none⟩), .pointer (some ⟨b3, 5, none⟩)]), (22, .int .i64 0), (37, .int .i64 ((natL ((bs.drop 1).take (7 - 1)) : Nat) : Int)), (38, .pointer (some ⟨b3, 1, none⟩))] (by kernel_rfl) rfl ?_
  refine VL_store (b := b3) (o := 1) (vs := [.int .i64 ((natL ((bs.drop 1).take (7 - 1)) : Nat) : Int)]) (by kernel_rfl) (by kernel_rfl) ho5 (Nat.le_of_ble_eq_true (by kernel_rfl)) ?_
  intro w9 hw3
  replace hS := Step.transNew hS hw3.step (fun _ _ _ => by omega)
  replace hA := hA.keepB hw3.step (show ¬ sb1 = b3 by omega)
  replace ho1 := ho1.step hw3.step (show ¬ b1 = b3 by omega)
  replace ho2 := ho2.step hw3.step (show ¬ b2 = b3 by omega)
  replace hsl1 := hsl1.keepB hw3.step (show ¬ sb1 = b3 by omega)
  have ho6 : Own w9 b3 #[.int .i64 (IntKind.wrap .i64 (bs.getD 0 0)), .int .i64 ((natL ((bs.drop 1).take (7 - 1)) : Nat) : Int), .int .i64 0, .int .i64 0, .int .i64 0, .int .i64 0] 52 := Own.cast hw3.own (by kernel_rfl)
  have hzhw3 := hw3.same
  refine VL_end (by kernel_rfl) ?_
  refine VQ_block_normal ?_
  refine VQ_next ?_
  refine VC_region ?_
  refine VL_pure 2 [1, 2, 5, 21, 22] [(1, .pointer (some ⟨b1, 0, none⟩)), (2, .pointer (some ⟨b2, 0, none⟩)), (5, .pointer (some ⟨b3, 0, none⟩)), (21, .agg #[.pointer (some ⟨b3, 1, none⟩), .pointer (some ⟨b3, 2, none⟩), .pointer (some ⟨b3, 3, none⟩), .pointer (some ⟨b3, 4, none⟩), .pointer (some ⟨b3, 5, none⟩)]), (22, .int .i64 1)] (by kernel_rfl) rfl ?_
  refine VL_end (by kernel_rfl) ?_
  refine VQ_round ?_
  refine VCL_round ?_
  refine VC_seq ?_
  refine VC_region ?_
  refine VL_pure 1 [1, 2, 5, 21, 22, 23] [(1, .pointer (some ⟨b1, 0, none⟩)), (2, .pointer (some ⟨b2, 0, none⟩)), (5, .pointer (some ⟨b3, 0, none⟩)), (21, .agg #[.pointer (some ⟨b3, 1, none⟩), .pointer (some ⟨b3, 2, none⟩), .pointer (some ⟨b3, 3, none⟩), .pointer (some ⟨b3, 4, none⟩), .pointer (some ⟨b3, 5, none⟩)]), (22, .int .i64 1), (23, .bool true)] (by kernel_rfl) rfl ?_
  refine VL_end (by kernel_rfl) ?_
  refine VQ_next ?_
  refine VC_seq ?_
  refine VC_true (by kernel_rfl) ?_
  refine VC_skip ?_
  refine VQ_next ?_
  refine VC_seq ?_
  refine VC_block ?_
  refine VC_seq ?_
  refine VC_region ?_
  refine VL_pure 4 [1, 2, 5, 21, 22, 6, 7] [(1, .pointer (some ⟨b1, 0, none⟩)), (2, .pointer (some ⟨b2, 0, none⟩)), (5, .pointer (some ⟨b3, 0, none⟩)), (21, .agg #[.pointer (some ⟨b3, 1, none⟩), .pointer (some ⟨b3, 2, none⟩), .pointer (some ⟨b3, 3, none⟩), .pointer (some ⟨b3, 4, none⟩), .pointer (some ⟨b3, 5, none⟩)]), (22, .int .i64 1), (6, .int .i64 1), (7, .pointer (some ⟨b3, 2, none⟩))] (by kernel_rfl) rfl ?_
  refine VL_end (by kernel_rfl) ?_
  refine VQ_next ?_
  refine VC_region ?_
  refine VL_pure 2 [1, 2, 5, 21, 22, 6, 26, 27] [(1, .pointer (some ⟨b1, 0, none⟩)), (2, .pointer (some ⟨b2, 0, none⟩)), (5, .pointer (some ⟨b3, 0, none⟩)), (21, .agg #[.pointer (some ⟨b3, 1, none⟩), .pointer (some ⟨b3, 2, none⟩), .pointer (some ⟨b3, 3, none⟩), .pointer (some ⟨b3, 4, none⟩), .pointer (some ⟨b3, 5, none⟩)]), (22, .int .i64 1), (6, .int .i64 1), (26, .pointer (some ⟨b3, 2, none⟩)), (27, .pointer (some ⟨b1, 1, none⟩))] (by kernel_rfl) rfl ?_
  refine VL_load (d := 28) (t := 25) (a := ⟨b1, 1, none⟩) (v := .slice (some ⟨sb1, so1, none⟩) n c) (by kernel_rfl) (by kernel_rfl) (Loads.own1 ho1 (by kernel_rfl) (by rfl)) ?_
  refine VL_pure 10 [1, 2, 5, 21, 22, 26, 28, 31, 35] [(1, .pointer (some ⟨b1, 0, none⟩)), (2, .pointer (some ⟨b2, 0, none⟩)), (5, .pointer (some ⟨b3, 0, none⟩)), (21, .agg #[.pointer (some ⟨b3, 1, none⟩), .pointer (some ⟨b3, 2, none⟩), .pointer (some ⟨b3, 3, none⟩), .pointer (some ⟨b3, 4, none⟩), .pointer (some ⟨b3, 5, none⟩)]), (22, .int .i64 1), (26, .pointer (some ⟨b3, 2, none⟩)), (28, .slice (some ⟨sb1, so1, none⟩) n c), (31, .int .i64 7), (35, .int .i64 13)] (by kernel_rfl) rfl ?_
  obtain ⟨so3, hso3⟩ : ∃ x, (if c = 7 then so1 else so1 + 7 * 1) = x := ⟨_, rfl⟩
  refine VL_slice (d := 36) (b := sb1) (o := so1) (sz := 1) (len := n) (cap := c) (lo := (some 7)) (hi := (some 13)) (mx := none) (by kernel_rfl) (by kernel_rfl) (fun h => by first | exact absurd rfl h | exact (fun h => by cases h)) 7 13 c rfl rfl rfl (by omega) (by omega) (by omega) so3 hso3 6 (by omega) (c - 7) (by omega) ?_
  try (have so3q := hso3; rw [if_neg (by omega)] at so3q)
  have hsl2 := Sl.cutI (H := 13) hA hso3 (by omega)
  have hzs7 := hS.size
  have hzl12 := ho1.lt
  have hzl13 := ho2.lt
  have hzl14 := ho6.lt
  refine VL_call (d := 37) (f := 53) (args := #[.slice (some ⟨sb1, so3, none⟩) 6 (c - 7)]) (by kernel_rfl) (by kernel_rfl) (by kernel_rfl) Try.call53 (getN_any (some ⟨sb1, so3, none⟩) 6 (c - 7) _ ((bs.drop 7).take (13 - 7)) _ (by simp only [List.length_take, List.length_drop]; omega) hsl2 ((hb.drop _).take _) (by omega)) ?_
  rintro _ w10 ⟨rfl, hc4⟩
  replace hS := Step.trans hS hc4
  replace hA := hA.no hc4
  replace ho1 := ho1.no hc4
  replace ho2 := ho2.no hc4
  replace hsl1 := hsl1.no hc4
  replace ho6 := ho6.no hc4
  replace hsl2 := hsl2.no hc4
  refine VL_pure 13 [1, 2, 5, 21, 22, 37, 38] [(1, .pointer (some ⟨b1, 0, none⟩)), (2, .pointer (some ⟨b2, 0, none⟩)), (5, .pointer (some ⟨b3, 0, none⟩)), (21, .agg #[.pointer (some ⟨b3, 1, none⟩), .pointer (some ⟨b3, 2, none⟩), .pointer (some ⟨b3, 3, none⟩), .pointer (some ⟨b3, 4, none⟩), .pointer (some ⟨b3, 5, none⟩)]), (22, .int .i64 1), (37, .int .i64 ((natL ((bs.drop 7).take (13 - 7)) : Nat) : Int)), (38, .pointer (some ⟨b3, 2, none⟩))] (by kernel_rfl) rfl ?_
  refine VL_store (b := b3) (o := 2) (vs := [.int .i64 ((natL ((bs.drop 7).take (13 - 7)) : Nat) : Int)]) (by kernel_rfl) (by kernel_rfl) ho6 (Nat.le_of_ble_eq_true (by kernel_rfl)) ?_
  intro w11 hw4
  replace hS := Step.transNew hS hw4.step (fun _ _ _ => by omega)
  replace hA := hA.keepB hw4.step (show ¬ sb1 = b3 by omega)
  replace ho1 := ho1.step hw4.step (show ¬ b1 = b3 by omega)
  replace ho2 := ho2.step hw4.step (show ¬ b2 = b3 by omega)
  replace hsl1 := hsl1.keepB hw4.step (show ¬ sb1 = b3 by omega)
  replace hsl2 := hsl2.keepB hw4.step (show ¬ sb1 = b3 by omega)
  have ho7 : Own w11 b3 #[.int .i64 (IntKind.wrap .i64 (bs.getD 0 0)), .int .i64 ((natL ((bs.drop 1).take (7 - 1)) : Nat) : Int), .int .i64 ((natL ((bs.drop 7).take (13 - 7)) : Nat) : Int), .int .i64 0, .int .i64 0, .int .i64 0] 52 := Own.cast hw4.own (by kernel_rfl)
  have hzhw4 := hw4.same
  refine VL_end (by kernel_rfl) ?_
  refine VQ_block_normal ?_
  refine VQ_next ?_
  refine VC_region ?_
  refine VL_pure 2 [1, 2, 5, 21, 22] [(1, .pointer (some ⟨b1, 0, none⟩)), (2, .pointer (some ⟨b2, 0, none⟩)), (5, .pointer (some ⟨b3, 0, none⟩)), (21, .agg #[.pointer (some ⟨b3, 1, none⟩), .pointer (some ⟨b3, 2, none⟩), .pointer (some ⟨b3, 3, none⟩), .pointer (some ⟨b3, 4, none⟩), .pointer (some ⟨b3, 5, none⟩)]), (22, .int .i64 2)] (by kernel_rfl) rfl ?_
  refine VL_end (by kernel_rfl) ?_
  refine VQ_round ?_
  refine VCL_round ?_
  refine VC_seq ?_
  refine VC_region ?_
  refine VL_pure 1 [1, 2, 5, 21, 22, 23] [(1, .pointer (some ⟨b1, 0, none⟩)), (2, .pointer (some ⟨b2, 0, none⟩)), (5, .pointer (some ⟨b3, 0, none⟩)), (21, .agg #[.pointer (some ⟨b3, 1, none⟩), .pointer (some ⟨b3, 2, none⟩), .pointer (some ⟨b3, 3, none⟩), .pointer (some ⟨b3, 4, none⟩), .pointer (some ⟨b3, 5, none⟩)]), (22, .int .i64 2), (23, .bool true)] (by kernel_rfl) rfl ?_
  refine VL_end (by kernel_rfl) ?_
  refine VQ_next ?_
  refine VC_seq ?_
  refine VC_true (by kernel_rfl) ?_
  refine VC_skip ?_
  refine VQ_next ?_
  refine VC_seq ?_
  refine VC_block ?_
  refine VC_seq ?_
  refine VC_region ?_
  refine VL_pure 4 [1, 2, 5, 21, 22, 6, 7] [(1, .pointer (some ⟨b1, 0, none⟩)), (2, .pointer (some ⟨b2, 0, none⟩)), (5, .pointer (some ⟨b3, 0, none⟩)), (21, .agg #[.pointer (some ⟨b3, 1, none⟩), .pointer (some ⟨b3, 2, none⟩), .pointer (some ⟨b3, 3, none⟩), .pointer (some ⟨b3, 4, none⟩), .pointer (some ⟨b3, 5, none⟩)]), (22, .int .i64 2), (6, .int .i64 2), (7, .pointer (some ⟨b3, 3, none⟩))] (by kernel_rfl) rfl ?_
  refine VL_end (by kernel_rfl) ?_
  refine VQ_next ?_
  refine VC_region ?_
  refine VL_pure 2 [1, 2, 5, 21, 22, 6, 26, 27] [(1, .pointer (some ⟨b1, 0, none⟩)), (2, .pointer (some ⟨b2, 0, none⟩)), (5, .pointer (some ⟨b3, 0, none⟩)), (21, .agg #[.pointer (some ⟨b3, 1, none⟩), .pointer (some ⟨b3, 2, none⟩), .pointer (some ⟨b3, 3, none⟩), .pointer (some ⟨b3, 4, none⟩), .pointer (some ⟨b3, 5, none⟩)]), (22, .int .i64 2), (6, .int .i64 2), (26, .pointer (some ⟨b3, 3, none⟩)), (27, .pointer (some ⟨b1, 1, none⟩))] (by kernel_rfl) rfl ?_
  refine VL_load (d := 28) (t := 25) (a := ⟨b1, 1, none⟩) (v := .slice (some ⟨sb1, so1, none⟩) n c) (by kernel_rfl) (by kernel_rfl) (Loads.own1 ho1 (by kernel_rfl) (by rfl)) ?_
  refine VL_pure 10 [1, 2, 5, 21, 22, 26, 28, 31, 35] [(1, .pointer (some ⟨b1, 0, none⟩)), (2, .pointer (some ⟨b2, 0, none⟩)), (5, .pointer (some ⟨b3, 0, none⟩)), (21, .agg #[.pointer (some ⟨b3, 1, none⟩), .pointer (some ⟨b3, 2, none⟩), .pointer (some ⟨b3, 3, none⟩), .pointer (some ⟨b3, 4, none⟩), .pointer (some ⟨b3, 5, none⟩)]), (22, .int .i64 2), (26, .pointer (some ⟨b3, 3, none⟩)), (28, .slice (some ⟨sb1, so1, none⟩) n c), (31, .int .i64 13), (35, .int .i64 19)] (by kernel_rfl) rfl ?_
  obtain ⟨so4, hso4⟩ : ∃ x, (if c = 13 then so1 else so1 + 13 * 1) = x := ⟨_, rfl⟩
  refine VL_slice (d := 36) (b := sb1) (o := so1) (sz := 1) (len := n) (cap := c) (lo := (some 13)) (hi := (some 19)) (mx := none) (by kernel_rfl) (by kernel_rfl) (fun h => by first | exact absurd rfl h | exact (fun h => by cases h)) 13 19 c rfl rfl rfl (by omega) (by omega) (by omega) so4 hso4 6 (by omega) (c - 13) (by omega) ?_
  try (have so4q := hso4; rw [if_neg (by omega)] at so4q)
  have hsl3 := Sl.cutI (H := 19) hA hso4 (by omega)
  have hzs8 := hS.size
  have hzl15 := ho1.lt
  have hzl16 := ho2.lt
  have hzl17 := ho7.lt
  refine VL_call (d := 37) (f := 53) (args := #[.slice (some ⟨sb1, so4, none⟩) 6 (c - 13)]) (by kernel_rfl) (by kernel_rfl) (by kernel_rfl) Try.call53 (getN_any (some ⟨sb1, so4, none⟩) 6 (c - 13) _ ((bs.drop 13).take (19 - 13)) _ (by simp only [List.length_take, List.length_drop]; omega) hsl3 ((hb.drop _).take _) (by omega)) ?_
  rintro _ w12 ⟨rfl, hc5⟩
  replace hS := Step.trans hS hc5
  replace hA := hA.no hc5
  replace ho1 := ho1.no hc5
  replace ho2 := ho2.no hc5
  replace hsl1 := hsl1.no hc5
  replace hsl2 := hsl2.no hc5
  replace ho7 := ho7.no hc5
  replace hsl3 := hsl3.no hc5
  refine VL_pure 13 [1, 2, 5, 21, 22, 37, 38] [(1, .pointer (some ⟨b1, 0, none⟩)), (2, .pointer (some ⟨b2, 0, none⟩)), (5, .pointer (some ⟨b3, 0, none⟩)), (21, .agg #[.pointer (some ⟨b3, 1, none⟩), .pointer (some ⟨b3, 2, none⟩), .pointer (some ⟨b3, 3, none⟩), .pointer (some ⟨b3, 4, none⟩), .pointer (some ⟨b3, 5, none⟩)]), (22, .int .i64 2), (37, .int .i64 ((natL ((bs.drop 13).take (19 - 13)) : Nat) : Int)), (38, .pointer (some ⟨b3, 3, none⟩))] (by kernel_rfl) rfl ?_
  refine VL_store (b := b3) (o := 3) (vs := [.int .i64 ((natL ((bs.drop 13).take (19 - 13)) : Nat) : Int)]) (by kernel_rfl) (by kernel_rfl) ho7 (Nat.le_of_ble_eq_true (by kernel_rfl)) ?_
  intro w13 hw5
  replace hS := Step.transNew hS hw5.step (fun _ _ _ => by omega)
  replace hA := hA.keepB hw5.step (show ¬ sb1 = b3 by omega)
  replace ho1 := ho1.step hw5.step (show ¬ b1 = b3 by omega)
  replace ho2 := ho2.step hw5.step (show ¬ b2 = b3 by omega)
  replace hsl1 := hsl1.keepB hw5.step (show ¬ sb1 = b3 by omega)
  replace hsl2 := hsl2.keepB hw5.step (show ¬ sb1 = b3 by omega)
  replace hsl3 := hsl3.keepB hw5.step (show ¬ sb1 = b3 by omega)
  have ho8 : Own w13 b3 #[.int .i64 (IntKind.wrap .i64 (bs.getD 0 0)), .int .i64 ((natL ((bs.drop 1).take (7 - 1)) : Nat) : Int), .int .i64 ((natL ((bs.drop 7).take (13 - 7)) : Nat) : Int), .int .i64 ((natL ((bs.drop 13).take (19 - 13)) : Nat) : Int), .int .i64 0, .int .i64 0] 52 := Own.cast hw5.own (by kernel_rfl)
  have hzhw5 := hw5.same
  refine VL_end (by kernel_rfl) ?_
  refine VQ_block_normal ?_
  refine VQ_next ?_
  refine VC_region ?_
  refine VL_pure 2 [1, 2, 5, 21, 22] [(1, .pointer (some ⟨b1, 0, none⟩)), (2, .pointer (some ⟨b2, 0, none⟩)), (5, .pointer (some ⟨b3, 0, none⟩)), (21, .agg #[.pointer (some ⟨b3, 1, none⟩), .pointer (some ⟨b3, 2, none⟩), .pointer (some ⟨b3, 3, none⟩), .pointer (some ⟨b3, 4, none⟩), .pointer (some ⟨b3, 5, none⟩)]), (22, .int .i64 3)] (by kernel_rfl) rfl ?_
  refine VL_end (by kernel_rfl) ?_
  refine VQ_round ?_
  refine VCL_round ?_
  refine VC_seq ?_
  refine VC_region ?_
  refine VL_pure 1 [1, 2, 5, 21, 22, 23] [(1, .pointer (some ⟨b1, 0, none⟩)), (2, .pointer (some ⟨b2, 0, none⟩)), (5, .pointer (some ⟨b3, 0, none⟩)), (21, .agg #[.pointer (some ⟨b3, 1, none⟩), .pointer (some ⟨b3, 2, none⟩), .pointer (some ⟨b3, 3, none⟩), .pointer (some ⟨b3, 4, none⟩), .pointer (some ⟨b3, 5, none⟩)]), (22, .int .i64 3), (23, .bool true)] (by kernel_rfl) rfl ?_
  refine VL_end (by kernel_rfl) ?_
  refine VQ_next ?_
  refine VC_seq ?_
  refine VC_true (by kernel_rfl) ?_
  refine VC_skip ?_
  refine VQ_next ?_
  refine VC_seq ?_
  refine VC_block ?_
  refine VC_seq ?_
  refine VC_region ?_
  refine VL_pure 4 [1, 2, 5, 21, 22, 6, 7] [(1, .pointer (some ⟨b1, 0, none⟩)), (2, .pointer (some ⟨b2, 0, none⟩)), (5, .pointer (some ⟨b3, 0, none⟩)), (21, .agg #[.pointer (some ⟨b3, 1, none⟩), .pointer (some ⟨b3, 2, none⟩), .pointer (some ⟨b3, 3, none⟩), .pointer (some ⟨b3, 4, none⟩), .pointer (some ⟨b3, 5, none⟩)]), (22, .int .i64 3), (6, .int .i64 3), (7, .pointer (some ⟨b3, 4, none⟩))] (by kernel_rfl) rfl ?_
  refine VL_end (by kernel_rfl) ?_
  refine VQ_next ?_
  refine VC_region ?_
  refine VL_pure 2 [1, 2, 5, 21, 22, 6, 26, 27] [(1, .pointer (some ⟨b1, 0, none⟩)), (2, .pointer (some ⟨b2, 0, none⟩)), (5, .pointer (some ⟨b3, 0, none⟩)), (21, .agg #[.pointer (some ⟨b3, 1, none⟩), .pointer (some ⟨b3, 2, none⟩), .pointer (some ⟨b3, 3, none⟩), .pointer (some ⟨b3, 4, none⟩), .pointer (some ⟨b3, 5, none⟩)]), (22, .int .i64 3), (6, .int .i64 3), (26, .pointer (some ⟨b3, 4, none⟩)), (27, .pointer (some ⟨b1, 1, none⟩))] (by kernel_rfl) rfl ?_
  refine VL_load (d := 28) (t := 25) (a := ⟨b1, 1, none⟩) (v := .slice (some ⟨sb1, so1, none⟩) n c) (by kernel_rfl) (by kernel_rfl) (Loads.own1 ho1 (by kernel_rfl) (by rfl)) ?_
  refine VL_pure 10 [1, 2, 5, 21, 22, 26, 28, 31, 35] [(1, .pointer (some ⟨b1, 0, none⟩)), (2, .pointer (some ⟨b2, 0, none⟩)), (5, .pointer (some ⟨b3, 0, none⟩)), (21, .agg #[.pointer (some ⟨b3, 1, none⟩), .pointer (some ⟨b3, 2, none⟩), .pointer (some ⟨b3, 3, none⟩), .pointer (some ⟨b3, 4, none⟩), .pointer (some ⟨b3, 5, none⟩)]), (22, .int .i64 3), (26, .pointer (some ⟨b3, 4, none⟩)), (28, .slice (some ⟨sb1, so1, none⟩) n c), (31, .int .i64 19), (35, .int .i64 25)] (by kernel_rfl) rfl ?_
  obtain ⟨so5, hso5⟩ : ∃ x, (if c = 19 then so1 else so1 + 19 * 1) = x := ⟨_, rfl⟩
  refine VL_slice (d := 36) (b := sb1) (o := so1) (sz := 1) (len := n) (cap := c) (lo := (some 19)) (hi := (some 25)) (mx := none) (by kernel_rfl) (by kernel_rfl) (fun h => by first | exact absurd rfl h | exact (fun h => by cases h)) 19 25 c rfl rfl rfl (by omega) (by omega) (by omega) so5 hso5 6 (by omega) (c - 19) (by omega) ?_
  try (have so5q := hso5; rw [if_neg (by omega)] at so5q)
  have hsl4 := Sl.cutI (H := 25) hA hso5 (by omega)
  have hzs9 := hS.size
  have hzl18 := ho1.lt
  have hzl19 := ho2.lt
  have hzl20 := ho8.lt
  refine VL_call (d := 37) (f := 53) (args := #[.slice (some ⟨sb1, so5, none⟩) 6 (c - 19)]) (by kernel_rfl) (by kernel_rfl) (by kernel_rfl) Try.call53 (getN_any (some ⟨sb1, so5, none⟩) 6 (c - 19) _ ((bs.drop 19).take (25 - 19)) _ (by simp only [List.length_take, List.length_drop]; omega) hsl4 ((hb.drop _).take _) (by omega)) ?_
  rintro _ w14 ⟨rfl, hc6⟩
  replace hS := Step.trans hS hc6
  replace hA := hA.no hc6
  replace ho1 := ho1.no hc6
  replace ho2 := ho2.no hc6
  replace hsl1 := hsl1.no hc6
  replace hsl2 := hsl2.no hc6
  replace hsl3 := hsl3.no hc6
  replace ho8 := ho8.no hc6
  replace hsl4 := hsl4.no hc6
  refine VL_pure 13 [1, 2, 5, 21, 22, 37, 38] [(1, .pointer (some ⟨b1, 0, none⟩)), (2, .pointer (some ⟨b2, 0, none⟩)), (5, .pointer (some ⟨b3, 0, none⟩)), (21, .agg #[.pointer (some ⟨b3, 1, none⟩), .pointer (some ⟨b3, 2, none⟩), .pointer (some ⟨b3, 3, none⟩), .pointer (some ⟨b3, 4, none⟩), .pointer (some ⟨b3, 5, none⟩)]), (22, .int .i64 3), (37, .int .i64 ((natL ((bs.drop 19).take (25 - 19)) : Nat) : Int)), (38, .pointer (some ⟨b3, 4, none⟩))] (by kernel_rfl) rfl ?_
  refine VL_store (b := b3) (o := 4) (vs := [.int .i64 ((natL ((bs.drop 19).take (25 - 19)) : Nat) : Int)]) (by kernel_rfl) (by kernel_rfl) ho8 (Nat.le_of_ble_eq_true (by kernel_rfl)) ?_
  intro w15 hw6
  replace hS := Step.transNew hS hw6.step (fun _ _ _ => by omega)
  replace hA := hA.keepB hw6.step (show ¬ sb1 = b3 by omega)
  replace ho1 := ho1.step hw6.step (show ¬ b1 = b3 by omega)
  replace ho2 := ho2.step hw6.step (show ¬ b2 = b3 by omega)
  replace hsl1 := hsl1.keepB hw6.step (show ¬ sb1 = b3 by omega)
  replace hsl2 := hsl2.keepB hw6.step (show ¬ sb1 = b3 by omega)
  replace hsl3 := hsl3.keepB hw6.step (show ¬ sb1 = b3 by omega)
  replace hsl4 := hsl4.keepB hw6.step (show ¬ sb1 = b3 by omega)
  have ho9 : Own w15 b3 #[.int .i64 (IntKind.wrap .i64 (bs.getD 0 0)), .int .i64 ((natL ((bs.drop 1).take (7 - 1)) : Nat) : Int), .int .i64 ((natL ((bs.drop 7).take (13 - 7)) : Nat) : Int), .int .i64 ((natL ((bs.drop 13).take (19 - 13)) : Nat) : Int), .int .i64 ((natL ((bs.drop 19).take (25 - 19)) : Nat) : Int), .int .i64 0] 52 := Own.cast hw6.own (by kernel_rfl)
  have hzhw6 := hw6.same
  refine VL_end (by kernel_rfl) ?_
  refine VQ_block_normal ?_
  refine VQ_next ?_
  refine VC_region ?_
  refine VL_pure 2 [1, 2, 5, 21, 22] [(1, .pointer (some ⟨b1, 0, none⟩)), (2, .pointer (some ⟨b2, 0, none⟩)), (5, .pointer (some ⟨b3, 0, none⟩)), (21, .agg #[.pointer (some ⟨b3, 1, none⟩), .pointer (some ⟨b3, 2, none⟩), .pointer (some ⟨b3, 3, none⟩), .pointer (some ⟨b3, 4, none⟩), .pointer (some ⟨b3, 5, none⟩)]), (22, .int .i64 4)] (by kernel_rfl) rfl ?_
  refine VL_end (by kernel_rfl) ?_
  refine VQ_round ?_
  refine VCL_round ?_
  refine VC_seq ?_
  refine VC_region ?_
  refine VL_pure 1 [1, 2, 5, 21, 22, 23] [(1, .pointer (some ⟨b1, 0, none⟩)), (2, .pointer (some ⟨b2, 0, none⟩)), (5, .pointer (some ⟨b3, 0, none⟩)), (21, .agg #[.pointer (some ⟨b3, 1, none⟩), .pointer (some ⟨b3, 2, none⟩), .pointer (some ⟨b3, 3, none⟩), .pointer (some ⟨b3, 4, none⟩), .pointer (some ⟨b3, 5, none⟩)]), (22, .int .i64 4), (23, .bool true)] (by kernel_rfl) rfl ?_
  refine VL_end (by kernel_rfl) ?_
  refine VQ_next ?_
  refine VC_seq ?_
  refine VC_true (by kernel_rfl) ?_
  refine VC_skip ?_
  refine VQ_next ?_
  refine VC_seq ?_
  refine VC_block ?_
  refine VC_seq ?_
  refine VC_region ?_
  refine VL_pure 4 [1, 2, 5, 21, 22, 6, 7] [(1, .pointer (some ⟨b1, 0, none⟩)), (2, .pointer (some ⟨b2, 0, none⟩)), (5, .pointer (some ⟨b3, 0, none⟩)), (21, .agg #[.pointer (some ⟨b3, 1, none⟩), .pointer (some ⟨b3, 2, none⟩), .pointer (some ⟨b3, 3, none⟩), .pointer (some ⟨b3, 4, none⟩), .pointer (some ⟨b3, 5, none⟩)]), (22, .int .i64 4), (6, .int .i64 4), (7, .pointer (some ⟨b3, 5, none⟩))] (by kernel_rfl) rfl ?_
  refine VL_end (by kernel_rfl) ?_
  refine VQ_next ?_
  refine VC_region ?_
  refine VL_pure 2 [1, 2, 5, 21, 22, 6, 26, 27] [(1, .pointer (some ⟨b1, 0, none⟩)), (2, .pointer (some ⟨b2, 0, none⟩)), (5, .pointer (some ⟨b3, 0, none⟩)), (21, .agg #[.pointer (some ⟨b3, 1, none⟩), .pointer (some ⟨b3, 2, none⟩), .pointer (some ⟨b3, 3, none⟩), .pointer (some ⟨b3, 4, none⟩), .pointer (some ⟨b3, 5, none⟩)]), (22, .int .i64 4), (6, .int .i64 4), (26, .pointer (some ⟨b3, 5, none⟩)), (27, .pointer (some ⟨b1, 1, none⟩))] (by kernel_rfl) rfl ?_
  refine VL_load (d := 28) (t := 25) (a := ⟨b1, 1, none⟩) (v := .slice (some ⟨sb1, so1, none⟩) n c) (by kernel_rfl) (by kernel_rfl) (Loads.own1 ho1 (by kernel_rfl) (by rfl)) ?_
  refine VL_pure 10 [1, 2, 5, 21, 22, 26, 28, 31, 35] [(1, .pointer (some ⟨b1, 0, none⟩)), (2, .pointer (some ⟨b2, 0, none⟩)), (5, .pointer (some ⟨b3, 0, none⟩)), (21, .agg #[.pointer (some ⟨b3, 1, none⟩), .pointer (some ⟨b3, 2, none⟩), .pointer (some ⟨b3, 3, none⟩), .pointer (some ⟨b3, 4, none⟩), .pointer (some ⟨b3, 5, none⟩)]), (22, .int .i64 4), (26, .pointer (some ⟨b3, 5, none⟩)), (28, .slice (some ⟨sb1, so1, none⟩) n c), (31, .int .i64 25), (35, .int .i64 31)] (by kernel_rfl) rfl ?_
  obtain ⟨so6, hso6⟩ : ∃ x, (if c = 25 then so1 else so1 + 25 * 1) = x := ⟨_, rfl⟩
  refine VL_slice (d := 36) (b := sb1) (o := so1) (sz := 1) (len := n) (cap := c) (lo := (some 25)) (hi := (some 31)) (mx := none) (by kernel_rfl) (by kernel_rfl) (fun h => by first | exact absurd rfl h | exact (fun h => by cases h)) 25 31 c rfl rfl rfl (by omega) (by omega) (by omega) so6 hso6 6 (by omega) (c - 25) (by omega) ?_
  try (have so6q := hso6; rw [if_neg (by omega)] at so6q)
  have hsl5 := Sl.cutI (H := 31) hA hso6 (by omega)
  have hzs10 := hS.size
  have hzl21 := ho1.lt
  have hzl22 := ho2.lt
  have hzl23 := ho9.lt
  refine VL_call (d := 37) (f := 53) (args := #[.slice (some ⟨sb1, so6, none⟩) 6 (c - 25)]) (by kernel_rfl) (by kernel_rfl) (by kernel_rfl) Try.call53 (getN_any (some ⟨sb1, so6, none⟩) 6 (c - 25) _ ((bs.drop 25).take (31 - 25)) _ (by simp only [List.length_take, List.length_drop]; omega) hsl5 ((hb.drop _).take _) (by omega)) ?_
  rintro _ w16 ⟨rfl, hc7⟩
  replace hS := Step.trans hS hc7
  replace hA := hA.no hc7
  replace ho1 := ho1.no hc7
  replace ho2 := ho2.no hc7
  replace hsl1 := hsl1.no hc7
  replace hsl2 := hsl2.no hc7
  replace hsl3 := hsl3.no hc7
  replace hsl4 := hsl4.no hc7
  replace ho9 := ho9.no hc7
  replace hsl5 := hsl5.no hc7
  refine VL_pure 13 [1, 2, 5, 21, 22, 37, 38] [(1, .pointer (some ⟨b1, 0, none⟩)), (2, .pointer (some ⟨b2, 0, none⟩)), (5, .pointer (some ⟨b3, 0, none⟩)), (21, .agg #[.pointer (some ⟨b3, 1, none⟩), .pointer (some ⟨b3, 2, none⟩), .pointer (some ⟨b3, 3, none⟩), .pointer (some ⟨b3, 4, none⟩), .pointer (some ⟨b3, 5, none⟩)]), (22, .int .i64 4), (37, .int .i64 ((natL ((bs.drop 25).take (31 - 25)) : Nat) : Int)), (38, .pointer (some ⟨b3, 5, none⟩))] (by kernel_rfl) rfl ?_
  refine VL_store (b := b3) (o := 5) (vs := [.int .i64 ((natL ((bs.drop 25).take (31 - 25)) : Nat) : Int)]) (by kernel_rfl) (by kernel_rfl) ho9 (Nat.le_of_ble_eq_true (by kernel_rfl)) ?_
  intro w17 hw7
  replace hS := Step.transNew hS hw7.step (fun _ _ _ => by omega)
  replace hA := hA.keepB hw7.step (show ¬ sb1 = b3 by omega)
  replace ho1 := ho1.step hw7.step (show ¬ b1 = b3 by omega)
  replace ho2 := ho2.step hw7.step (show ¬ b2 = b3 by omega)
  replace hsl1 := hsl1.keepB hw7.step (show ¬ sb1 = b3 by omega)
  replace hsl2 := hsl2.keepB hw7.step (show ¬ sb1 = b3 by omega)
  replace hsl3 := hsl3.keepB hw7.step (show ¬ sb1 = b3 by omega)
  replace hsl4 := hsl4.keepB hw7.step (show ¬ sb1 = b3 by omega)
  replace hsl5 := hsl5.keepB hw7.step (show ¬ sb1 = b3 by omega)
  have ho10 : Own w17 b3 #[.int .i64 (IntKind.wrap .i64 (bs.getD 0 0)), .int .i64 ((natL ((bs.drop 1).take (7 - 1)) : Nat) : Int), .int .i64 ((natL ((bs.drop 7).take (13 - 7)) : Nat) : Int), .int .i64 ((natL ((bs.drop 13).take (19 - 13)) : Nat) : Int), .int .i64 ((natL ((bs.drop 19).take (25 - 19)) : Nat) : Int), .int .i64 ((natL ((bs.drop 25).take (31 - 25)) : Nat) : Int)] 52 := Own.cast hw7.own (by kernel_rfl)
  have hzhw7 := hw7.same
  refine VL_end (by kernel_rfl) ?_
  refine VQ_block_normal ?_
  refine VQ_next ?_
  refine VC_region ?_
  refine VL_pure 2 [1, 2, 5, 21, 22] [(1, .pointer (some ⟨b1, 0, none⟩)), (2, .pointer (some ⟨b2, 0, none⟩)), (5, .pointer (some ⟨b3, 0, none⟩)), (21, .agg #[.pointer (some ⟨b3, 1, none⟩), .pointer (some ⟨b3, 2, none⟩), .pointer (some ⟨b3, 3, none⟩), .pointer (some ⟨b3, 4, none⟩), .pointer (some ⟨b3, 5, none⟩)]), (22, .int .i64 5)] (by kernel_rfl) rfl ?_
  refine VL_end (by kernel_rfl) ?_
  refine VQ_round ?_
  refine VCL_round ?_
  refine VC_seq ?_
  refine VC_region ?_
  refine VL_pure 1 [1, 2, 5, 21, 22, 23] [(1, .pointer (some ⟨b1, 0, none⟩)), (2, .pointer (some ⟨b2, 0, none⟩)), (5, .pointer (some ⟨b3, 0, none⟩)), (21, .agg #[.pointer (some ⟨b3, 1, none⟩), .pointer (some ⟨b3, 2, none⟩), .pointer (some ⟨b3, 3, none⟩), .pointer (some ⟨b3, 4, none⟩), .pointer (some ⟨b3, 5, none⟩)]), (22, .int .i64 5), (23, .bool false)] (by kernel_rfl) rfl ?_
  refine VL_end (by kernel_rfl) ?_
  refine VQ_next ?_
  refine VC_seq ?_
  refine VC_false (by kernel_rfl) ?_
  refine VC_exit ?_
  refine VQ_then_exit ?_
  refine VQ_then_exit ?_
  refine VQ_block_hit ?_
  refine VQ_next ?_
  refine VC_seq ?_
  refine VC_seq ?_
  refine VC_region ?_
  refine VL_load (d := 40) (t := 52) (a := ⟨b3, 0, none⟩) (v := .agg #[.int .i64 (IntKind.wrap .i64 (bs.getD 0 0)), .int .i64 ((natL ((bs.drop 1).take (7 - 1)) : Nat) : Int), .int .i64 ((natL ((bs.drop 7).take (13 - 7)) : Nat) : Int), .int .i64 ((natL ((bs.drop 13).take (19 - 13)) : Nat) : Int), .int .i64 ((natL ((bs.drop 19).take (25 - 19)) : Nat) : Int), .int .i64 ((natL ((bs.drop 25).take (31 - 25)) : Nat) : Int)]) (by kernel_rfl) (by kernel_rfl) (Loads.ownL ho10 (n := 6) (by kernel_rfl) (by kernel_rfl) (by kernel_rfl)) ?_
  have hzs11 := hS.size
  have hzl24 := ho1.lt
  have hzl25 := ho2.lt
  have hzl26 := ho10.lt
  refine VL_call (d := 41) (f := 60) (args := #[.agg #[.int .i64 (IntKind.wrap .i64 (bs.getD 0 0)), .int .i64 ((natL ((bs.drop 1).take (7 - 1)) : Nat) : Int), .int .i64 ((natL ((bs.drop 7).take (13 - 7)) : Nat) : Int), .int .i64 ((natL ((bs.drop 13).take (19 - 13)) : Nat) : Int), .int .i64 ((natL ((bs.drop 19).take (25 - 19)) : Nat) : Int), .int .i64 ((natL ((bs.drop 25).take (31 - 25)) : Nat) : Int)]]) (by kernel_rfl) (by kernel_rfl) (by kernel_rfl) Try.call60 (right_any (IntKind.wrap .i64 (bs.getD 0 0)) ((natL ((bs.drop 1).take (7 - 1)) : Nat) : Int) ((natL ((bs.drop 7).take (13 - 7)) : Nat) : Int) ((natL ((bs.drop 13).take (19 - 13)) : Nat) : Int) ((natL ((bs.drop 19).take (25 - 19)) : Nat) : Int) ((natL ((bs.drop 25).take (31 - 25)) : Nat) : Int) _) ?_
  rintro _ w18 ⟨rfl, hc8⟩
  replace hS := Step.trans hS hc8
  replace hA := hA.no hc8
  replace ho1 := ho1.no hc8
  replace ho2 := ho2.no hc8
  replace hsl1 := hsl1.no hc8
  replace hsl2 := hsl2.no hc8
  replace hsl3 := hsl3.no hc8
  replace hsl4 := hsl4.no hc8
  replace hsl5 := hsl5.no hc8
  replace ho10 := ho10.no hc8
  refine VL_pure 3 [2, 5, 8] [(2, .pointer (some ⟨b2, 0, none⟩)), (5, .pointer (some ⟨b3, 0, none⟩)), (8, .int .i64 (rightC (IntKind.wrap .i64 (bs.getD 0 0)) ((natL ((bs.drop 1).take (7 - 1)) : Nat) : Int) ((natL ((bs.drop 7).take (13 - 7)) : Nat) : Int) ((natL ((bs.drop 13).take (19 - 13)) : Nat) : Int) ((natL ((bs.drop 19).take (25 - 19)) : Nat) : Int) ((natL ((bs.drop 25).take (31 - 25)) : Nat) : Int)))] (by kernel_rfl) rfl ?_
  refine VL_end (by kernel_rfl) ?_
  refine VQ_next ?_
  refine VC_seq ?_
  refine VC_region ?_
  refine VL_pure 2 [2, 5, 8, 43] [(2, .pointer (some ⟨b2, 0, none⟩)), (5, .pointer (some ⟨b3, 0, none⟩)), (8, .int .i64 (rightC (IntKind.wrap .i64 (bs.getD 0 0)) ((natL ((bs.drop 1).take (7 - 1)) : Nat) : Int) ((natL ((bs.drop 7).take (13 - 7)) : Nat) : Int) ((natL ((bs.drop 13).take (19 - 13)) : Nat) : Int) ((natL ((bs.drop 19).take (25 - 19)) : Nat) : Int) ((natL ((bs.drop 25).take (31 - 25)) : Nat) : Int))), (43, .bool ((rightC (IntKind.wrap .i64 (bs.getD 0 0)) ((natL ((bs.drop 1).take (7 - 1)) : Nat) : Int) ((natL ((bs.drop 7).take (13 - 7)) : Nat) : Int) ((natL ((bs.drop 13).take (19 - 13)) : Nat) : Int) ((natL ((bs.drop 19).take (25 - 19)) : Nat) : Int) ((natL ((bs.drop 25).take (31 - 25)) : Nat) : Int)) != 0))] (by kernel_rfl) rfl ?_
  refine VL_end (by kernel_rfl) ?_
  refine VQ_next ?_
  refine VC_ne (rightC (IntKind.wrap .i64 (bs.getD 0 0)) ((natL ((bs.drop 1).take (7 - 1)) : Nat) : Int) ((natL ((bs.drop 7).take (13 - 7)) : Nat) : Int) ((natL ((bs.drop 13).take (19 - 13)) : Nat) : Int) ((natL ((bs.drop 19).take (25 - 19)) : Nat) : Int) ((natL ((bs.drop 25).take (31 - 25)) : Nat) : Int)) 0 (by kernel_rfl) (fun h2 => ?_) (fun h2 => ?_)
  ·refine VC_seq ?_
   refine VC_region ?_
   refine VL_pure 2 [2, 44, 45] [(2, .pointer (some ⟨b2, 0, none⟩)), (44, .agg #[.int .i64 0, .int .i64 0, .int .i64 0, .int .i64 0, .int .i64 0, .int .i64 0]), (45, .int .i64 (rightC (IntKind.wrap .i64 (bs.getD 0 0)) ((natL ((bs.drop 1).take (7 - 1)) : Nat) : Int) ((natL ((bs.drop 7).take (13 - 7)) : Nat) : Int) ((natL ((bs.drop 13).take (19 - 13)) : Nat) : Int) ((natL ((bs.drop 19).take (25 - 19)) : Nat) : Int) ((natL ((bs.drop 25).take (31 - 25)) : Nat) : Int)))] (by kernel_rfl) rfl ?_
   refine VL_store (b := b2) (o := 0) (vs := [.int .i64 0, .int .i64 0, .int .i64 0, .int .i64 0, .int .i64 0, .int .i64 0]) (by kernel_rfl) (by kernel_rfl) ho2 (Nat.le_of_ble_eq_true (by kernel_rfl)) ?_
   intro w19 hw8
   replace hS := Step.transNew hS hw8.step (fun _ _ _ => by omega)
   replace hA := hA.keepB hw8.step (show ¬ sb1 = b2 by omega)
   replace ho1 := ho1.step hw8.step (show ¬ b1 = b2 by omega)
   replace hsl1 := hsl1.keepB hw8.step (show ¬ sb1 = b2 by omega)
   replace hsl2 := hsl2.keepB hw8.step (show ¬ sb1 = b2 by omega)
   replace hsl3 := hsl3.keepB hw8.step (show ¬ sb1 = b2 by omega)
   replace hsl4 := hsl4.keepB hw8.step (show ¬ sb1 = b2 by omega)
   replace hsl5 := hsl5.keepB hw8.step (show ¬ sb1 = b2 by omega)
   replace ho10 := ho10.step hw8.step (show ¬ b3 = b2 by omega)
   have ho11 : Own w19 b2 #[.int .i64 0, .int .i64 0, .int .i64 0, .int .i64 0, .int .i64 0, .int .i64 0] 52 := Own.cast hw8.own (by kernel_rfl)
   have hzhw8 := hw8.same
   refine VL_pure 4 [2, 3] [(2, .pointer (some ⟨b2, 0, none⟩)), (3, .int .i64 (rightC (IntKind.wrap .i64 (bs.getD 0 0)) ((natL ((bs.drop 1).take (7 - 1)) : Nat) : Int) ((natL ((bs.drop 7).take (13 - 7)) : Nat) : Int) ((natL ((bs.drop 13).take (19 - 13)) : Nat) : Int) ((natL ((bs.drop 19).take (25 - 19)) : Nat) : Int) ((natL ((bs.drop 25).take (31 - 25)) : Nat) : Int)))] (by kernel_rfl) rfl ?_
   refine VL_end (by kernel_rfl) ?_
   refine VQ_next ?_
   refine VC_ret ?_
   refine VQ_then_ret ?_
   refine VQ_retC1T1 (T := 52) (.agg #[.int .i64 0, .int .i64 0, .int .i64 0, .int .i64 0, .int .i64 0, .int .i64 0]) (.int .i64 (rightC (IntKind.wrap .i64 (bs.getD 0 0)) ((natL ((bs.drop 1).take (7 - 1)) : Nat) : Int) ((natL ((bs.drop 7).take (13 - 7)) : Nat) : Int) ((natL ((bs.drop 13).take (19 - 13)) : Nat) : Int) ((natL ((bs.drop 19).take (25 - 19)) : Nat) : Int) ((natL ((bs.drop 25).take (31 - 25)) : Nat) : Int))) (.inr rfl) rfl rfl rfl (Loads.ownL ho11 (n := 6) (by kernel_rfl) (by kernel_rfl) (by kernel_rfl)) ?_
   have hq := rt_r (bs := bs) (show xi = 89 by omega) (by omega)
   have hq9 : rtE xi bs ≠ 0 := by rw [hq]; assumption
   exact ⟨by simp only [rtV_n hq9, hq]; first | done | rfl, hS⟩
  ·refine VC_skip ?_
   refine VQ_next ?_
   refine VC_seq ?_
   refine VC_region ?_
   refine VL_load (d := 46) (t := 52) (a := ⟨b3, 0, none⟩) (v := .agg #[.int .i64 (IntKind.wrap .i64 (bs.getD 0 0)), .int .i64 ((natL ((bs.drop 1).take (7 - 1)) : Nat) : Int), .int .i64 ((natL ((bs.drop 7).take (13 - 7)) : Nat) : Int), .int .i64 ((natL ((bs.drop 13).take (19 - 13)) : Nat) : Int), .int .i64 ((natL ((bs.drop 19).take (25 - 19)) : Nat) : Int), .int .i64 ((natL ((bs.drop 25).take (31 - 25)) : Nat) : Int)]) (by kernel_rfl) (by kernel_rfl) (Loads.ownL ho10 (n := 6) (by kernel_rfl) (by kernel_rfl) (by kernel_rfl)) ?_
   refine VL_store (b := b2) (o := 0) (vs := [.int .i64 (IntKind.wrap .i64 (bs.getD 0 0)), .int .i64 ((natL ((bs.drop 1).take (7 - 1)) : Nat) : Int), .int .i64 ((natL ((bs.drop 7).take (13 - 7)) : Nat) : Int), .int .i64 ((natL ((bs.drop 13).take (19 - 13)) : Nat) : Int), .int .i64 ((natL ((bs.drop 19).take (25 - 19)) : Nat) : Int), .int .i64 ((natL ((bs.drop 25).take (31 - 25)) : Nat) : Int)]) (by kernel_rfl) (by kernel_rfl) ho2 (Nat.le_of_ble_eq_true (by kernel_rfl)) ?_
   intro w20 hw9
   replace hS := Step.transNew hS hw9.step (fun _ _ _ => by omega)
   replace hA := hA.keepB hw9.step (show ¬ sb1 = b2 by omega)
   replace ho1 := ho1.step hw9.step (show ¬ b1 = b2 by omega)
   replace hsl1 := hsl1.keepB hw9.step (show ¬ sb1 = b2 by omega)
   replace hsl2 := hsl2.keepB hw9.step (show ¬ sb1 = b2 by omega)
   replace hsl3 := hsl3.keepB hw9.step (show ¬ sb1 = b2 by omega)
   replace hsl4 := hsl4.keepB hw9.step (show ¬ sb1 = b2 by omega)
   replace hsl5 := hsl5.keepB hw9.step (show ¬ sb1 = b2 by omega)
   replace ho10 := ho10.step hw9.step (show ¬ b3 = b2 by omega)
   have ho12 : Own w20 b2 #[.int .i64 (IntKind.wrap .i64 (bs.getD 0 0)), .int .i64 ((natL ((bs.drop 1).take (7 - 1)) : Nat) : Int), .int .i64 ((natL ((bs.drop 7).take (13 - 7)) : Nat) : Int), .int .i64 ((natL ((bs.drop 13).take (19 - 13)) : Nat) : Int), .int .i64 ((natL ((bs.drop 19).take (25 - 19)) : Nat) : Int), .int .i64 ((natL ((bs.drop 25).take (31 - 25)) : Nat) : Int)] 52 := Own.cast hw9.own (by kernel_rfl)
   have hzhw9 := hw9.same
   refine VL_pure 3 [2, 3] [(2, .pointer (some ⟨b2, 0, none⟩)), (3, .int .i64 0)] (by kernel_rfl) rfl ?_
   refine VL_end (by kernel_rfl) ?_
   refine VQ_next ?_
   refine VC_ret ?_
   refine VQ_retC1T1 (T := 52) (.agg #[.int .i64 (IntKind.wrap .i64 (bs.getD 0 0)), .int .i64 ((natL ((bs.drop 1).take (7 - 1)) : Nat) : Int), .int .i64 ((natL ((bs.drop 7).take (13 - 7)) : Nat) : Int), .int .i64 ((natL ((bs.drop 13).take (19 - 13)) : Nat) : Int), .int .i64 ((natL ((bs.drop 19).take (25 - 19)) : Nat) : Int), .int .i64 ((natL ((bs.drop 25).take (31 - 25)) : Nat) : Int)]) (.int .i64 0) (.inr rfl) rfl rfl rfl (Loads.ownL ho12 (n := 6) (by kernel_rfl) (by kernel_rfl) (by kernel_rfl)) ?_
   have hq := rt_r (bs := bs) (show xi = 89 by omega) (by omega)
   have hq9 : rtE xi bs = 0 := by rw [hq]; first | assumption | exact Classical.not_not.1 (by assumption)
   exact ⟨by simp only [rtV_0 hq9, hq9]; first | done | rfl, hS⟩

set_option maxRecDepth 100000 in
set_option maxHeartbeats 4000000 in
theorem rrdtraf_any (xi : Int) (A : Option Addr) (n c Bd : Nat) (bs : List Int) (w : World) (hn : bs.length = n) (hc : n ≤ c) (hA : Sl w Bd A (iL .u8 bs)) (hb : Bytes bs) (hBd : Bd ≤ w.heap.size) :
  CV Try.prog 47 #[.agg #[.int .u8 xi, .slice A n c]] w (fun x w1 => x = .tuple #[.agg #[.int .i64 (rtV xi bs (IntKind.wrap .i64 (bs.getD 0 0))), .int .i64 (rtV xi bs (fld bs 0)), .int .i64 (rtV xi bs (fld bs 1)), .int .i64 (rtV xi bs (fld bs 2)), .int .i64 (rtV xi bs (fld bs 3)), .int .i64 (rtV xi bs (fld bs 4))], .int .i64 (rtE xi bs)] ∧ Step No w w1) := by
 have hS : Step No w w := Step.refl _ _
 refine CV_enter Try.f47 _ 44 [(0, .agg #[.int .u8 xi, .slice A n c])] Try.func47 rfl rfl (by kernel_rfl) rfl ?_
 refine VC_seq ?_
 refine VC_region ?_
 have hzs1 := hS.size
 refine VL_box (d := 1) (t := 60) (c := #[.int .u8 xi, .slice A n c]) (by kernel_rfl) (by kernel_rfl) ?_
 intro b1 w1 hn1
 replace hS := Step.trans hS (hn1.step No)
 replace hA := hA.no (hn1.step No)
 have ho1 := hn1.own
 have hzhn1 := hn1.size
 have hqhn1 := hn1.eqb
 have hzs2 := hS.size
 have hzl1 := ho1.lt
 refine VL_box (d := 2) (t := 52) (c := #[.int .i64 0, .int .i64 0, .int .i64 0, .int .i64 0, .int .i64 0, .int .i64 0]) (by kernel_rfl) (by kernel_rfl) ?_
 intro b2 w2 hn2
 replace hS := Step.trans hS (hn2.step No)
 replace hA := hA.no (hn2.step No)
 replace ho1 := ho1.no (hn2.step No)
 have ho2 := hn2.own
 have hzhn2 := hn2.size
 have hqhn2 := hn2.eqb
 refine VL_pure 3 [1, 2] [(1, .pointer (some ⟨b1, 0, none⟩)), (2, .pointer (some ⟨b2, 0, none⟩))] (by kernel_rfl) rfl ?_
 refine VL_end (by kernel_rfl) ?_
 refine VQ_next ?_
 refine VC_seq ?_
 refine VC_seq ?_
 refine VC_region ?_
 refine VL_pure 1 [1, 2, 7] [(1, .pointer (some ⟨b1, 0, none⟩)), (2, .pointer (some ⟨b2, 0, none⟩)), (7, .pointer (some ⟨b1, 0, none⟩))] (by kernel_rfl) rfl ?_
 refine VL_load (d := 8) (t := 5) (a := ⟨b1, 0, none⟩) (v := .int .u8 xi) (by kernel_rfl) (by kernel_rfl) (Loads.own1 ho1 (by kernel_rfl) (by rfl)) ?_
 refine VL_pure 3 [1, 2, 9] [(1, .pointer (some ⟨b1, 0, none⟩)), (2, .pointer (some ⟨b2, 0, none⟩)), (9, .bool (xi != 89))] (by kernel_rfl) rfl ?_
 refine VL_end (by kernel_rfl) ?_
 refine VQ_next ?_
 refine VC_ne xi 89 (by kernel_rfl) (fun h1 => ?_) (fun h1 => ?_)
 ·refine VC_seq ?_
  refine VC_region ?_
  refine VL_pure 1 [2, 10] [(2, .pointer (some ⟨b2, 0, none⟩)), (10, .agg #[.int .i64 0, .int .i64 0, .int .i64 0, .int .i64 0, .int .i64 0, .int .i64 0])] (by kernel_rfl) rfl ?_
  refine VL_store (b := b2) (o := 0) (vs := [.int .i64 0, .int .i64 0, .int .i64 0, .int .i64 0, .int .i64 0, .int .i64 0]) (by kernel_rfl) (by kernel_rfl) ho2 (Nat.le_of_ble_eq_true (by kernel_rfl)) ?_
  intro w3 hw1
  replace hS := Step.transNew hS hw1.step (fun _ _ _ => by omega)
  replace hA := hA.step hw1.step (fun k hk (hF : k = b2) => by omega)
  replace ho1 := ho1.step hw1.step (show ¬ b1 = b2 by omega)
  have ho3 : Own w3 b2 #[.int .i64 0, .int .i64 0, .int .i64 0, .int .i64 0, .int .i64 0, .int .i64 0] 52 := Own.cast hw1.own (by kernel_rfl)
  have hzhw1 := hw1.same
  refine VL_pure 3 [2, 3] [(2, .pointer (some ⟨b2, 0, none⟩)), (3, .int .i64 12)] (by kernel_rfl) rfl ?_
  refine VL_end (by kernel_rfl) ?_
  refine VQ_next ?_
  refine VC_ret ?_
  refine VQ_then_ret ?_
  refine VQ_retC1T1 (T := 52) (.agg #[.int .i64 0, .int .i64 0, .int .i64 0, .int .i64 0, .int .i64 0, .int .i64 0]) (.int .i64 12) (.inr rfl) rfl rfl rfl (Loads.ownL ho3 (n := 6) (by kernel_rfl) (by kernel_rfl) (by kernel_rfl)) ?_
  have hq := rt_12 (bs := bs) (show xi ≠ 89 by assumption)
  exact ⟨by simp only [rtV_n (show rtE xi bs ≠ 0 by rw [hq]; decide), hq], hS⟩
 ·refine VC_skip ?_
  refine VQ_next ?_
  refine VC_seq ?_
  refine VC_region ?_
  refine VL_pure 1 [2, 11] [(2, .pointer (some ⟨b2, 0, none⟩)), (11, .pointer (some ⟨b1, 1, none⟩))] (by kernel_rfl) rfl ?_
  refine VL_load (d := 12) (t := 25) (a := ⟨b1, 1, none⟩) (v := .slice A n c) (by kernel_rfl) (by kernel_rfl) (Loads.own1 ho1 (by kernel_rfl) (by rfl)) ?_
  refine VL_pure 3 [2, 4] [(2, .pointer (some ⟨b2, 0, none⟩)), (4, .slice A n c)] (by kernel_rfl) rfl ?_
  refine VL_end (by kernel_rfl) ?_
  refine VQ_next ?_
  refine VC_seq ?_
  refine VC_seq ?_
  refine VC_region ?_
  refine VL_pure 3 [2, 4, 15] [(2, .pointer (some ⟨b2, 0, none⟩)), (4, .slice A n c), (15, .bool (((n : Nat) : Int) != 31))] (by kernel_rfl) rfl ?_
  refine VL_end (by kernel_rfl) ?_
  refine VQ_next ?_
  refine VC_ne ((n : Nat) : Int) 31 (by kernel_rfl) (fun h2 => ?_) (fun h2 => ?_)
  ·refine VC_seq ?_
   refine VC_region ?_
   refine VL_pure 1 [2, 16] [(2, .pointer (some ⟨b2, 0, none⟩)), (16, .agg #[.int .i64 0, .int .i64 0, .int .i64 0, .int .i64 0, .int .i64 0, .int .i64 0])] (by kernel_rfl) rfl ?_
   refine VL_store (b := b2) (o := 0) (vs := [.int .i64 0, .int .i64 0, .int .i64 0, .int .i64 0, .int .i64 0, .int .i64 0]) (by kernel_rfl) (by kernel_rfl) ho2 (Nat.le_of_ble_eq_true (by kernel_rfl)) ?_
   intro w4 hw2
   replace hS := Step.transNew hS hw2.step (fun _ _ _ => by omega)
   replace hA := hA.step hw2.step (fun k hk (hF : k = b2) => by omega)
   replace ho1 := ho1.step hw2.step (show ¬ b1 = b2 by omega)
   have ho4 : Own w4 b2 #[.int .i64 0, .int .i64 0, .int .i64 0, .int .i64 0, .int .i64 0, .int .i64 0] 52 := Own.cast hw2.own (by kernel_rfl)
   have hzhw2 := hw2.same
   refine VL_pure 3 [2, 3] [(2, .pointer (some ⟨b2, 0, none⟩)), (3, .int .i64 5)] (by kernel_rfl) rfl ?_
   refine VL_end (by kernel_rfl) ?_
   refine VQ_next ?_
   refine VC_ret ?_
   refine VQ_then_ret ?_
   refine VQ_retC1T1 (T := 52) (.agg #[.int .i64 0, .int .i64 0, .int .i64 0, .int .i64 0, .int .i64 0, .int .i64 0]) (.int .i64 5) (.inr rfl) rfl rfl rfl (Loads.ownL ho4 (n := 6) (by kernel_rfl) (by kernel_rfl) (by kernel_rfl)) ?_
   have hq := rt_5 (bs := bs) (show xi = 89 by omega) (by omega)
   exact ⟨by simp only [rtV_n (show rtE xi bs ≠ 0 by rw [hq]; decide), hq], hS⟩
  ·refine VC_skip ?_
   refine VQ_next ?_
   refine VC_seq ?_
   obtain ⟨sb1, so1, rfl, hlbsb1⟩ := hA.open (by simp only [iL_length]; omega)
   have hs1 := drew_step w2
   have hs1z : w2.heap.size = w2.drew.heap.size := rfl
   refine VC_text [[], [0], [0, 1], [0, 1, 2], [], [4], [4, 5], [], [7], [4, 5, 6, 7, 8], [], [10], [4, 5, 6, 7, 8, 9, 10, 11], [], [13], [4, 5, 6, 7, 8, 9, 10, 11, 12, 13, 14], [], [16], [4, 5, 6, 7, 8, 9, 10, 11, 12, 13, 14, 15, 16, 17], [0, 1, 2, 3, 4, 5, 6, 7, 8, 9, 10, 11, 12, 13, 14, 15, 16, 17, 18], [], [0, 1, 2, 3, 4, 5, 6, 7, 8, 9, 10, 11, 12, 13, 14, 15, 16, 17, 18, 19, 20]] 21 (fun x y => Step (fun k => w2.heap.size ≤ k) x y) [20] [0, 1, 2, 3, 4, 5, 6, 7, 8, 9, 10, 11, 12, 13, 14, 15, 16, 17, 18, 19, 20] (by kernel_rfl) (by kernel_rfl) (by kernel_rfl) (by kernel_rfl) (fun x => Step.refl _ x) (fun h k => Step.trans h k) Step.weak ?_
   have hzs3 := hS.size
   have hzl2 := ho1.lt
   have hzl3 := ho2.lt
   generalize w2.drew = w5 at hs1 hs1z ⊢
   replace hS := Step.trans hS hs1
   replace hA := hA.no hs1
   replace ho1 := ho1.no hs1
   replace ho2 := ho2.no hs1
   refine VT_pures 1 (kn' := [(0, .slice (some ⟨sb1, so1, none⟩) n c)]) (by kernel_rfl) ?_
   refine VT_index (d := 18) (b := sb1) (o := so1) (len := n) (sz := 1) (mm := 0) (by kernel_rfl) (by kernel_rfl) 0 (by rfl) (by omega) so1 (by omega) ?_
   refine VT_load (d := 19) (t := 5) (a := ⟨sb1, so1, none⟩) (v := .int .u8 (bs.getD 0 0)) (by kernel_rfl) (by kernel_rfl) ?_ ?_
   ·intro w6 hr1
    replace hS := Step.transNew hS hr1 (fun i hi hG => by (try simp only at hG); omega)
    replace hA := hA.keepB hr1 (by (try simp only); omega)
    replace ho1 := ho1.step hr1 (by (try simp only); omega)
    replace ho2 := ho2.step hr1 (by (try simp only); omega)
    exact (Sl.ldI hA (by kernel_rfl) 0 (by (try simp only [List.length_set, List.length_append, List.length_map, List.length_replicate, List.length_cons, List.length_nil, List.length_take, List.length_drop, List.length_range]) <;> omega))
   refine VT_pures 2 (kn' := [(4, .slice (some ⟨sb1, so1, none⟩) n c), (3, .int .i64 (IntKind.wrap .i64 (bs.getD 0 0))), (2, .int .u8 (bs.getD 0 0)), (1, .pointer (some ⟨sb1, so1, none⟩)), (0, .slice (some ⟨sb1, so1, none⟩) n c)]) (by kernel_rfl) ?_
   obtain ⟨so2, hso2⟩ : ∃ x, (if c = 1 then so1 else so1 + 1 * 1) = x := ⟨_, rfl⟩
   refine VT_slice (d := 22) (b := sb1) (o := so1) (sz := 1) (len := n) (cap := c) (lo := (some 1)) (hi := (some 7)) (mx := none) (by kernel_rfl) (by kernel_rfl) (fun h => by first | exact absurd rfl h | exact (fun h => by cases h)) 1 7 c rfl rfl rfl (by omega) (by omega) (by omega) so2 hso2 6 (by omega) (c - 1) (by omega) ?_
   try (have so2q := hso2; rw [if_neg (by omega)] at so2q)
   have hsl1 := Sl.cutI (H := 7) hA hso2 (by omega)
   refine VT_fcall (d := 23) (f := 62) (args := #[.slice (some ⟨sb1, so2, none⟩) 6 (c - 1)]) (v := .int .i64 ((natL ((bs.drop 1).take (7 - 1)) : Nat) : Int)) (by kernel_rfl) (by kernel_rfl) (by kernel_rfl) Try.call62 ?_ ?_
   ·intro w7 hr2
    replace hS := Step.transNew hS hr2 (fun i hi hG => by (try simp only at hG); omega)
    replace hA := hA.keepB hr2 (by (try simp only); omega)
    replace ho1 := ho1.step hr2 (by (try simp only); omega)
    replace ho2 := ho2.step hr2 (by (try simp only); omega)
    replace hsl1 := hsl1.keepB hr2 (by (try simp only); omega)
    exact numberN_any (some ⟨sb1, so2, none⟩) 6 (c - 1) _ ((bs.drop 1).take (7 - 1)) _ (by simp only [List.length_take, List.length_drop]; omega) hsl1 ((hb.drop _).take _) (by omega)
   refine VT_pures 1 (kn' := [(7, .slice (some ⟨sb1, so1, none⟩) n c), (6, .int .i64 ((natL ((bs.drop 1).take (7 - 1)) : Nat) : Int)), (5, .slice (some ⟨sb1, so2, none⟩) 6 (c - 1)), (4, .slice (some ⟨sb1, so1, none⟩) n c), (3, .int .i64 (IntKind.wrap .i64 (bs.getD 0 0))), (2, .int .u8 (bs.getD 0 0)), (1, .pointer (some ⟨sb1, so1, none⟩)), (0, .slice (some ⟨sb1, so1, none⟩) n c)]) (by kernel_rfl) ?_
   obtain ⟨so3, hso3⟩ : ∃ x, (if c = 7 then so1 else so1 + 7 * 1) = x := ⟨_, rfl⟩
   refine VT_slice (d := 25) (b := sb1) (o := so1) (sz := 1) (len := n) (cap := c) (lo := (some 7)) (hi := (some 13)) (mx := none) (by kernel_rfl) (by kernel_rfl) (fun h => by first | exact absurd rfl h | exact (fun h => by cases h)) 7 13 c rfl rfl rfl (by omega) (by omega) (by omega) so3 hso3 6 (by omega) (c - 7) (by omega) ?_
   try (have so3q := hso3; rw [if_neg (by omega)] at so3q)
   have hsl2 := Sl.cutI (H := 13) hA hso3 (by omega)
   refine VT_fcall (d := 26) (f := 62) (args := #[.slice (some ⟨sb1, so3, none⟩) 6 (c - 7)]) (v := .int .i64 ((natL ((bs.drop 7).take (13 - 7)) : Nat) : Int)) (by kernel_rfl) (by kernel_rfl) (by kernel_rfl) Try.call62 ?_ ?_
   ·intro w8 hr3
    replace hS := Step.transNew hS hr3 (fun i hi hG => by (try simp only at hG); omega)
    replace hA := hA.keepB hr3 (by (try simp only); omega)
    replace ho1 := ho1.step hr3 (by (try simp only); omega)
    replace ho2 := ho2.step hr3 (by (try simp only); omega)
    replace hsl1 := hsl1.keepB hr3 (by (try simp only); omega)
    replace hsl2 := hsl2.keepB hr3 (by (try simp only); omega)
    exact numberN_any (some ⟨sb1, so3, none⟩) 6 (c - 7) _ ((bs.drop 7).take (13 - 7)) _ (by simp only [List.length_take, List.length_drop]; omega) hsl2 ((hb.drop _).take _) (by omega)
   refine VT_pures 1 (kn' := [(10, .slice (some ⟨sb1, so1, none⟩) n c), (9, .int .i64 ((natL ((bs.drop 7).take (13 - 7)) : Nat) : Int)), (8, .slice (some ⟨sb1, so3, none⟩) 6 (c - 7)), (7, .slice (some ⟨sb1, so1, none⟩) n c), (6, .int .i64 ((natL ((bs.drop 1).take (7 - 1)) : Nat) : Int)), (5, .slice (some ⟨sb1, so2, none⟩) 6 (c - 1)), (4, .slice (some ⟨sb1, so1, none⟩) n c), (3, .int .i64 (IntKind.wrap .i64 (bs.getD 0 0))), (2, .int .u8 (bs.getD 0 0)), (1, .pointer (some ⟨sb1, so1, none⟩)), (0, .slice (some ⟨sb1, so1, none⟩) n c)]) (by kernel_rfl) ?_
   obtain ⟨so4, hso4⟩ : ∃ x, (if c = 13 then so1 else so1 + 13 * 1) = x := ⟨_, rfl⟩
   refine VT_slice (d := 28) (b := sb1) (o := so1) (sz := 1) (len := n) (cap := c) (lo := (some 13)) (hi := (some 19)) (mx := none) (by kernel_rfl) (by kernel_rfl) (fun h => by first | exact absurd rfl h | exact (fun h => by cases h)) 13 19 c rfl rfl rfl (by omega) (by omega) (by omega) so4 hso4 6 (by omega) (c - 13) (by omega) ?_
   try (have so4q := hso4; rw [if_neg (by omega)] at so4q)
   have hsl3 := Sl.cutI (H := 19) hA hso4 (by omega)
   refine VT_fcall (d := 29) (f := 62) (args := #[.slice (some ⟨sb1, so4, none⟩) 6 (c - 13)]) (v := .int .i64 ((natL ((bs.drop 13).take (19 - 13)) : Nat) : Int)) (by kernel_rfl) (by kernel_rfl) (by kernel_rfl) Try.call62 ?_ ?_
   ·intro w9 hr4
    replace hS := Step.transNew hS hr4 (fun i hi hG => by (try simp only at hG); omega)
    replace hA := hA.keepB hr4 (by (try simp only); omega)
    replace ho1 := ho1.step hr4 (by (try simp only); omega)
    replace ho2 := ho2.step hr4 (by (try simp only); omega)
    replace hsl1 := hsl1.keepB hr4 (by (try simp only); omega)
    replace hsl2 := hsl2.keepB hr4 (by (try simp only); omega)
    replace hsl3 := hsl3.keepB hr4 (by (try simp only); omega)
    exact numberN_any (some ⟨sb1, so4, none⟩) 6 (c - 13) _ ((bs.drop 13).take (19 - 13)) _ (by simp only [List.length_take, List.length_drop]; omega) hsl3 ((hb.drop _).take _) (by omega)
   refine VT_pures 1 (kn' := [(13, .slice (some ⟨sb1, so1, none⟩) n c), (12, .int .i64 ((natL ((bs.drop 13).take (19 - 13)) : Nat) : Int)), (11, .slice (some ⟨sb1, so4, none⟩) 6 (c - 13)), (10, .slice (some ⟨sb1, so1, none⟩) n c), (9, .int .i64 ((natL ((bs.drop 7).take (13 - 7)) : Nat) : Int)), (8, .slice (some ⟨sb1, so3, none⟩) 6 (c - 7)), (7, .slice (some ⟨sb1, so1, none⟩) n c), (6, .int .i64 ((natL ((bs.drop 1).take (7 - 1)) : Nat) : Int)), (5, .slice (some ⟨sb1, so2, none⟩) 6 (c - 1)), (4, .slice (some ⟨sb1, so1, none⟩) n c), (3, .int .i64 (IntKind.wrap .i64 (bs.getD 0 0))), (2, .int .u8 (bs.getD 0 0)), (1, .pointer (some ⟨sb1, so1, none⟩)), (0, .slice (some ⟨sb1, so1, none⟩) n c)]) (by kernel_rfl) ?_
   obtain ⟨so5, hso5⟩ : ∃ x, (if c = 19 then so1 else so1 + 19 * 1) = x := ⟨_, rfl⟩
   refine VT_slice (d := 31) (b := sb1) (o := so1) (sz := 1) (len := n) (cap := c) (lo := (some 19)) (hi := (some 25)) (mx := none) (by kernel_rfl) (by kernel_rfl) (fun h => by first | exact absurd rfl h | exact (fun h => by cases h)) 19 25 c rfl rfl rfl (by omega) (by omega) (by omega) so5 hso5 6 (by omega) (c - 19) (by omega) ?_
   try (have so5q := hso5; rw [if_neg (by omega)] at so5q)
   have hsl4 := Sl.cutI (H := 25) hA hso5 (by omega)
   refine VT_fcall (d := 32) (f := 62) (args := #[.slice (some ⟨sb1, so5, none⟩) 6 (c - 19)]) (v := .int .i64 ((natL ((bs.drop 19).take (25 - 19)) : Nat) : Int)) (by kernel_rfl) (by kernel_rfl) (by kernel_rfl) Try.call62 ?_ ?_
   ·intro w10 hr5
    replace hS := Step.transNew hS hr5 (fun i hi hG => by (try simp only at hG); omega)
    replace hA := hA.keepB hr5 (by (try simp only); omega)
    replace ho1 := ho1.step hr5 (by (try simp only); omega)
    replace ho2 := ho2.step hr5 (by (try simp only); omega)
    replace hsl1 := hsl1.keepB hr5 (by (try simp only); omega)
    replace hsl2 := hsl2.keepB hr5 (by (try simp only); omega)
    replace hsl3 := hsl3.keepB hr5 (by (try simp only); omega)
    replace hsl4 := hsl4.keepB hr5 (by (try simp only); omega)
    exact numberN_any (some ⟨sb1, so5, none⟩) 6 (c - 19) _ ((bs.drop 19).take (25 - 19)) _ (by simp only [List.length_take, List.length_drop]; omega) hsl4 ((hb.drop _).take _) (by omega)
   refine VT_pures 1 (kn' := [(16, .slice (some ⟨sb1, so1, none⟩) n c), (15, .int .i64 ((natL ((bs.drop 19).take (25 - 19)) : Nat) : Int)), (14, .slice (some ⟨sb1, so5, none⟩) 6 (c - 19)), (13, .slice (some ⟨sb1, so1, none⟩) n c), (12, .int .i64 ((natL ((bs.drop 13).take (19 - 13)) : Nat) : Int)), (11, .slice (some ⟨sb1, so4, none⟩) 6 (c - 13)), (10, .slice (some ⟨sb1, so1, none⟩) n c), (9, .int .i64 ((natL ((bs.drop 7).take (13 - 7)) : Nat) : Int)), (8, .slice (some ⟨sb1, so3, none⟩) 6 (c - 7)), (7, .slice (some ⟨sb1, so1, none⟩) n c), (6, .int .i64 ((natL ((bs.drop 1).take (7 - 1)) : Nat) : Int)), (5, .slice (some ⟨sb1, so2, none⟩) 6 (c - 1)), (4, .slice (some ⟨sb1, so1, none⟩) n c), (3, .int .i64 (IntKind.wrap .i64 (bs.getD 0 0))), (2, .int .u8 (bs.getD 0 0)), (1, .pointer (some ⟨sb1, so1, none⟩)), (0, .slice (some ⟨sb1, so1, none⟩) n c)]) (by kernel_rfl) ?_
   obtain ⟨so6, hso6⟩ : ∃ x, (if c = 25 then so1 else so1 + 25 * 1) = x := ⟨_, rfl⟩
   refine VT_slice (d := 34) (b := sb1) (o := so1) (sz := 1) (len := n) (cap := c) (lo := (some 25)) (hi := (some 31)) (mx := none) (by kernel_rfl) (by kernel_rfl) (fun h => by first | exact absurd rfl h | exact (fun h => by cases h)) 25 31 c rfl rfl rfl (by omega) (by omega) (by omega) so6 hso6 6 (by omega) (c - 25) (by omega) ?_
   try (have so6q := hso6; rw [if_neg (by omega)] at so6q)
   have hsl5 := Sl.cutI (H := 31) hA hso6 (by omega)
   refine VT_fcall (d := 35) (f := 62) (args := #[.slice (some ⟨sb1, so6, none⟩) 6 (c - 25)]) (v := .int .i64 ((natL ((bs.drop 25).take (31 - 25)) : Nat) : Int)) (by kernel_rfl) (by kernel_rfl) (by kernel_rfl) Try.call62 ?_ ?_
   ·intro w11 hr6
    replace hS := Step.transNew hS hr6 (fun i hi hG => by (try simp only at hG); omega)
    replace hA := hA.keepB hr6 (by (try simp only); omega)
    replace ho1 := ho1.step hr6 (by (try simp only); omega)
    replace ho2 := ho2.step hr6 (by (try simp only); omega)
    replace hsl1 := hsl1.keepB hr6 (by (try simp only); omega)
    replace hsl2 := hsl2.keepB hr6 (by (try simp only); omega)
    replace hsl3 := hsl3.keepB hr6 (by (try simp only); omega)
    replace hsl4 := hsl4.keepB hr6 (by (try simp only); omega)
    replace hsl5 := hsl5.keepB hr6 (by (try simp only); omega)
    exact numberN_any (some ⟨sb1, so6, none⟩) 6 (c - 25) _ ((bs.drop 25).take (31 - 25)) _ (by simp only [List.length_take, List.length_drop]; omega) hsl5 ((hb.drop _).take _) (by omega)
   refine VT_pures 1 (kn' := [(19, .agg #[.int .i64 (IntKind.wrap .i64 (bs.getD 0 0)), .int .i64 ((natL ((bs.drop 1).take (7 - 1)) : Nat) : Int), .int .i64 ((natL ((bs.drop 7).take (13 - 7)) : Nat) : Int), .int .i64 ((natL ((bs.drop 13).take (19 - 13)) : Nat) : Int), .int .i64 ((natL ((bs.drop 19).take (25 - 19)) : Nat) : Int), .int .i64 ((natL ((bs.drop 25).take (31 - 25)) : Nat) : Int)]), (18, .int .i64 ((natL ((bs.drop 25).take (31 - 25)) : Nat) : Int)), (17, .slice (some ⟨sb1, so6, none⟩) 6 (c - 25)), (16, .slice (some ⟨sb1, so1, none⟩) n c), (15, .int .i64 ((natL ((bs.drop 19).take (25 - 19)) : Nat) : Int)), (14, .slice (some ⟨sb1, so5, none⟩) 6 (c - 19)), (13, .slice (some ⟨sb1, so1, none⟩) n c), (12, .int .i64 ((natL ((bs.drop 13).take (19 - 13)) : Nat) : Int)), (11, .slice (some ⟨sb1, so4, none⟩) 6 (c - 13)), (10, .slice (some ⟨sb1, so1, none⟩) n c), (9, .int .i64 ((natL ((bs.drop 7).take (13 - 7)) : Nat) : Int)), (8, .slice (some ⟨sb1, so3, none⟩) 6 (c - 7)), (7, .slice (some ⟨sb1, so1, none⟩) n c), (6, .int .i64 ((natL ((bs.drop 1).take (7 - 1)) : Nat) : Int)), (5, .slice (some ⟨sb1, so2, none⟩) 6 (c - 1)), (4, .slice (some ⟨sb1, so1, none⟩) n c), (3, .int .i64 (IntKind.wrap .i64 (bs.getD 0 0))), (2, .int .u8 (bs.getD 0 0)), (1, .pointer (some ⟨sb1, so1, none⟩)), (0, .slice (some ⟨sb1, so1, none⟩) n c)]) (by kernel_rfl) ?_
   refine VT_chain (by kernel_rfl) ?_
   intro w12 hs2
   have hzhs2 := hs2.size
   replace hS := Step.trans hS hs2
   replace hA := hA.no hs2
   replace ho1 := ho1.no hs2
   replace ho2 := ho2.no hs2
   replace hsl1 := hsl1.no hs2
   replace hsl2 := hsl2.no hs2
   replace hsl3 := hsl3.no hs2
   replace hsl4 := hsl4.no hs2
   replace hsl5 := hsl5.no hs2
   have hzs4 := hS.size
   have hzl4 := ho1.lt
   have hzl5 := ho2.lt
   have hzs5 := hS.size
   have hzl6 := ho1.lt
   have hzl7 := ho2.lt
   refine VTc_box (d := 5) (t := 52) (c := #[.int .i64 0, .int .i64 0, .int .i64 0, .int .i64 0, .int .i64 0, .int .i64 0]) (by kernel_rfl) (by kernel_rfl) (fun b w1 hn => hn.step _) ?_
   intro b3 w13 hn3
   replace hS := Step.trans hS (hn3.step No)
   replace hA := hA.no (hn3.step No)
   replace ho1 := ho1.no (hn3.step No)
   replace ho2 := ho2.no (hn3.step No)
   replace hsl1 := hsl1.no (hn3.step No)
   replace hsl2 := hsl2.no (hn3.step No)
   replace hsl3 := hsl3.no (hn3.step No)
   replace hsl4 := hsl4.no (hn3.step No)
   replace hsl5 := hsl5.no (hn3.step No)
   have ho5 := hn3.own
   have hzhn3 := hn3.size
   have hqhn3 := hn3.eqb
   refine VT_end ?_
   intro w14 hs3
   replace hS := Step.trans hS hs3
   replace hA := hA.no hs3
   replace ho1 := ho1.no hs3
   replace ho2 := ho2.no hs3
   replace hsl1 := hsl1.no hs3
   replace hsl2 := hsl2.no hs3
   replace hsl3 := hsl3.no hs3
   replace hsl4 := hsl4.no hs3
   replace hsl5 := hsl5.no hs3
   replace ho5 := ho5.no hs3
   refine VL_keep [2, 36, 5] [(2, .pointer (some ⟨b2, 0, none⟩)), (36, .agg #[.int .i64 (IntKind.wrap .i64 (bs.getD 0 0)), .int .i64 ((natL ((bs.drop 1).take (7 - 1)) : Nat) : Int), .int .i64 ((natL ((bs.drop 7).take (13 - 7)) : Nat) : Int), .int .i64 ((natL ((bs.drop 13).take (19 - 13)) : Nat) : Int), .int .i64 ((natL ((bs.drop 19).take (25 - 19)) : Nat) : Int), .int .i64 ((natL ((bs.drop 25).take (31 - 25)) : Nat) : Int)]), (5, .pointer (some ⟨b3, 0, none⟩))] (by kernel_rfl) ?_
   refine VL_store (b := b3) (o := 0) (vs := [.int .i64 (IntKind.wrap .i64 (bs.getD 0 0)), .int .i64 ((natL ((bs.drop 1).take (7 - 1)) : Nat) : Int), .int .i64 ((natL ((bs.drop 7).take (13 - 7)) : Nat) : Int), .int .i64 ((natL ((bs.drop 13).take (19 - 13)) : Nat) : Int), .int .i64 ((natL ((bs.drop 19).take (25 - 19)) : Nat) : Int), .int .i64 ((natL ((bs.drop 25).take (31 - 25)) : Nat) : Int)]) (by kernel_rfl) (by kernel_rfl) ho5 (Nat.le_of_ble_eq_true (by kernel_rfl)) ?_
   intro w15 hw3
   replace hS := Step.transNew hS hw3.step (fun _ _ _ => by omega)
   replace hA := hA.keepB hw3.step (show ¬ sb1 = b3 by omega)
   replace ho1 := ho1.step hw3.step (show ¬ b1 = b3 by omega)
   replace ho2 := ho2.step hw3.step (show ¬ b2 = b3 by omega)
   replace hsl1 := hsl1.keepB hw3.step (show ¬ sb1 = b3 by omega)
   replace hsl2 := hsl2.keepB hw3.step (show ¬ sb1 = b3 by omega)
   replace hsl3 := hsl3.keepB hw3.step (show ¬ sb1 = b3 by omega)
   replace hsl4 := hsl4.keepB hw3.step (show ¬ sb1 = b3 by omega)
   replace hsl5 := hsl5.keepB hw3.step (show ¬ sb1 = b3 by omega)
   have ho6 : Own w15 b3 #[.int .i64 (IntKind.wrap .i64 (bs.getD 0 0)), .int .i64 ((natL ((bs.drop 1).take (7 - 1)) : Nat) : Int), .int .i64 ((natL ((bs.drop 7).take (13 - 7)) : Nat) : Int), .int .i64 ((natL ((bs.drop 13).take (19 - 13)) : Nat) : Int), .int .i64 ((natL ((bs.drop 19).take (25 - 19)) : Nat) : Int), .int .i64 ((natL ((bs.drop 25).take (31 - 25)) : Nat) : Int)] 52 := Own.cast hw3.own (by kernel_rfl)
   have hzhw3 := hw3.same
   refine VL_end (by kernel_rfl) ?_
   refine VQ_next ?_
   refine VC_seq ?_
   refine VC_region ?_
   refine VL_load (d := 37) (t := 52) (a := ⟨b3, 0, none⟩) (v := .agg #[.int .i64 (IntKind.wrap .i64 (bs.getD 0 0)), .int .i64 ((natL ((bs.drop 1).take (7 - 1)) : Nat) : Int), .int .i64 ((natL ((bs.drop 7).take (13 - 7)) : Nat) : Int), .int .i64 ((natL ((bs.drop 13).take (19 - 13)) : Nat) : Int), .int .i64 ((natL ((bs.drop 19).take (25 - 19)) : Nat) : Int), .int .i64 ((natL ((bs.drop 25).take (31 - 25)) : Nat) : Int)]) (by kernel_rfl) (by kernel_rfl) (Loads.ownL ho6 (n := 6) (by kernel_rfl) (by kernel_rfl) (by kernel_rfl)) ?_
   have hzs6 := hS.size
   have hzl8 := ho1.lt
   have hzl9 := ho2.lt
   have hzl10 := ho6.lt
   refine VL_call (d := 38) (f := 63) (args := #[.agg #[.int .i64 (IntKind.wrap .i64 (bs.getD 0 0)), .int .i64 ((natL ((bs.drop 1).take (7 - 1)) : Nat) : Int), .int .i64 ((natL ((bs.drop 7).take (13 - 7)) : Nat) : Int), .int .i64 ((natL ((bs.drop 13).take (19 - 13)) : Nat) : Int), .int .i64 ((natL ((bs.drop 19).take (25 - 19)) : Nat) : Int), .int .i64 ((natL ((bs.drop 25).take (31 - 25)) : Nat) : Int)]]) (by kernel_rfl) (by kernel_rfl) (by kernel_rfl) Try.call63 (rright_any (IntKind.wrap .i64 (bs.getD 0 0)) ((natL ((bs.drop 1).take (7 - 1)) : Nat) : Int) ((natL ((bs.drop 7).take (13 - 7)) : Nat) : Int) ((natL ((bs.drop 13).take (19 - 13)) : Nat) : Int) ((natL ((bs.drop 19).take (25 - 19)) : Nat) : Int) ((natL ((bs.drop 25).take (31 - 25)) : Nat) : Int) _) ?_
   rintro _ w16 ⟨rfl, hc1⟩
   replace hS := Step.trans hS hc1
   replace hA := hA.no hc1
   replace ho1 := ho1.no hc1
   replace ho2 := ho2.no hc1
   replace hsl1 := hsl1.no hc1
   replace hsl2 := hsl2.no hc1
   replace hsl3 := hsl3.no hc1
   replace hsl4 := hsl4.no hc1
   replace hsl5 := hsl5.no hc1
   replace ho6 := ho6.no hc1
   refine VL_pure 3 [2, 5, 6] [(2, .pointer (some ⟨b2, 0, none⟩)), (5, .pointer (some ⟨b3, 0, none⟩)), (6, .int .i64 (rightC (IntKind.wrap .i64 (bs.getD 0 0)) ((natL ((bs.drop 1).take (7 - 1)) : Nat) : Int) ((natL ((bs.drop 7).take (13 - 7)) : Nat) : Int) ((natL ((bs.drop 13).take (19 - 13)) : Nat) : Int) ((natL ((bs.drop 19).take (25 - 19)) : Nat) : Int) ((natL ((bs.drop 25).take (31 - 25)) : Nat) : Int)))] (by kernel_rfl) rfl ?_
   refine VL_end (by kernel_rfl) ?_
   refine VQ_next ?_
   refine VC_seq ?_
   refine VC_seq ?_
   refine VC_region ?_
   refine VL_pure 2 [2, 5, 6, 40] [(2, .pointer (some ⟨b2, 0, none⟩)), (5, .pointer (some ⟨b3, 0, none⟩)), (6, .int .i64 (rightC (IntKind.wrap .i64 (bs.getD 0 0)) ((natL ((bs.drop 1).take (7 - 1)) : Nat) : Int) ((natL ((bs.drop 7).take (13 - 7)) : Nat) : Int) ((natL ((bs.drop 13).take (19 - 13)) : Nat) : Int) ((natL ((bs.drop 19).take (25 - 19)) : Nat) : Int) ((natL ((bs.drop 25).take (31 - 25)) : Nat) : Int))), (40, .bool ((rightC (IntKind.wrap .i64 (bs.getD 0 0)) ((natL ((bs.drop 1).take (7 - 1)) : Nat) : Int) ((natL ((bs.drop 7).take (13 - 7)) : Nat) : Int) ((natL ((bs.drop 13).take (19 - 13)) : Nat) : Int) ((natL ((bs.drop 19).take (25 - 19)) : Nat) : Int) ((natL ((bs.drop 25).take (31 - 25)) : Nat) : Int)) != 0))] (by kernel_rfl) rfl ?_
   refine VL_end (by kernel_rfl) ?_
   refine VQ_next ?_
   refine VC_ne (rightC (IntKind.wrap .i64 (bs.getD 0 0)) ((natL ((bs.drop 1).take (7 - 1)) : Nat) : Int) ((natL ((bs.drop 7).take (13 - 7)) : Nat) : Int) ((natL ((bs.drop 13).take (19 - 13)) : Nat) : Int) ((natL ((bs.drop 19).take (25 - 19)) : Nat) : Int) ((natL ((bs.drop 25).take (31 - 25)) : Nat) : Int)) 0 (by kernel_rfl) (fun h3 => ?_) (fun h3 => ?_)
   ·refine VC_seq ?_
    refine VC_region ?_
    refine VL_pure 2 [2, 41, 42] [(2, .pointer (some ⟨b2, 0, none⟩)), (41, .agg #[.int .i64 0, .int .i64 0, .int .i64 0, .int .i64 0, .int .i64 0, .int .i64 0]), (42, .int .i64 (rightC (IntKind.wrap .i64 (bs.getD 0 0)) ((natL ((bs.drop 1).take (7 - 1)) : Nat) : Int) ((natL ((bs.drop 7).take (13 - 7)) : Nat) : Int) ((natL ((bs.drop 13).take (19 - 13)) : Nat) : Int) ((natL ((bs.drop 19).take (25 - 19)) : Nat) : Int) ((natL ((bs.drop 25).take (31 - 25)) : Nat) : Int)))] (by kernel_rfl) rfl ?_
    refine VL_store (b := b2) (o := 0) (vs := [.int .i64 0, .int .i64 0, .int .i64 0, .int .i64 0, .int .i64 0, .int .i64 0]) (by kernel_rfl) (by kernel_rfl) ho2 (Nat.le_of_ble_eq_true (by kernel_rfl)) ?_
    intro w17 hw4
    replace hS := Step.transNew hS hw4.step (fun _ _ _ => by omega)
    replace hA := hA.keepB hw4.step (show ¬ sb1 = b2 by omega)
    replace ho1 := ho1.step hw4.step (show ¬ b1 = b2 by omega)
    replace hsl1 := hsl1.keepB hw4.step (show ¬ sb1 = b2 by omega)
    replace hsl2 := hsl2.keepB hw4.step (show ¬ sb1 = b2 by omega)
    replace hsl3 := hsl3.keepB hw4.step (show ¬ sb1 = b2 by omega)
    replace hsl4 := hsl4.keepB hw4.step (show ¬ sb1 = b2 by omega)
    replace hsl5 := hsl5.keepB hw4.step (show ¬ sb1 = b2 by omega)
    replace ho6 := ho6.step hw4.step (show ¬ b3 = b2 by omega)
    have ho7 : Own w17 b2 #[.int .i64 0, .int .i64 0, .int .i64 0, .int .i64 0, .int .i64 0, .int .i64 0] 52 := Own.cast hw4.own (by kernel_rfl)
    have hzhw4 := hw4.same
    refine VL_pure 4 [2, 3] [(2, .pointer (some ⟨b2, 0, none⟩)), (3, .int .i64 (rightC (IntKind.wrap .i64 (bs.getD 0 0)) ((natL ((bs.drop 1).take (7 - 1)) : Nat) : Int) ((natL ((bs.drop 7).take (13 - 7)) : Nat) : Int) ((natL ((bs.drop 13).take (19 - 13)) : Nat) : Int) ((natL ((bs.drop 19).take (25 - 19)) : Nat) : Int) ((natL ((bs.drop 25).take (31 - 25)) : Nat) : Int)))] (by kernel_rfl) rfl ?_
    refine VL_end (by kernel_rfl) ?_
    refine VQ_next ?_
    refine VC_ret ?_
    refine VQ_then_ret ?_
    refine VQ_retC1T1 (T := 52) (.agg #[.int .i64 0, .int .i64 0, .int .i64 0, .int .i64 0, .int .i64 0, .int .i64 0]) (.int .i64 (rightC (IntKind.wrap .i64 (bs.getD 0 0)) ((natL ((bs.drop 1).take (7 - 1)) : Nat) : Int) ((natL ((bs.drop 7).take (13 - 7)) : Nat) : Int) ((natL ((bs.drop 13).take (19 - 13)) : Nat) : Int) ((natL ((bs.drop 19).take (25 - 19)) : Nat) : Int) ((natL ((bs.drop 25).take (31 - 25)) : Nat) : Int))) (.inr rfl) rfl rfl rfl (Loads.ownL ho7 (n := 6) (by kernel_rfl) (by kernel_rfl) (by kernel_rfl)) ?_
    have hq := rt_r (bs := bs) (show xi = 89 by omega) (by omega)
    have hq9 : rtE xi bs ≠ 0 := by rw [hq]; assumption
    exact ⟨by simp only [rtV_n hq9, hq]; first | done | rfl, hS⟩
   ·refine VC_skip ?_
    refine VQ_next ?_
    refine VC_seq ?_
    refine VC_region ?_
    refine VL_load (d := 43) (t := 52) (a := ⟨b3, 0, none⟩) (v := .agg #[.int .i64 (IntKind.wrap .i64 (bs.getD 0 0)), .int .i64 ((natL ((bs.drop 1).take (7 - 1)) : Nat) : Int), .int .i64 ((natL ((bs.drop 7).take (13 - 7)) : Nat) : Int), .int .i64 ((natL ((bs.drop 13).take (19 - 13)) : Nat) : Int), .int .i64 ((natL ((bs.drop 19).take (25 - 19)) : Nat) : Int), .int .i64 ((natL ((bs.drop 25).take (31 - 25)) : Nat) : Int)]) (by kernel_rfl) (by kernel_rfl) (Loads.ownL ho6 (n := 6) (by kernel_rfl) (by kernel_rfl) (by kernel_rfl)) ?_
    refine VL_store (b := b2) (o := 0) (vs := [.int .i64 (IntKind.wrap .i64 (bs.getD 0 0)), .int .i64 ((natL ((bs.drop 1).take (7 - 1)) : Nat) : Int), .int .i64 ((natL ((bs.drop 7).take (13 - 7)) : Nat) : Int), .int .i64 ((natL ((bs.drop 13).take (19 - 13)) : Nat) : Int), .int .i64 ((natL ((bs.drop 19).take (25 - 19)) : Nat) : Int), .int .i64 ((natL ((bs.drop 25).take (31 - 25)) : Nat) : Int)]) (by kernel_rfl) (by kernel_rfl) ho2 (Nat.le_of_ble_eq_true (by kernel_rfl)) ?_
    intro w18 hw5
    replace hS := Step.transNew hS hw5.step (fun _ _ _ => by omega)
    replace hA := hA.keepB hw5.step (show ¬ sb1 = b2 by omega)
    replace ho1 := ho1.step hw5.step (show ¬ b1 = b2 by omega)
    replace hsl1 := hsl1.keepB hw5.step (show ¬ sb1 = b2 by omega)
    replace hsl2 := hsl2.keepB hw5.step (show ¬ sb1 = b2 by omega)
    replace hsl3 := hsl3.keepB hw5.step (show ¬ sb1 = b2 by omega)
    replace hsl4 := hsl4.keepB hw5.step (show ¬ sb1 = b2 by omega)
    replace hsl5 := hsl5.keepB hw5.step (show ¬ sb1 = b2 by omega)
    replace ho6 := ho6.step hw5.step (show ¬ b3 = b2 by omega)
    have ho8 : Own w18 b2 #[.int .i64 (IntKind.wrap .i64 (bs.getD 0 0)), .int .i64 ((natL ((bs.drop 1).take (7 - 1)) : Nat) : Int), .int .i64 ((natL ((bs.drop 7).take (13 - 7)) : Nat) : Int), .int .i64 ((natL ((bs.drop 13).take (19 - 13)) : Nat) : Int), .int .i64 ((natL ((bs.drop 19).take (25 - 19)) : Nat) : Int), .int .i64 ((natL ((bs.drop 25).take (31 - 25)) : Nat) : Int)] 52 := Own.cast hw5.own (by kernel_rfl)
    have hzhw5 := hw5.same
    refine VL_pure 3 [2, 3] [(2, .pointer (some ⟨b2, 0, none⟩)), (3, .int .i64 0)] (by kernel_rfl) rfl ?_
    refine VL_end (by kernel_rfl) ?_
    refine VQ_next ?_
    refine VC_ret ?_
    refine VQ_retC1T1 (T := 52) (.agg #[.int .i64 (IntKind.wrap .i64 (bs.getD 0 0)), .int .i64 ((natL ((bs.drop 1).take (7 - 1)) : Nat) : Int), .int .i64 ((natL ((bs.drop 7).take (13 - 7)) : Nat) : Int), .int .i64 ((natL ((bs.drop 13).take (19 - 13)) : Nat) : Int), .int .i64 ((natL ((bs.drop 19).take (25 - 19)) : Nat) : Int), .int .i64 ((natL ((bs.drop 25).take (31 - 25)) : Nat) : Int)]) (.int .i64 0) (.inr rfl) rfl rfl rfl (Loads.ownL ho8 (n := 6) (by kernel_rfl) (by kernel_rfl) (by kernel_rfl)) ?_
    have hq := rt_r (bs := bs) (show xi = 89 by omega) (by omega)
    have hq9 : rtE xi bs = 0 := by rw [hq]; first | assumption | exact Classical.not_not.1 (by assumption)
    exact ⟨by simp only [rtV_0 hq9, hq9]; first | done | rfl, hS⟩

theorem fk_0 {bs : List Int} {n : Nat} (hn : bs.length = n) (h5 : n = 5) (hb : Bytes bs) : IntKind.wrap .i64 (bs.getD 0 0) = fk bs 0 1 := by
  have h := hb.get 0
  unfold fk
  rw [wrap_i64 _ (by omega) (by omega)]
  rcases bs with _ | ⟨a, r⟩
  · simp at hn; omega
  · simp [natL] at h ⊢; omega
theorem fk_3 {bs : List Int} {n : Nat} (hn : bs.length = n) (h5 : n = 5) : (bs.drop 3).take (n - 3) = (bs.drop 3).take 2 := by rw [h5]
theorem hrk_of {bs : List Int} {b : Bool} (h : rightK (fk bs 0 1) (fk bs 1 2) (fk bs 3 2) = b) : rightK (fk bs 0 1) (fk bs 1 2) (fk bs 3 2) = b := h
set_option maxRecDepth 100000 in
set_option maxHeartbeats 4000000 in
theorem rdkey_any (xi : Int) (A : Option Addr) (n c Bd : Nat) (bs : List Int) (w : World) (hn : bs.length = n) (hc : n ≤ c) (hA : Sl w Bd A (iL .u8 bs)) (hb : Bytes bs) (hBd : Bd ≤ w.heap.size) :
  CV Try.prog 45 #[.agg #[.int .u8 xi, .slice A n c]] w (fun x w1 => x = .tuple #[.agg #[.int .i64 (rkV xi bs (fk bs 0 1)), .int .i64 (rkV xi bs (fk bs 1 2)), .int .i64 (rkV xi bs (fk bs 3 2))], .int .i64 (rkE xi bs)] ∧ Step No w w1) := by
 have hS : Step No w w := Step.refl _ _
 refine CV_enter Try.f45 _ 30 [(0, .agg #[.int .u8 xi, .slice A n c])] Try.func45 rfl rfl (by kernel_rfl) rfl ?_
 refine VC_seq ?_
 refine VC_region ?_
 have hzs1 := hS.size
 refine VL_box (d := 1) (t := 60) (c := #[.int .u8 xi, .slice A n c]) (by kernel_rfl) (by kernel_rfl) ?_
 intro b1 w1 hn1
 replace hS := Step.trans hS (hn1.step No)
 replace hA := hA.no (hn1.step No)
 have ho1 := hn1.own
 have hzhn1 := hn1.size
 have hqhn1 := hn1.eqb
 have hzs2 := hS.size
 have hzl1 := ho1.lt
 refine VL_box (d := 2) (t := 54) (c := #[.int .i64 0, .int .i64 0, .int .i64 0]) (by kernel_rfl) (by kernel_rfl) ?_
 intro b2 w2 hn2
 replace hS := Step.trans hS (hn2.step No)
 replace hA := hA.no (hn2.step No)
 replace ho1 := ho1.no (hn2.step No)
 have ho2 := hn2.own
 have hzhn2 := hn2.size
 have hqhn2 := hn2.eqb
 refine VL_pure 3 [1, 2] [(1, .pointer (some ⟨b1, 0, none⟩)), (2, .pointer (some ⟨b2, 0, none⟩))] (by kernel_rfl) rfl ?_
 refine VL_end (by kernel_rfl) ?_
 refine VQ_next ?_
 refine VC_seq ?_
 refine VC_seq ?_
 refine VC_region ?_
 refine VL_load (d := 6) (t := 60) (a := ⟨b1, 0, none⟩) (v := .agg #[.int .u8 xi, .slice A n c]) (by kernel_rfl) (by kernel_rfl) (Loads.ownL ho1 (n := 2) (by kernel_rfl) (by kernel_rfl) (by kernel_rfl)) ?_
 have hzs3 := hS.size
 have hzl2 := ho1.lt
 have hzl3 := ho2.lt
 refine VL_call (d := 7) (f := 56) (by kernel_rfl) (by kernel_rfl) (by kernel_rfl) Try.call56 (is_any xi A n c 90 5 _) ?_
 rintro _ w3 ⟨rfl, hc1⟩
 replace hS := Step.trans hS hc1
 replace hA := hA.no hc1
 replace ho1 := ho1.no hc1
 replace ho2 := ho2.no hc1
 refine VL_pure 3 [1, 2, 4] [(1, .pointer (some ⟨b1, 0, none⟩)), (2, .pointer (some ⟨b2, 0, none⟩)), (4, .int .i64 (isE xi 90 ((n : Nat) : Int) 5))] (by kernel_rfl) rfl ?_
 refine VL_end (by kernel_rfl) ?_
 refine VQ_next ?_
 refine VC_seq ?_
 refine VC_region ?_
 refine VL_pure 2 [1, 2, 4, 9] [(1, .pointer (some ⟨b1, 0, none⟩)), (2, .pointer (some ⟨b2, 0, none⟩)), (4, .int .i64 (isE xi 90 ((n : Nat) : Int) 5)), (9, .bool ((isE xi 90 ((n : Nat) : Int) 5) != 0))] (by kernel_rfl) rfl ?_
 refine VL_end (by kernel_rfl) ?_
 refine VQ_next ?_
 refine VC_ne (isE xi 90 ((n : Nat) : Int) 5) 0 (by kernel_rfl) (fun h1 => ?_) (fun h1 => ?_)
 ·refine VC_seq ?_
  refine VC_region ?_
  refine VL_pure 2 [2, 10, 11] [(2, .pointer (some ⟨b2, 0, none⟩)), (10, .agg #[.int .i64 0, .int .i64 0, .int .i64 0]), (11, .int .i64 (isE xi 90 ((n : Nat) : Int) 5))] (by kernel_rfl) rfl ?_
  refine VL_store (b := b2) (o := 0) (vs := [.int .i64 0, .int .i64 0, .int .i64 0]) (by kernel_rfl) (by kernel_rfl) ho2 (Nat.le_of_ble_eq_true (by kernel_rfl)) ?_
  intro w4 hw1
  replace hS := Step.transNew hS hw1.step (fun _ _ _ => by omega)
  replace hA := hA.step hw1.step (fun k hk (hF : k = b2) => by omega)
  replace ho1 := ho1.step hw1.step (show ¬ b1 = b2 by omega)
  have ho3 : Own w4 b2 #[.int .i64 0, .int .i64 0, .int .i64 0] 54 := Own.cast hw1.own (by kernel_rfl)
  have hzhw1 := hw1.same
  refine VL_pure 4 [2, 3] [(2, .pointer (some ⟨b2, 0, none⟩)), (3, .int .i64 (isE xi 90 ((n : Nat) : Int) 5))] (by kernel_rfl) rfl ?_
  refine VL_end (by kernel_rfl) ?_
  refine VQ_next ?_
  refine VC_ret ?_
  refine VQ_then_ret ?_
  refine VQ_retC1T1 (T := 54) (.agg #[.int .i64 0, .int .i64 0, .int .i64 0]) (.int .i64 (isE xi 90 ((n : Nat) : Int) 5)) (.inr rfl) rfl rfl rfl (Loads.ownL ho3 (n := 3) (by kernel_rfl) (by kernel_rfl) (by kernel_rfl)) ?_
  obtain ⟨hq1, hq2⟩ := rk_is hn (by assumption)
  exact ⟨by rw [hq1]; simp only [rkV_n hq2], hS⟩
 ·refine VC_skip ?_
  refine VQ_next ?_
  refine VC_seq ?_
  obtain ⟨hxi, hn5⟩ := isE_0 (by first | assumption | exact Classical.not_not.1 (by assumption))
  obtain rfl : n = 5 := by omega
  obtain ⟨sb1, so1, rfl, hlbsb1⟩ := hA.open (by simp only [iL_length]; omega)
  have hs1 := drew_step w3
  have hs1z : w3.heap.size = w3.drew.heap.size := rfl
  refine VC_text [[], [0], [0, 1], [0, 1, 2], [], [4], [4, 5], [0, 1, 2, 3, 4, 5, 6], [], [8], [8, 9], [0, 1, 2, 3, 4, 5, 6, 7, 8, 9, 10], [0, 1, 2, 3, 4, 5, 6, 7, 8, 9, 10, 11], [], [0, 1, 2, 3, 4, 5, 6, 7, 8, 9, 10, 11, 12, 13]] 14 (fun x y => Step (fun k => w3.heap.size ≤ k) x y) [13] [0, 1, 2, 3, 4, 5, 6, 7, 8, 9, 10, 11, 12, 13] (by kernel_rfl) (by kernel_rfl) (by kernel_rfl) (by kernel_rfl) (fun x => Step.refl _ x) (fun h k => Step.trans h k) Step.weak ?_
  have hzs4 := hS.size
  have hzl4 := ho1.lt
  have hzl5 := ho2.lt
  generalize w3.drew = w5 at hs1 hs1z ⊢
  replace hS := Step.trans hS hs1
  replace hA := hA.no hs1
  replace ho1 := ho1.no hs1
  replace ho2 := ho2.no hs1
  refine VT_pures 1 (kn' := [(0, .pointer (some ⟨b1, 1, none⟩))]) (by kernel_rfl) ?_
  refine VT_load (d := 13) (t := 25) (a := ⟨b1, 1, none⟩) (v := .slice (some ⟨sb1, so1, none⟩) 5 c) (by kernel_rfl) (by kernel_rfl) ?_ ?_
  ·intro w6 hr1
   replace hS := Step.transNew hS hr1 (fun i hi hG => by (try simp only at hG); omega)
   replace hA := hA.keepB hr1 (by (try simp only); omega)
   replace ho1 := ho1.step hr1 (by (try simp only); omega)
   replace ho2 := ho2.step hr1 (by (try simp only); omega)
   exact (Loads.own1 ho1 (by kernel_rfl) (by rfl))
  refine VT_slice (d := 14) (b := sb1) (o := so1) (sz := 1) (len := 5) (cap := c) (lo := none) (hi := (some 1)) (mx := none) (by kernel_rfl) (by kernel_rfl) (fun h => by first | exact absurd rfl h | exact (fun h => by cases h)) 0 1 c rfl rfl rfl (by omega) (by omega) (by omega) so1 (by split <;> omega) 1 (by omega) c (by omega) ?_
  have hsl1 := Sl.takeI hA 1
  refine VT_fcall (d := 15) (f := 53) (args := #[.slice (some ⟨sb1, so1, none⟩) 1 c]) (v := .int .i64 ((natL (bs.take 1) : Nat) : Int)) (by kernel_rfl) (by kernel_rfl) (by kernel_rfl) Try.call53 ?_ ?_
  ·intro w7 hr2
   replace hS := Step.transNew hS hr2 (fun i hi hG => by (try simp only at hG); omega)
   replace hA := hA.keepB hr2 (by (try simp only); omega)
   replace ho1 := ho1.step hr2 (by (try simp only); omega)
   replace ho2 := ho2.step hr2 (by (try simp only); omega)
   replace hsl1 := hsl1.keepB hr2 (by (try simp only); omega)
   exact getN_any (some ⟨sb1, so1, none⟩) 1 c _ (bs.take 1) _ (by simp only [List.length_take, List.length_drop]; omega) hsl1 (hb.take _) (by omega)
  refine VT_pures 1 (kn' := [(4, .pointer (some ⟨b1, 1, none⟩)), (3, .int .i64 ((natL (bs.take 1) : Nat) : Int)), (2, .slice (some ⟨sb1, so1, none⟩) 1 c), (1, .slice (some ⟨sb1, so1, none⟩) 5 c), (0, .pointer (some ⟨b1, 1, none⟩))]) (by kernel_rfl) ?_
  refine VT_load (d := 17) (t := 25) (a := ⟨b1, 1, none⟩) (v := .slice (some ⟨sb1, so1, none⟩) 5 c) (by kernel_rfl) (by kernel_rfl) ?_ ?_
  ·intro w8 hr3
   replace hS := Step.transNew hS hr3 (fun i hi hG => by (try simp only at hG); omega)
   replace hA := hA.keepB hr3 (by (try simp only); omega)
   replace ho1 := ho1.step hr3 (by (try simp only); omega)
   replace ho2 := ho2.step hr3 (by (try simp only); omega)
   replace hsl1 := hsl1.keepB hr3 (by (try simp only); omega)
   exact (Loads.own1 ho1 (by kernel_rfl) (by rfl))
  obtain ⟨so2, hso2⟩ : ∃ x, (if c = 1 then so1 else so1 + 1 * 1) = x := ⟨_, rfl⟩
  refine VT_slice (d := 18) (b := sb1) (o := so1) (sz := 1) (len := 5) (cap := c) (lo := (some 1)) (hi := (some 3)) (mx := none) (by kernel_rfl) (by kernel_rfl) (fun h => by first | exact absurd rfl h | exact (fun h => by cases h)) 1 3 c rfl rfl rfl (by omega) (by omega) (by omega) so2 hso2 2 (by omega) (c - 1) (by omega) ?_
  try (have so2q := hso2; rw [if_neg (by omega)] at so2q)
  have hsl2 := Sl.cutI (H := 3) hA hso2 (by omega)
  refine VT_fcall (d := 19) (f := 53) (args := #[.slice (some ⟨sb1, so2, none⟩) 2 (c - 1)]) (v := .int .i64 ((natL ((bs.drop 1).take (3 - 1)) : Nat) : Int)) (by kernel_rfl) (by kernel_rfl) (by kernel_rfl) Try.call53 ?_ ?_
  ·intro w9 hr4
   replace hS := Step.transNew hS hr4 (fun i hi hG => by (try simp only at hG); omega)
   replace hA := hA.keepB hr4 (by (try simp only); omega)
   replace ho1 := ho1.step hr4 (by (try simp only); omega)
   replace ho2 := ho2.step hr4 (by (try simp only); omega)
   replace hsl1 := hsl1.keepB hr4 (by (try simp only); omega)
   replace hsl2 := hsl2.keepB hr4 (by (try simp only); omega)
   exact getN_any (some ⟨sb1, so2, none⟩) 2 (c - 1) _ ((bs.drop 1).take (3 - 1)) _ (by simp only [List.length_take, List.length_drop]; omega) hsl2 ((hb.drop _).take _) (by omega)
  refine VT_pures 1 (kn' := [(8, .pointer (some ⟨b1, 1, none⟩)), (7, .int .i64 ((natL ((bs.drop 1).take (3 - 1)) : Nat) : Int)), (6, .slice (some ⟨sb1, so2, none⟩) 2 (c - 1)), (5, .slice (some ⟨sb1, so1, none⟩) 5 c), (4, .pointer (some ⟨b1, 1, none⟩)), (3, .int .i64 ((natL (bs.take 1) : Nat) : Int)), (2, .slice (some ⟨sb1, so1, none⟩) 1 c), (1, .slice (some ⟨sb1, so1, none⟩) 5 c), (0, .pointer (some ⟨b1, 1, none⟩))]) (by kernel_rfl) ?_
  refine VT_load (d := 21) (t := 25) (a := ⟨b1, 1, none⟩) (v := .slice (some ⟨sb1, so1, none⟩) 5 c) (by kernel_rfl) (by kernel_rfl) ?_ ?_
  ·intro w10 hr5
   replace hS := Step.transNew hS hr5 (fun i hi hG => by (try simp only at hG); omega)
   replace hA := hA.keepB hr5 (by (try simp only); omega)
   replace ho1 := ho1.step hr5 (by (try simp only); omega)
   replace ho2 := ho2.step hr5 (by (try simp only); omega)
   replace hsl1 := hsl1.keepB hr5 (by (try simp only); omega)
   replace hsl2 := hsl2.keepB hr5 (by (try simp only); omega)
   exact (Loads.own1 ho1 (by kernel_rfl) (by rfl))
  obtain ⟨so3, hso3⟩ : ∃ x, (if c = 3 then so1 else so1 + 3 * 1) = x := ⟨_, rfl⟩
  refine VT_slice (d := 22) (b := sb1) (o := so1) (sz := 1) (len := 5) (cap := c) (lo := (some 3)) (hi := none) (mx := none) (by kernel_rfl) (by kernel_rfl) (fun h => by first | exact absurd rfl h | exact (fun h => by cases h)) 3 5 c rfl rfl rfl (by omega) (by omega) (by omega) so3 hso3 2 (by omega) (c - 3) (by omega) ?_
  try (have so3q := hso3; rw [if_neg (by omega)] at so3q)
  have hsl3 := Sl.cutI (H := 5) hA hso3 (by omega)
  refine VT_fcall (d := 23) (f := 53) (args := #[.slice (some ⟨sb1, so3, none⟩) 2 (c - 3)]) (v := .int .i64 ((natL ((bs.drop 3).take (5 - 3)) : Nat) : Int)) (by kernel_rfl) (by kernel_rfl) (by kernel_rfl) Try.call53 ?_ ?_
  ·intro w11 hr6
   replace hS := Step.transNew hS hr6 (fun i hi hG => by (try simp only at hG); omega)
   replace hA := hA.keepB hr6 (by (try simp only); omega)
   replace ho1 := ho1.step hr6 (by (try simp only); omega)
   replace ho2 := ho2.step hr6 (by (try simp only); omega)
   replace hsl1 := hsl1.keepB hr6 (by (try simp only); omega)
   replace hsl2 := hsl2.keepB hr6 (by (try simp only); omega)
   replace hsl3 := hsl3.keepB hr6 (by (try simp only); omega)
   exact getN_any (some ⟨sb1, so3, none⟩) 2 (c - 3) _ ((bs.drop 3).take (5 - 3)) _ (by simp only [List.length_take, List.length_drop]; omega) hsl3 ((hb.drop _).take _) (by omega)
  refine VT_pures 1 (kn' := [(12, .agg #[.int .i64 ((natL (bs.take 1) : Nat) : Int), .int .i64 ((natL ((bs.drop 1).take (3 - 1)) : Nat) : Int), .int .i64 ((natL ((bs.drop 3).take (5 - 3)) : Nat) : Int)]), (11, .int .i64 ((natL ((bs.drop 3).take (5 - 3)) : Nat) : Int)), (10, .slice (some ⟨sb1, so3, none⟩) 2 (c - 3)), (9, .slice (some ⟨sb1, so1, none⟩) 5 c), (8, .pointer (some ⟨b1, 1, none⟩)), (7, .int .i64 ((natL ((bs.drop 1).take (3 - 1)) : Nat) : Int)), (6, .slice (some ⟨sb1, so2, none⟩) 2 (c - 1)), (5, .slice (some ⟨sb1, so1, none⟩) 5 c), (4, .pointer (some ⟨b1, 1, none⟩)), (3, .int .i64 ((natL (bs.take 1) : Nat) : Int)), (2, .slice (some ⟨sb1, so1, none⟩) 1 c), (1, .slice (some ⟨sb1, so1, none⟩) 5 c), (0, .pointer (some ⟨b1, 1, none⟩))]) (by kernel_rfl) ?_
  refine VT_chain (by kernel_rfl) ?_
  intro w12 hs2
  have hzhs2 := hs2.size
  replace hS := Step.trans hS hs2
  replace hA := hA.no hs2
  replace ho1 := ho1.no hs2
  replace ho2 := ho2.no hs2
  replace hsl1 := hsl1.no hs2
  replace hsl2 := hsl2.no hs2
  replace hsl3 := hsl3.no hs2
  have hzs5 := hS.size
  have hzl6 := ho1.lt
  have hzl7 := ho2.lt
  have hzs6 := hS.size
  have hzl8 := ho1.lt
  have hzl9 := ho2.lt
  refine VTc_box (d := 5) (t := 54) (c := #[.int .i64 0, .int .i64 0, .int .i64 0]) (by kernel_rfl) (by kernel_rfl) (fun b w1 hn => hn.step _) ?_
  intro b3 w13 hn3
  replace hS := Step.trans hS (hn3.step No)
  replace hA := hA.no (hn3.step No)
  replace ho1 := ho1.no (hn3.step No)
  replace ho2 := ho2.no (hn3.step No)
  replace hsl1 := hsl1.no (hn3.step No)
  replace hsl2 := hsl2.no (hn3.step No)
  replace hsl3 := hsl3.no (hn3.step No)
  have ho4 := hn3.own
  have hzhn3 := hn3.size
  have hqhn3 := hn3.eqb
  refine VT_end ?_
  intro w14 hs3
  replace hS := Step.trans hS hs3
  replace hA := hA.no hs3
  replace ho1 := ho1.no hs3
  replace ho2 := ho2.no hs3
  replace hsl1 := hsl1.no hs3
  replace hsl2 := hsl2.no hs3
  replace hsl3 := hsl3.no hs3
  replace ho4 := ho4.no hs3
  refine VL_keep [2, 24, 5] [(2, .pointer (some ⟨b2, 0, none⟩)), (24, .agg #[.int .i64 ((natL (bs.take 1) : Nat) : Int), .int .i64 ((natL ((bs.drop 1).take (3 - 1)) : Nat) : Int), .int .i64 ((natL ((bs.drop 3).take (5 - 3)) : Nat) : Int)]), (5, .pointer (some ⟨b3, 0, none⟩))] (by kernel_rfl) ?_
  refine VL_store (b := b3) (o := 0) (vs := [.int .i64 ((natL (bs.take 1) : Nat) : Int), .int .i64 ((natL ((bs.drop 1).take (3 - 1)) : Nat) : Int), .int .i64 ((natL ((bs.drop 3).take (5 - 3)) : Nat) : Int)]) (by kernel_rfl) (by kernel_rfl) ho4 (Nat.le_of_ble_eq_true (by kernel_rfl)) ?_
  intro w15 hw2
  replace hS := Step.transNew hS hw2.step (fun _ _ _ => by omega)
  replace hA := hA.keepB hw2.step (show ¬ sb1 = b3 by omega)
  replace ho1 := ho1.step hw2.step (show ¬ b1 = b3 by omega)
  replace ho2 := ho2.step hw2.step (show ¬ b2 = b3 by omega)
  replace hsl1 := hsl1.keepB hw2.step (show ¬ sb1 = b3 by omega)
  replace hsl2 := hsl2.keepB hw2.step (show ¬ sb1 = b3 by omega)
  replace hsl3 := hsl3.keepB hw2.step (show ¬ sb1 = b3 by omega)
  have ho5 : Own w15 b3 #[.int .i64 ((natL (bs.take 1) : Nat) : Int), .int .i64 ((natL ((bs.drop 1).take (3 - 1)) : Nat) : Int), .int .i64 ((natL ((bs.drop 3).take (5 - 3)) : Nat) : Int)] 54 := Own.cast hw2.own (by kernel_rfl)
  have hzhw2 := hw2.same
  refine VL_end (by kernel_rfl) ?_
  refine VQ_next ?_
  refine VC_seq ?_
  refine VC_seq ?_
  refine VC_region ?_
  refine VL_load (d := 25) (t := 54) (a := ⟨b3, 0, none⟩) (v := .agg #[.int .i64 ((natL (bs.take 1) : Nat) : Int), .int .i64 ((natL ((bs.drop 1).take (3 - 1)) : Nat) : Int), .int .i64 ((natL ((bs.drop 3).take (5 - 3)) : Nat) : Int)]) (by kernel_rfl) (by kernel_rfl) (Loads.ownL ho5 (n := 3) (by kernel_rfl) (by kernel_rfl) (by kernel_rfl)) ?_
  have hzs7 := hS.size
  have hzl10 := ho1.lt
  have hzl11 := ho2.lt
  have hzl12 := ho5.lt
  refine VL_call (d := 26) (f := 61) (args := #[.agg #[.int .i64 ((natL (bs.take 1) : Nat) : Int), .int .i64 ((natL ((bs.drop 1).take (3 - 1)) : Nat) : Int), .int .i64 ((natL ((bs.drop 3).take (5 - 3)) : Nat) : Int)]]) (by kernel_rfl) (by kernel_rfl) (by kernel_rfl) Try.call61 (kright_any ((natL (bs.take 1) : Nat) : Int) ((natL ((bs.drop 1).take (3 - 1)) : Nat) : Int) ((natL ((bs.drop 3).take (5 - 3)) : Nat) : Int) _) ?_
  rintro _ w16 ⟨rfl, hc2⟩
  replace hS := Step.trans hS hc2
  replace hA := hA.no hc2
  replace ho1 := ho1.no hc2
  replace ho2 := ho2.no hc2
  replace hsl1 := hsl1.no hc2
  replace hsl2 := hsl2.no hc2
  replace hsl3 := hsl3.no hc2
  replace ho5 := ho5.no hc2
  refine VL_pure 3 [2, 5, 27] [(2, .pointer (some ⟨b2, 0, none⟩)), (5, .pointer (some ⟨b3, 0, none⟩)), (27, .bool (!(rightK ((natL (bs.take 1) : Nat) : Int) ((natL ((bs.drop 1).take (3 - 1)) : Nat) : Int) ((natL ((bs.drop 3).take (5 - 3)) : Nat) : Int))))] (by kernel_rfl) rfl ?_
  refine VL_end (by kernel_rfl) ?_
  refine VQ_next ?_
  refine VC_cond (!(rightK ((natL (bs.take 1) : Nat) : Int) ((natL ((bs.drop 1).take (3 - 1)) : Nat) : Int) ((natL ((bs.drop 3).take (5 - 3)) : Nat) : Int))) (by kernel_rfl) (fun h2 => ?_) (fun h2 => ?_)
  ·try simp only [Bool.and_eq_true, Bool.or_eq_true, decide_eq_true_eq, Bool.not_eq_true', decide_eq_false_iff_not, Bool.and_eq_false_iff, Bool.or_eq_false_iff, beq_iff_eq, bne_iff_ne, beq_eq_false_iff_ne, bne_eq_false_iff_eq, Bool.not_eq_eq_eq_not, Bool.not_true, Bool.not_false] at h2
   refine VC_seq ?_
   refine VC_region ?_
   refine VL_pure 1 [2, 28] [(2, .pointer (some ⟨b2, 0, none⟩)), (28, .agg #[.int .i64 0, .int .i64 0, .int .i64 0])] (by kernel_rfl) rfl ?_
   refine VL_store (b := b2) (o := 0) (vs := [.int .i64 0, .int .i64 0, .int .i64 0]) (by kernel_rfl) (by kernel_rfl) ho2 (Nat.le_of_ble_eq_true (by kernel_rfl)) ?_
   intro w17 hw3
   replace hS := Step.transNew hS hw3.step (fun _ _ _ => by omega)
   replace hA := hA.keepB hw3.step (show ¬ sb1 = b2 by omega)
   replace ho1 := ho1.step hw3.step (show ¬ b1 = b2 by omega)
   replace hsl1 := hsl1.keepB hw3.step (show ¬ sb1 = b2 by omega)
   replace hsl2 := hsl2.keepB hw3.step (show ¬ sb1 = b2 by omega)
   replace hsl3 := hsl3.keepB hw3.step (show ¬ sb1 = b2 by omega)
   replace ho5 := ho5.step hw3.step (show ¬ b3 = b2 by omega)
   have ho6 : Own w17 b2 #[.int .i64 0, .int .i64 0, .int .i64 0] 54 := Own.cast hw3.own (by kernel_rfl)
   have hzhw3 := hw3.same
   refine VL_pure 3 [2, 3] [(2, .pointer (some ⟨b2, 0, none⟩)), (3, .int .i64 1)] (by kernel_rfl) rfl ?_
   refine VL_end (by kernel_rfl) ?_
   refine VQ_next ?_
   refine VC_ret ?_
   refine VQ_then_ret ?_
   refine VQ_retC1T1 (T := 54) (.agg #[.int .i64 0, .int .i64 0, .int .i64 0]) (.int .i64 1) (.inr rfl) rfl rfl rfl (Loads.ownL ho6 (n := 3) (by kernel_rfl) (by kernel_rfl) (by kernel_rfl)) ?_
   have hq := rk_1 (bs := bs) (show xi = 90 by omega) (by omega) (hrk_of (by first | assumption | (rw [← fk_0 hn rfl hb]; assumption)))
   exact ⟨by simp only [rkV_n (show rkE xi bs ≠ 0 by rw [hq]; decide), hq], hS⟩
  ·try simp only [Bool.and_eq_true, Bool.or_eq_true, decide_eq_true_eq, Bool.not_eq_true', decide_eq_false_iff_not, Bool.and_eq_false_iff, Bool.or_eq_false_iff, beq_iff_eq, bne_iff_ne, beq_eq_false_iff_ne, bne_eq_false_iff_eq, Bool.not_eq_eq_eq_not, Bool.not_true, Bool.not_false] at h2
   refine VC_skip ?_
   refine VQ_next ?_
   refine VC_seq ?_
   refine VC_region ?_
   refine VL_load (d := 29) (t := 54) (a := ⟨b3, 0, none⟩) (v := .agg #[.int .i64 ((natL (bs.take 1) : Nat) : Int), .int .i64 ((natL ((bs.drop 1).take (3 - 1)) : Nat) : Int), .int .i64 ((natL ((bs.drop 3).take (5 - 3)) : Nat) : Int)]) (by kernel_rfl) (by kernel_rfl) (Loads.ownL ho5 (n := 3) (by kernel_rfl) (by kernel_rfl) (by kernel_rfl)) ?_
   refine VL_store (b := b2) (o := 0) (vs := [.int .i64 ((natL (bs.take 1) : Nat) : Int), .int .i64 ((natL ((bs.drop 1).take (3 - 1)) : Nat) : Int), .int .i64 ((natL ((bs.drop 3).take (5 - 3)) : Nat) : Int)]) (by kernel_rfl) (by kernel_rfl) ho2 (Nat.le_of_ble_eq_true (by kernel_rfl)) ?_
   intro w18 hw4
   replace hS := Step.transNew hS hw4.step (fun _ _ _ => by omega)
   replace hA := hA.keepB hw4.step (show ¬ sb1 = b2 by omega)
   replace ho1 := ho1.step hw4.step (show ¬ b1 = b2 by omega)
   replace hsl1 := hsl1.keepB hw4.step (show ¬ sb1 = b2 by omega)
   replace hsl2 := hsl2.keepB hw4.step (show ¬ sb1 = b2 by omega)
   replace hsl3 := hsl3.keepB hw4.step (show ¬ sb1 = b2 by omega)
   replace ho5 := ho5.step hw4.step (show ¬ b3 = b2 by omega)
   have ho7 : Own w18 b2 #[.int .i64 ((natL (bs.take 1) : Nat) : Int), .int .i64 ((natL ((bs.drop 1).take (3 - 1)) : Nat) : Int), .int .i64 ((natL ((bs.drop 3).take (5 - 3)) : Nat) : Int)] 54 := Own.cast hw4.own (by kernel_rfl)
   have hzhw4 := hw4.same
   refine VL_pure 3 [2, 3] [(2, .pointer (some ⟨b2, 0, none⟩)), (3, .int .i64 0)] (by kernel_rfl) rfl ?_
   refine VL_end (by kernel_rfl) ?_
   refine VQ_next ?_
   refine VC_ret ?_
   refine VQ_retC1T1 (T := 54) (.agg #[.int .i64 ((natL (bs.take 1) : Nat) : Int), .int .i64 ((natL ((bs.drop 1).take (3 - 1)) : Nat) : Int), .int .i64 ((natL ((bs.drop 3).take (5 - 3)) : Nat) : Int)]) (.int .i64 0) (.inr rfl) rfl rfl rfl (Loads.ownL ho7 (n := 3) (by kernel_rfl) (by kernel_rfl) (by kernel_rfl)) ?_
   have hq := rk_0 (bs := bs) (show xi = 90 by omega) (by omega) (hrk_of (by first | assumption | (rw [← fk_0 hn rfl hb]; assumption)))
   exact ⟨by simp only [rkV_0 hq, hq]; first | done | rfl | (rw [fk_0 hn rfl hb]; rfl), hS⟩

set_option maxRecDepth 100000 in
set_option maxHeartbeats 4000000 in
theorem rrdkey_any (xi : Int) (A : Option Addr) (n c Bd : Nat) (bs : List Int) (w : World) (hn : bs.length = n) (hc : n ≤ c) (hA : Sl w Bd A (iL .u8 bs)) (hb : Bytes bs) (hBd : Bd ≤ w.heap.size) :
  CV Try.prog 48 #[.agg #[.int .u8 xi, .slice A n c]] w (fun x w1 => x = .tuple #[.agg #[.int .i64 (rkV xi bs (fk bs 0 1)), .int .i64 (rkV xi bs (fk bs 1 2)), .int .i64 (rkV xi bs (fk bs 3 2))], .int .i64 (rkE xi bs)] ∧ Step No w w1) := by
 have hS : Step No w w := Step.refl _ _
 refine CV_enter Try.f48 _ 33 [(0, .agg #[.int .u8 xi, .slice A n c])] Try.func48 rfl rfl (by kernel_rfl) rfl ?_
 refine VC_seq ?_
 refine VC_region ?_
 have hzs1 := hS.size
 refine VL_box (d := 1) (t := 60) (c := #[.int .u8 xi, .slice A n c]) (by kernel_rfl) (by kernel_rfl) ?_
 intro b1 w1 hn1
 replace hS := Step.trans hS (hn1.step No)
 replace hA := hA.no (hn1.step No)
 have ho1 := hn1.own
 have hzhn1 := hn1.size
 have hqhn1 := hn1.eqb
 have hzs2 := hS.size
 have hzl1 := ho1.lt
 refine VL_box (d := 2) (t := 54) (c := #[.int .i64 0, .int .i64 0, .int .i64 0]) (by kernel_rfl) (by kernel_rfl) ?_
 intro b2 w2 hn2
 replace hS := Step.trans hS (hn2.step No)
 replace hA := hA.no (hn2.step No)
 replace ho1 := ho1.no (hn2.step No)
 have ho2 := hn2.own
 have hzhn2 := hn2.size
 have hqhn2 := hn2.eqb
 refine VL_pure 3 [1, 2] [(1, .pointer (some ⟨b1, 0, none⟩)), (2, .pointer (some ⟨b2, 0, none⟩))] (by kernel_rfl) rfl ?_
 refine VL_end (by kernel_rfl) ?_
 refine VQ_next ?_
 refine VC_seq ?_
 refine VC_seq ?_
 refine VC_region ?_
 refine VL_pure 1 [1, 2, 5] [(1, .pointer (some ⟨b1, 0, none⟩)), (2, .pointer (some ⟨b2, 0, none⟩)), (5, .pointer (some ⟨b1, 0, none⟩))] (by kernel_rfl) rfl ?_
 refine VL_load (d := 6) (t := 5) (a := ⟨b1, 0, none⟩) (v := .int .u8 xi) (by kernel_rfl) (by kernel_rfl) (Loads.own1 ho1 (by kernel_rfl) (by rfl)) ?_
 refine VL_pure 3 [1, 2, 7] [(1, .pointer (some ⟨b1, 0, none⟩)), (2, .pointer (some ⟨b2, 0, none⟩)), (7, .bool (xi != 90))] (by kernel_rfl) rfl ?_
 refine VL_end (by kernel_rfl) ?_
 refine VQ_next ?_
 refine VC_ne xi 90 (by kernel_rfl) (fun h1 => ?_) (fun h1 => ?_)
 ·refine VC_seq ?_
  refine VC_region ?_
  refine VL_pure 1 [2, 8] [(2, .pointer (some ⟨b2, 0, none⟩)), (8, .agg #[.int .i64 0, .int .i64 0, .int .i64 0])] (by kernel_rfl) rfl ?_
  refine VL_store (b := b2) (o := 0) (vs := [.int .i64 0, .int .i64 0, .int .i64 0]) (by kernel_rfl) (by kernel_rfl) ho2 (Nat.le_of_ble_eq_true (by kernel_rfl)) ?_
  intro w3 hw1
  replace hS := Step.transNew hS hw1.step (fun _ _ _ => by omega)
  replace hA := hA.step hw1.step (fun k hk (hF : k = b2) => by omega)
  replace ho1 := ho1.step hw1.step (show ¬ b1 = b2 by omega)
  have ho3 : Own w3 b2 #[.int .i64 0, .int .i64 0, .int .i64 0] 54 := Own.cast hw1.own (by kernel_rfl)
  have hzhw1 := hw1.same
  refine VL_pure 3 [2, 3] [(2, .pointer (some ⟨b2, 0, none⟩)), (3, .int .i64 12)] (by kernel_rfl) rfl ?_
  refine VL_end (by kernel_rfl) ?_
  refine VQ_next ?_
  refine VC_ret ?_
  refine VQ_then_ret ?_
  refine VQ_retC1T1 (T := 54) (.agg #[.int .i64 0, .int .i64 0, .int .i64 0]) (.int .i64 12) (.inr rfl) rfl rfl rfl (Loads.ownL ho3 (n := 3) (by kernel_rfl) (by kernel_rfl) (by kernel_rfl)) ?_
  have hq := rk_12 (bs := bs) (show xi ≠ 90 by assumption)
  exact ⟨by simp only [rkV_n (show rkE xi bs ≠ 0 by rw [hq]; decide), hq], hS⟩
 ·refine VC_skip ?_
  refine VQ_next ?_
  refine VC_seq ?_
  refine VC_seq ?_
  refine VC_region ?_
  refine VL_pure 1 [1, 2, 9] [(1, .pointer (some ⟨b1, 0, none⟩)), (2, .pointer (some ⟨b2, 0, none⟩)), (9, .pointer (some ⟨b1, 1, none⟩))] (by kernel_rfl) rfl ?_
  refine VL_load (d := 10) (t := 25) (a := ⟨b1, 1, none⟩) (v := .slice A n c) (by kernel_rfl) (by kernel_rfl) (Loads.own1 ho1 (by kernel_rfl) (by rfl)) ?_
  refine VL_pure 4 [1, 2, 12] [(1, .pointer (some ⟨b1, 0, none⟩)), (2, .pointer (some ⟨b2, 0, none⟩)), (12, .bool (((n : Nat) : Int) != 5))] (by kernel_rfl) rfl ?_
  refine VL_end (by kernel_rfl) ?_
  refine VQ_next ?_
  refine VC_ne ((n : Nat) : Int) 5 (by kernel_rfl) (fun h2 => ?_) (fun h2 => ?_)
  ·refine VC_seq ?_
   refine VC_region ?_
   refine VL_pure 1 [2, 13] [(2, .pointer (some ⟨b2, 0, none⟩)), (13, .agg #[.int .i64 0, .int .i64 0, .int .i64 0])] (by kernel_rfl) rfl ?_
   refine VL_store (b := b2) (o := 0) (vs := [.int .i64 0, .int .i64 0, .int .i64 0]) (by kernel_rfl) (by kernel_rfl) ho2 (Nat.le_of_ble_eq_true (by kernel_rfl)) ?_
   intro w4 hw2
   replace hS := Step.transNew hS hw2.step (fun _ _ _ => by omega)
   replace hA := hA.step hw2.step (fun k hk (hF : k = b2) => by omega)
   replace ho1 := ho1.step hw2.step (show ¬ b1 = b2 by omega)
   have ho4 : Own w4 b2 #[.int .i64 0, .int .i64 0, .int .i64 0] 54 := Own.cast hw2.own (by kernel_rfl)
   have hzhw2 := hw2.same
   refine VL_pure 3 [2, 3] [(2, .pointer (some ⟨b2, 0, none⟩)), (3, .int .i64 5)] (by kernel_rfl) rfl ?_
   refine VL_end (by kernel_rfl) ?_
   refine VQ_next ?_
   refine VC_ret ?_
   refine VQ_then_ret ?_
   refine VQ_retC1T1 (T := 54) (.agg #[.int .i64 0, .int .i64 0, .int .i64 0]) (.int .i64 5) (.inr rfl) rfl rfl rfl (Loads.ownL ho4 (n := 3) (by kernel_rfl) (by kernel_rfl) (by kernel_rfl)) ?_
   have hq := rk_5 (bs := bs) (show xi = 90 by omega) (by omega)
   exact ⟨by simp only [rkV_n (show rkE xi bs ≠ 0 by rw [hq]; decide), hq], hS⟩
  ·refine VC_skip ?_
   refine VQ_next ?_
   refine VC_seq ?_
   obtain rfl : n = 5 := by omega
   obtain ⟨sb1, so1, rfl, hlbsb1⟩ := hA.open (by simp only [iL_length]; omega)
   have hs1 := drew_step w2
   have hs1z : w2.heap.size = w2.drew.heap.size := rfl
   refine VC_text [[], [0], [0, 1], [0, 1, 2], [0, 1, 2, 3], [], [5], [5, 6], [5, 6, 7], [], [9], [9, 10], [5, 6, 7, 8, 9, 10, 11], [0, 1, 2, 3, 4, 5, 6, 7, 8, 9, 10, 11, 12], [], [0, 1, 2, 3, 4, 5, 6, 7, 8, 9, 10, 11, 12, 13, 14]] 15 (fun x y => Step (fun k => w2.heap.size ≤ k) x y) [14] [0, 1, 2, 3, 4, 5, 6, 7, 8, 9, 10, 11, 12, 13, 14] (by kernel_rfl) (by kernel_rfl) (by kernel_rfl) (by kernel_rfl) (fun x => Step.refl _ x) (fun h k => Step.trans h k) Step.weak ?_
   have hzs3 := hS.size
   have hzl2 := ho1.lt
   have hzl3 := ho2.lt
   generalize w2.drew = w5 at hs1 hs1z ⊢
   replace hS := Step.trans hS hs1
   replace hA := hA.no hs1
   replace ho1 := ho1.no hs1
   replace ho2 := ho2.no hs1
   refine VT_pures 1 (kn' := [(0, .pointer (some ⟨b1, 1, none⟩))]) (by kernel_rfl) ?_
   refine VT_load (d := 15) (t := 25) (a := ⟨b1, 1, none⟩) (v := .slice (some ⟨sb1, so1, none⟩) 5 c) (by kernel_rfl) (by kernel_rfl) ?_ ?_
   ·intro w6 hr1
    replace hS := Step.transNew hS hr1 (fun i hi hG => by (try simp only at hG); omega)
    replace hA := hA.keepB hr1 (by (try simp only); omega)
    replace ho1 := ho1.step hr1 (by (try simp only); omega)
    replace ho2 := ho2.step hr1 (by (try simp only); omega)
    exact (Loads.own1 ho1 (by kernel_rfl) (by rfl))
   refine VT_index (d := 16) (b := sb1) (o := so1) (len := 5) (sz := 1) (mm := 0) (by kernel_rfl) (by kernel_rfl) 0 (by rfl) (by omega) so1 (by omega) ?_
   refine VT_load (d := 17) (t := 5) (a := ⟨sb1, so1, none⟩) (v := .int .u8 (bs.getD 0 0)) (by kernel_rfl) (by kernel_rfl) ?_ ?_
   ·intro w7 hr2
    replace hS := Step.transNew hS hr2 (fun i hi hG => by (try simp only at hG); omega)
    replace hA := hA.keepB hr2 (by (try simp only); omega)
    replace ho1 := ho1.step hr2 (by (try simp only); omega)
    replace ho2 := ho2.step hr2 (by (try simp only); omega)
    exact (Sl.ldI hA (by kernel_rfl) 0 (by (try simp only [List.length_set, List.length_append, List.length_map, List.length_replicate, List.length_cons, List.length_nil, List.length_take, List.length_drop, List.length_range]) <;> omega))
   refine VT_pures 2 (kn' := [(5, .pointer (some ⟨b1, 1, none⟩)), (4, .int .i64 (IntKind.wrap .i64 (bs.getD 0 0))), (3, .int .u8 (bs.getD 0 0)), (2, .pointer (some ⟨sb1, so1, none⟩)), (1, .slice (some ⟨sb1, so1, none⟩) 5 c), (0, .pointer (some ⟨b1, 1, none⟩))]) (by kernel_rfl) ?_
   refine VT_load (d := 20) (t := 25) (a := ⟨b1, 1, none⟩) (v := .slice (some ⟨sb1, so1, none⟩) 5 c) (by kernel_rfl) (by kernel_rfl) ?_ ?_
   ·intro w8 hr3
    replace hS := Step.transNew hS hr3 (fun i hi hG => by (try simp only at hG); omega)
    replace hA := hA.keepB hr3 (by (try simp only); omega)
    replace ho1 := ho1.step hr3 (by (try simp only); omega)
    replace ho2 := ho2.step hr3 (by (try simp only); omega)
    exact (Loads.own1 ho1 (by kernel_rfl) (by rfl))
   obtain ⟨so2, hso2⟩ : ∃ x, (if c = 1 then so1 else so1 + 1 * 1) = x := ⟨_, rfl⟩
   refine VT_slice (d := 21) (b := sb1) (o := so1) (sz := 1) (len := 5) (cap := c) (lo := (some 1)) (hi := (some 3)) (mx := none) (by kernel_rfl) (by kernel_rfl) (fun h => by first | exact absurd rfl h | exact (fun h => by cases h)) 1 3 c rfl rfl rfl (by omega) (by omega) (by omega) so2 hso2 2 (by omega) (c - 1) (by omega) ?_
   try (have so2q := hso2; rw [if_neg (by omega)] at so2q)
   have hsl1 := Sl.cutI (H := 3) hA hso2 (by omega)
   refine VT_fcall (d := 22) (f := 62) (args := #[.slice (some ⟨sb1, so2, none⟩) 2 (c - 1)]) (v := .int .i64 ((natL ((bs.drop 1).take (3 - 1)) : Nat) : Int)) (by kernel_rfl) (by kernel_rfl) (by kernel_rfl) Try.call62 ?_ ?_
   ·intro w9 hr4
    replace hS := Step.transNew hS hr4 (fun i hi hG => by (try simp only at hG); omega)
    replace hA := hA.keepB hr4 (by (try simp only); omega)
    replace ho1 := ho1.step hr4 (by (try simp only); omega)
    replace ho2 := ho2.step hr4 (by (try simp only); omega)
    replace hsl1 := hsl1.keepB hr4 (by (try simp only); omega)
    exact numberN_any (some ⟨sb1, so2, none⟩) 2 (c - 1) _ ((bs.drop 1).take (3 - 1)) _ (by simp only [List.length_take, List.length_drop]; omega) hsl1 ((hb.drop _).take _) (by omega)
   refine VT_pures 1 (kn' := [(9, .pointer (some ⟨b1, 1, none⟩)), (8, .int .i64 ((natL ((bs.drop 1).take (3 - 1)) : Nat) : Int)), (7, .slice (some ⟨sb1, so2, none⟩) 2 (c - 1)), (6, .slice (some ⟨sb1, so1, none⟩) 5 c), (5, .pointer (some ⟨b1, 1, none⟩)), (4, .int .i64 (IntKind.wrap .i64 (bs.getD 0 0))), (3, .int .u8 (bs.getD 0 0)), (2, .pointer (some ⟨sb1, so1, none⟩)), (1, .slice (some ⟨sb1, so1, none⟩) 5 c), (0, .pointer (some ⟨b1, 1, none⟩))]) (by kernel_rfl) ?_
   refine VT_load (d := 24) (t := 25) (a := ⟨b1, 1, none⟩) (v := .slice (some ⟨sb1, so1, none⟩) 5 c) (by kernel_rfl) (by kernel_rfl) ?_ ?_
   ·intro w10 hr5
    replace hS := Step.transNew hS hr5 (fun i hi hG => by (try simp only at hG); omega)
    replace hA := hA.keepB hr5 (by (try simp only); omega)
    replace ho1 := ho1.step hr5 (by (try simp only); omega)
    replace ho2 := ho2.step hr5 (by (try simp only); omega)
    replace hsl1 := hsl1.keepB hr5 (by (try simp only); omega)
    exact (Loads.own1 ho1 (by kernel_rfl) (by rfl))
   obtain ⟨so3, hso3⟩ : ∃ x, (if c = 3 then so1 else so1 + 3 * 1) = x := ⟨_, rfl⟩
   refine VT_slice (d := 25) (b := sb1) (o := so1) (sz := 1) (len := 5) (cap := c) (lo := (some 3)) (hi := (some 5)) (mx := none) (by kernel_rfl) (by kernel_rfl) (fun h => by first | exact absurd rfl h | exact (fun h => by cases h)) 3 5 c rfl rfl rfl (by omega) (by omega) (by omega) so3 hso3 2 (by omega) (c - 3) (by omega) ?_
   try (have so3q := hso3; rw [if_neg (by omega)] at so3q)
   have hsl2 := Sl.cutI (H := 5) hA hso3 (by omega)
   refine VT_fcall (d := 26) (f := 62) (args := #[.slice (some ⟨sb1, so3, none⟩) 2 (c - 3)]) (v := .int .i64 ((natL ((bs.drop 3).take (5 - 3)) : Nat) : Int)) (by kernel_rfl) (by kernel_rfl) (by kernel_rfl) Try.call62 ?_ ?_
   ·intro w11 hr6
    replace hS := Step.transNew hS hr6 (fun i hi hG => by (try simp only at hG); omega)
    replace hA := hA.keepB hr6 (by (try simp only); omega)
    replace ho1 := ho1.step hr6 (by (try simp only); omega)
    replace ho2 := ho2.step hr6 (by (try simp only); omega)
    replace hsl1 := hsl1.keepB hr6 (by (try simp only); omega)
    replace hsl2 := hsl2.keepB hr6 (by (try simp only); omega)
    exact numberN_any (some ⟨sb1, so3, none⟩) 2 (c - 3) _ ((bs.drop 3).take (5 - 3)) _ (by simp only [List.length_take, List.length_drop]; omega) hsl2 ((hb.drop _).take _) (by omega)
   refine VT_pures 1 (kn' := [(13, .agg #[.int .i64 (IntKind.wrap .i64 (bs.getD 0 0)), .int .i64 ((natL ((bs.drop 1).take (3 - 1)) : Nat) : Int), .int .i64 ((natL ((bs.drop 3).take (5 - 3)) : Nat) : Int)]), (12, .int .i64 ((natL ((bs.drop 3).take (5 - 3)) : Nat) : Int)), (11, .slice (some ⟨sb1, so3, none⟩) 2 (c - 3)), (10, .slice (some ⟨sb1, so1, none⟩) 5 c), (9, .pointer (some ⟨b1, 1, none⟩)), (8, .int .i64 ((natL ((bs.drop 1).take (3 - 1)) : Nat) : Int)), (7, .slice (some ⟨sb1, so2, none⟩) 2 (c - 1)), (6, .slice (some ⟨sb1, so1, none⟩) 5 c), (5, .pointer (some ⟨b1, 1, none⟩)), (4, .int .i64 (IntKind.wrap .i64 (bs.getD 0 0))), (3, .int .u8 (bs.getD 0 0)), (2, .pointer (some ⟨sb1, so1, none⟩)), (1, .slice (some ⟨sb1, so1, none⟩) 5 c), (0, .pointer (some ⟨b1, 1, none⟩))]) (by kernel_rfl) ?_
   refine VT_chain (by kernel_rfl) ?_
   intro w12 hs2
   have hzhs2 := hs2.size
   replace hS := Step.trans hS hs2
   replace hA := hA.no hs2
   replace ho1 := ho1.no hs2
   replace ho2 := ho2.no hs2
   replace hsl1 := hsl1.no hs2
   replace hsl2 := hsl2.no hs2
   have hzs4 := hS.size
   have hzl4 := ho1.lt
   have hzl5 := ho2.lt
   have hzs5 := hS.size
   have hzl6 := ho1.lt
   have hzl7 := ho2.lt
   refine VTc_box (d := 4) (t := 54) (c := #[.int .i64 0, .int .i64 0, .int .i64 0]) (by kernel_rfl) (by kernel_rfl) (fun b w1 hn => hn.step _) ?_
   intro b3 w13 hn3
   replace hS := Step.trans hS (hn3.step No)
   replace hA := hA.no (hn3.step No)
   replace ho1 := ho1.no (hn3.step No)
   replace ho2 := ho2.no (hn3.step No)
   replace hsl1 := hsl1.no (hn3.step No)
   replace hsl2 := hsl2.no (hn3.step No)
   have ho5 := hn3.own
   have hzhn3 := hn3.size
   have hqhn3 := hn3.eqb
   refine VT_end ?_
   intro w14 hs3
   replace hS := Step.trans hS hs3
   replace hA := hA.no hs3
   replace ho1 := ho1.no hs3
   replace ho2 := ho2.no hs3
   replace hsl1 := hsl1.no hs3
   replace hsl2 := hsl2.no hs3
   replace ho5 := ho5.no hs3
   refine VL_keep [2, 27, 4] [(2, .pointer (some ⟨b2, 0, none⟩)), (27, .agg #[.int .i64 (IntKind.wrap .i64 (bs.getD 0 0)), .int .i64 ((natL ((bs.drop 1).take (3 - 1)) : Nat) : Int), .int .i64 ((natL ((bs.drop 3).take (5 - 3)) : Nat) : Int)]), (4, .pointer (some ⟨b3, 0, none⟩))] (by kernel_rfl) ?_
   refine VL_store (b := b3) (o := 0) (vs := [.int .i64 (IntKind.wrap .i64 (bs.getD 0 0)), .int .i64 ((natL ((bs.drop 1).take (3 - 1)) : Nat) : Int), .int .i64 ((natL ((bs.drop 3).take (5 - 3)) : Nat) : Int)]) (by kernel_rfl) (by kernel_rfl) ho5 (Nat.le_of_ble_eq_true (by kernel_rfl)) ?_
   intro w15 hw3
   replace hS := Step.transNew hS hw3.step (fun _ _ _ => by omega)
   replace hA := hA.keepB hw3.step (show ¬ sb1 = b3 by omega)
   replace ho1 := ho1.step hw3.step (show ¬ b1 = b3 by omega)
   replace ho2 := ho2.step hw3.step (show ¬ b2 = b3 by omega)
   replace hsl1 := hsl1.keepB hw3.step (show ¬ sb1 = b3 by omega)
   replace hsl2 := hsl2.keepB hw3.step (show ¬ sb1 = b3 by omega)
   have ho6 : Own w15 b3 #[.int .i64 (IntKind.wrap .i64 (bs.getD 0 0)), .int .i64 ((natL ((bs.drop 1).take (3 - 1)) : Nat) : Int), .int .i64 ((natL ((bs.drop 3).take (5 - 3)) : Nat) : Int)] 54 := Own.cast hw3.own (by kernel_rfl)
   have hzhw3 := hw3.same
   refine VL_end (by kernel_rfl) ?_
   refine VQ_next ?_
   refine VC_seq ?_
   refine VC_seq ?_
   refine VC_region ?_
   refine VL_load (d := 28) (t := 54) (a := ⟨b3, 0, none⟩) (v := .agg #[.int .i64 (IntKind.wrap .i64 (bs.getD 0 0)), .int .i64 ((natL ((bs.drop 1).take (3 - 1)) : Nat) : Int), .int .i64 ((natL ((bs.drop 3).take (5 - 3)) : Nat) : Int)]) (by kernel_rfl) (by kernel_rfl) (Loads.ownL ho6 (n := 3) (by kernel_rfl) (by kernel_rfl) (by kernel_rfl)) ?_
   have hzs6 := hS.size
   have hzl8 := ho1.lt
   have hzl9 := ho2.lt
   have hzl10 := ho6.lt
   refine VL_call (d := 29) (f := 64) (args := #[.agg #[.int .i64 (IntKind.wrap .i64 (bs.getD 0 0)), .int .i64 ((natL ((bs.drop 1).take (3 - 1)) : Nat) : Int), .int .i64 ((natL ((bs.drop 3).take (5 - 3)) : Nat) : Int)]]) (by kernel_rfl) (by kernel_rfl) (by kernel_rfl) Try.call64 (rkright_any (IntKind.wrap .i64 (bs.getD 0 0)) ((natL ((bs.drop 1).take (3 - 1)) : Nat) : Int) ((natL ((bs.drop 3).take (5 - 3)) : Nat) : Int) _) ?_
   rintro _ w16 ⟨rfl, hc1⟩
   replace hS := Step.trans hS hc1
   replace hA := hA.no hc1
   replace ho1 := ho1.no hc1
   replace ho2 := ho2.no hc1
   replace hsl1 := hsl1.no hc1
   replace hsl2 := hsl2.no hc1
   replace ho6 := ho6.no hc1
   refine VL_pure 3 [2, 4, 30] [(2, .pointer (some ⟨b2, 0, none⟩)), (4, .pointer (some ⟨b3, 0, none⟩)), (30, .bool (!(rightK (IntKind.wrap .i64 (bs.getD 0 0)) ((natL ((bs.drop 1).take (3 - 1)) : Nat) : Int) ((natL ((bs.drop 3).take (5 - 3)) : Nat) : Int))))] (by kernel_rfl) rfl ?_
   refine VL_end (by kernel_rfl) ?_
   refine VQ_next ?_
   refine VC_cond (!(rightK (IntKind.wrap .i64 (bs.getD 0 0)) ((natL ((bs.drop 1).take (3 - 1)) : Nat) : Int) ((natL ((bs.drop 3).take (5 - 3)) : Nat) : Int))) (by kernel_rfl) (fun h3 => ?_) (fun h3 => ?_)
   ·try simp only [Bool.and_eq_true, Bool.or_eq_true, decide_eq_true_eq, Bool.not_eq_true', decide_eq_false_iff_not, Bool.and_eq_false_iff, Bool.or_eq_false_iff, beq_iff_eq, bne_iff_ne, beq_eq_false_iff_ne, bne_eq_false_iff_eq, Bool.not_eq_eq_eq_not, Bool.not_true, Bool.not_false] at h3
    refine VC_seq ?_
    refine VC_region ?_
    refine VL_pure 1 [2, 31] [(2, .pointer (some ⟨b2, 0, none⟩)), (31, .agg #[.int .i64 0, .int .i64 0, .int .i64 0])] (by kernel_rfl) rfl ?_
    refine VL_store (b := b2) (o := 0) (vs := [.int .i64 0, .int .i64 0, .int .i64 0]) (by kernel_rfl) (by kernel_rfl) ho2 (Nat.le_of_ble_eq_true (by kernel_rfl)) ?_
    intro w17 hw4
    replace hS := Step.transNew hS hw4.step (fun _ _ _ => by omega)
    replace hA := hA.keepB hw4.step (show ¬ sb1 = b2 by omega)
    replace ho1 := ho1.step hw4.step (show ¬ b1 = b2 by omega)
    replace hsl1 := hsl1.keepB hw4.step (show ¬ sb1 = b2 by omega)
    replace hsl2 := hsl2.keepB hw4.step (show ¬ sb1 = b2 by omega)
    replace ho6 := ho6.step hw4.step (show ¬ b3 = b2 by omega)
    have ho7 : Own w17 b2 #[.int .i64 0, .int .i64 0, .int .i64 0] 54 := Own.cast hw4.own (by kernel_rfl)
    have hzhw4 := hw4.same
    refine VL_pure 3 [2, 3] [(2, .pointer (some ⟨b2, 0, none⟩)), (3, .int .i64 1)] (by kernel_rfl) rfl ?_
    refine VL_end (by kernel_rfl) ?_
    refine VQ_next ?_
    refine VC_ret ?_
    refine VQ_then_ret ?_
    refine VQ_retC1T1 (T := 54) (.agg #[.int .i64 0, .int .i64 0, .int .i64 0]) (.int .i64 1) (.inr rfl) rfl rfl rfl (Loads.ownL ho7 (n := 3) (by kernel_rfl) (by kernel_rfl) (by kernel_rfl)) ?_
    have hq := rk_1 (bs := bs) (show xi = 90 by omega) (by omega) (hrk_of (by first | assumption | (rw [← fk_0 hn rfl hb]; assumption)))
    exact ⟨by simp only [rkV_n (show rkE xi bs ≠ 0 by rw [hq]; decide), hq], hS⟩
   ·try simp only [Bool.and_eq_true, Bool.or_eq_true, decide_eq_true_eq, Bool.not_eq_true', decide_eq_false_iff_not, Bool.and_eq_false_iff, Bool.or_eq_false_iff, beq_iff_eq, bne_iff_ne, beq_eq_false_iff_ne, bne_eq_false_iff_eq, Bool.not_eq_eq_eq_not, Bool.not_true, Bool.not_false] at h3
    refine VC_skip ?_
    refine VQ_next ?_
    refine VC_seq ?_
    refine VC_region ?_
    refine VL_load (d := 32) (t := 54) (a := ⟨b3, 0, none⟩) (v := .agg #[.int .i64 (IntKind.wrap .i64 (bs.getD 0 0)), .int .i64 ((natL ((bs.drop 1).take (3 - 1)) : Nat) : Int), .int .i64 ((natL ((bs.drop 3).take (5 - 3)) : Nat) : Int)]) (by kernel_rfl) (by kernel_rfl) (Loads.ownL ho6 (n := 3) (by kernel_rfl) (by kernel_rfl) (by kernel_rfl)) ?_
    refine VL_store (b := b2) (o := 0) (vs := [.int .i64 (IntKind.wrap .i64 (bs.getD 0 0)), .int .i64 ((natL ((bs.drop 1).take (3 - 1)) : Nat) : Int), .int .i64 ((natL ((bs.drop 3).take (5 - 3)) : Nat) : Int)]) (by kernel_rfl) (by kernel_rfl) ho2 (Nat.le_of_ble_eq_true (by kernel_rfl)) ?_
    intro w18 hw5
    replace hS := Step.transNew hS hw5.step (fun _ _ _ => by omega)
    replace hA := hA.keepB hw5.step (show ¬ sb1 = b2 by omega)
    replace ho1 := ho1.step hw5.step (show ¬ b1 = b2 by omega)
    replace hsl1 := hsl1.keepB hw5.step (show ¬ sb1 = b2 by omega)
    replace hsl2 := hsl2.keepB hw5.step (show ¬ sb1 = b2 by omega)
    replace ho6 := ho6.step hw5.step (show ¬ b3 = b2 by omega)
    have ho8 : Own w18 b2 #[.int .i64 (IntKind.wrap .i64 (bs.getD 0 0)), .int .i64 ((natL ((bs.drop 1).take (3 - 1)) : Nat) : Int), .int .i64 ((natL ((bs.drop 3).take (5 - 3)) : Nat) : Int)] 54 := Own.cast hw5.own (by kernel_rfl)
    have hzhw5 := hw5.same
    refine VL_pure 3 [2, 3] [(2, .pointer (some ⟨b2, 0, none⟩)), (3, .int .i64 0)] (by kernel_rfl) rfl ?_
    refine VL_end (by kernel_rfl) ?_
    refine VQ_next ?_
    refine VC_ret ?_
    refine VQ_retC1T1 (T := 54) (.agg #[.int .i64 (IntKind.wrap .i64 (bs.getD 0 0)), .int .i64 ((natL ((bs.drop 1).take (3 - 1)) : Nat) : Int), .int .i64 ((natL ((bs.drop 3).take (5 - 3)) : Nat) : Int)]) (.int .i64 0) (.inr rfl) rfl rfl rfl (Loads.ownL ho8 (n := 3) (by kernel_rfl) (by kernel_rfl) (by kernel_rfl)) ?_
    have hq := rk_0 (bs := bs) (show xi = 90 by omega) (by omega) (hrk_of (by first | assumption | (rw [← fk_0 hn rfl hb]; assumption)))
    exact ⟨by simp only [rkV_0 hq, hq]; first | done | rfl | (rw [fk_0 hn rfl hb]; rfl), hS⟩

end Go.Proofs.Ytejpcmjokamdcaa
