/- Layer 9: All. -/
import Derived.Test.YtfkahhkojlfmdaaProg
import Derived.Test.YtfkahhkojlfmdaaCn7
import Derived.Test.YtfkahhkojlfmdaaCnc
set_option linter.unusedVariables false
set_option linter.unusedSimpArgs false
namespace Go.Proofs.Ytfkahhkojlfmdaa
open Go.Vc Go.RowKit

set_option maxRecDepth 100000 in
set_option maxHeartbeats 4000000 in
theorem all1_any (Lb B b : Nat) (s : Nat → Slot) (len room : Int) (LL : List Ent) (hT : TabI s len room LL) (w : World) (J Jx : Nat → Nat → World → Prop) (hJn : ∀ M k W W', J M k W → Step No W W' → J M k W') (hB : Own w B #[.pointer (some ⟨b, 0, none⟩)] 24) (ht : Own w b (encT s len room) 62) (h0 : ∀ M W, w.heap.size ≤ M → M ≤ W.heap.size → Step No w W → J M 0 W) (hy : ∀ M k W args, w.heap.size ≤ M → M ≤ W.heap.size → (entV LL)[k]? = some args → J M k W → YV Try.prog Lb args W fun v W' => Step (fun i => i < w.heap.size ∨ M ≤ i) W W' ∧ (v = .bool true ∧ J M (k + 1) W' ∨ v = .bool false ∧ Jx M (k + 1) W')) :
    CV Try.prog 28 #[.func (.yield Lb) #[] #[], .pointer (some ⟨B, 0, none⟩)] w (fun _ w1 => ∃ M, w.heap.size ≤ M ∧ (J M (entV LL).length w1 ∨ ∃ k, k ≤ (entV LL).length ∧ Jx M k w1)) := by
  have hS : Step No w w := Step.refl _ _
  refine CV_enter Try.f28 _ 40 [(0, .func (.yield Lb) #[] #[]), (1, .pointer (some ⟨B, 0, none⟩))] Try.func28 rfl rfl (by kernel_rfl) rfl ?_
  refine VC_seq ?_
  refine VC_seq ?_
  refine VC_region ?_
  refine VL_load (d := 8) (t := 24) (a := ⟨B, 0, none⟩) (v := .pointer (some ⟨b, 0, none⟩)) (by kernel_rfl) (by kernel_rfl) (Loads.own1 hB (by kernel_rfl) (by rfl)) ?_
  refine VL_pure 2 [0, 1, 9] [(0, .func (.yield Lb) #[] #[]), (1, .pointer (some ⟨B, 0, none⟩)), (9, .bool false)] (by kernel_rfl) rfl ?_
  refine VL_end (by kernel_rfl) ?_
  refine VQ_next ?_
  refine VC_false (by kernel_rfl) ?_
  refine VC_skip ?_
  refine VQ_next ?_
  refine VC_seq ?_
  refine VC_region ?_
  refine VL_pure 1 [0, 1, 3] [(0, .func (.yield Lb) #[] #[]), (1, .pointer (some ⟨B, 0, none⟩)), (3, .slice none 0 0)] (by kernel_rfl) rfl ?_
  refine VL_end (by kernel_rfl) ?_
  refine VQ_next ?_
  refine VC_seq ?_
  refine VC_seq ?_
  refine VC_region ?_
  refine VL_load (d := 10) (t := 24) (a := ⟨B, 0, none⟩) (v := .pointer (some ⟨b, 0, none⟩)) (by kernel_rfl) (by kernel_rfl) (Loads.own1 hB (by kernel_rfl) (by rfl)) ?_
  refine VL_pure 3 [0, 3, 12] [(0, .func (.yield Lb) #[] #[]), (3, .slice none 0 0), (12, .pointer (some ⟨b, 0, none⟩))] (by kernel_rfl) rfl ?_
  refine VL_load (d := 13) (t := 60) (a := ⟨b, 0, none⟩) (v := .agg ((encT s len room).extract 0 640)) (by kernel_rfl) (by kernel_rfl) (Loads.slots ht (by kernel_rfl)) ?_
  refine VL_pure 5 [0, 3, 13, 14] [(0, .func (.yield Lb) #[] #[]), (3, .slice none 0 0), (13, .agg ((encT s len room).extract 0 640)), (14, .int .i64 0)] (by kernel_rfl) rfl ?_
  refine VL_end (by kernel_rfl) ?_
  refine VQ_next ?_
  refine VC_block ?_
  refine VC_loop (σ := Nat × (Option Addr) × Nat × Nat) (fun σs => [(0, .func (.yield Lb) #[] #[]), (13, .agg ((encT s len room).extract 0 640)), (14, .int .i64 ((σs.1 : Nat) : Int)), (3, .slice σs.2.1 σs.2.2.1 σs.2.2.2)]) (fun σs wr => σs.1 ≤ 128 ∧ (usedK s σs.1).length = σs.2.2.1 ∧ RwS wr 5 w.heap.size 59 σs.2.1 σs.2.2.1 σs.2.2.2 (flat Slot.cells (usedK s σs.1)) ∧ Step No w wr) (fun σs wr => 128 - σs.1) ⟨0, none, 0, 0⟩ ⟨rfl, rfl, rfl, rfl, trivial⟩ ?_ ?_
  · exact ⟨by omega, rfl, RwS.nil _ _ _ _, hS⟩
  rintro ⟨k, A, n, c⟩ wr ⟨hk, hn, hr, hS⟩
  try dsimp only at hk hn hr hS ⊢
  have hu9 := usedK_len s k
  have hzS := hS.size
  refine VC_seq ?_
  refine VC_region ?_
  refine VL_pure 1 [0, 13, 14, 3, 15] [(0, .func (.yield Lb) #[] #[]), (13, .agg ((encT s len room).extract 0 640)), (14, .int .i64 ((k : Nat) : Int)), (3, .slice A n c), (15, .bool (decide (((k : Nat) : Int) < 128)))] (by kernel_rfl) rfl ?_
  refine VL_end (by kernel_rfl) ?_
  refine VQ_next ?_
  refine VC_seq ?_
  refine VC_dec (((k : Nat) : Int) < 128) (by kernel_rfl) (fun h1 => ?_) (fun h1 => ?_)
  · refine VC_skip ?_
    refine VQ_next ?_
    refine VC_seq ?_
    refine VC_block ?_
    refine VC_seq ?_
    have hub9 := hr.ub
    refine VC_region ?_
    refine VL_ixA (d := 16) (e := 59) (len := 128) (sz := 5) (by kernel_rfl) (by kernel_rfl) (by kernel_rfl) k rfl (by omega) _ (encT_slots s len room k (by omega)) ?_
    refine VL_keep [0, 13, 14, 3, 15, 16] [(0, .func (.yield Lb) #[] #[]), (13, .agg ((encT s len room).extract 0 640)), (14, .int .i64 ((k : Nat) : Int)), (3, .slice A n c), (15, .bool (decide (((k : Nat) : Int) < 128))), (16, .agg #[.int .i64 ((s k).p), .int .i64 ((s k).v), .int .i64 ((s k).c), .int .i64 ((s k).n), .bool ((s k).used)])] (by kernel_rfl) ?_
    have hzs1 := hS.size
    refine VL_box (d := 5) (t := 59) (c := #[.int .i64 0, .int .i64 0, .int .i64 0, .int .i64 0, .bool false]) (by kernel_rfl) (by kernel_rfl) ?_
    intro b1 w1 hn1
    replace hS := Step.trans hS (hn1.step No)
    replace hr := hr.no (hn1.step No)
    have ho1 := hn1.own
    have hzhn1 := hn1.size
    have hqhn1 := hn1.eqb
    refine VL_store (b := b1) (o := 0) (vs := [.int .i64 ((s k).p), .int .i64 ((s k).v), .int .i64 ((s k).c), .int .i64 ((s k).n), .bool ((s k).used)]) (by kernel_rfl) (by kernel_rfl) ho1 (Nat.le_of_ble_eq_true (by kernel_rfl)) ?_
    intro w2 hw1
    replace hS := Step.transNew hS hw1.step (fun _ _ _ => by omega)
    replace hr := hr.stepU hub9 hw1.step (fun k hk1 hk2 (hF : k = b1) => by omega)
    have ho2 : Own w2 b1 #[.int .i64 ((s k).p), .int .i64 ((s k).v), .int .i64 ((s k).c), .int .i64 ((s k).n), .bool ((s k).used)] 59 := Own.cast hw1.own (by kernel_rfl)
    have hzhw1 := hw1.same
    refine VL_end (by kernel_rfl) ?_
    refine VQ_next ?_
    refine VC_seq ?_
    refine VC_region ?_
    refine VL_pure 1 [0, 13, 14, 3, 5, 17] [(0, .func (.yield Lb) #[] #[]), (13, .agg ((encT s len room).extract 0 640)), (14, .int .i64 ((k : Nat) : Int)), (3, .slice A n c), (5, .pointer (some ⟨b1, 0, none⟩)), (17, .pointer (some ⟨b1, 4, none⟩))] (by kernel_rfl) rfl ?_
    refine VL_load (d := 18) (t := 4) (a := ⟨b1, 4, none⟩) (v := .bool ((s k).used)) (by kernel_rfl) (by kernel_rfl) (Loads.own1 ho2 (by kernel_rfl) (by rfl)) ?_
    refine VL_end (by kernel_rfl) ?_
    refine VQ_next ?_
    refine VC_cond ((s k).used) (by kernel_rfl) (fun h2 => ?_) (fun h2 => ?_)
    · try simp only [Bool.and_eq_true, Bool.or_eq_true, decide_eq_true_eq, Bool.not_eq_true', decide_eq_false_iff_not, Bool.and_eq_false_iff, Bool.or_eq_false_iff, beq_iff_eq, bne_iff_ne, beq_eq_false_iff_ne, bne_eq_false_iff_eq, Bool.not_eq_eq_eq_not, Bool.not_true, Bool.not_false] at h2
      refine VC_region ?_
      refine VL_pure 1 [0, 13, 14, 5, 19] [(0, .func (.yield Lb) #[] #[]), (13, .agg ((encT s len room).extract 0 640)), (14, .int .i64 ((k : Nat) : Int)), (5, .pointer (some ⟨b1, 0, none⟩)), (19, .slice A n c)] (by kernel_rfl) rfl ?_
      refine VL_load (d := 20) (t := 59) (a := ⟨b1, 0, none⟩) (v := .agg #[.int .i64 ((s k).p), .int .i64 ((s k).v), .int .i64 ((s k).c), .int .i64 ((s k).n), .bool ((s k).used)]) (by kernel_rfl) (by kernel_rfl) (Loads.ownL ho2 (n := 5) (by kernel_rfl) (by kernel_rfl) (by kernel_rfl)) ?_
      have hzs2 := hS.size
      have hzl1 := ho2.lt
      refine VL_bs (d := 21) (e := 59) (c := #[.int .i64 ((s k).p), .int .i64 ((s k).v), .int .i64 ((s k).c), .int .i64 ((s k).n), .bool ((s k).used)]) (len := 1) (by kernel_rfl) (by kernel_rfl) ?_
      intro b2 w3 hn2
      replace hS := Step.trans hS (hn2.step No)
      replace hr := hr.no (hn2.step No)
      replace ho2 := ho2.no (hn2.step No)
      have ho3 := hn2.own
      have hzhn2 := hn2.size
      have hqhn2 := hn2.eqb
      have hzs3 := hS.size
      have hzl2 := ho2.lt
      have hzl3 := ho3.lt
      refine VL_appendZ (d := 22) (e := 59) (A := A) (m := n) (c := c) (A2 := (some ⟨b2, 0, none⟩)) (m2 := 1) (c2 := 1) (sz := 5) (bytes := 40) (by kernel_rfl) (by kernel_rfl) (by kernel_rfl) w.heap.size w3.heap.size (flat Slot.cells (usedK s k)) (flat Slot.cells [(s k)]) hr (by rw [flat_one, cells_len]) (Sl.mono (Sl.cast (Own.sl ho3 ho3.lt) (by first | rfl | simp [flat])) (by first | exact Nat.le_refl _ | omega)) (flat_one' cells_one _) (n + 1) (by omega) (by simp only [maxLen]; omega) (by omega) (by omega) ?_
      intro A1 c1 w4 hr1 hg1
      replace hr1 : RwS w4 5 w.heap.size 59 A1 (n + 1) c1 (flat Slot.cells ((usedK s k) ++ ([(s k)]))) := RwS.cast hr1 rfl (by simp only [flat_append, flat_one, List.append_assoc, List.nil_append, List.append_nil, show flat Slot.cells [] = [] from rfl])
      replace hg1 := Step.mono (G := fun k => w.heap.size ≤ k) hg1 (fun i hi => (RwS.lt hr i hi).1)
      have hzhg1 := hg1.size
      replace hS := Step.transNew hS hg1 (fun i hi hG => by (try simp only at hG); omega)
      have hlhr1 : ((usedK s k) ++ ([(s k)])).length = n + 1 := by have hq9 := RwS.len hr1; rw [flat_len cells_len] at hq9; omega
      refine VL_pure 5 [0, 13, 14, 3] [(0, .func (.yield Lb) #[] #[]), (13, .agg ((encT s len room).extract 0 640)), (14, .int .i64 ((k : Nat) : Int)), (3, .slice A1 (n + 1) c1)] (by kernel_rfl) rfl ?_
      refine VL_end (by kernel_rfl) ?_
      refine VQ_block_normal ?_
      refine VQ_next ?_
      refine VC_region ?_
      refine VL_pure 1 [0, 13, 3, 23] [(0, .func (.yield Lb) #[] #[]), (13, .agg ((encT s len room).extract 0 640)), (3, .slice A1 (n + 1) c1), (23, .int .i64 (IntKind.wrap .i64 (((k : Nat) : Int) + 1)))] (by kernel_rfl) rfl ?_
      have he1 : IntKind.wrap .i64 (((k : Nat) : Int) + 1) = ((k + 1 : Nat) : Int) := (by rw [wrap_i64 _ (by omega) (by omega)]; omega)
      refine VL_eq [(0, .func (.yield Lb) #[] #[]), (13, .agg ((encT s len room).extract 0 640)), (3, .slice A1 (n + 1) c1), (23, .int .i64 ((k + 1 : Nat) : Int))] (by rw [he1]) ?_
      refine VL_pure 2 [0, 13, 3, 14] [(0, .func (.yield Lb) #[] #[]), (13, .agg ((encT s len room).extract 0 640)), (3, .slice A1 (n + 1) c1), (14, .int .i64 ((k + 1 : Nat) : Int))] (by kernel_rfl) rfl ?_
      refine VL_end (by kernel_rfl) ?_
      refine VQ_again ⟨k + 1, A1, n + 1, c1⟩ ⟨rfl, rfl, rfl, rfl, trivial⟩ ?_ ?_
      · exact ⟨by omega, by rw [usedK_yes h2]; exact hlhr1, RwS.cast hr1 rfl (by rw [usedK_yes h2]), hS⟩
      · (try dsimp only); omega
    · try simp only [Bool.and_eq_true, Bool.or_eq_true, decide_eq_true_eq, Bool.not_eq_true', decide_eq_false_iff_not, Bool.and_eq_false_iff, Bool.or_eq_false_iff, beq_iff_eq, bne_iff_ne, beq_eq_false_iff_ne, bne_eq_false_iff_eq, Bool.not_eq_eq_eq_not, Bool.not_true, Bool.not_false] at h2
      refine VC_skip ?_
      refine VQ_block_normal ?_
      refine VQ_next ?_
      refine VC_region ?_
      refine VL_pure 1 [0, 13, 3, 23] [(0, .func (.yield Lb) #[] #[]), (13, .agg ((encT s len room).extract 0 640)), (3, .slice A n c), (23, .int .i64 (IntKind.wrap .i64 (((k : Nat) : Int) + 1)))] (by kernel_rfl) rfl ?_
      have he2 : IntKind.wrap .i64 (((k : Nat) : Int) + 1) = ((k + 1 : Nat) : Int) := (by rw [wrap_i64 _ (by omega) (by omega)]; omega)
      refine VL_eq [(0, .func (.yield Lb) #[] #[]), (13, .agg ((encT s len room).extract 0 640)), (3, .slice A n c), (23, .int .i64 ((k + 1 : Nat) : Int))] (by rw [he2]) ?_
      refine VL_pure 2 [0, 13, 3, 14] [(0, .func (.yield Lb) #[] #[]), (13, .agg ((encT s len room).extract 0 640)), (3, .slice A n c), (14, .int .i64 ((k + 1 : Nat) : Int))] (by kernel_rfl) rfl ?_
      refine VL_end (by kernel_rfl) ?_
      have hu8 : (s k).used = false := by simpa using h2
      refine VQ_again ⟨k + 1, A, n, c⟩ ⟨rfl, rfl, rfl, rfl, trivial⟩ ?_ ?_
      · exact ⟨by omega, by rw [usedK_no hu8]; exact hn, RwS.cast hr rfl (by rw [usedK_no hu8]), hS⟩
      · (try dsimp only); omega
  · refine VC_exit ?_
    refine VQ_then_exit ?_
    refine VQ_then_exit ?_
    refine VQ_block_hit ?_
    refine VQ_next ?_
    refine VC_seq ?_
    have hk128 : k = 128 := by omega
    refine VC_region ?_
    refine VL_pure 1 [0, 3, 24] [(0, .func (.yield Lb) #[] #[]), (3, .slice A n c), (24, .slice A n c)] (by kernel_rfl) rfl ?_
    have hzs4 := hS.size
    refine VL_call (d := 25) (f := 29) (by kernel_rfl) (by kernel_rfl) (by kernel_rfl) Try.call29 (sort_row hr hn (by have h9 := usedK_len s k; omega)) ?_
    rintro _ w5 ⟨rfl, ys, hys1, hys2, hr2, hc1⟩
    have hzhc1 := (hc1).size
    replace hS := Step.transNew hS hc1 (fun i hi hG => by (try simp only at hG); omega)
    have hlL := hys1.length_eq.trans hn
    have hys : ys = LL.map Ent.slot := sorted_is hT (by rw [← hk128]; exact hys1) (fun i j h1 h2 => hys2 i j h1 (by rw [← hk128, hn] at h2; exact h2))
    subst hys
    refine VL_end (by kernel_rfl) ?_
    refine VQ_next ?_
    refine VC_seq ?_
    refine VC_region ?_
    refine VL_pure 3 [0, 26, 27, 28] [(0, .func (.yield Lb) #[] #[]), (26, .slice A n c), (27, .int .i64 ((n : Nat) : Int)), (28, .int .i64 0)] (by kernel_rfl) rfl ?_
    refine VL_end (by kernel_rfl) ?_
    refine VQ_next ?_
    refine VC_block ?_
    obtain ⟨M, hMe⟩ : ∃ M, M = w5.heap.size := ⟨_, rfl⟩
    have hM0 : w.heap.size ≤ M := by rw [hMe]; exact hS.size
    have hJ : J M 0 w5 := h0 M _ hM0 (Nat.le_of_eq hMe) hS
    have hv2 : Sl2 w5 w.heap.size M A (flat Slot.cells (LL.map Ent.slot)) := by rw [hMe]; exact RwS.sl2 hr2
    refine VC_loop (σ := Nat) (fun σs => [(0, .func (.yield Lb) #[] #[]), (26, .slice A n c), (27, .int .i64 ((n : Nat) : Int)), (28, .int .i64 ((σs : Nat) : Int))]) (fun σs wr => σs ≤ n ∧ J M σs wr ∧ M ≤ wr.heap.size ∧ Sl2 wr w.heap.size M A (flat Slot.cells (LL.map Ent.slot))) (fun σs wr => n - σs) 0 ⟨rfl, rfl, rfl, rfl, trivial⟩ ?_ ?_
    · exact ⟨by omega, hJ, Nat.le_of_eq hMe, hv2⟩
    rintro j wr ⟨hj, hJ, hMz, hv2⟩
    try dsimp only at hj hJ hMz hv2 ⊢
    have hS2 : Step No wr wr := Step.refl _ _
    refine VC_seq ?_
    refine VC_region ?_
    refine VL_pure 1 [0, 26, 27, 28, 29] [(0, .func (.yield Lb) #[] #[]), (26, .slice A n c), (27, .int .i64 ((n : Nat) : Int)), (28, .int .i64 ((j : Nat) : Int)), (29, .bool (decide (((j : Nat) : Int) < ((n : Nat) : Int))))] (by kernel_rfl) rfl ?_
    refine VL_end (by kernel_rfl) ?_
    refine VQ_next ?_
    refine VC_seq ?_
    refine VC_dec (((j : Nat) : Int) < ((n : Nat) : Int)) (by kernel_rfl) (fun h3 => ?_) (fun h3 => ?_)
    · refine VC_skip ?_
      refine VQ_next ?_
      refine VC_seq ?_
      refine VC_block ?_
      refine VC_seq ?_
      refine VC_region ?_
      obtain ⟨sb1, so1, rfl, hlbsb1⟩ := (Sl2.sl hv2).open (by rw [flat_len cells_len]; have hq9 : (LL.map Ent.slot).length = n := hlL; omega)
      refine VL_index (d := 30) (b := sb1) (o := so1) (len := n) (sz := 5) (m := ((j : Nat) : Int)) (by kernel_rfl) (by kernel_rfl) j (by rfl) (by omega) (so1 + j * 5) (by omega) ?_
      obtain ⟨y1, hy1⟩ : ∃ x, LL[j]? = some x := ⟨_, List.getElem?_eq_getElem (by have hq9 := hlL; rw [List.length_map] at hq9; omega)⟩
      refine VL_load (d := 31) (t := 59) (a := ⟨sb1, so1 + j * 5, none⟩) (v := .agg #[.int .i64 y1.p, .int .i64 y1.v, .int .i64 y1.c, .int .i64 y1.n, .bool true]) (by kernel_rfl) (by kernel_rfl) (Sl.flatAgg (sz := 5) (Sl2.sl hv2) cells_len (by rw [List.getElem?_map, hy1]; rfl) 0 5 (by kernel_rfl) (by decide) _ (by first | rfl | omega)) ?_
      have hzs5 := hS2.size
      have hzk1 := hMz
      refine VL_box (d := 7) (t := 59) (c := #[.int .i64 0, .int .i64 0, .int .i64 0, .int .i64 0, .bool false]) (by kernel_rfl) (by kernel_rfl) ?_
      intro b3 w6 hn3
      replace hS2 := Step.trans hS2 (hn3.step No)
      replace hMz := Nat.le_trans hMz (hn3.step No).size
      replace hv2 := hv2.step (hn3.step No) (fun k hk1 hk2 hF => hF)
      have ho4 := hn3.own
      have hzhn3 := hn3.size
      have hqhn3 := hn3.eqb
      refine VL_store (b := b3) (o := 0) (vs := [.int .i64 y1.p, .int .i64 y1.v, .int .i64 y1.c, .int .i64 y1.n, .bool true]) (by kernel_rfl) (by kernel_rfl) ho4 (Nat.le_of_ble_eq_true (by kernel_rfl)) ?_
      intro w7 hw2
      replace hS2 := Step.transNew hS2 hw2.step (fun _ _ _ => by omega)
      replace hMz := Nat.le_trans hMz (hw2.step).size
      replace hv2 := hv2.step hw2.step (fun k hk1 hk2 (hF : k = b3) => by omega)
      have ho5 : Own w7 b3 #[.int .i64 y1.p, .int .i64 y1.v, .int .i64 y1.c, .int .i64 y1.n, .bool true] 59 := Own.cast hw2.own (by kernel_rfl)
      have hzhw2 := hw2.same
      refine VL_end (by kernel_rfl) ?_
      refine VQ_next ?_
      refine VC_seq ?_
      refine VC_region ?_
      refine VL_pure 2 [0, 26, 27, 28, 7, 32, 33] [(0, .func (.yield Lb) #[] #[]), (26, .slice (some ⟨sb1, so1, none⟩) n c), (27, .int .i64 ((n : Nat) : Int)), (28, .int .i64 ((j : Nat) : Int)), (7, .pointer (some ⟨b3, 0, none⟩)), (32, .func (.yield Lb) #[] #[]), (33, .pointer (some ⟨b3, 0, none⟩))] (by kernel_rfl) rfl ?_
      refine VL_load (d := 34) (t := 29) (a := ⟨b3, 0, none⟩) (v := .agg #[.int .i64 y1.p, .int .i64 y1.v, .int .i64 y1.c]) (by kernel_rfl) (by kernel_rfl) (Loads.ownL ho5 (n := 3) (by kernel_rfl) (by kernel_rfl) (by kernel_rfl)) ?_
      refine VL_pure 4 [0, 26, 27, 28, 32, 34, 35] [(0, .func (.yield Lb) #[] #[]), (26, .slice (some ⟨sb1, so1, none⟩) n c), (27, .int .i64 ((n : Nat) : Int)), (28, .int .i64 ((j : Nat) : Int)), (32, .func (.yield Lb) #[] #[]), (34, .agg #[.int .i64 y1.p, .int .i64 y1.v, .int .i64 y1.c]), (35, .pointer (some ⟨b3, 3, none⟩))] (by kernel_rfl) rfl ?_
      refine VL_load (d := 36) (t := 3) (a := ⟨b3, 3, none⟩) (v := .int .i64 y1.n) (by kernel_rfl) (by kernel_rfl) (Loads.own1 ho5 (by kernel_rfl) (by rfl)) ?_
      have hzs6 := hS2.size
      have hzk2 := hMz
      have hzl4 := ho5.lt
      refine VL_yield (d := 37) (L := Lb) (args := #[.agg #[.int .i64 y1.p, .int .i64 y1.v, .int .i64 y1.c], .int .i64 y1.n]) (by kernel_rfl) (by kernel_rfl) (by kernel_rfl) (hy M j _ _ hM0 hMz (entV_get hy1) (hJn _ _ _ _ hJ hS2)) ?_
      rintro _ w8 ⟨hshy1, (⟨rfl, hy1⟩ | ⟨rfl, hy1⟩)⟩
      · replace hMz := Nat.le_trans hMz hshy1.size
        have hJ := hy1
        replace hv2 := hv2.step hshy1 (fun k hk1 hk2 hG => by (try simp only at hG); omega)
        refine VL_pure 7 [0, 26, 27, 28, 38] [(0, .func (.yield Lb) #[] #[]), (26, .slice (some ⟨sb1, so1, none⟩) n c), (27, .int .i64 ((n : Nat) : Int)), (28, .int .i64 ((j : Nat) : Int)), (38, .bool false)] (by kernel_rfl) rfl ?_
        refine VL_end (by kernel_rfl) ?_
        refine VQ_next ?_
        refine VC_false (by kernel_rfl) ?_
        refine VC_skip ?_
        refine VQ_block_normal ?_
        refine VQ_next ?_
        refine VC_region ?_
        refine VL_pure 1 [0, 26, 27, 39] [(0, .func (.yield Lb) #[] #[]), (26, .slice (some ⟨sb1, so1, none⟩) n c), (27, .int .i64 ((n : Nat) : Int)), (39, .int .i64 (IntKind.wrap .i64 (((j : Nat) : Int) + 1)))] (by kernel_rfl) rfl ?_
        have he3 : IntKind.wrap .i64 (((j : Nat) : Int) + 1) = ((j + 1 : Nat) : Int) := (by rw [wrap_i64 _ (by omega) (by omega)]; omega)
        refine VL_eq [(0, .func (.yield Lb) #[] #[]), (26, .slice (some ⟨sb1, so1, none⟩) n c), (27, .int .i64 ((n : Nat) : Int)), (39, .int .i64 ((j + 1 : Nat) : Int))] (by rw [he3]) ?_
        refine VL_pure 2 [0, 26, 27, 28] [(0, .func (.yield Lb) #[] #[]), (26, .slice (some ⟨sb1, so1, none⟩) n c), (27, .int .i64 ((n : Nat) : Int)), (28, .int .i64 ((j + 1 : Nat) : Int))] (by kernel_rfl) rfl ?_
        refine VL_end (by kernel_rfl) ?_
        refine VQ_again (j + 1) ⟨rfl, rfl, rfl, rfl, trivial⟩ ?_ ?_
        · exact ⟨by omega, hJ, hMz, hv2⟩
        · (try dsimp only); omega
      · refine VL_pure 7 [0, 26, 27, 28, 38] [(0, .func (.yield Lb) #[] #[]), (26, .slice (some ⟨sb1, so1, none⟩) n c), (27, .int .i64 ((n : Nat) : Int)), (28, .int .i64 ((j : Nat) : Int)), (38, .bool true)] (by kernel_rfl) rfl ?_
        refine VL_end (by kernel_rfl) ?_
        refine VQ_next ?_
        refine VC_true (by kernel_rfl) ?_
        refine VC_ret ?_
        refine VQ_block_ret ?_
        refine VQ_then_ret ?_
        refine VQ_then_ret ?_
        refine VQ_block_ret ?_
        refine VQ_ret0 (.inr rfl) rfl ?_
        exact ⟨M, hM0, .inr ⟨_, by rw [entV_len]; have hq9 := hlL; rw [List.length_map] at hq9; omega, hy1⟩⟩
    · refine VC_exit ?_
      refine VQ_then_exit ?_
      refine VQ_then_exit ?_
      refine VQ_block_hit ?_
      refine VQ_ret0 (.inl rfl) rfl ?_
      have hjn : j = (entV LL).length := by rw [entV_len]; have hq9 := hlL; rw [List.length_map] at hq9; omega
      exact ⟨M, hM0, .inl (by rw [← hjn]; exact hJ)⟩

theorem all_iter (B b : Nat) (s : Nat → Slot) (len room : Int) (LL : List Ent) (hT : TabI s len room LL) :
    IterC Try.prog 28 #[.pointer (some ⟨B, 0, none⟩)] (entV LL) (fun k W => k = 0 → Own W B #[.pointer (some ⟨b, 0, none⟩)] 24 ∧ Own W b (encT s len room) 62) := by
  intro L W0 J Jx hJn hJxn hrd hrd0 h0 hy
  obtain ⟨hB, ht⟩ := hrd0 rfl
  exact all1_any L B b s len room LL hT W0 J Jx hJn hB ht h0 fun M k W args hM hM2 hx hj => hy M k W args hM hM2 hx hj
set_option maxRecDepth 100000 in
set_option maxHeartbeats 4000000 in
theorem all_any (b : Nat) (w : World) :
    CV Try.prog 17 #[.pointer (some ⟨b, 0, none⟩)] w (fun x w1 => ∃ B, x = .func (.func 28) #[] #[.pointer (some ⟨B, 0, none⟩)] ∧ ¬ B < w.heap.size ∧ Own w1 B #[.pointer (some ⟨b, 0, none⟩)] 24 ∧ Step No w w1) := by
  have hS : Step No w w := Step.refl _ _
  refine CV_enter Try.f17 _ 4 [(0, .pointer (some ⟨b, 0, none⟩))] Try.func17 rfl rfl (by kernel_rfl) rfl ?_
  refine VC_seq ?_
  refine VC_region ?_
  have hzs1 := hS.size
  refine VL_box (d := 1) (t := 24) (c := #[.pointer (some ⟨b, 0, none⟩)]) (by kernel_rfl) (by kernel_rfl) ?_
  intro b1 w1 hn1
  replace hS := Step.trans hS (hn1.step No)
  have ho1 := hn1.own
  have hzhn1 := hn1.size
  have hqhn1 := hn1.eqb
  refine VL_pure 2 [1] [(1, .pointer (some ⟨b1, 0, none⟩))] (by kernel_rfl) rfl ?_
  refine VL_end (by kernel_rfl) ?_
  refine VQ_next ?_
  refine VC_seq ?_
  refine VC_region ?_
  refine VL_pure 2 [2] [(2, .func (.func 28) #[] #[.pointer (some ⟨b1, 0, none⟩)])] (by kernel_rfl) rfl ?_
  refine VL_end (by kernel_rfl) ?_
  refine VQ_next ?_
  refine VC_ret ?_
  refine VQ_ret1 (.func (.func 28) #[] #[.pointer (some ⟨b1, 0, none⟩)]) (.inr rfl) rfl rfl ?_
  exact ⟨b1, rfl, by omega, ho1, hS⟩

end Go.Proofs.Ytfkahhkojlfmdaa
