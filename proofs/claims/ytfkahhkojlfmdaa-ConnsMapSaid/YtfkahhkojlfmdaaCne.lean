/- Layer 9: all, same. -/
import Derived.Test.YtfkahhkojlfmdaaProg
import Derived.Test.YtfkahhkojlfmdaaCnd
set_option linter.unusedVariables false
set_option linter.unusedSimpArgs false
namespace Go.Proofs.Ytfkahhkojlfmdaa
open Go.Vc Go.RowKit

def Ent.cells (x : Ent) : List Value := [.int .i64 x.p, .int .i64 x.v, .int .i64 x.c, .int .i64 x.n]
theorem ecells_len (x : Ent) : x.cells.length = 4 := rfl
theorem ecells_one (x : Ent) : ∀ u ∈ x.cells, oneC u = true := by
  intro u hu
  simp only [Ent.cells, List.mem_cons, List.mem_nil_iff, or_false] at hu
  rcases hu with rfl | rfl | rfl | rfl <;> rfl
theorem take_next {α : Type} {L : List α} {k : Nat} {y : α} (h : L[k]? = some y) : L.take (k + 1) = L.take k ++ [y] := by
  rw [List.take_add_one, h]; rfl
set_option maxRecDepth 100000 in
set_option maxHeartbeats 4000000 in
theorem lall_any (b : Nat) (s : Nat → Slot) (len room : Int) (LL : List Ent) (hT : TabI s len room LL) (w : World) (ht : Own w b (encT s len room) 62) :
    CV Try.prog 18 #[.pointer (some ⟨b, 0, none⟩)] w (fun x w1 => ∃ A n c, x = .slice A n c ∧ LL.length = n ∧ RwS w1 4 w.heap.size 69 A n c (flat Ent.cells LL) ∧ Own w1 b (encT s len room) 62 ∧ Step No w w1) := by
  have hS : Step No w w := Step.refl _ _
  have hLm : LL.length ≤ 64 := by have h1 := hT.len; have h2 := hT.inv.fits; have h3 := hT.inv.cap; omega
  refine CV_enterM Try.f18 _ 17 [(0, .pointer (some ⟨b, 0, none⟩))] Try.func18 rfl rfl (by kernel_rfl) rfl ?_
  refine VC_seq ?_
  refine VC_region ?_
  refine VL_pure 1 [0, 2] [(0, .pointer (some ⟨b, 0, none⟩)), (2, .slice none 0 0)] (by kernel_rfl) rfl ?_
  refine VL_end (by kernel_rfl) ?_
  refine VQ_next ?_
  refine VC_seq ?_
  refine VC_region ?_
  have hzs1 := hS.size
  have hzl1 := ht.lt
  refine VL_box (d := 3) (t := 43) (c := #[.slice none 0 0]) (by kernel_rfl) (by kernel_rfl) ?_
  intro b1 w1 hn1
  replace hS := Step.trans hS (hn1.step No)
  replace ht := ht.no (hn1.step No)
  have ho1 := hn1.own
  have hzhn1 := hn1.size
  have hqhn1 := hn1.eqb
  refine VL_end (by kernel_rfl) ?_
  refine VQ_next ?_
  refine VC_seq ?_
  refine VC_seq ?_
  refine VC_region ?_
  refine VL_pure 1 [2, 3, 6] [(2, .slice none 0 0), (3, .pointer (some ⟨b1, 0, none⟩)), (6, .pointer (some ⟨b, 0, none⟩))] (by kernel_rfl) rfl ?_
  have hzs2 := hS.size
  have hzl2 := ht.lt
  have hzl3 := ho1.lt
  refine VL_call (d := 7) (f := 17) (args := #[.pointer (some ⟨b, 0, none⟩)]) (by kernel_rfl) (by kernel_rfl) (by kernel_rfl) Try.call17 (all_any b _) ?_
  rintro _ w2 ⟨bb1, rfl, hfbb1, hbb1, hc1⟩
  replace hS := Step.trans hS hc1
  replace ht := ht.no hc1
  replace ho1 := ho1.no hc1
  have hzbb1 := hbb1.lt
  refine VL_end (by kernel_rfl) ?_
  refine VQ_next ?_
  refine VC_block ?_
  have hzs3 := hS.size
  have hzl4 := ht.lt
  have hzl5 := ho1.lt
  have hzl6 := hbb1.lt
  have hzs4 := hS.size
  have hzl7 := ht.lt
  have hzl8 := ho1.lt
  have hzl9 := hbb1.lt
  refine VC_range (gf := 28) (lb := #[.pointer (some ⟨bb1, 0, none⟩)]) (xs := (entV LL)) (by kernel_rfl) Try.call28 (all_iter bb1 b s len room LL hT) (fun a ha => by obtain ⟨x, _, rfl⟩ := List.mem_map.1 ha; rfl) (by kernel_rfl) (fun M i => i = b1 ∨ M ≤ i) (fun M i hi => by (try simp only at hi); omega) (fun M k W => w2.heap.size + 2 ≤ M ∧ Step No w W ∧ Own W b (encT s len room) 62 ∧ Own W bb1 #[.pointer (some ⟨b, 0, none⟩)] 24 ∧ ∃ A n c, Own W b1 #[.slice A n c] 43 ∧ RwS W 4 M 69 A n c (flat Ent.cells (LL.take k))) (fun e W => False) (by rintro M k W W' ⟨hMm, hS, ht, hbb1, A, n, c, ho1, hr⟩ hs; exact ⟨hMm, Step.transNew hS hs (fun i hi hG => by have : i = (w2.heap.size + 1) := hG; omega), ht.step hs (show ¬ b = (w2.heap.size + 1) by omega), hbb1.step hs (show ¬ bb1 = (w2.heap.size + 1) by omega), A, n, c, ho1.step hs (show ¬ b1 = (w2.heap.size + 1) by omega), hr.step hs (fun k hk (hF : k = (w2.heap.size + 1)) => by omega)⟩) (by rintro e W W' h; exact h.elim) (by rintro M k W W' ⟨hMm, hS, ht, hbb1, A, n, c, ho1, hr⟩ hs; exact ⟨hMm, Step.trans hS hs, ht.no hs, hbb1.no hs, A, n, c, ho1.no hs, hr.no hs⟩) (by rintro e W W' h; exact h.elim) (by rintro M k W ⟨hMm, hS, ht, hbb1, A, n, c, ho1, hr⟩; exact fun _ => ⟨hbb1, ht⟩) (fun W hs _ => ⟨hbb1.no hs, ht.no hs⟩) (fun M W hMm hM2 hs _ => ⟨hMm, Step.trans hS hs, ht.no hs, hbb1.no hs, none, 0, 0, ho1.no hs, RwS.nil _ _ _ _⟩) ?_ ?_ ?_
  · intro M k w3 args hM hM2 hx hJ0 hsz
    obtain ⟨hMm, hS, ht, hbb1, A, n, c, ho1, hr⟩ := hJ0
    obtain ⟨y, hy, rfl⟩ := entV_inv hx
    have hAs : Step No w3 w3 := Step.refl _ _
    have hML : M ≤ w3.heap.size := hM2
    have hky := (List.getElem?_eq_some_iff.1 hy).1
    have hlr : (LL.take k).length = n := by have hq9 := RwS.len hr; rw [flat_len ecells_len] at hq9; omega
    have hub9 := hr.ub
    have hlq : n ≤ LL.length := by rw [← hlr, List.length_take]; omega
    refine VC_keep [3, 8, 9] [(3, .pointer (some ⟨b1, 0, none⟩)), (8, .agg #[.int .i64 y.p, .int .i64 y.v, .int .i64 y.c]), (9, .int .i64 y.n)] (by kernel_rfl) ?_
    refine VC_seq ?_
    refine VC_region ?_
    have hzs5 := hS.size
    have hzl10 := ht.lt
    have hzl11 := hbb1.lt
    have hzl12 := ho1.lt
    have hzk1 := hML
    have hzs6 := hAs.size
    refine VL_box (d := 4) (t := 29) (c := #[.int .i64 0, .int .i64 0, .int .i64 0]) (by kernel_rfl) (by kernel_rfl) ?_
    intro b2 w4 hn2
    replace hS := Step.trans hS (hn2.step No)
    replace ht := ht.no (hn2.step No)
    replace hbb1 := hbb1.no (hn2.step No)
    replace ho1 := ho1.no (hn2.step No)
    replace hr := hr.no (hn2.step No)
    replace hML := Nat.le_trans hML (hn2.step No).size
    replace hAs := Step.trans hAs (hn2.step No)
    have ho2 := hn2.own
    have hzhn2 := hn2.size
    have hqhn2 := hn2.eqb
    refine VL_store (b := b2) (o := 0) (vs := [.int .i64 y.p, .int .i64 y.v, .int .i64 y.c]) (by kernel_rfl) (by kernel_rfl) ho2 (Nat.le_of_ble_eq_true (by kernel_rfl)) ?_
    intro w5 hw1
    replace hS := Step.transNew hS hw1.step (fun _ _ _ => by omega)
    replace ht := ht.step hw1.step (show ¬ b = b2 by omega)
    replace hbb1 := hbb1.step hw1.step (show ¬ bb1 = b2 by omega)
    replace ho1 := ho1.step hw1.step (show ¬ b1 = b2 by omega)
    replace hr := hr.stepU hub9 hw1.step (fun k hk1 hk2 (hF : k = b2) => by omega)
    replace hML := Nat.le_trans hML (hw1.step).size
    replace hAs := Step.transNew hAs hw1.step (fun _ _ _ => by omega)
    have ho3 : Own w5 b2 #[.int .i64 y.p, .int .i64 y.v, .int .i64 y.c] 29 := Own.cast hw1.own (by kernel_rfl)
    have hzhw1 := hw1.same
    refine VL_end (by kernel_rfl) ?_
    refine VQ_next ?_
    refine VC_region ?_
    refine VL_pure 1 [3, 8, 9, 4, 5] [(3, .pointer (some ⟨b1, 0, none⟩)), (8, .agg #[.int .i64 y.p, .int .i64 y.v, .int .i64 y.c]), (9, .int .i64 y.n), (4, .pointer (some ⟨b2, 0, none⟩)), (5, .int .i64 y.n)] (by kernel_rfl) rfl ?_
    refine VL_end (by kernel_rfl) ?_
    refine VQ_begin hAs ?_
    intro w6 hb1 hzhb1
    have hzs7 := hS.size
    have hzl13 := ht.lt
    have hzl14 := hbb1.lt
    have hzl15 := ho1.lt
    have hzk2 := hML
    have hzl16 := ho3.lt
    replace hS := Step.transNew hS hb1 (fun _ _ _ => by omega)
    replace ht := ht.step hb1 (show ¬ b = (w2.heap.size + 1) by omega)
    replace hbb1 := hbb1.step hb1 (show ¬ bb1 = (w2.heap.size + 1) by omega)
    replace ho1 := ho1.step hb1 (show ¬ b1 = (w2.heap.size + 1) by omega)
    replace hr := hr.stepU hub9 hb1 (fun k hk1 hk2 (hF : k = (w2.heap.size + 1)) => by omega)
    replace hML := Nat.le_trans hML (hb1).size
    replace ho3 := ho3.step hb1 (show ¬ b2 = (w2.heap.size + 1) by omega)
    have hR1 : Step ((fun M i => i = b1 ∨ M ≤ i) M) w6 w6 := Step.refl _ _
    refine VC_block ?_
    refine VC_region ?_
    refine VL_load (d := 10) (t := 43) (a := ⟨b1, 0, none⟩) (v := .slice A n c) (by kernel_rfl) (by kernel_rfl) (Loads.own1 ho1 (by kernel_rfl) (by rfl)) ?_
    refine VL_load (d := 11) (t := 29) (a := ⟨b2, 0, none⟩) (v := .agg #[.int .i64 y.p, .int .i64 y.v, .int .i64 y.c]) (by kernel_rfl) (by kernel_rfl) (Loads.ownL ho3 (n := 3) (by kernel_rfl) (by kernel_rfl) (by kernel_rfl)) ?_
    refine VL_pure 4 [3, 10, 13] [(3, .pointer (some ⟨b1, 0, none⟩)), (10, .slice A n c), (13, .agg #[.int .i64 y.p, .int .i64 y.v, .int .i64 y.c, .int .i64 y.n])] (by kernel_rfl) rfl ?_
    have hzs8 := hS.size
    have hzl17 := ht.lt
    have hzl18 := hbb1.lt
    have hzl19 := ho1.lt
    have hzk3 := hML
    have hzl20 := ho3.lt
    have hzs9 := hR1.size
    refine VL_bs (d := 14) (e := 69) (c := #[.int .i64 y.p, .int .i64 y.v, .int .i64 y.c, .int .i64 y.n]) (len := 1) (by kernel_rfl) (by kernel_rfl) ?_
    intro b3 w7 hn3
    replace hS := Step.trans hS (hn3.step No)
    replace ht := ht.no (hn3.step No)
    replace hbb1 := hbb1.no (hn3.step No)
    replace ho1 := ho1.no (hn3.step No)
    replace hr := hr.no (hn3.step No)
    replace hML := Nat.le_trans hML (hn3.step No).size
    replace ho3 := ho3.no (hn3.step No)
    replace hR1 := Step.trans hR1 (Step.weak (hn3.step No))
    have ho4 := hn3.own
    have hzhn3 := hn3.size
    have hqhn3 := hn3.eqb
    have hzs10 := hS.size
    have hzl21 := ht.lt
    have hzl22 := hbb1.lt
    have hzl23 := ho1.lt
    have hzk4 := hML
    have hzl24 := ho3.lt
    have hzs11 := hR1.size
    have hzl25 := ho4.lt
    refine VL_appendZ (d := 15) (e := 69) (A := A) (m := n) (c := c) (A2 := (some ⟨b3, 0, none⟩)) (m2 := 1) (c2 := 1) (sz := 4) (bytes := 32) (by kernel_rfl) (by kernel_rfl) (by kernel_rfl) M w7.heap.size (flat Ent.cells (LL.take k)) (flat Ent.cells [y]) hr (by rw [flat_one, ecells_len]) (Sl.mono (Sl.cast (Own.sl ho4 ho4.lt) (by first | rfl | simp [flat])) (by first | exact Nat.le_refl _ | omega)) (flat_one' ecells_one _) (n + 1) (by omega) (by simp only [maxLen]; omega) (by omega) (by omega) ?_
    intro A1 c1 w8 hr1 hg1
    replace hr1 : RwS w8 4 M 69 A1 (n + 1) c1 (flat Ent.cells ((LL.take k) ++ ([y]))) := RwS.cast hr1 rfl (by simp only [flat_append, flat_one, List.append_assoc, List.nil_append, List.append_nil, show flat Ent.cells [] = [] from rfl])
    replace hg1 := Step.mono (G := fun k => M ≤ k) hg1 (fun i hi => (RwS.lt hr i hi).1)
    have hzhg1 := hg1.size
    replace hS := Step.transNew hS hg1 (fun i hi hG => by (try simp only at hG); omega)
    replace ht := ht.step hg1 (by (try simp only); omega)
    replace hbb1 := hbb1.step hg1 (by (try simp only); omega)
    replace ho1 := ho1.step hg1 (by (try simp only); omega)
    replace hML := Nat.le_trans hML (hg1).size
    replace hR1 := Step.transNew hR1 hg1 (fun i hi hG => by (try simp only at hG); (first | show _ ∨ _ | show _ = _); omega)
    have hlhr1 : ((LL.take k) ++ ([y])).length = n + 1 := by have hq9 := RwS.len hr1; rw [flat_len ecells_len] at hq9; omega
    refine VL_store (b := b1) (o := 0) (vs := [.slice A1 (n + 1) c1]) (by kernel_rfl) (by kernel_rfl) ho1 (Nat.le_of_ble_eq_true (by kernel_rfl)) ?_
    intro w9 hw2
    replace hS := Step.transNew hS hw2.step (fun _ _ _ => by omega)
    replace ht := ht.step hw2.step (show ¬ b = b1 by omega)
    replace hbb1 := hbb1.step hw2.step (show ¬ bb1 = b1 by omega)
    replace hML := Nat.le_trans hML (hw2.step).size
    replace hR1 := Step.trans hR1 (Step.mono hw2.step (by intro i hi; first | exact hi | (have hi9 : i = b1 := hi; (first | show _ ∨ _ | show _ = _); omega)))
    replace hr1 := hr1.step hw2.step (fun k hk (hF : k = b1) => by omega)
    have ho5 : Own w9 b1 #[.slice A1 (n + 1) c1] 43 := Own.cast hw2.own (by kernel_rfl)
    have hzhw2 := hw2.same
    refine VL_end (by kernel_rfl) ?_
    refine VQ_block_normal ?_
    exact VQ_round_end hR1 ⟨hMm, hS, ht, hbb1, A1, _, _, ho5, RwS.cast hr1 rfl (by rw [take_next hy])⟩
  · intro M w10 hM hzM hJ0 hD
    rw [entV_len] at hJ0
    obtain ⟨hMm, hS, ht, hbb1, A, n, c, ho1, hr⟩ := hJ0
    rw [List.take_length] at hr
    have hlr : LL.length = n := by have hq9 := RwS.len hr; rw [flat_len ecells_len] at hq9; omega
    have hub9 := hr.ub
    have hmk1 := hD
    refine VQ_block_normal ?_
    refine VQ_next ?_
    refine VC_seq ?_
    refine VC_region ?_
    refine VL_load (d := 16) (t := 43) (a := ⟨b1, 0, none⟩) (v := .slice A n c) (by kernel_rfl) (by kernel_rfl) (Loads.own1 ho1 (by kernel_rfl) (by rfl)) ?_
    refine VL_pure 2 [2] [(2, .slice A n c)] (by kernel_rfl) rfl ?_
    refine VL_end (by kernel_rfl) ?_
    refine VQ_next ?_
    refine VC_ret ?_
    have hzs12 := hS.size
    have hzl26 := ht.lt
    have hzl27 := hbb1.lt
    have hzl28 := ho1.lt
    have hzl29 := hmk1.lt
    refine VQ_retM1 (.slice A n c) [w2.heap.size] (.inr rfl) rfl rfl ⟨hmk1, (by simp), trivial⟩ ?_
    intro w11 hq1
    replace hq1 : Step (Just w2.heap.size) w10 w11 := Step.mono hq1 (fun i hi => by simpa using hi)
    replace hS := Step.transNew hS hq1 (fun _ _ _ => by omega)
    replace ht := ht.step hq1 (show ¬ b = w2.heap.size by omega)
    replace hbb1 := hbb1.step hq1 (show ¬ bb1 = w2.heap.size by omega)
    replace ho1 := ho1.step hq1 (show ¬ b1 = w2.heap.size by omega)
    replace hr := hr.stepU hub9 hq1 (fun k hk1 hk2 (hF : k = w2.heap.size) => by omega)
    exact ⟨A, _, _, rfl, hlr, RwS.low hr (by omega), ht, hS⟩
  · intro e W _ hF _; exact hF.elim

set_option maxRecDepth 100000 in
set_option maxHeartbeats 4000000 in
theorem put_nil (p v c n : Int) (w : World) :
    CV Try.prog 11 #[.pointer none, .agg #[.int .i64 p, .int .i64 v, .int .i64 c], .int .i64 n] w (fun x w1 => x = .int .i64 9 ∧ Step No w w1) := by
  have hS : Step No w w := Step.refl _ _
  refine CV_enter Try.f11 _ 49 [(0, .pointer none), (1, .agg #[.int .i64 p, .int .i64 v, .int .i64 c]), (2, .int .i64 n)] Try.func11 rfl rfl (by kernel_rfl) rfl ?_
  refine VC_seq ?_
  refine VC_region ?_
  have hzs1 := hS.size
  refine VL_box (d := 4) (t := 29) (c := #[.int .i64 p, .int .i64 v, .int .i64 c]) (by kernel_rfl) (by kernel_rfl) ?_
  intro b1 w1 hn1
  replace hS := Step.trans hS (hn1.step No)
  have ho1 := hn1.own
  have hzhn1 := hn1.size
  have hqhn1 := hn1.eqb
  refine VL_pure 2 [0, 2, 4] [(0, .pointer none), (2, .int .i64 n), (4, .pointer (some ⟨b1, 0, none⟩))] (by kernel_rfl) rfl ?_
  refine VL_end (by kernel_rfl) ?_
  refine VQ_next ?_
  refine VC_seq ?_
  refine VC_seq ?_
  refine VC_region ?_
  refine VL_pure 2 [0, 2, 4, 9] [(0, .pointer none), (2, .int .i64 n), (4, .pointer (some ⟨b1, 0, none⟩)), (9, .bool true)] (by kernel_rfl) rfl ?_
  refine VL_end (by kernel_rfl) ?_
  refine VQ_next ?_
  refine VC_true (by kernel_rfl) ?_
  refine VC_seq ?_
  refine VC_region ?_
  refine VL_pure 1 [6] [(6, .int .i64 9)] (by kernel_rfl) rfl ?_
  refine VL_end (by kernel_rfl) ?_
  refine VQ_next ?_
  refine VC_ret ?_
  refine VQ_then_ret ?_
  refine VQ_ret1 (.int .i64 9) (.inr rfl) rfl rfl ?_
  exact ⟨rfl, hS⟩

set_option maxRecDepth 100000 in
set_option maxHeartbeats 4000000 in
theorem get_nil (p v c : Int) (w : World) :
    CV Try.prog 14 #[.pointer none, .agg #[.int .i64 p, .int .i64 v, .int .i64 c]] w (fun x w1 => x = .tuple #[.int .i64 0, .bool false] ∧ Step No w w1) := by
  have hS : Step No w w := Step.refl _ _
  refine CV_enter Try.f14 _ 21 [(0, .pointer none), (1, .agg #[.int .i64 p, .int .i64 v, .int .i64 c])] Try.func14 rfl rfl (by kernel_rfl) rfl ?_
  refine VC_seq ?_
  refine VC_region ?_
  have hzs1 := hS.size
  refine VL_box (d := 3) (t := 29) (c := #[.int .i64 p, .int .i64 v, .int .i64 c]) (by kernel_rfl) (by kernel_rfl) ?_
  intro b1 w1 hn1
  replace hS := Step.trans hS (hn1.step No)
  have ho1 := hn1.own
  have hzhn1 := hn1.size
  have hqhn1 := hn1.eqb
  refine VL_pure 3 [0, 3] [(0, .pointer none), (3, .pointer (some ⟨b1, 0, none⟩))] (by kernel_rfl) rfl ?_
  refine VL_end (by kernel_rfl) ?_
  refine VQ_next ?_
  refine VC_seq ?_
  refine VC_seq ?_
  refine VC_region ?_
  refine VL_pure 2 [0, 3, 8] [(0, .pointer none), (3, .pointer (some ⟨b1, 0, none⟩)), (8, .bool true)] (by kernel_rfl) rfl ?_
  refine VL_end (by kernel_rfl) ?_
  refine VQ_next ?_
  refine VC_true (by kernel_rfl) ?_
  refine VC_seq ?_
  refine VC_region ?_
  refine VL_pure 2 [4, 5] [(4, .int .i64 0), (5, .bool false)] (by kernel_rfl) rfl ?_
  refine VL_end (by kernel_rfl) ?_
  refine VQ_next ?_
  refine VC_ret ?_
  refine VQ_then_ret ?_
  refine VQ_ret2 (.int .i64 0) (.bool false) (.inr rfl) rfl rfl rfl ?_
  exact ⟨rfl, hS⟩

set_option maxRecDepth 100000 in
set_option maxHeartbeats 4000000 in
theorem drop_nil (p v c : Int) (w : World) :
    CV Try.prog 16 #[.pointer none, .agg #[.int .i64 p, .int .i64 v, .int .i64 c]] w (fun x w1 => x = .tuple #[.int .i64 0, .bool false] ∧ Step No w w1) := by
  have hS : Step No w w := Step.refl _ _
  refine CV_enter Try.f16 _ 69 [(0, .pointer none), (1, .agg #[.int .i64 p, .int .i64 v, .int .i64 c])] Try.func16 rfl rfl (by kernel_rfl) rfl ?_
  refine VC_seq ?_
  refine VC_region ?_
  have hzs1 := hS.size
  refine VL_box (d := 3) (t := 29) (c := #[.int .i64 p, .int .i64 v, .int .i64 c]) (by kernel_rfl) (by kernel_rfl) ?_
  intro b1 w1 hn1
  replace hS := Step.trans hS (hn1.step No)
  have ho1 := hn1.own
  have hzhn1 := hn1.size
  have hqhn1 := hn1.eqb
  refine VL_pure 3 [0, 3] [(0, .pointer none), (3, .pointer (some ⟨b1, 0, none⟩))] (by kernel_rfl) rfl ?_
  refine VL_end (by kernel_rfl) ?_
  refine VQ_next ?_
  refine VC_seq ?_
  refine VC_region ?_
  refine VL_pure 1 [0, 3, 11] [(0, .pointer none), (3, .pointer (some ⟨b1, 0, none⟩)), (11, .pointer none)] (by kernel_rfl) rfl ?_
  refine VL_load (d := 12) (t := 29) (a := ⟨b1, 0, none⟩) (v := .agg #[.int .i64 p, .int .i64 v, .int .i64 c]) (by kernel_rfl) (by kernel_rfl) (Loads.ownL ho1 (n := 3) (by kernel_rfl) (by kernel_rfl) (by kernel_rfl)) ?_
  have hzs2 := hS.size
  have hzl1 := ho1.lt
  refine VL_call (d := 13) (f := 14) (by kernel_rfl) (by kernel_rfl) (by kernel_rfl) Try.call14 (get_nil p v c _) ?_
  rintro _ w2 ⟨rfl, hc1⟩
  replace hS := Step.trans hS hc1
  replace ho1 := ho1.no hc1
  refine VL_pure 8 [0, 3, 6, 7] [(0, .pointer none), (3, .pointer (some ⟨b1, 0, none⟩)), (6, .int .i64 0), (7, .bool false)] (by kernel_rfl) rfl ?_
  refine VL_end (by kernel_rfl) ?_
  refine VQ_next ?_
  refine VC_seq ?_
  refine VC_seq ?_
  refine VC_region ?_
  refine VL_pure 2 [0, 3, 6, 17] [(0, .pointer none), (3, .pointer (some ⟨b1, 0, none⟩)), (6, .int .i64 0), (17, .bool true)] (by kernel_rfl) rfl ?_
  refine VL_end (by kernel_rfl) ?_
  refine VQ_next ?_
  refine VC_true (by kernel_rfl) ?_
  refine VC_seq ?_
  refine VC_region ?_
  refine VL_pure 2 [4, 5] [(4, .int .i64 0), (5, .bool false)] (by kernel_rfl) rfl ?_
  refine VL_end (by kernel_rfl) ?_
  refine VQ_next ?_
  refine VC_ret ?_
  refine VQ_then_ret ?_
  refine VQ_ret2 (.int .i64 0) (.bool false) (.inr rfl) rfl rfl rfl ?_
  exact ⟨rfl, hS⟩

set_option maxRecDepth 100000 in
set_option maxHeartbeats 4000000 in
theorem len_nil (w : World) :
    CV Try.prog 15 #[.pointer none] w (fun x w1 => x = .int .i64 0 ∧ Step No w w1) := by
  have hS : Step No w w := Step.refl _ _
  refine CV_enter Try.f15 _ 9 [(0, .pointer none)] Try.func15 rfl rfl (by kernel_rfl) rfl ?_
  refine VC_seq ?_
  refine VC_region ?_
  refine VL_pure 1 [0] [(0, .pointer none)] (by kernel_rfl) rfl ?_
  refine VL_end (by kernel_rfl) ?_
  refine VQ_next ?_
  refine VC_seq ?_
  refine VC_seq ?_
  refine VC_region ?_
  refine VL_pure 2 [0, 4] [(0, .pointer none), (4, .bool true)] (by kernel_rfl) rfl ?_
  refine VL_end (by kernel_rfl) ?_
  refine VQ_next ?_
  refine VC_true (by kernel_rfl) ?_
  refine VC_seq ?_
  refine VC_region ?_
  refine VL_pure 1 [2] [(2, .int .i64 0)] (by kernel_rfl) rfl ?_
  refine VL_end (by kernel_rfl) ?_
  refine VQ_next ?_
  refine VC_ret ?_
  refine VQ_then_ret ?_
  refine VQ_ret1 (.int .i64 0) (.inr rfl) rfl rfl ?_
  exact ⟨rfl, hS⟩

set_option maxRecDepth 100000 in
set_option maxHeartbeats 4000000 in
theorem free_nil (p v fr : Int) (w : World) :
    CV Try.prog 12 #[.pointer none, .int .i64 p, .int .i64 v, .int .i64 fr] w (fun x w1 => x = .tuple #[.int .i64 0, .bool false] ∧ Step No w w1) := by
  have hS : Step No w w := Step.refl _ _
  refine CV_enter Try.f12 _ 38 [(0, .pointer none), (1, .int .i64 p), (2, .int .i64 v), (3, .int .i64 fr)] Try.func12 rfl rfl (by kernel_rfl) rfl ?_
  refine VC_seq ?_
  refine VC_region ?_
  refine VL_pure 2 [0, 1, 2, 3] [(0, .pointer none), (1, .int .i64 p), (2, .int .i64 v), (3, .int .i64 fr)] (by kernel_rfl) rfl ?_
  refine VL_end (by kernel_rfl) ?_
  refine VQ_next ?_
  refine VC_seq ?_
  refine VC_seq ?_
  refine VC_region ?_
  refine VL_pure 3 [0, 1, 2, 10] [(0, .pointer none), (1, .int .i64 p), (2, .int .i64 v), (10, .int .i64 (imax fr 0))] (by kernel_rfl) rfl ?_
  refine VL_end (by kernel_rfl) ?_
  refine VQ_next ?_
  refine VC_block ?_
  refine VC_rounds ?_
  refine VCL_round ?_
  refine VC_seq ?_
  refine VC_seq ?_
  refine VC_region ?_
  refine VL_pure 9 [0, 1, 2, 10, 23] [(0, .pointer none), (1, .int .i64 p), (2, .int .i64 v), (10, .int .i64 (imax fr 0)), (23, .bool false)] (by kernel_rfl) rfl ?_
  refine VL_end (by kernel_rfl) ?_
  refine VQ_next ?_
  refine VC_false (by kernel_rfl) ?_
  refine VC_exit ?_
  refine VQ_then_exit ?_
  refine VQ_then_exit ?_
  refine VQ_block_hit ?_
  refine VQ_next ?_
  refine VC_seq ?_
  refine VC_region ?_
  refine VL_pure 2 [8, 9] [(8, .int .i64 0), (9, .bool false)] (by kernel_rfl) rfl ?_
  refine VL_end (by kernel_rfl) ?_
  refine VQ_next ?_
  refine VC_ret ?_
  refine VQ_ret2 (.int .i64 0) (.bool false) (.inr rfl) rfl rfl rfl ?_
  exact ⟨rfl, hS⟩

set_option maxRecDepth 100000 in
set_option maxHeartbeats 4000000 in
theorem alln_any (w : World) :
    CV Try.prog 17 #[.pointer none] w (fun x w1 => ∃ B, x = .func (.func 28) #[] #[.pointer (some ⟨B, 0, none⟩)] ∧ ¬ B < w.heap.size ∧ Own w1 B #[.pointer none] 24 ∧ Step No w w1) := by
  have hS : Step No w w := Step.refl _ _
  refine CV_enter Try.f17 _ 4 [(0, .pointer none)] Try.func17 rfl rfl (by kernel_rfl) rfl ?_
  refine VC_seq ?_
  refine VC_region ?_
  have hzs1 := hS.size
  refine VL_box (d := 1) (t := 24) (c := #[.pointer none]) (by kernel_rfl) (by kernel_rfl) ?_
  intro b1 w1 hn1
  replace hS := Step.trans hS (hn1.step No)
  have ho1 := hn1.own
  have hzhn1 := hn1.size
  have hqhn1 := hn1.eqb
  refine VL_pure 2 [1] [(1, .pointer (some ⟨b1, 0, none⟩))] (by kernel_rfl) rfl ?_
  refine VL_end (by kernel_rfl) ?_
  refine VQ_next ?_
  refine VC_seq ?_
  refine VC_region ?_
  refine VL_pure 2 [2] [(2, .func (.func 28) #[] #[.pointer (some ⟨b1, 0, none⟩)])] (by kernel_rfl) rfl ?_
  refine VL_end (by kernel_rfl) ?_
  refine VQ_next ?_
  refine VC_ret ?_
  refine VQ_ret1 (.func (.func 28) #[] #[.pointer (some ⟨b1, 0, none⟩)]) (.inr rfl) rfl rfl ?_
  exact ⟨b1, rfl, by omega, ho1, hS⟩

set_option maxRecDepth 100000 in
set_option maxHeartbeats 4000000 in
theorem all1n_any (Lb B : Nat) (w : World) (J Jx : Nat → Nat → World → Prop) (hB : Own w B #[.pointer none] 24) (h0 : ∀ M W, w.heap.size ≤ M → M ≤ W.heap.size → Step No w W → J M 0 W) :
    CV Try.prog 28 #[.func (.yield Lb) #[] #[], .pointer (some ⟨B, 0, none⟩)] w (fun _ w1 => ∃ M, w.heap.size ≤ M ∧ (J M (entV []).length w1 ∨ ∃ k, k ≤ (entV []).length ∧ Jx M k w1)) := by
  have hS : Step No w w := Step.refl _ _
  refine CV_enter Try.f28 _ 40 [(0, .func (.yield Lb) #[] #[]), (1, .pointer (some ⟨B, 0, none⟩))] Try.func28 rfl rfl (by kernel_rfl) rfl ?_
  refine VC_seq ?_
  refine VC_seq ?_
  refine VC_region ?_
  refine VL_load (d := 8) (t := 24) (a := ⟨B, 0, none⟩) (v := .pointer none) (by kernel_rfl) (by kernel_rfl) (Loads.own1 hB (by kernel_rfl) (by rfl)) ?_
  refine VL_pure 2 [0, 1, 9] [(0, .func (.yield Lb) #[] #[]), (1, .pointer (some ⟨B, 0, none⟩)), (9, .bool true)] (by kernel_rfl) rfl ?_
  refine VL_end (by kernel_rfl) ?_
  refine VQ_next ?_
  refine VC_true (by kernel_rfl) ?_
  refine VC_ret ?_
  refine VQ_then_ret ?_
  refine VQ_ret0 (.inr rfl) rfl ?_
  exact ⟨w.heap.size, Nat.le_refl _, .inl (h0 _ _ (Nat.le_refl _) hS.size hS)⟩

theorem alln_iter (B : Nat) : IterC Try.prog 28 #[.pointer (some ⟨B, 0, none⟩)] (entV []) (fun k W => k = 0 → Own W B #[.pointer none] 24) := by
  intro L W0 J Jx hJn hJxn hrd hrd0 h0 hy
  exact all1n_any L B W0 J Jx (hrd0 rfl) h0
set_option maxRecDepth 100000 in
set_option maxHeartbeats 4000000 in
theorem lalln_any (LL : List Ent) (hL0 : LL = []) (w : World) :
    CV Try.prog 18 #[.pointer none] w (fun x w1 => ∃ A c, x = .slice A 0 c ∧ Step No w w1) := by
  have hS : Step No w w := Step.refl _ _
  have hLm : LL.length ≤ 64 := by rw [hL0]; decide
  refine CV_enterM Try.f18 _ 17 [(0, .pointer none)] Try.func18 rfl rfl (by kernel_rfl) rfl ?_
  refine VC_seq ?_
  refine VC_region ?_
  refine VL_pure 1 [0, 2] [(0, .pointer none), (2, .slice none 0 0)] (by kernel_rfl) rfl ?_
  refine VL_end (by kernel_rfl) ?_
  refine VQ_next ?_
  refine VC_seq ?_
  refine VC_region ?_
  have hzs1 := hS.size
  refine VL_box (d := 3) (t := 43) (c := #[.slice none 0 0]) (by kernel_rfl) (by kernel_rfl) ?_
  intro b1 w1 hn1
  replace hS := Step.trans hS (hn1.step No)
  have ho1 := hn1.own
  have hzhn1 := hn1.size
  have hqhn1 := hn1.eqb
  refine VL_end (by kernel_rfl) ?_
  refine VQ_next ?_
  refine VC_seq ?_
  refine VC_seq ?_
  refine VC_region ?_
  refine VL_pure 1 [2, 3, 6] [(2, .slice none 0 0), (3, .pointer (some ⟨b1, 0, none⟩)), (6, .pointer none)] (by kernel_rfl) rfl ?_
  have hzs2 := hS.size
  have hzl1 := ho1.lt
  refine VL_call (d := 7) (f := 17) (args := #[.pointer none]) (by kernel_rfl) (by kernel_rfl) (by kernel_rfl) Try.call17 (alln_any _) ?_
  rintro _ w2 ⟨bb1, rfl, hfbb1, hbb1, hc1⟩
  replace hS := Step.trans hS hc1
  replace ho1 := ho1.no hc1
  have hzbb1 := hbb1.lt
  refine VL_end (by kernel_rfl) ?_
  refine VQ_next ?_
  refine VC_block ?_
  have hzs3 := hS.size
  have hzl2 := ho1.lt
  have hzl3 := hbb1.lt
  have hzs4 := hS.size
  have hzl4 := ho1.lt
  have hzl5 := hbb1.lt
  refine VC_range (gf := 28) (lb := #[.pointer (some ⟨bb1, 0, none⟩)]) (xs := (entV LL)) (by kernel_rfl) Try.call28 (by rw [hL0]; exact alln_iter bb1) (fun a ha => by obtain ⟨x, _, rfl⟩ := List.mem_map.1 ha; rfl) (by kernel_rfl) (fun M i => i = b1 ∨ M ≤ i) (fun M i hi => by (try simp only at hi); omega) (fun M k W => w2.heap.size + 2 ≤ M ∧ Step No w W ∧ Own W bb1 #[.pointer none] 24 ∧ ∃ A n c, Own W b1 #[.slice A n c] 43 ∧ RwS W 4 M 69 A n c (flat Ent.cells (LL.take k))) (fun e W => False) (by rintro M k W W' ⟨hMm, hS, hbb1, A, n, c, ho1, hr⟩ hs; exact ⟨hMm, Step.transNew hS hs (fun i hi hG => by have : i = (w2.heap.size + 1) := hG; omega), hbb1.step hs (show ¬ bb1 = (w2.heap.size + 1) by omega), A, n, c, ho1.step hs (show ¬ b1 = (w2.heap.size + 1) by omega), hr.step hs (fun k hk (hF : k = (w2.heap.size + 1)) => by omega)⟩) (by rintro e W W' h; exact h.elim) (by rintro M k W W' ⟨hMm, hS, hbb1, A, n, c, ho1, hr⟩ hs; exact ⟨hMm, Step.trans hS hs, hbb1.no hs, A, n, c, ho1.no hs, hr.no hs⟩) (by rintro e W W' h; exact h.elim) (by rintro M k W ⟨hMm, hS, hbb1, A, n, c, ho1, hr⟩; exact fun _ => hbb1) (fun W hs _ => hbb1.no hs) (fun M W hMm hM2 hs _ => ⟨hMm, Step.trans hS hs, hbb1.no hs, none, 0, 0, ho1.no hs, RwS.nil _ _ _ _⟩) ?_ ?_ ?_
  · intro M k w3 args hM hM2 hx hJ0 hsz
    obtain ⟨hMm, hS, hbb1, A, n, c, ho1, hr⟩ := hJ0
    obtain ⟨y, hy, rfl⟩ := entV_inv hx
    have hAs : Step No w3 w3 := Step.refl _ _
    have hML : M ≤ w3.heap.size := hM2
    have hky := (List.getElem?_eq_some_iff.1 hy).1
    have hlr : (LL.take k).length = n := by have hq9 := RwS.len hr; rw [flat_len ecells_len] at hq9; omega
    have hub9 := hr.ub
    have hlq : n ≤ LL.length := by rw [← hlr, List.length_take]; omega
    refine VC_keep [3, 8, 9] [(3, .pointer (some ⟨b1, 0, none⟩)), (8, .agg #[.int .i64 y.p, .int .i64 y.v, .int .i64 y.c]), (9, .int .i64 y.n)] (by kernel_rfl) ?_
    refine VC_seq ?_
    refine VC_region ?_
    have hzs5 := hS.size
    have hzl6 := hbb1.lt
    have hzl7 := ho1.lt
    have hzk1 := hML
    have hzs6 := hAs.size
    refine VL_box (d := 4) (t := 29) (c := #[.int .i64 0, .int .i64 0, .int .i64 0]) (by kernel_rfl) (by kernel_rfl) ?_
    intro b2 w4 hn2
    replace hS := Step.trans hS (hn2.step No)
    replace hbb1 := hbb1.no (hn2.step No)
    replace ho1 := ho1.no (hn2.step No)
    replace hr := hr.no (hn2.step No)
    replace hML := Nat.le_trans hML (hn2.step No).size
    replace hAs := Step.trans hAs (hn2.step No)
    have ho2 := hn2.own
    have hzhn2 := hn2.size
    have hqhn2 := hn2.eqb
    refine VL_store (b := b2) (o := 0) (vs := [.int .i64 y.p, .int .i64 y.v, .int .i64 y.c]) (by kernel_rfl) (by kernel_rfl) ho2 (Nat.le_of_ble_eq_true (by kernel_rfl)) ?_
    intro w5 hw1
    replace hS := Step.transNew hS hw1.step (fun _ _ _ => by omega)
    replace hbb1 := hbb1.step hw1.step (show ¬ bb1 = b2 by omega)
    replace ho1 := ho1.step hw1.step (show ¬ b1 = b2 by omega)
    replace hr := hr.stepU hub9 hw1.step (fun k hk1 hk2 (hF : k = b2) => by omega)
    replace hML := Nat.le_trans hML (hw1.step).size
    replace hAs := Step.transNew hAs hw1.step (fun _ _ _ => by omega)
    have ho3 : Own w5 b2 #[.int .i64 y.p, .int .i64 y.v, .int .i64 y.c] 29 := Own.cast hw1.own (by kernel_rfl)
    have hzhw1 := hw1.same
    refine VL_end (by kernel_rfl) ?_
    refine VQ_next ?_
    refine VC_region ?_
    refine VL_pure 1 [3, 8, 9, 4, 5] [(3, .pointer (some ⟨b1, 0, none⟩)), (8, .agg #[.int .i64 y.p, .int .i64 y.v, .int .i64 y.c]), (9, .int .i64 y.n), (4, .pointer (some ⟨b2, 0, none⟩)), (5, .int .i64 y.n)] (by kernel_rfl) rfl ?_
    refine VL_end (by kernel_rfl) ?_
    refine VQ_begin hAs ?_
    intro w6 hb1 hzhb1
    have hzs7 := hS.size
    have hzl8 := hbb1.lt
    have hzl9 := ho1.lt
    have hzk2 := hML
    have hzl10 := ho3.lt
    replace hS := Step.transNew hS hb1 (fun _ _ _ => by omega)
    replace hbb1 := hbb1.step hb1 (show ¬ bb1 = (w2.heap.size + 1) by omega)
    replace ho1 := ho1.step hb1 (show ¬ b1 = (w2.heap.size + 1) by omega)
    replace hr := hr.stepU hub9 hb1 (fun k hk1 hk2 (hF : k = (w2.heap.size + 1)) => by omega)
    replace hML := Nat.le_trans hML (hb1).size
    replace ho3 := ho3.step hb1 (show ¬ b2 = (w2.heap.size + 1) by omega)
    have hR1 : Step ((fun M i => i = b1 ∨ M ≤ i) M) w6 w6 := Step.refl _ _
    refine VC_block ?_
    refine VC_region ?_
    refine VL_load (d := 10) (t := 43) (a := ⟨b1, 0, none⟩) (v := .slice A n c) (by kernel_rfl) (by kernel_rfl) (Loads.own1 ho1 (by kernel_rfl) (by rfl)) ?_
    refine VL_load (d := 11) (t := 29) (a := ⟨b2, 0, none⟩) (v := .agg #[.int .i64 y.p, .int .i64 y.v, .int .i64 y.c]) (by kernel_rfl) (by kernel_rfl) (Loads.ownL ho3 (n := 3) (by kernel_rfl) (by kernel_rfl) (by kernel_rfl)) ?_
    refine VL_pure 4 [3, 10, 13] [(3, .pointer (some ⟨b1, 0, none⟩)), (10, .slice A n c), (13, .agg #[.int .i64 y.p, .int .i64 y.v, .int .i64 y.c, .int .i64 y.n])] (by kernel_rfl) rfl ?_
    have hzs8 := hS.size
    have hzl11 := hbb1.lt
    have hzl12 := ho1.lt
    have hzk3 := hML
    have hzl13 := ho3.lt
    have hzs9 := hR1.size
    refine VL_bs (d := 14) (e := 69) (c := #[.int .i64 y.p, .int .i64 y.v, .int .i64 y.c, .int .i64 y.n]) (len := 1) (by kernel_rfl) (by kernel_rfl) ?_
    intro b3 w7 hn3
    replace hS := Step.trans hS (hn3.step No)
    replace hbb1 := hbb1.no (hn3.step No)
    replace ho1 := ho1.no (hn3.step No)
    replace hr := hr.no (hn3.step No)
    replace hML := Nat.le_trans hML (hn3.step No).size
    replace ho3 := ho3.no (hn3.step No)
    replace hR1 := Step.trans hR1 (Step.weak (hn3.step No))
    have ho4 := hn3.own
    have hzhn3 := hn3.size
    have hqhn3 := hn3.eqb
    have hzs10 := hS.size
    have hzl14 := hbb1.lt
    have hzl15 := ho1.lt
    have hzk4 := hML
    have hzl16 := ho3.lt
    have hzs11 := hR1.size
    have hzl17 := ho4.lt
    refine VL_appendZ (d := 15) (e := 69) (A := A) (m := n) (c := c) (A2 := (some ⟨b3, 0, none⟩)) (m2 := 1) (c2 := 1) (sz := 4) (bytes := 32) (by kernel_rfl) (by kernel_rfl) (by kernel_rfl) M w7.heap.size (flat Ent.cells (LL.take k)) (flat Ent.cells [y]) hr (by rw [flat_one, ecells_len]) (Sl.mono (Sl.cast (Own.sl ho4 ho4.lt) (by first | rfl | simp [flat])) (by first | exact Nat.le_refl _ | omega)) (flat_one' ecells_one _) (n + 1) (by omega) (by simp only [maxLen]; omega) (by omega) (by omega) ?_
    intro A1 c1 w8 hr1 hg1
    replace hr1 : RwS w8 4 M 69 A1 (n + 1) c1 (flat Ent.cells ((LL.take k) ++ ([y]))) := RwS.cast hr1 rfl (by simp only [flat_append, flat_one, List.append_assoc, List.nil_append, List.append_nil, show flat Ent.cells [] = [] from rfl])
    replace hg1 := Step.mono (G := fun k => M ≤ k) hg1 (fun i hi => (RwS.lt hr i hi).1)
    have hzhg1 := hg1.size
    replace hS := Step.transNew hS hg1 (fun i hi hG => by (try simp only at hG); omega)
    replace hbb1 := hbb1.step hg1 (by (try simp only); omega)
    replace ho1 := ho1.step hg1 (by (try simp only); omega)
    replace hML := Nat.le_trans hML (hg1).size
    replace hR1 := Step.transNew hR1 hg1 (fun i hi hG => by (try simp only at hG); (first | show _ ∨ _ | show _ = _); omega)
    have hlhr1 : ((LL.take k) ++ ([y])).length = n + 1 := by have hq9 := RwS.len hr1; rw [flat_len ecells_len] at hq9; omega
    refine VL_store (b := b1) (o := 0) (vs := [.slice A1 (n + 1) c1]) (by kernel_rfl) (by kernel_rfl) ho1 (Nat.le_of_ble_eq_true (by kernel_rfl)) ?_
    intro w9 hw2
    replace hS := Step.transNew hS hw2.step (fun _ _ _ => by omega)
    replace hbb1 := hbb1.step hw2.step (show ¬ bb1 = b1 by omega)
    replace hML := Nat.le_trans hML (hw2.step).size
    replace hR1 := Step.trans hR1 (Step.mono hw2.step (by intro i hi; first | exact hi | (have hi9 : i = b1 := hi; (first | show _ ∨ _ | show _ = _); omega)))
    replace hr1 := hr1.step hw2.step (fun k hk (hF : k = b1) => by omega)
    have ho5 : Own w9 b1 #[.slice A1 (n + 1) c1] 43 := Own.cast hw2.own (by kernel_rfl)
    have hzhw2 := hw2.same
    refine VL_end (by kernel_rfl) ?_
    refine VQ_block_normal ?_
    exact VQ_round_end hR1 ⟨hMm, hS, hbb1, A1, _, _, ho5, RwS.cast hr1 rfl (by rw [take_next hy])⟩
  · intro M w10 hM hzM hJ0 hD
    rw [entV_len] at hJ0
    obtain ⟨hMm, hS, hbb1, A, n, c, ho1, hr⟩ := hJ0
    rw [List.take_length] at hr
    have hlr : LL.length = n := by have hq9 := RwS.len hr; rw [flat_len ecells_len] at hq9; omega
    have hub9 := hr.ub
    have hmk1 := hD
    refine VQ_block_normal ?_
    refine VQ_next ?_
    refine VC_seq ?_
    refine VC_region ?_
    refine VL_load (d := 16) (t := 43) (a := ⟨b1, 0, none⟩) (v := .slice A n c) (by kernel_rfl) (by kernel_rfl) (Loads.own1 ho1 (by kernel_rfl) (by rfl)) ?_
    refine VL_pure 2 [2] [(2, .slice A n c)] (by kernel_rfl) rfl ?_
    refine VL_end (by kernel_rfl) ?_
    refine VQ_next ?_
    refine VC_ret ?_
    have hzs12 := hS.size
    have hzl18 := hbb1.lt
    have hzl19 := ho1.lt
    have hzl20 := hmk1.lt
    refine VQ_retM1 (.slice A n c) [w2.heap.size] (.inr rfl) rfl rfl ⟨hmk1, (by simp), trivial⟩ ?_
    intro w11 hq1
    replace hq1 : Step (Just w2.heap.size) w10 w11 := Step.mono hq1 (fun i hi => by simpa using hi)
    replace hS := Step.transNew hS hq1 (fun _ _ _ => by omega)
    replace hbb1 := hbb1.step hq1 (show ¬ bb1 = w2.heap.size by omega)
    replace ho1 := ho1.step hq1 (show ¬ b1 = w2.heap.size by omega)
    replace hr := hr.stepU hub9 hq1 (fun k hk1 hk2 (hF : k = w2.heap.size) => by omega)
    have hn0 : n = 0 := by rw [← hlr, hL0]; rfl
    exact ⟨_, _, by rw [hn0], hS⟩
  · intro e W _ hF _; exact hF.elim

end Go.Proofs.Ytfkahhkojlfmdaa
