import Derived.Test.YthchmlidobgkoaaGreatProg
import Derived.Test.YthchmlidobgkoaaGreatMp6
section
/- Layer 20: is a node the document's? -/
set_option linter.unusedVariables false
set_option linter.unusedSimpArgs false
set_option maxRecDepth 100000
set_option maxHeartbeats 4000000
namespace Go.Proofs.YthchmlidobgkoaaGreat
open Go.Vc Go.RowKit
theorem TDagaa {P : Prop} (h : P := by first | exact ⟨⟨_, rfl⟩, ⟨_, rfl⟩, ⟨_, rfl⟩, ⟨_, rfl⟩, ⟨_, rfl⟩, ⟨_, rfl⟩, trivial⟩ | trivial) : P := h

theorem used_sum {rooms : List Int} {L : List Cx} (h : LI rooms L) (p : Int) : usedN rooms L p = usdL L p := by
  unfold usedN
  by_cases hp : 0 ≤ p ∧ p < rooms.length
  · rw [if_pos hp]
  · rw [if_neg hp]
    have : ∀ M : List Cx, (∀ x ∈ M, ¬ x.p = p) → usdL M p = 0 := by
      intro M
      induction M with
      | nil => intro _; rfl
      | cons x M ih => intro hM; simp only [usdL]; rw [if_neg (hM x (List.mem_cons_self ..)), ih fun y hy => hM y (List.mem_cons_of_mem _ hy)]; rfl
    exact (this L fun x hx e => hp (by have := (h.key x hx).1; rw [e] at this; exact this)).symm
theorem con_at {rooms : List Int} {l : List Dx} (h : LI rooms (l.map Dx.x)) {i : Nat} {d : Dx} (hd : l[i]? = some d) : findC (l.map Dx.x) d.x.p d.x.v d.x.c = some d.x := findC_mem h.one (List.mem_map_of_mem (List.mem_of_getElem? hd))
theorem same_any (nd lo : Nat) (X : Nat → Prop) (n nw lo2 : Nat) (rooms : List Int) (l : List Dx) (w : World) (h : NdP w nd X lo rooms (l.map Dx.x) n) (hR : Dv w nw lo2 rooms l) (hli : LI rooms (l.map Dx.x)) :
  CV Tryz.prog 18 #[.pointer (some ⟨nd, 0, none⟩), .pointer (some ⟨nw, 0, none⟩)] w (fun x w1 => x = .bool true ∧ Step No w w1) := by
 have hS : Step No w w := Step.refl _ _
 have hlm : (l.map Dx.x).length = l.length := List.length_map ..
 obtain ⟨rA, rc, A, ca, rl, rh, hi, ho, hrc, hcn, hrh, hhi, hrw, hv⟩ := hR
 have hrv : Sl w rh rA (iL .i64 rooms) := Sl2.sl hrw
 have hm : l.length ≤ 64 := by have h9 := hli.len; rw [List.length_map] at h9; exact h9
 refine CV_enter Tryz.f18 _ 84 [(0, .pointer (some ⟨nd, 0, none⟩)), (1, .pointer (some ⟨nw, 0, none⟩))] Tryz.func18 rfl rfl (by kernel_rfl) rfl ?_
 refine VC_seq ?_
 refine VC_region ?_
 refine VL_pure 1 [0, 1] [(0, .pointer (some ⟨nd, 0, none⟩)), (1, .pointer (some ⟨nw, 0, none⟩))] (by kernel_rfl) rfl ?_
 refine VL_end (by kernel_rfl) ?_
 refine VQ_next ?_
 refine VC_seq ?_
 refine VC_region ?_
 refine VL_pure 1 [0, 1, 10] [(0, .pointer (some ⟨nd, 0, none⟩)), (1, .pointer (some ⟨nw, 0, none⟩)), (10, .pointer (some ⟨nd, 0, none⟩))] (by kernel_rfl) rfl ?_
 refine VL_call (d := 11) (f := 47) (args := #[.pointer (some ⟨nd, 0, none⟩)]) (by kernel_rfl) (by kernel_rfl) (by kernel_rfl) Tryz.call47 (keys_any h) ?_
 rintro _ w1 ⟨A1, n1, c1, rfl, hlhK1, hK1, hc1⟩
 replace hS := Step.trans hS hc1
 replace h := NdP.no h hc1
 replace ho := ho.no hc1
 replace hv := hv.step hc1 (fun k hk1 hk2 hF => hF)
 replace hrv := hrv.no hc1
 replace hhi := Nat.le_trans hhi (hc1).size
 replace hrh := Nat.le_trans hrh (hc1).size
 have hubhK1 := hK1.ub
 have hszhK1 := Nat.le_refl w1.heap.size
 refine VL_pure 3 [0, 1, 5] [(0, .pointer (some ⟨nd, 0, none⟩)), (1, .pointer (some ⟨nw, 0, none⟩)), (5, .slice A1 n1 c1)] (by kernel_rfl) rfl ?_
 refine VL_end (by kernel_rfl) ?_
 refine VQ_next ?_
 refine VC_seq ?_
 refine VC_seq ?_
 refine VC_region ?_
 refine VL_pure 5 [0, 1, 5, 13, 16] [(0, .pointer (some ⟨nd, 0, none⟩)), (1, .pointer (some ⟨nw, 0, none⟩)), (5, .slice A1 n1 c1), (13, .int .i64 ((n1 : Nat) : Int)), (16, .pointer (some ⟨nw, 1, none⟩))] (by kernel_rfl) rfl ?_
 refine VL_load (d := 17) (t := 53) (a := ⟨nw, 1, none⟩) (v := .slice A l.length ca) (by kernel_rfl) (by kernel_rfl) (Loads.own1 ho (by kernel_rfl) (by rfl)) ?_
 refine VL_pure 8 [0, 1, 5, 19] [(0, .pointer (some ⟨nd, 0, none⟩)), (1, .pointer (some ⟨nw, 0, none⟩)), (5, .slice A1 n1 c1), (19, .bool (((n1 : Nat) : Int) != ((l.length : Nat) : Int)))] (by kernel_rfl) rfl ?_
 refine VL_end (by kernel_rfl) ?_
 refine VQ_next ?_
 refine VC_is (b := ((n1 : Nat) : Int) != ((l.length : Nat) : Int)) false (by kernel_rfl) (by rw [bne_eq_false_iff_eq]; omega) ?_
 refine VC_ite_false ?_
 refine VC_skip ?_
 refine VQ_next ?_
 refine VC_seq ?_
 refine VC_seq ?_
 refine VC_region ?_
 refine VL_pure 3 [0, 1, 5, 21, 22] [(0, .pointer (some ⟨nd, 0, none⟩)), (1, .pointer (some ⟨nw, 0, none⟩)), (5, .slice A1 n1 c1), (21, .int .i64 ((n1 : Nat) : Int)), (22, .int .i64 0)] (by kernel_rfl) rfl ?_
 refine VL_end (by kernel_rfl) ?_
 refine VQ_next ?_
 refine VC_block ?_
 refine VC_loop (σ := Nat) (fun σs => [(0, .pointer (some ⟨nd, 0, none⟩)), (1, .pointer (some ⟨nw, 0, none⟩)), (5, .slice A1 n1 c1), (21, .int .i64 ((n1 : Nat) : Int)), (22, .int .i64 ((σs : Nat) : Int))]) (fun σs wp => σs ≤ l.length ∧ (Step No w wp) ∧ (NdP wp nd X lo rooms (l.map Dx.x) n) ∧ (Own wp nw #[.slice rA rooms.length rc, .slice A l.length ca] 55) ∧ (Sl2 wp lo2 hi A (flat dxc l)) ∧ (Sl wp rh rA (iL .i64 rooms)) ∧ (hi ≤ wp.heap.size) ∧ (rh ≤ wp.heap.size) ∧ (RwS wp 3 w.heap.size 30 A1 n1 c1 (flat keyc (l.map Dx.x))) ∧ (w1.heap.size ≤ wp.heap.size)) (fun σs wp => l.length - σs) 0 ⟨rfl, rfl, rfl, rfl, rfl, trivial⟩ ?_ ?_
 ·exact ⟨Nat.zero_le _, hS, h, ho, hv, hrv, hhi, hrh, hK1, hszhK1⟩
 rintro jS wp ⟨hj0, hS, h, ho, hv, hrv, hhi, hrh, hK1, hszhK1⟩
 try dsimp only at hj0 hS h ho hv hrv hhi hrh hK1 hszhK1 ⊢
 refine VC_seq ?_
 refine VC_region ?_
 refine VL_pure 1 [0, 1, 5, 21, 22, 23] [(0, .pointer (some ⟨nd, 0, none⟩)), (1, .pointer (some ⟨nw, 0, none⟩)), (5, .slice A1 n1 c1), (21, .int .i64 ((n1 : Nat) : Int)), (22, .int .i64 ((jS : Nat) : Int)), (23, .bool (decide (((jS : Nat) : Int) < ((n1 : Nat) : Int))))] (by kernel_rfl) rfl ?_
 refine VL_end (by kernel_rfl) ?_
 refine VQ_next ?_
 refine VC_seq ?_
 refine VC_dec (((jS : Nat) : Int) < ((n1 : Nat) : Int)) (by kernel_rfl) (fun h1 => ?_) (fun h1 => ?_)
 ·refine VC_skip ?_
  refine VQ_next ?_
  refine VC_seq ?_
  refine VC_block ?_
  refine VC_seq ?_
  refine VC_region ?_
  refine VL_pure 2 [0, 1, 5, 21, 22, 6] [(0, .pointer (some ⟨nd, 0, none⟩)), (1, .pointer (some ⟨nw, 0, none⟩)), (5, .slice A1 n1 c1), (21, .int .i64 ((n1 : Nat) : Int)), (22, .int .i64 ((jS : Nat) : Int)), (6, .int .i64 ((jS : Nat) : Int))] (by kernel_rfl) rfl ?_
  refine VL_end (by kernel_rfl) ?_
  refine VQ_next ?_
  refine VC_seq ?_
  obtain ⟨sb1, so1, rfl, hlbsb1⟩ := (Sl2.sl hv).open (by first | (rw [flat_len dxc_len]; omega) | omega)
  obtain ⟨g1, cur1, rfl, hgbg1, hglg1, -⟩ := RwS.open hK1 (by first | (rw [flat_len dxc_len]; omega) | omega)
  refine VC_region ?_
  refine VL_pure 3 [0, 1, 5, 21, 22, 6, 26, 27, 28] [(0, .pointer (some ⟨nd, 0, none⟩)), (1, .pointer (some ⟨nw, 0, none⟩)), (5, .slice (some ⟨g1, 0, none⟩) n1 c1), (21, .int .i64 ((n1 : Nat) : Int)), (22, .int .i64 ((jS : Nat) : Int)), (6, .int .i64 ((jS : Nat) : Int)), (26, .pointer (some ⟨nd, 0, none⟩)), (27, .slice (some ⟨g1, 0, none⟩) n1 c1), (28, .int .i64 ((jS : Nat) : Int))] (by kernel_rfl) rfl ?_
  refine VL_index (d := 29) (b := g1) (o := 0) (len := n1) (sz := 3) (m := ((jS : Nat) : Int)) (by kernel_rfl) (by kernel_rfl) jS (by rfl) (by omega) (jS * 3) (by omega) ?_
  obtain ⟨y1, hy1⟩ : ∃ x, l[jS]? = some x := ⟨_, List.getElem?_eq_getElem (by omega)⟩
  have hfy1 := con_at hli hy1
  refine VL_load (d := 30) (t := 30) (a := ⟨g1, jS * 3, none⟩) (v := .agg #[.int .i64 y1.x.p, .int .i64 y1.x.v, .int .i64 y1.x.c]) (by kernel_rfl) (by kernel_rfl) (Sl.flatAgg (sz := 3) (RwS.sl2 hK1).sl keyc_len (show (l.map Dx.x)[jS]? = some y1.x by rw [List.getElem?_map, hy1]; rfl) 0 3 (by kernel_rfl) (by decide) _ (by first | rfl | omega)) ?_
  refine VL_call (d := 31) (f := 48) (args := #[.pointer (some ⟨nd, 0, none⟩), .agg #[.int .i64 y1.x.p, .int .i64 y1.x.v, .int .i64 y1.x.c]]) (by kernel_rfl) (by kernel_rfl) (by kernel_rfl) Tryz.call48 ((ncontract h y1.x.p y1.x.v y1.x.c).mono (fun x w1 h9 => by unfold conN at h9; rw [hfy1] at h9; exact h9)) ?_
  rintro _ w2 ⟨rfl, hc2⟩
  replace hS := Step.trans hS hc2
  replace h := NdP.no h hc2
  replace ho := ho.no hc2
  replace hv := hv.step hc2 (fun k hk1 hk2 hF => hF)
  replace hrv := hrv.no hc2
  replace hhi := Nat.le_trans hhi (hc2).size
  replace hrh := Nat.le_trans hrh (hc2).size
  replace hK1 := hK1.no hc2
  replace hszhK1 := Nat.le_trans hszhK1 (hc2).size
  replace hglg1 := Nat.lt_of_lt_of_le hglg1 (hc2).size
  refine VL_pure 9 [0, 1, 5, 21, 22, 6, 32, 33] [(0, .pointer (some ⟨nd, 0, none⟩)), (1, .pointer (some ⟨nw, 0, none⟩)), (5, .slice (some ⟨g1, 0, none⟩) n1 c1), (21, .int .i64 ((n1 : Nat) : Int)), (22, .int .i64 ((jS : Nat) : Int)), (6, .int .i64 ((jS : Nat) : Int)), (32, .agg #[.int .i64 y1.x.k.kind, .int .i64 y1.x.k.peak, .int .i64 y1.x.k.early, .int .i64 y1.x.k.whole, .int .i64 y1.x.k.burst, .int .i64 y1.x.k.least]), (33, .bool true)] (by kernel_rfl) rfl ?_
  have hzs3 := hS.size
  have hzl6 := ho.lt
  have hzk1 := hhi
  have hzk2 := hrh
  have hzk5 := hglg1
  refine VL_box (d := 7) (t := 32) (c := #[.int .i64 0, .int .i64 0, .int .i64 0, .int .i64 0, .int .i64 0, .int .i64 0]) (by kernel_rfl) (by kernel_rfl) ?_
  intro b1 w3 hn1
  replace hS := Step.trans hS (hn1.step No)
  replace h := NdP.no h (hn1.step No)
  replace ho := ho.no (hn1.step No)
  replace hv := hv.step (hn1.step No) (fun k hk1 hk2 hF => hF)
  replace hrv := hrv.no (hn1.step No)
  replace hhi := Nat.le_trans hhi (hn1.step No).size
  replace hrh := Nat.le_trans hrh (hn1.step No).size
  replace hK1 := hK1.no (hn1.step No)
  replace hszhK1 := Nat.le_trans hszhK1 (hn1.step No).size
  have ho1 := hn1.own
  have hzhn1 := hn1.size
  have hqhn1 := hn1.eqb
  refine VL_store (b := b1) (o := 0) (vs := [.int .i64 y1.x.k.kind, .int .i64 y1.x.k.peak, .int .i64 y1.x.k.early, .int .i64 y1.x.k.whole, .int .i64 y1.x.k.burst, .int .i64 y1.x.k.least]) (by kernel_rfl) (by kernel_rfl) ho1 (Nat.le_of_ble_eq_true (by kernel_rfl)) ?_
  intro w4 hw1
  replace hS := Step.transNew hS hw1.step (fun _ _ _ => by omega)
  replace h := NdP.blk h ho1 (by decide) hw1.step
  replace ho := ho.step hw1.step (show ¬ nw = b1 by omega)
  replace hv := hv.step hw1.step (fun k hk1 hk2 (hF : k = b1) => by omega)
  replace hrv := hrv.step hw1.step (fun k hk (hF : k = b1) => by omega)
  replace hhi := Nat.le_trans hhi (hw1.step).size
  replace hrh := Nat.le_trans hrh (hw1.step).size
  replace hK1 := hK1.keepG hw1.step (show ¬ g1 = b1 by omega)
  replace hszhK1 := Nat.le_trans hszhK1 (hw1.step).size
  have ho2 : Own w4 b1 #[.int .i64 y1.x.k.kind, .int .i64 y1.x.k.peak, .int .i64 y1.x.k.early, .int .i64 y1.x.k.whole, .int .i64 y1.x.k.burst, .int .i64 y1.x.k.least] 32 := Own.cast hw1.own (by kernel_rfl)
  have hzhw1 := hw1.same
  refine VL_pure 12 [0, 1, 5, 21, 22, 6, 7, 8] [(0, .pointer (some ⟨nd, 0, none⟩)), (1, .pointer (some ⟨nw, 0, none⟩)), (5, .slice (some ⟨g1, 0, none⟩) n1 c1), (21, .int .i64 ((n1 : Nat) : Int)), (22, .int .i64 ((jS : Nat) : Int)), (6, .int .i64 ((jS : Nat) : Int)), (7, .pointer (some ⟨b1, 0, none⟩)), (8, .bool true)] (by kernel_rfl) rfl ?_
  refine VL_end (by kernel_rfl) ?_
  refine VQ_next ?_
  refine VC_seq ?_
  have hs1 := drew_step w4
  have hs1z : w4.heap.size = w4.drew.heap.size := rfl
  refine VC_text [[], [], [0, 1], [0, 1, 2], [], [4], [4, 5], [4, 5, 6], [], [4, 5, 6, 7, 8], [4, 5, 6, 7, 8, 9], [4, 5, 6, 7, 8, 9, 10], [0, 1, 2, 3, 4, 5, 6, 7, 8, 9, 10, 11], [0, 1, 2, 3, 4, 5, 6, 7, 8, 9, 10, 11, 12], [0, 1, 2, 3, 4, 5, 6, 7, 8, 9, 10, 11, 12, 13], [0, 1, 2, 3, 4, 5, 6, 7, 8, 9, 10, 11, 12, 13, 14], [0, 1, 2, 3, 4, 5, 6, 7, 8, 9, 10, 11, 12, 13, 14, 15], [0, 1, 2, 3, 4, 5, 6, 7, 8, 9, 10, 11, 12, 13, 14, 15, 16], [0, 1, 2, 3, 4, 5, 6, 7, 8, 9, 10, 11, 12, 13, 14, 15, 16, 17], [0, 1, 2, 3, 4, 5, 6, 7, 8, 9, 10, 11, 12, 13, 14, 15, 16, 17], [0, 1, 2, 3, 4, 5, 6, 7, 8, 9, 10, 11, 12, 13, 14, 15, 16, 17, 19], [0, 1, 2, 3, 4, 5, 6, 7, 8, 9, 10, 11, 12, 13, 14, 15, 16, 17, 19, 20], [0, 1, 2, 3, 4, 5, 6, 7, 8, 9, 10, 11, 12, 13, 14, 15, 16, 17, 19, 20, 21], [0, 1, 2, 3, 4, 5, 6, 7, 8, 9, 10, 11, 12, 13, 14, 15, 16, 17], [0, 1, 2, 3, 4, 5, 6, 7, 8, 9, 10, 11, 12, 13, 14, 15, 16, 17, 19, 20, 21, 22, 23], [0, 1, 2, 3, 4, 5, 6, 7, 8, 9, 10, 11, 12, 13, 14, 15, 16, 17, 19, 20, 21, 22, 23, 24], [0, 1, 2, 3, 4, 5, 6, 7, 8, 9, 10, 11, 12, 13, 14, 15, 16, 17, 19, 20, 21, 22, 23, 24, 25], [0, 1, 2, 3, 4, 5, 6, 7, 8, 9, 10, 11, 12, 13, 14, 15, 16, 17, 18, 19, 20, 21, 22, 23, 24, 25, 26], [0, 1, 2, 3, 4, 5, 6, 7, 8, 9, 10, 11, 12, 13, 14, 15, 16, 17, 18, 19, 20, 21, 22, 23, 24, 25, 26, 27]] 27 (fun x y => Step (fun k => w4.heap.size ≤ k) x y) [] [0, 1, 2, 3, 4, 5, 6, 7, 8, 9, 10, 11, 12, 13, 14, 15, 16, 17, 18, 19, 20, 21, 22, 23, 24, 25, 26] (by kernel_rfl) (by kernel_rfl) (by kernel_rfl) (by kernel_rfl) (fun x => Step.refl _ x) (fun h k => Step.trans h k) Step.weak ?_
  generalize w4.drew = w5 at hs1 hs1z ⊢
  replace hS := Step.trans hS hs1
  replace h := NdP.no h hs1
  replace ho := ho.no hs1
  replace hv := hv.step hs1 (fun k hk1 hk2 hF => hF)
  replace hrv := hrv.no hs1
  replace hhi := Nat.le_trans hhi (hs1).size
  replace hrh := Nat.le_trans hrh (hs1).size
  replace hK1 := hK1.no hs1
  replace hszhK1 := Nat.le_trans hszhK1 (hs1).size
  replace ho2 := ho2.no hs1
  refine VT_pures 2 (kn' := [(1, .int .i64 ((jS : Nat) : Int)), (0, .slice (some ⟨g1, 0, none⟩) n1 c1)]) (by kernel_rfl) ?_
  refine VT_index (d := 36) (b := g1) (o := 0) (len := n1) (sz := 3) (mm := ((jS : Nat) : Int)) (by kernel_rfl) (by kernel_rfl) jS (by rfl) (by omega) (jS * 3) (by omega) ?_
  refine VT_load (d := 37) (t := 30) (a := ⟨g1, jS * 3, none⟩) (v := .agg #[.int .i64 y1.x.p, .int .i64 y1.x.v, .int .i64 y1.x.c]) (by kernel_rfl) (by kernel_rfl) ?_ ?_
  ·intro w6 hr1
   replace hK1 := hK1.keepG hr1 (by (try simp only); omega)
   exact (Sl.flatAgg (sz := 3) (RwS.sl2 hK1).sl keyc_len (show (l.map Dx.x)[jS]? = some y1.x by rw [List.getElem?_map, hy1]; rfl) 0 3 (by kernel_rfl) (by decide) _ (by first | rfl | omega))
  refine VT_pures 3 (kn' := [(6, .pointer (some ⟨nw, 1, none⟩)), (5, .pointer (some ⟨nw, 0, none⟩)), (4, .pointer (some ⟨nw, 0, none⟩)), (3, .agg #[.int .i64 y1.x.p, .int .i64 y1.x.v, .int .i64 y1.x.c]), (2, .pointer (some ⟨g1, jS * 3, none⟩)), (1, .int .i64 ((jS : Nat) : Int)), (0, .slice (some ⟨g1, 0, none⟩) n1 c1)]) (by kernel_rfl) ?_
  refine VT_load (d := 41) (t := 53) (a := ⟨nw, 1, none⟩) (v := .slice (some ⟨sb1, so1, none⟩) l.length ca) (by kernel_rfl) (by kernel_rfl) ?_ ?_
  ·intro w7 hr2
   replace ho := ho.step hr2 (by (try simp only); omega)
   exact (Loads.own1 ho (by kernel_rfl) (by rfl))
  refine VT_pures 1 (kn' := [(8, .int .i64 ((jS : Nat) : Int)), (7, .slice (some ⟨sb1, so1, none⟩) l.length ca), (6, .pointer (some ⟨nw, 1, none⟩)), (5, .pointer (some ⟨nw, 0, none⟩)), (4, .pointer (some ⟨nw, 0, none⟩)), (3, .agg #[.int .i64 y1.x.p, .int .i64 y1.x.v, .int .i64 y1.x.c]), (2, .pointer (some ⟨g1, jS * 3, none⟩)), (1, .int .i64 ((jS : Nat) : Int)), (0, .slice (some ⟨g1, 0, none⟩) n1 c1)]) (by kernel_rfl) ?_
  refine VT_index (d := 43) (b := sb1) (o := so1) (len := l.length) (sz := 10) (mm := ((jS : Nat) : Int)) (by kernel_rfl) (by kernel_rfl) jS (by rfl) (by omega) (so1 + jS * 10) (by omega) ?_
  refine VT_pures 1 (kn' := [(10, .pointer (some ⟨sb1, so1 + jS * 10, none⟩)), (9, .pointer (some ⟨sb1, so1 + jS * 10, none⟩)), (8, .int .i64 ((jS : Nat) : Int)), (7, .slice (some ⟨sb1, so1, none⟩) l.length ca), (6, .pointer (some ⟨nw, 1, none⟩)), (5, .pointer (some ⟨nw, 0, none⟩)), (4, .pointer (some ⟨nw, 0, none⟩)), (3, .agg #[.int .i64 y1.x.p, .int .i64 y1.x.v, .int .i64 y1.x.c]), (2, .pointer (some ⟨g1, jS * 3, none⟩)), (1, .int .i64 ((jS : Nat) : Int)), (0, .slice (some ⟨g1, 0, none⟩) n1 c1)]) (by kernel_rfl) ?_
  refine VT_load (d := 45) (t := 30) (a := ⟨sb1, so1 + jS * 10, none⟩) (v := .agg #[.int .i64 y1.x.p, .int .i64 y1.x.v, .int .i64 y1.x.c]) (by kernel_rfl) (by kernel_rfl) ?_ ?_
  ·intro w8 hr3
   replace hv := hv.step hr3 (fun k hk1 hk2 hG => by (try simp only at hG); omega)
   exact (Sl.flatAgg (sz := 10) (Sl2.sl hv) dxc_len hy1 0 3 (by kernel_rfl) (by decide) _ (by first | rfl | omega))
  refine VT_agEq (d := 46) (dd := 9) (ls := ([.int .i64] ++ [.int .i64] ++ [.int .i64] ++ [])) (pos := false) (t := 30) (xs := #[.int .i64 y1.x.p, .int .i64 y1.x.v, .int .i64 y1.x.c]) (ys := #[.int .i64 y1.x.p, .int .i64 y1.x.v, .int .i64 y1.x.c]) (by kernel_rfl) (by kernel_rfl) (by kernel_rfl) (by kernel_rfl) (by first | exact ⟨⟨_, rfl⟩, ⟨_, rfl⟩, ⟨_, rfl⟩, trivial⟩ | trivial) (by first | exact ⟨⟨_, rfl⟩, ⟨_, rfl⟩, ⟨_, rfl⟩, trivial⟩ | trivial) false (by simp [cellsEq, leafEq]) ?_
  refine VT_pures 5 (kn' := [(17, .bool false), (16, .bool false), (15, .bool false), (14, .bool true), (13, .bool false), (12, .bool false), (11, .agg #[.int .i64 y1.x.p, .int .i64 y1.x.v, .int .i64 y1.x.c]), (10, .pointer (some ⟨sb1, so1 + jS * 10, none⟩)), (9, .pointer (some ⟨sb1, so1 + jS * 10, none⟩)), (8, .int .i64 ((jS : Nat) : Int)), (7, .slice (some ⟨sb1, so1, none⟩) l.length ca), (6, .pointer (some ⟨nw, 1, none⟩)), (5, .pointer (some ⟨nw, 0, none⟩)), (4, .pointer (some ⟨nw, 0, none⟩)), (3, .agg #[.int .i64 y1.x.p, .int .i64 y1.x.v, .int .i64 y1.x.c]), (2, .pointer (some ⟨g1, jS * 3, none⟩)), (1, .int .i64 ((jS : Nat) : Int)), (0, .slice (some ⟨g1, 0, none⟩) n1 c1)]) (by kernel_rfl) ?_
  refine VT_load (d := 52) (t := 32) (a := ⟨b1, 0, none⟩) (v := .agg #[.int .i64 y1.x.k.kind, .int .i64 y1.x.k.peak, .int .i64 y1.x.k.early, .int .i64 y1.x.k.whole, .int .i64 y1.x.k.burst, .int .i64 y1.x.k.least]) (by kernel_rfl) (by kernel_rfl) ?_ ?_
  ·intro w9 hr4
   replace ho2 := ho2.step hr4 (by (try simp only); omega)
   exact (Loads.ownL ho2 (n := 6) (by kernel_rfl) (by kernel_rfl) (by kernel_rfl))
  refine VT_pures 3 (kn' := [(21, .pointer (some ⟨nw, 1, none⟩)), (20, .pointer (some ⟨nw, 0, none⟩)), (19, .pointer (some ⟨nw, 0, none⟩)), (18, .agg #[.int .i64 y1.x.k.kind, .int .i64 y1.x.k.peak, .int .i64 y1.x.k.early, .int .i64 y1.x.k.whole, .int .i64 y1.x.k.burst, .int .i64 y1.x.k.least]), (17, .bool false), (16, .bool false), (15, .bool false), (14, .bool true), (13, .bool false), (12, .bool false), (11, .agg #[.int .i64 y1.x.p, .int .i64 y1.x.v, .int .i64 y1.x.c]), (10, .pointer (some ⟨sb1, so1 + jS * 10, none⟩)), (9, .pointer (some ⟨sb1, so1 + jS * 10, none⟩)), (8, .int .i64 ((jS : Nat) : Int)), (7, .slice (some ⟨sb1, so1, none⟩) l.length ca), (6, .pointer (some ⟨nw, 1, none⟩)), (5, .pointer (some ⟨nw, 0, none⟩)), (4, .pointer (some ⟨nw, 0, none⟩)), (3, .agg #[.int .i64 y1.x.p, .int .i64 y1.x.v, .int .i64 y1.x.c]), (2, .pointer (some ⟨g1, jS * 3, none⟩)), (1, .int .i64 ((jS : Nat) : Int)), (0, .slice (some ⟨g1, 0, none⟩) n1 c1)]) (by kernel_rfl) ?_
  refine VT_load (d := 56) (t := 53) (a := ⟨nw, 1, none⟩) (v := .slice (some ⟨sb1, so1, none⟩) l.length ca) (by kernel_rfl) (by kernel_rfl) ?_ ?_
  ·intro w10 hr5
   replace ho := ho.step hr5 (by (try simp only); omega)
   exact (Loads.own1 ho (by kernel_rfl) (by rfl))
  refine VT_pures 1 (kn' := [(23, .int .i64 ((jS : Nat) : Int)), (22, .slice (some ⟨sb1, so1, none⟩) l.length ca), (21, .pointer (some ⟨nw, 1, none⟩)), (20, .pointer (some ⟨nw, 0, none⟩)), (19, .pointer (some ⟨nw, 0, none⟩)), (18, .agg #[.int .i64 y1.x.k.kind, .int .i64 y1.x.k.peak, .int .i64 y1.x.k.early, .int .i64 y1.x.k.whole, .int .i64 y1.x.k.burst, .int .i64 y1.x.k.least]), (17, .bool false), (16, .bool false), (15, .bool false), (14, .bool true), (13, .bool false), (12, .bool false), (11, .agg #[.int .i64 y1.x.p, .int .i64 y1.x.v, .int .i64 y1.x.c]), (10, .pointer (some ⟨sb1, so1 + jS * 10, none⟩)), (9, .pointer (some ⟨sb1, so1 + jS * 10, none⟩)), (8, .int .i64 ((jS : Nat) : Int)), (7, .slice (some ⟨sb1, so1, none⟩) l.length ca), (6, .pointer (some ⟨nw, 1, none⟩)), (5, .pointer (some ⟨nw, 0, none⟩)), (4, .pointer (some ⟨nw, 0, none⟩)), (3, .agg #[.int .i64 y1.x.p, .int .i64 y1.x.v, .int .i64 y1.x.c]), (2, .pointer (some ⟨g1, jS * 3, none⟩)), (1, .int .i64 ((jS : Nat) : Int)), (0, .slice (some ⟨g1, 0, none⟩) n1 c1)]) (by kernel_rfl) ?_
  refine VT_index (d := 58) (b := sb1) (o := so1) (len := l.length) (sz := 10) (mm := ((jS : Nat) : Int)) (by kernel_rfl) (by kernel_rfl) jS (by rfl) (by omega) (so1 + jS * 10) (by omega) ?_
  refine VT_pures 1 (kn' := [(25, .pointer (some ⟨sb1, so1 + jS * 10 + 3, none⟩)), (24, .pointer (some ⟨sb1, so1 + jS * 10, none⟩)), (23, .int .i64 ((jS : Nat) : Int)), (22, .slice (some ⟨sb1, so1, none⟩) l.length ca), (21, .pointer (some ⟨nw, 1, none⟩)), (20, .pointer (some ⟨nw, 0, none⟩)), (19, .pointer (some ⟨nw, 0, none⟩)), (18, .agg #[.int .i64 y1.x.k.kind, .int .i64 y1.x.k.peak, .int .i64 y1.x.k.early, .int .i64 y1.x.k.whole, .int .i64 y1.x.k.burst, .int .i64 y1.x.k.least]), (17, .bool false), (16, .bool false), (15, .bool false), (14, .bool true), (13, .bool false), (12, .bool false), (11, .agg #[.int .i64 y1.x.p, .int .i64 y1.x.v, .int .i64 y1.x.c]), (10, .pointer (some ⟨sb1, so1 + jS * 10, none⟩)), (9, .pointer (some ⟨sb1, so1 + jS * 10, none⟩)), (8, .int .i64 ((jS : Nat) : Int)), (7, .slice (some ⟨sb1, so1, none⟩) l.length ca), (6, .pointer (some ⟨nw, 1, none⟩)), (5, .pointer (some ⟨nw, 0, none⟩)), (4, .pointer (some ⟨nw, 0, none⟩)), (3, .agg #[.int .i64 y1.x.p, .int .i64 y1.x.v, .int .i64 y1.x.c]), (2, .pointer (some ⟨g1, jS * 3, none⟩)), (1, .int .i64 ((jS : Nat) : Int)), (0, .slice (some ⟨g1, 0, none⟩) n1 c1)]) (by kernel_rfl) ?_
  refine VT_load (d := 60) (t := 32) (a := ⟨sb1, so1 + jS * 10 + 3, none⟩) (v := .agg #[.int .i64 y1.x.k.kind, .int .i64 y1.x.k.peak, .int .i64 y1.x.k.early, .int .i64 y1.x.k.whole, .int .i64 y1.x.k.burst, .int .i64 y1.x.k.least]) (by kernel_rfl) (by kernel_rfl) ?_ ?_
  ·intro w11 hr6
   replace hv := hv.step hr6 (fun k hk1 hk2 hG => by (try simp only at hG); omega)
   exact (Sl.flatAgg (sz := 10) (Sl2.sl hv) dxc_len hy1 3 6 (by kernel_rfl) (by decide) _ (by first | rfl | omega))
  refine VT_end ?_
  intro w12 hs2
  replace hS := Step.trans hS hs2
  replace h := NdP.no h hs2
  replace ho := ho.no hs2
  replace hv := hv.step hs2 (fun k hk1 hk2 hF => hF)
  replace hrv := hrv.no hs2
  replace hhi := Nat.le_trans hhi (hs2).size
  replace hrh := Nat.le_trans hrh (hs2).size
  replace hK1 := hK1.no hs2
  replace hszhK1 := Nat.le_trans hszhK1 (hs2).size
  refine VL_keep [0, 1, 5, 21, 22, 51, 52, 60] [(0, .pointer (some ⟨nd, 0, none⟩)), (1, .pointer (some ⟨nw, 0, none⟩)), (5, .slice (some ⟨g1, 0, none⟩) n1 c1), (21, .int .i64 ((n1 : Nat) : Int)), (22, .int .i64 ((jS : Nat) : Int)), (51, .bool false), (52, .agg #[.int .i64 y1.x.k.kind, .int .i64 y1.x.k.peak, .int .i64 y1.x.k.early, .int .i64 y1.x.k.whole, .int .i64 y1.x.k.burst, .int .i64 y1.x.k.least]), (60, .agg #[.int .i64 y1.x.k.kind, .int .i64 y1.x.k.peak, .int .i64 y1.x.k.early, .int .i64 y1.x.k.whole, .int .i64 y1.x.k.burst, .int .i64 y1.x.k.least])] (by kernel_rfl) ?_
  refine VL_agEq (d := 61) (dd := 9) (ls := ([.int .i64] ++ [.int .i64] ++ [.int .i64] ++ [.int .i64] ++ [.int .i64] ++ [.int .i64] ++ [])) (pos := false) (t := 32) (xs := #[.int .i64 y1.x.k.kind, .int .i64 y1.x.k.peak, .int .i64 y1.x.k.early, .int .i64 y1.x.k.whole, .int .i64 y1.x.k.burst, .int .i64 y1.x.k.least]) (ys := #[.int .i64 y1.x.k.kind, .int .i64 y1.x.k.peak, .int .i64 y1.x.k.early, .int .i64 y1.x.k.whole, .int .i64 y1.x.k.burst, .int .i64 y1.x.k.least]) (by kernel_rfl) (by kernel_rfl) (by kernel_rfl) (by kernel_rfl) TDagaa TDagaa false (by simp [cellsEq, leafEq]) ?_
  refine VL_pure 29 [0, 1, 5, 21, 22, 62] [(0, .pointer (some ⟨nd, 0, none⟩)), (1, .pointer (some ⟨nw, 0, none⟩)), (5, .slice (some ⟨g1, 0, none⟩) n1 c1), (21, .int .i64 ((n1 : Nat) : Int)), (22, .int .i64 ((jS : Nat) : Int)), (62, .bool false)] (by kernel_rfl) rfl ?_
  refine VL_end (by kernel_rfl) ?_
  refine VQ_next ?_
  refine VC_false (by kernel_rfl) ?_
  refine VC_skip ?_
  refine VQ_block_normal ?_
  refine VQ_next ?_
  refine VC_region ?_
  refine VL_pure 1 [0, 1, 5, 21, 63] [(0, .pointer (some ⟨nd, 0, none⟩)), (1, .pointer (some ⟨nw, 0, none⟩)), (5, .slice (some ⟨g1, 0, none⟩) n1 c1), (21, .int .i64 ((n1 : Nat) : Int)), (63, .int .i64 (IntKind.wrap .i64 (((jS : Nat) : Int) + 1)))] (by kernel_rfl) rfl ?_
  have he1 : IntKind.wrap .i64 (((jS : Nat) : Int) + 1) = ((jS + 1 : Nat) : Int) := (by rw [wrap_i64 _ (by omega) (by omega)]; omega)
  refine VL_eq [(0, .pointer (some ⟨nd, 0, none⟩)), (1, .pointer (some ⟨nw, 0, none⟩)), (5, .slice (some ⟨g1, 0, none⟩) n1 c1), (21, .int .i64 ((n1 : Nat) : Int)), (63, .int .i64 ((jS + 1 : Nat) : Int))] (by rw [he1]) ?_
  refine VL_pure 2 [0, 1, 5, 21, 22] [(0, .pointer (some ⟨nd, 0, none⟩)), (1, .pointer (some ⟨nw, 0, none⟩)), (5, .slice (some ⟨g1, 0, none⟩) n1 c1), (21, .int .i64 ((n1 : Nat) : Int)), (22, .int .i64 ((jS + 1 : Nat) : Int))] (by kernel_rfl) rfl ?_
  refine VL_end (by kernel_rfl) ?_
  refine VQ_again (jS + 1) ⟨rfl, rfl, rfl, rfl, rfl, trivial⟩ ?_ ?_
  ·exact ⟨by omega, hS, h, ho, hv, hrv, hhi, hrh, hK1, hszhK1⟩
  ·(try dsimp only); omega
 ·refine VC_exit ?_
  refine VQ_then_exit ?_
  refine VQ_then_exit ?_
  refine VQ_block_hit ?_
  refine VQ_next ?_
  refine VC_seq ?_
  refine VC_seq ?_
  refine VC_region ?_
  refine VL_pure 1 [0, 1, 9] [(0, .pointer (some ⟨nd, 0, none⟩)), (1, .pointer (some ⟨nw, 0, none⟩)), (9, .int .i64 (-1))] (by kernel_rfl) rfl ?_
  refine VL_end (by kernel_rfl) ?_
  refine VQ_next ?_
  refine VC_block ?_
  refine VC_loop (σ := Int) (fun σs => [(0, .pointer (some ⟨nd, 0, none⟩)), (1, .pointer (some ⟨nw, 0, none⟩)), (9, .int .i64 σs)]) (fun σs wq => -1 ≤ σs ∧ σs ≤ 9 ∧ (Step No w wq) ∧ (NdP wq nd X lo rooms (l.map Dx.x) n) ∧ (Own wq nw #[.slice rA rooms.length rc, .slice A l.length ca] 55) ∧ (Sl2 wq lo2 hi A (flat dxc l)) ∧ (Sl wq rh rA (iL .i64 rooms)) ∧ (hi ≤ wq.heap.size) ∧ (rh ≤ wq.heap.size) ∧ (w1.heap.size ≤ wq.heap.size)) (fun σs wq => (9 - σs).toNat) (-1) ⟨rfl, rfl, rfl, trivial⟩ ?_ ?_
  ·exact ⟨by decide, by decide, hS, h, ho, hv, hrv, hhi, hrh, hszhK1⟩
  rintro qS wq ⟨hq0, hq1, hS, h, ho, hv, hrv, hhi, hrh, hszhK1⟩
  try dsimp only at hq0 hq1 hS h ho hv hrv hhi hrh hszhK1 ⊢
  refine VC_seq ?_
  refine VC_seq ?_
  refine VC_region ?_
  refine VL_pure 2 [0, 1, 9, 65] [(0, .pointer (some ⟨nd, 0, none⟩)), (1, .pointer (some ⟨nw, 0, none⟩)), (9, .int .i64 qS), (65, .bool (decide (qS ≤ 8)))] (by kernel_rfl) rfl ?_
  refine VL_end (by kernel_rfl) ?_
  refine VQ_next ?_
  refine VC_dec (qS ≤ 8) (by kernel_rfl) (fun h2 => ?_) (fun h2 => ?_)
  ·refine VC_skip ?_
   refine VQ_next ?_
   refine VC_seq ?_
   refine VC_block ?_
   refine VC_seq ?_
   refine VC_region ?_
   refine VL_pure 2 [0, 1, 9, 68, 69] [(0, .pointer (some ⟨nd, 0, none⟩)), (1, .pointer (some ⟨nw, 0, none⟩)), (9, .int .i64 qS), (68, .pointer (some ⟨nd, 0, none⟩)), (69, .int .i64 qS)] (by kernel_rfl) rfl ?_
   refine VL_call (d := 70) (f := 21) (args := #[.pointer (some ⟨nd, 0, none⟩), .int .i64 qS]) (by kernel_rfl) (by kernel_rfl) (by kernel_rfl) Tryz.call21 (nleft h qS) ?_
   rintro _ w13 ⟨rfl, hc3⟩
   replace hS := Step.trans hS hc3
   replace h := NdP.no h hc3
   replace ho := ho.no hc3
   replace hv := hv.step hc3 (fun k hk1 hk2 hF => hF)
   replace hrv := hrv.no hc3
   replace hhi := Nat.le_trans hhi (hc3).size
   replace hrh := Nat.le_trans hrh (hc3).size
   replace hszhK1 := Nat.le_trans hszhK1 (hc3).size
   refine VL_pure 5 [0, 1, 9, 70, 71, 72] [(0, .pointer (some ⟨nd, 0, none⟩)), (1, .pointer (some ⟨nw, 0, none⟩)), (9, .int .i64 qS), (70, .int .i64 (leftN rooms (l.map Dx.x) qS)), (71, .pointer (some ⟨nw, 0, none⟩)), (72, .int .i64 qS)] (by kernel_rfl) rfl ?_
   refine VL_call (d := 73) (f := 34) (args := #[.pointer (some ⟨nw, 0, none⟩), .int .i64 qS]) (by kernel_rfl) (by kernel_rfl) (by kernel_rfl) Tryz.call34 (dleft_any nw lo2 rooms l qS _ ⟨_, _, _, _, 0, _, _, ho, hrc, hcn, hrh, hhi, sl_sl2 hrv, hv⟩ hli) ?_
   rintro _ w14 ⟨rfl, hc4⟩
   replace hS := Step.trans hS hc4
   replace h := NdP.no h hc4
   replace ho := ho.no hc4
   replace hv := hv.step hc4 (fun k hk1 hk2 hF => hF)
   replace hrv := hrv.no hc4
   replace hhi := Nat.le_trans hhi (hc4).size
   replace hrh := Nat.le_trans hrh (hc4).size
   replace hszhK1 := Nat.le_trans hszhK1 (hc4).size
   refine VL_pure 8 [0, 1, 9, 75] [(0, .pointer (some ⟨nd, 0, none⟩)), (1, .pointer (some ⟨nw, 0, none⟩)), (9, .int .i64 qS), (75, .bool ((leftN rooms (l.map Dx.x) qS) != (leftN rooms (l.map Dx.x) qS)))] (by kernel_rfl) rfl ?_
   refine VL_known ((leftN rooms (l.map Dx.x) qS) != (leftN rooms (l.map Dx.x) qS)) (fun bV => [(0, .pointer (some ⟨nd, 0, none⟩)), (1, .pointer (some ⟨nw, 0, none⟩)), (9, .int .i64 qS), (75, .bool bV)]) false rfl (by rw [bne_eq_false_iff_eq]) ?_
   refine VL_pure 10 [0, 1, 9, 75, 76, 77] [(0, .pointer (some ⟨nd, 0, none⟩)), (1, .pointer (some ⟨nw, 0, none⟩)), (9, .int .i64 qS), (75, .bool false), (76, .pointer (some ⟨nd, 0, none⟩)), (77, .int .i64 qS)] (by kernel_rfl) rfl ?_
   refine VL_call (d := 78) (f := 20) (args := #[.pointer (some ⟨nd, 0, none⟩), .int .i64 qS]) (by kernel_rfl) (by kernel_rfl) (by kernel_rfl) Tryz.call20 ((nused h qS).mono (fun x w1 h9 => by rw [used_sum hli] at h9; exact h9)) ?_
   rintro _ w15 ⟨rfl, hc5⟩
   replace hS := Step.trans hS hc5
   replace h := NdP.no h hc5
   replace ho := ho.no hc5
   replace hv := hv.step hc5 (fun k hk1 hk2 hF => hF)
   replace hrv := hrv.no hc5
   replace hhi := Nat.le_trans hhi (hc5).size
   replace hrh := Nat.le_trans hrh (hc5).size
   replace hszhK1 := Nat.le_trans hszhK1 (hc5).size
   refine VL_pure 13 [0, 1, 9, 75, 78, 79, 80] [(0, .pointer (some ⟨nd, 0, none⟩)), (1, .pointer (some ⟨nw, 0, none⟩)), (9, .int .i64 qS), (75, .bool false), (78, .int .i64 (usdL (l.map Dx.x) qS)), (79, .pointer (some ⟨nw, 0, none⟩)), (80, .int .i64 qS)] (by kernel_rfl) rfl ?_
   refine VL_call (d := 81) (f := 49) (args := #[.pointer (some ⟨nw, 0, none⟩), .int .i64 qS]) (by kernel_rfl) (by kernel_rfl) (by kernel_rfl) Tryz.call49 (dsum_any nw lo2 rooms l qS _ ⟨_, _, _, _, 0, _, _, ho, hrc, hcn, hrh, hhi, sl_sl2 hrv, hv⟩ hli) ?_
   rintro _ w16 ⟨rfl, hc6⟩
   replace hS := Step.trans hS hc6
   replace h := NdP.no h hc6
   replace ho := ho.no hc6
   replace hv := hv.step hc6 (fun k hk1 hk2 hF => hF)
   replace hrv := hrv.no hc6
   replace hhi := Nat.le_trans hhi (hc6).size
   replace hrh := Nat.le_trans hrh (hc6).size
   replace hszhK1 := Nat.le_trans hszhK1 (hc6).size
   refine VL_pure 16 [0, 1, 9, 83] [(0, .pointer (some ⟨nd, 0, none⟩)), (1, .pointer (some ⟨nw, 0, none⟩)), (9, .int .i64 qS), (83, .bool ((usdL (l.map Dx.x) qS) != (usdL (l.map Dx.x) qS)))] (by kernel_rfl) rfl ?_
   refine VL_end (by kernel_rfl) ?_
   refine VQ_next ?_
   refine VC_is (b := (usdL (l.map Dx.x) qS) != (usdL (l.map Dx.x) qS)) false (by kernel_rfl) (by rw [bne_eq_false_iff_eq]) ?_
   refine VC_ite_false ?_
   refine VC_skip ?_
   refine VQ_block_normal ?_
   refine VQ_next ?_
   refine VC_region ?_
   refine VL_pure 2 [0, 1, 67] [(0, .pointer (some ⟨nd, 0, none⟩)), (1, .pointer (some ⟨nw, 0, none⟩)), (67, .int .i64 (IntKind.wrap .i64 (qS + 1)))] (by kernel_rfl) rfl ?_
   refine VL_eq [(0, .pointer (some ⟨nd, 0, none⟩)), (1, .pointer (some ⟨nw, 0, none⟩)), (67, .int .i64 (qS + 1))] (by rw [wrap_i64 _ (by omega) (by omega)]) ?_
   refine VL_pure 3 [0, 1, 9] [(0, .pointer (some ⟨nd, 0, none⟩)), (1, .pointer (some ⟨nw, 0, none⟩)), (9, .int .i64 (qS + 1))] (by kernel_rfl) rfl ?_
   refine VL_end (by kernel_rfl) ?_
   refine VQ_again (qS + 1) ⟨rfl, rfl, rfl, trivial⟩ ?_ ?_
   ·exact ⟨by omega, by omega, hS, h, ho, hv, hrv, hhi, hrh, hszhK1⟩
   ·(try dsimp only); omega
  ·refine VC_exit ?_
   refine VQ_then_exit ?_
   refine VQ_then_exit ?_
   refine VQ_block_hit ?_
   refine VQ_next ?_
   refine VC_seq ?_
   refine VC_region ?_
   refine VL_pure 1 [4] [(4, .bool true)] (by kernel_rfl) rfl ?_
   refine VL_end (by kernel_rfl) ?_
   refine VQ_next ?_
   refine VC_ret ?_
   refine VQ_ret1 (.bool true) (.inr rfl) rfl rfl ?_
   exact ⟨rfl, hS⟩

end Go.Proofs.YthchmlidobgkoaaGreat
end

section
/- Layer 20: the program's node and the document's side by side: their blocks are apart by their types. -/
set_option linter.unusedVariables false
set_option linter.unusedSimpArgs false
namespace Go.Proofs.YthchmlidobgkoaaGreat
open Go.Vc Go.RowKit
section
variable {w w1 : World} {X Xd : Nat → Prop} {nd nw lo lo2 Bd n : Nat} {rooms rooms2 : List Int} {L L2 : List Cx}
theorem dnt_ty {k : Nat} (h : DNT w k) : tyO w k = 55 + 2 ∨ tyO w k = 67 + 2 ∨ tyO w k = 3 + 2 ∨ tyO w k = 96 + 2 ∨ tyO w k = 100 + 2 ∨ tyO w k = 97 + 2 ∨ tyO w k = 126 + 2 := by
  rcases h with h | h | h | h | h | h | h
  · exact .inl (tyO_tyB h)
  · exact .inr (.inl (tyO_tyB h))
  · exact .inr (.inr (.inl (tyO_tyB h)))
  · exact .inr (.inr (.inr (.inl (tyO_tyB h))))
  · exact .inr (.inr (.inr (.inr (.inl (tyO_tyB h)))))
  · exact .inr (.inr (.inr (.inr (.inr (.inl (tyO_tyB h))))))
  · exact .inr (.inr (.inr (.inr (.inr (.inr (tyO_tyB h))))))
theorem nt_dnt {k : Nat} (h : NT w k) (h' : DNT w k) : False := by
  have h1 := dnt_ty h'
  have h2 := h.2
  omega
theorem DnP.byN (h : DnP w nw Xd lo2 Bd rooms2 L2) (hN : NdP w nd X lo rooms L n) (hs : Step X w w1) : DnP w1 nw Xd lo2 Bd rooms2 L2 := h.step hs fun q hq hX => nt_dnt (hN.nt hX) (h.dnt hq)
theorem NdP.byD (hN : NdP w nd X lo rooms L n) (h : DnP w nw Xd lo2 Bd rooms2 L2) (hs : Step Xd w w1) : NdP w1 nd X lo rooms L n := hN.step hs fun q hq hX => nt_dnt (hN.nt hq) (h.dnt hX)
theorem DnP.nx (h : DnP w nw Xd lo2 Bd rooms2 L2) {b T : Nat} {cs : Array Value} (ho : Own w b cs T) (hT : T ≠ 55 ∧ T ≠ 67 ∧ T ≠ 96 ∧ T ≠ 100 ∧ T ≠ 97 ∧ T ≠ 126) (hI : T = 3 → Bd ≤ b) : ¬ Xd b := by
  intro hb
  have ht := ho.tyB
  rcases h.dnt hb with h9 | h9 | h9 | h9 | h9 | h9 | h9
  · exact tyb_ne ht h9 hT.1 rfl
  · exact tyb_ne ht h9 hT.2.1 rfl
  · have hT2 : T = 3 := Classical.byContradiction fun h8 => tyb_ne ht h9 h8 rfl
    obtain ⟨_, l, rA, rc, A, c, _, hX⟩ := h
    have := hX.up b hb h9
    have := hI hT2
    omega
  · exact tyb_ne ht h9 hT.2.2.1 rfl
  · exact tyb_ne ht h9 hT.2.2.2.1 rfl
  · exact tyb_ne ht h9 hT.2.2.2.2.1 rfl
  · exact tyb_ne ht h9 hT.2.2.2.2.2 rfl
theorem DnP.blk (h : DnP w nw Xd lo2 Bd rooms2 L2) {b T : Nat} {cs : Array Value} (ho : Own w b cs T) (hT : T ≠ 55 ∧ T ≠ 67 ∧ T ≠ 96 ∧ T ≠ 100 ∧ T ≠ 97 ∧ T ≠ 126) (hI : T = 3 → Bd ≤ b) (hs : Step (Just b) w w1) : DnP w1 nw Xd lo2 Bd rooms2 L2 :=
  h.step hs fun q hq e => h.nx ho hT hI (by rw [show q = b from e] at hq; exact hq)
theorem DnP.ltX (h : DnP w nw Xd lo2 Bd rooms2 L2) {k : Nat} (hk : Xd k) : k < w.heap.size := (h.dnt hk).lt
theorem dsame (h : NdP w nd X lo rooms L n) (hd : DnP w nw Xd lo2 Bd rooms L) : CV Tryz.prog 18 #[.pointer (some ⟨nd, 0, none⟩), .pointer (some ⟨nw, 0, none⟩)] w fun x w1 => x = .bool true ∧ Step No w w1 := by
  obtain ⟨h0, l, rA, rc, A, c, rfl, hX⟩ := hd
  exact same_any nd lo X n nw lo2 rooms l w h hX.dv h0
end
end Go.Proofs.YthchmlidobgkoaaGreat
end

section
/- Layer 20: AdmitPlays. -/
set_option linter.unusedVariables false
set_option linter.unusedSimpArgs false
set_option maxRecDepth 100000
set_option maxHeartbeats 4000000
namespace Go.Proofs.YthchmlidobgkoaaGreat
open Go.Vc Go.RowKit
theorem TDaiaa {P : Prop} (h : P := by intro i hi; first | exact hi.elim | exact .inl hi | ((try simp only at hi ⊢); omega)) : P := h
theorem TDaiab {P : Prop} (h : P := by rw [wrap_i64 _ (by omega) (by omega)]; omega) : P := h

theorem admitPlays_any (A : Option Addr) (m c : Nat) (rs : List Int) (A2 : Option Addr) (m2 c2 : Nat) (os : List OpA) (w : World) (hrs : rs.length = m) (hmc : m ≤ c) (hA : Sl w w.heap.size A (iL .i64 rs)) (hos : os.length = m2) (hA2 : Sl w w.heap.size A2 (flat opc os)) (hmm : m2 ≤ maxLen)  :
  CV Tryz.prog 3 #[.slice A m c, .slice A2 m2 c2] w (fun x w1 => x = Bo true ∧ Step No w w1) := by
 have hS : Step No w w := Step.refl _ _
 refine VCe Tryz.func3 (Vrp (Vs (Vs (Vr ?_))))
 have hzs1 := hS.size
 refine Vc 0 Tryz.call5 (awake_any _) ?_
 rintro _ w1 ⟨rfl, hc1⟩
 replace hS := Step.trans hS hc1
 replace hA := hA.no hc1
 replace hA2 := hA2.no hc1
 refine VL_pure 8 [0, 1, 21] [(0, .slice A m c), (1, .slice A2 m2 c2), (21, Bo (decide (((m2 : Nat) : Int) > 100)))] (by kernel_rfl) rfl (VL_dec (((m2 : Nat) : Int) > 100) (fun bV => [(0, .slice A m c), (1, .slice A2 m2 c2), (21, Bo bV)]) rfl (fun hg1 => ?_) (fun hg1 => ?_))
 ·refine Ve (Vn (Vt (Vs (Vr ?_))))
  have hzs2 := hS.size
  refine Vc 0 Tryz.call5 (awake_any _) ?_
  rintro _ w2 ⟨rfl, hc2⟩
  replace hS := Step.trans hS hc2
  replace hA := hA.no hc2
  replace hA2 := hA2.no hc2
  refine Ve (Vn (VC_ret (VQ_then_ret (Vr1 (Bo true) ?_))))
  exact ⟨rfl, hS⟩
 ·refine Ve (Vn (Vid (((m : Nat) : Int) > 20) (fun h1 => ?_) (fun h1 => ?_)))
  ·refine Vs (Vr ?_)
   have hzs3 := hS.size
   refine Vc 0 Tryz.call5 (awake_any _) ?_
   rintro _ w3 ⟨rfl, hc3⟩
   replace hS := Step.trans hS hc3
   replace hA := hA.no hc3
   replace hA2 := hA2.no hc3
   refine Ve (Vn (VC_ret (VQ_then_ret (Vr1 (Bo true) ?_))))
   exact ⟨rfl, hS⟩
  ·refine VC_skip (Vn (Vs (Vr (Vp 1 ?_))))
   have hzs4 := hS.size
   refine Vc 1 Tryz.call6 (nnew hrs hA (by omega) (by omega)) ?_
   rintro _ w4 ⟨nd1, X1, rfl, hN1, hXg1, hc4⟩
   replace hS := Step.trans hS hc4
   replace hA := hA.no hc4
   replace hA2 := hA2.no hc4
   have hXwnd1 := fun k9 hk9 => NdP.ltX hN1 (k := k9) hk9
   obtain ⟨lo1, hlo1E⟩ : ∃ x, x = w1.heap.size := ⟨_, rfl⟩
   rw [← hlo1E] at hN1
   refine Vp 3 ?_
   have hzs5 := hS.size
   have hzl1 := NdP.lt hN1
   refine Vc 3 Tryz.call7 (ddnew hrs hA (by omega) (by omega) (by simp only [maxLen]; omega)) ?_
   rintro _ w5 ⟨nw1, X2, rfl, hD1, hc5⟩
   replace hS := Step.trans hS hc5
   replace hA := hA.no hc5
   replace hA2 := hA2.no hc5
   replace hN1 := NdP.no hN1 hc5
   have hXwnw1 := fun k9 hk9 => DnP.ltX hD1 (k := k9) hk9
   obtain ⟨lo2, hlo2E⟩ : ∃ x, x = w4.heap.size := ⟨_, rfl⟩
   obtain ⟨Bd1, hBd1E⟩ : ∃ x, x = w5.heap.size := ⟨_, rfl⟩
   rw [← hlo2E, ← hBd1E] at hD1
   have hleBd1 : Bd1 ≤ w5.heap.size := by omega
   refine Ve (Vn (Vs (Vrp (Vf (VC_skip (Vn (Vs (Vrp (VC_block (VC_loop (σ := Nat × (Nat → Prop) × (Nat → Prop) × (List Cx)) (fun σs => [(1, .slice A2 m2 c2), (5, Pt nd1 0), (6, Pt nw1 0), (34, I6 ((m2 : Nat) : Int)), (35, I6 ((σs.1 : Nat) : Int))]) (fun σs wr => σs.1 ≤ m2 ∧ NdP wr nd1 σs.2.1 lo1 (roomsN rs) σs.2.2.2 σs.1 ∧ DnP wr nw1 σs.2.2.1 lo2 Bd1 (roomsN rs) σs.2.2.2 ∧ (Step No w wr) ∧ (Sl wr w.heap.size A (iL .i64 rs)) ∧ (Sl wr w.heap.size A2 (flat opc os)) ∧ (Bd1 ≤ wr.heap.size)) (fun σs wr => m2 - σs.1) ⟨0, X1, X2, []⟩ Su ?_ ?_))))))))))
   ·exact ⟨Nat.zero_le _, hN1, hD1, hS, hA, hA2, hleBd1⟩
   rintro ⟨iS, XS, XT, LS⟩ wr ⟨hi0, hNSa, hDSb, hS, hA, hA2, hleBd1⟩
   have hwr : wr.heap.size ≤ wr.heap.size := Nat.le_refl _
   try dsimp only at hi0 hNSa hDSb hS hA hA2 hleBd1 ⊢
   have hXwnd1 := fun k9 hk9 => NdP.ltX hNSa (k := k9) hk9
   have hXwnw1 := fun k9 hk9 => DnP.ltX hDSb (k := k9) hk9
   refine Vrp (Vs (Vid (((iS : Nat) : Int) < ((m2 : Nat) : Int)) (fun h2 => ?_) (fun h2 => ?_)))
   ·refine VC_skip (Vn (Vs (VC_block (Vrp (Vs (Vr (Vp 2 ?_)))))))
    obtain ⟨sb1, so1, rfl, hlbsb1⟩ := hA2.open (by first | (simp only [iL_length]; omega) | (rw [flat_len opc_len]; omega) | omega)
    refine VL_index (d := 40) (b := sb1) (o := so1) (len := m2) (sz := 12) (m := ((iS : Nat) : Int)) (by kernel_rfl) (by kernel_rfl) iS (by rfl) (by omega) (so1 + iS * 12) (by omega) ?_
    obtain ⟨y1, hy1⟩ : ∃ x, os[iS]? = some x := ⟨_, List.getElem?_eq_getElem (by have hq9 : os.length = m2 := hos; omega)⟩
    refine Vla 3 (t := 34) (a := ⟨sb1, so1 + iS * 12, none⟩) (v := .agg #[I6 y1.d, I6 y1.p, I6 y1.v, I6 y1.c, I6 y1.k.kind, I6 y1.k.peak, I6 y1.k.early, I6 y1.k.whole, I6 y1.k.burst, I6 y1.k.least, I6 y1.t, I6 y1.clp]) (Sl.flatAgg (sz := 12) hA2 opc_len hy1 0 12 (by kernel_rfl) (by decide) _ (by first | rfl | omega)) ?_
    have hzl2 := NdP.lt hNSa
    have hzl3 := DnP.lt hDSb
    have hzs6 := hS.size
    have hzk1 := hleBd1
    have hzk2 := hwr
    refine Vx 4 34 #[I6 0, I6 0, I6 0, I6 0, I6 0, I6 0, I6 0, I6 0, I6 0, I6 0, I6 0, I6 0] ?_
    intro b1 w6 hn1
    replace hNSa := NdP.no hNSa (hn1.step No)
    replace hDSb := DnP.no hDSb (hn1.step No)
    replace hS := Step.trans hS (hn1.step No)
    replace hA := hA.no (hn1.step No)
    replace hA2 := hA2.no (hn1.step No)
    replace hleBd1 := Nat.le_trans hleBd1 (hn1.step No).size
    replace hwr := Nat.le_trans hwr (hn1.step No).size
    have ho1 := hn1.own
    have hzhn1 := hn1.size
    have hqhn1 := hn1.eqb
    refine Vst 5 (o := 0) [I6 y1.d, I6 y1.p, I6 y1.v, I6 y1.c, I6 y1.k.kind, I6 y1.k.peak, I6 y1.k.early, I6 y1.k.whole, I6 y1.k.burst, I6 y1.k.least, I6 y1.t, I6 y1.clp] ho1 #[I6 y1.d, I6 y1.p, I6 y1.v, I6 y1.c, I6 y1.k.kind, I6 y1.k.peak, I6 y1.k.early, I6 y1.k.whole, I6 y1.k.burst, I6 y1.k.least, I6 y1.t, I6 y1.clp] ?_
    intro w7 hw1
    replace hNSa := NdP.blk hNSa ho1 (by decide) hw1.step
    replace hDSb := DnP.blk hDSb ho1 (by decide) (fun h9 => by first | exact absurd h9 (by decide) | omega) hw1.step
    replace hS := Step.transNew hS hw1.step (fun _ _ _ => by omega)
    replace hA := hA.step hw1.step (fun k hk (hF : k = b1) => by omega)
    replace hA2 := hA2.keepB hw1.step (show ¬ sb1 = b1 by omega)
    replace hleBd1 := Nat.le_trans hleBd1 (hw1.step).size
    replace hwr := Nat.le_trans hwr (hw1.step).size
    have ho2 := hw1.own
    have hzhw1 := hw1.same
    refine Ve (Vn (Vrp (Vs (Vs (Vr (Vl 1 ho2 (Ve (Vn (VC_block (Vrp (Vie y1.d 1 (fun h3 => ?_) (fun h3 => ?_))))))))))))
    ·have hnxb1 : ¬ XS b1 := NdP.nx hNSa ho2 (by decide)
     have hnyb1 : ¬ XT b1 := DnP.nx hDSb ho2 (by decide) (fun h9 => by first | exact absurd h9 (by decide) | omega)
     have hltb1 := ho2.lt
     have hs1 := drew_step w7
     have hs1z : w7.heap.size = w7.drew.heap.size := rfl
     refine Tx 25 (fun k => (fun k => XS k ∨ XT k) k ∨ w7.heap.size ≤ k) [5, 11, 19] [0, 1, 2, 3, 4, 6, 7, 8, 9, 10, 5, 11, 12, 13, 14, 15, 16, 17, 18, 20, 21, 22, 23, 24, 19] ?_
     have hzl4 := NdP.lt hNSa
     have hzl5 := DnP.lt hDSb
     have hzs7 := hS.size
     have hzl6 := ho2.lt
     have hzo1 := hleBd1
     have hzo2 := hwr
     generalize w7.drew = w8 at hs1 hs1z ⊢
     replace hNSa := NdP.no hNSa hs1
     replace hDSb := DnP.no hDSb hs1
     replace hS := Step.trans hS hs1
     replace hA := hA.no hs1
     replace hA2 := hA2.no hs1
     replace hleBd1 := Nat.le_trans hleBd1 (hs1).size
     replace hwr := Nat.le_trans hwr (hs1).size
     replace ho2 := ho2.no hs1
     refine Tp 2 (Tl (fun w9 hr1 => ho2.step hr1 (fun h9 => Or.elim h9 (fun h8 => Or.elim h8 hnxb1 hnyb1) (fun h8 => by (try simp only at h8); omega))) (Tp 1 (Tl (fun w10 hr2 => ho2.step hr2 (fun h9 => Or.elim h9 (fun h8 => Or.elim h8 hnxb1 hnyb1) (fun h8 => by (try simp only at h8); omega))) (Tp 2 (Tl (fun w11 hr3 => ho2.step hr3 (fun h9 => Or.elim h9 (fun h8 => Or.elim h8 hnxb1 hnyb1) (fun h8 => by (try simp only at h8); omega))) (Tp 1 (Tl (fun w12 hr4 => ho2.step hr4 (fun h9 => Or.elim h9 (fun h8 => Or.elim h8 hnxb1 hnyb1) (fun h8 => by (try simp only at h8); omega))) (Th ?_))))))))
     intro w13 hs2
     have hzhs2 := hs2.size
     replace hNSa := NdP.no hNSa hs2
     replace hDSb := DnP.no hDSb hs2
     replace hS := Step.trans hS hs2
     replace hA := hA.no hs2
     replace hA2 := hA2.no hs2
     replace hleBd1 := Nat.le_trans hleBd1 (hs2).size
     replace hwr := Nat.le_trans hwr (hs2).size
     replace ho2 := ho2.no hs2
     have hzl7 := NdP.lt hNSa
     have hzl8 := DnP.lt hDSb
     have hzs8 := hS.size
     have hzl9 := ho2.lt
     refine Tc Tryz.call8 (ncheck (hNSa) y1.p y1.v y1.c y1.k) ?_ ?_
     ·rintro _ w14 ⟨rfl, hc6⟩
      exact Step.mono hc6 TDaiaa
     rintro _ w14 ⟨rfl, hc6⟩
     have hzhc6 := (hc6).size
     replace hNSa := NdP.no hNSa hc6
     replace hDSb := DnP.no hDSb hc6
     replace hS := Step.trans hS hc6
     replace hA := hA.no hc6
     replace hA2 := hA2.no hc6
     replace hleBd1 := Nat.le_trans hleBd1 (hc6).size
     replace hwr := Nat.le_trans hwr (hc6).size
     replace ho2 := ho2.no hc6
     refine Th ?_
     intro w15 hs3
     have hzhs3 := hs3.size
     replace hNSa := NdP.no hNSa hs3
     replace hDSb := DnP.no hDSb hs3
     replace hS := Step.trans hS hs3
     replace hA := hA.no hs3
     replace hA2 := hA2.no hs3
     replace hleBd1 := Nat.le_trans hleBd1 (hs3).size
     replace hwr := Nat.le_trans hwr (hs3).size
     replace ho2 := ho2.no hs3
     have hzl10 := NdP.lt hNSa
     have hzl11 := DnP.lt hDSb
     have hzs9 := hS.size
     have hzl12 := ho2.lt
     refine Tc Tryz.call9 (ddcheck hDSb y1.p y1.v y1.c y1.k) ?_ ?_
     ·rintro _ w16 ⟨rfl, hc7⟩
      exact Step.mono hc7 TDaiaa
     rintro _ w16 ⟨rfl, hc7⟩
     have hzhc7 := (hc7).size
     replace hNSa := NdP.no hNSa hc7
     replace hDSb := DnP.no hDSb hc7
     replace hS := Step.trans hS hc7
     replace hA := hA.no hc7
     replace hA2 := hA2.no hc7
     replace hleBd1 := Nat.le_trans hleBd1 (hc7).size
     replace hwr := Nat.le_trans hwr (hc7).size
     replace ho2 := ho2.no hc7
     refine Tp 2 ?_
     have hg2 : ((chkN (roomsN rs) LS y1.p y1.v y1.c y1.k) == (chkN (roomsN rs) LS y1.p y1.v y1.c y1.k)) = true := (by rw [beq_iff_eq])
     refine Tq [(13, Bo ((chkN (roomsN rs) LS y1.p y1.v y1.c y1.k) == (chkN (roomsN rs) LS y1.p y1.v y1.c y1.k))), (12, Bo ((chkN (roomsN rs) LS y1.p y1.v y1.c y1.k) == (chkN (roomsN rs) LS y1.p y1.v y1.c y1.k)))] [(13, Bo true), (12, Bo true)] (by simp only [hg2, Bool.not_true, Bool.not_false]) (Tp 2 (Tl (fun w17 hr5 => ho2.step hr5 (fun h9 => Or.elim h9 (fun h8 => Or.elim h8 hnxb1 hnyb1) (fun h8 => by (try simp only at h8); omega))) (Tp 1 (Tl (fun w18 hr6 => ho2.step hr6 (fun h9 => Or.elim h9 (fun h8 => Or.elim h8 hnxb1 hnyb1) (fun h8 => by (try simp only at h8); omega))) (Tp 2 (Tl (fun w19 hr7 => ho2.step hr7 (fun h9 => Or.elim h9 (fun h8 => Or.elim h8 hnxb1 hnyb1) (fun h8 => by (try simp only at h8); omega))) (Tp 1 (Tl (fun w20 hr8 => ho2.step hr8 (fun h9 => Or.elim h9 (fun h8 => Or.elim h8 hnxb1 hnyb1) (fun h8 => by (try simp only at h8); omega))) (Th ?_)))))))))
     intro w21 hs4
     have hzhs4 := hs4.size
     replace hNSa := NdP.no hNSa hs4
     replace hDSb := DnP.no hDSb hs4
     replace hS := Step.trans hS hs4
     replace hA := hA.no hs4
     replace hA2 := hA2.no hs4
     replace hleBd1 := Nat.le_trans hleBd1 (hs4).size
     replace hwr := Nat.le_trans hwr (hs4).size
     replace ho2 := ho2.no hs4
     have hzl13 := NdP.lt hNSa
     have hzl14 := DnP.lt hDSb
     have hzs10 := hS.size
     have hzl15 := ho2.lt
     refine Tc Tryz.call10 (ntake hNSa (by omega) y1.p y1.v y1.c y1.k) ?_ ?_
     ·rintro _ w22 ⟨rfl, X3, hN2, hXg2, hc8⟩
      exact Step.mono (Step.mono (G := fun k => XS k ∨ XT k) hc8 (fun i9 hi9 => Or.inl hi9)) TDaiaa
     rintro _ w22 ⟨rfl, X3, hN2, hXg2, hc8⟩
     have hzhc8 := (Step.mono (G := fun k => XS k ∨ XT k) hc8 (fun i9 hi9 => Or.inl hi9)).size
     replace hDSb := DnP.byN hDSb hNSa hc8
     replace hS := Step.transNew hS hc8 (fun i9 hi9 hX9 => by have h8 := NdP.low hNSa hX9; omega)
     replace hA := hA.step hc8 (fun k9 hk9 hX9 => by have h8 := NdP.low hNSa hX9; omega)
     replace hA2 := hA2.keepB hc8 (fun hX9 => by have h8 := NdP.low hNSa hX9; omega)
     replace hleBd1 := Nat.le_trans hleBd1 (Step.size hc8)
     replace hwr := Nat.le_trans hwr (Step.size hc8)
     replace ho2 := ho2.step hc8 (NdP.nx hNSa ho2 (by decide))
     have hXwnd1 := fun k9 hk9 => NdP.ltX hN2 (k := k9) hk9
     have hszhN2 := Nat.le_refl w22.heap.size
     refine VT_end ?_
     intro w23 hs5
     replace hDSb := DnP.no hDSb hs5
     replace hS := Step.trans hS hs5
     replace hA := hA.no hs5
     replace hA2 := hA2.no hs5
     replace hleBd1 := Nat.le_trans hleBd1 (hs5).size
     replace hwr := Nat.le_trans hwr (hs5).size
     replace ho2 := ho2.no hs5
     replace hN2 := NdP.no hN2 hs5
     replace hszhN2 := Nat.le_trans hszhN2 (hs5).size
     refine VL_keep [1, 5, 6, 34, 35, 59, 66, 68, 70, 65] [(1, .slice (some ⟨sb1, so1, none⟩) m2 c2), (5, Pt nd1 0), (6, Pt nw1 0), (34, I6 ((m2 : Nat) : Int)), (35, I6 ((iS : Nat) : Int)), (59, Bo true), (66, Pt nw1 0), (68, .agg #[I6 y1.p, I6 y1.v, I6 y1.c]), (70, .agg #[I6 y1.k.kind, I6 y1.k.peak, I6 y1.k.early, I6 y1.k.whole, I6 y1.k.burst, I6 y1.k.least]), (65, I6 (chkN (roomsN rs) LS y1.p y1.v y1.c y1.k))] (by kernel_rfl) ?_
     have hzl16 := DnP.lt hDSb
     have hzs11 := hS.size
     have hzl17 := ho2.lt
     have hzl18 := NdP.lt hN2
     refine VL_call (d := 71) (f := 11) (args := #[Pt nw1 0, .agg #[I6 y1.p, I6 y1.v, I6 y1.c], .agg #[I6 y1.k.kind, I6 y1.k.peak, I6 y1.k.early, I6 y1.k.whole, I6 y1.k.burst, I6 y1.k.least]]) (by kernel_rfl) (by kernel_rfl) (by kernel_rfl) Tryz.call11 (ddtake_any hDSb y1.p y1.v y1.c y1.k) ?_
     rintro _ w24 ⟨rfl, X4, hD2, hXg3, hc9⟩
     have hzhc9 := (hc9).size
     replace hS := Step.transNew hS hc9 (fun i9 hi9 hX9 => by have h8 := DnP.low hDSb hX9; omega)
     replace hA := hA.step hc9 (fun k9 hk9 hX9 => by have h8 := DnP.low hDSb hX9; omega)
     replace hA2 := hA2.keepB hc9 (fun hX9 => by have h8 := DnP.low hDSb hX9; omega)
     replace hleBd1 := Nat.le_trans hleBd1 (Step.size hc9)
     replace hwr := Nat.le_trans hwr (Step.size hc9)
     replace ho2 := ho2.step hc9 (DnP.nx hDSb ho2 (by decide) (fun h9 => by first | exact absurd h9 (by decide) | omega))
     replace hN2 := NdP.byD hN2 hDSb hc9
     replace hszhN2 := Nat.le_trans hszhN2 (Step.size hc9)
     have hXwnw1 := fun k9 hk9 => DnP.ltX hD2 (k := k9) hk9
     have hszhD2 := Nat.le_refl w24.heap.size
     refine Ve (VQ_block_normal (Vn (Vs (Vr (VL_pure 3 [1, 5, 6, 34, 35, 134] [(1, .slice (some ⟨sb1, so1, none⟩) m2 c2), (5, Pt nd1 0), (6, Pt nw1 0), (34, I6 ((m2 : Nat) : Int)), (35, I6 ((iS : Nat) : Int)), (134, Bo (!((chkN (roomsN rs) LS y1.p y1.v y1.c y1.k) == (chkN (roomsN rs) LS y1.p y1.v y1.c y1.k))))] (by kernel_rfl) rfl (VL_known ((chkN (roomsN rs) LS y1.p y1.v y1.c y1.k) == (chkN (roomsN rs) LS y1.p y1.v y1.c y1.k)) (fun bV => [(1, .slice (some ⟨sb1, so1, none⟩) m2 c2), (5, Pt nd1 0), (6, Pt nw1 0), (34, I6 ((m2 : Nat) : Int)), (35, I6 ((iS : Nat) : Int)), (134, Bo (!bV))]) true rfl (by rw [beq_iff_eq]) (Vp 5 ?_)))))))
     have hzs12 := hS.size
     have hzl19 := ho2.lt
     have hzl20 := NdP.lt hN2
     have hzl21 := DnP.lt hD2
     refine Vc 5 Tryz.call18 (dsame hN2 hD2) ?_
     rintro _ w25 ⟨rfl, hc10⟩
     replace hS := Step.trans hS hc10
     replace hA := hA.no hc10
     replace hA2 := hA2.no hc10
     replace hleBd1 := Nat.le_trans hleBd1 (hc10).size
     replace hwr := Nat.le_trans hwr (hc10).size
     replace ho2 := ho2.no hc10
     replace hN2 := NdP.no hN2 hc10
     replace hszhN2 := Nat.le_trans hszhN2 (hc10).size
     replace hD2 := DnP.no hD2 hc10
     replace hszhD2 := Nat.le_trans hszhD2 (hc10).size
     refine Ve (Vn (Vf (VC_skip (VQ_block_normal (Vn (Vr (Vp 1 ?_)))))))
     have he1 : IntKind.wrap .i64 (((iS : Nat) : Int) + 1) = ((iS + 1 : Nat) : Int) := TDaiab
     refine Vq 140 (I6 (IntKind.wrap .i64 (((iS : Nat) : Int) + 1))) (I6 ((iS + 1 : Nat) : Int)) (by rw [he1]) (Ve (VQ_again ⟨iS + 1, X3, X4, takeN (roomsN rs) LS y1.p y1.v y1.c y1.k⟩ Su ?_ ?_))
     ·exact ⟨by (try dsimp only); omega, hN2, hD2, hS, hA, hA2, hleBd1⟩
     ·(try dsimp only); omega
    ·refine Vrp (Vie y1.d 2 (fun h4 => ?_) (fun h4 => ?_))
     ·have hnxb1 : ¬ XS b1 := NdP.nx hNSa ho2 (by decide)
      have hnyb1 : ¬ XT b1 := DnP.nx hDSb ho2 (by decide) (fun h9 => by first | exact absurd h9 (by decide) | omega)
      have hltb1 := ho2.lt
      have hs6 := drew_step w7
      have hs6z : w7.heap.size = w7.drew.heap.size := rfl
      refine Tx 11 (fun k => (fun k => XS k ∨ XT k) k ∨ w7.heap.size ≤ k) [5] [0, 1, 2, 3, 4, 6, 7, 8, 9, 10, 5] ?_
      have hzl22 := NdP.lt hNSa
      have hzl23 := DnP.lt hDSb
      have hzs13 := hS.size
      have hzl24 := ho2.lt
      have hzo3 := hleBd1
      have hzo4 := hwr
      generalize w7.drew = w26 at hs6 hs6z ⊢
      replace hNSa := NdP.no hNSa hs6
      replace hDSb := DnP.no hDSb hs6
      replace hS := Step.trans hS hs6
      replace hA := hA.no hs6
      replace hA2 := hA2.no hs6
      replace hleBd1 := Nat.le_trans hleBd1 (hs6).size
      replace hwr := Nat.le_trans hwr (hs6).size
      replace ho2 := ho2.no hs6
      refine Tp 2 (Tl (fun w27 hr9 => ho2.step hr9 (fun h9 => Or.elim h9 (fun h8 => Or.elim h8 hnxb1 hnyb1) (fun h8 => by (try simp only at h8); omega))) (Tp 1 (Tl (fun w28 hr10 => ho2.step hr10 (fun h9 => Or.elim h9 (fun h8 => Or.elim h8 hnxb1 hnyb1) (fun h8 => by (try simp only at h8); omega))) (Tp 2 (Tl (fun w29 hr11 => ho2.step hr11 (fun h9 => Or.elim h9 (fun h8 => Or.elim h8 hnxb1 hnyb1) (fun h8 => by (try simp only at h8); omega))) (Tp 1 (Tl (fun w30 hr12 => ho2.step hr12 (fun h9 => Or.elim h9 (fun h8 => Or.elim h8 hnxb1 hnyb1) (fun h8 => by (try simp only at h8); omega))) (Th ?_))))))))
      intro w31 hs7
      have hzhs7 := hs7.size
      replace hNSa := NdP.no hNSa hs7
      replace hDSb := DnP.no hDSb hs7
      replace hS := Step.trans hS hs7
      replace hA := hA.no hs7
      replace hA2 := hA2.no hs7
      replace hleBd1 := Nat.le_trans hleBd1 (hs7).size
      replace hwr := Nat.le_trans hwr (hs7).size
      replace ho2 := ho2.no hs7
      have hzl25 := NdP.lt hNSa
      have hzl26 := DnP.lt hDSb
      have hzs14 := hS.size
      have hzl27 := ho2.lt
      refine Tc Tryz.call12 (nchange hNSa y1.p y1.v y1.c y1.k) ?_ ?_
      ·rintro _ w32 ⟨rfl, X5, hN3, hXg4, hc11⟩
       exact Step.mono (Step.mono (G := fun k => XS k ∨ XT k) hc11 (fun i9 hi9 => Or.inl hi9)) TDaiaa
      rintro _ w32 ⟨rfl, X5, hN3, hXg4, hc11⟩
      have hzhc11 := (Step.mono (G := fun k => XS k ∨ XT k) hc11 (fun i9 hi9 => Or.inl hi9)).size
      replace hDSb := DnP.byN hDSb hNSa hc11
      replace hS := Step.transNew hS hc11 (fun i9 hi9 hX9 => by have h8 := NdP.low hNSa hX9; omega)
      replace hA := hA.step hc11 (fun k9 hk9 hX9 => by have h8 := NdP.low hNSa hX9; omega)
      replace hA2 := hA2.keepB hc11 (fun hX9 => by have h8 := NdP.low hNSa hX9; omega)
      replace hleBd1 := Nat.le_trans hleBd1 (Step.size hc11)
      replace hwr := Nat.le_trans hwr (Step.size hc11)
      replace ho2 := ho2.step hc11 (NdP.nx hNSa ho2 (by decide))
      have hXwnd1 := fun k9 hk9 => NdP.ltX hN3 (k := k9) hk9
      have hszhN3 := Nat.le_refl w32.heap.size
      refine VT_end ?_
      intro w33 hs8
      replace hDSb := DnP.no hDSb hs8
      replace hS := Step.trans hS hs8
      replace hA := hA.no hs8
      replace hA2 := hA2.no hs8
      replace hleBd1 := Nat.le_trans hleBd1 (hs8).size
      replace hwr := Nat.le_trans hwr (hs8).size
      replace ho2 := ho2.no hs8
      replace hN3 := NdP.no hN3 hs8
      replace hszhN3 := Nat.le_trans hszhN3 (hs8).size
      refine VL_keep [1, 5, 6, 34, 35, 82, 84, 86, 81] [(1, .slice (some ⟨sb1, so1, none⟩) m2 c2), (5, Pt nd1 0), (6, Pt nw1 0), (34, I6 ((m2 : Nat) : Int)), (35, I6 ((iS : Nat) : Int)), (82, Pt nw1 0), (84, .agg #[I6 y1.p, I6 y1.v, I6 y1.c]), (86, .agg #[I6 y1.k.kind, I6 y1.k.peak, I6 y1.k.early, I6 y1.k.whole, I6 y1.k.burst, I6 y1.k.least]), (81, I6 (chgK (roomsN rs) LS y1.p y1.v y1.c y1.k))] (by kernel_rfl) ?_
      have hzl28 := DnP.lt hDSb
      have hzs15 := hS.size
      have hzl29 := ho2.lt
      have hzl30 := NdP.lt hN3
      refine VL_call (d := 87) (f := 13) (args := #[Pt nw1 0, .agg #[I6 y1.p, I6 y1.v, I6 y1.c], .agg #[I6 y1.k.kind, I6 y1.k.peak, I6 y1.k.early, I6 y1.k.whole, I6 y1.k.burst, I6 y1.k.least]]) (by kernel_rfl) (by kernel_rfl) (by kernel_rfl) Tryz.call13 (ddchange hDSb y1.p y1.v y1.c y1.k) ?_
      rintro _ w34 ⟨rfl, X6, hD3, hXg5, hc12⟩
      have hzhc12 := (hc12).size
      replace hS := Step.transNew hS hc12 (fun i9 hi9 hX9 => by have h8 := DnP.low hDSb hX9; omega)
      replace hA := hA.step hc12 (fun k9 hk9 hX9 => by have h8 := DnP.low hDSb hX9; omega)
      replace hA2 := hA2.keepB hc12 (fun hX9 => by have h8 := DnP.low hDSb hX9; omega)
      replace hleBd1 := Nat.le_trans hleBd1 (Step.size hc12)
      replace hwr := Nat.le_trans hwr (Step.size hc12)
      replace ho2 := ho2.step hc12 (DnP.nx hDSb ho2 (by decide) (fun h9 => by first | exact absurd h9 (by decide) | omega))
      replace hN3 := NdP.byD hN3 hDSb hc12
      replace hszhN3 := Nat.le_trans hszhN3 (Step.size hc12)
      have hXwnw1 := fun k9 hk9 => DnP.ltX hD3 (k := k9) hk9
      have hszhD3 := Nat.le_refl w34.heap.size
      refine Ve (VQ_block_normal (Vn (Vs (Vr (VL_pure 3 [1, 5, 6, 34, 35, 134] [(1, .slice (some ⟨sb1, so1, none⟩) m2 c2), (5, Pt nd1 0), (6, Pt nw1 0), (34, I6 ((m2 : Nat) : Int)), (35, I6 ((iS : Nat) : Int)), (134, Bo (!((chgK (roomsN rs) LS y1.p y1.v y1.c y1.k) == (chgK (roomsN rs) LS y1.p y1.v y1.c y1.k))))] (by kernel_rfl) rfl (VL_known ((chgK (roomsN rs) LS y1.p y1.v y1.c y1.k) == (chgK (roomsN rs) LS y1.p y1.v y1.c y1.k)) (fun bV => [(1, .slice (some ⟨sb1, so1, none⟩) m2 c2), (5, Pt nd1 0), (6, Pt nw1 0), (34, I6 ((m2 : Nat) : Int)), (35, I6 ((iS : Nat) : Int)), (134, Bo (!bV))]) true rfl (by rw [beq_iff_eq]) (Vp 5 ?_)))))))
      have hzs16 := hS.size
      have hzl31 := ho2.lt
      have hzl32 := NdP.lt hN3
      have hzl33 := DnP.lt hD3
      refine Vc 5 Tryz.call18 (dsame hN3 hD3) ?_
      rintro _ w35 ⟨rfl, hc13⟩
      replace hS := Step.trans hS hc13
      replace hA := hA.no hc13
      replace hA2 := hA2.no hc13
      replace hleBd1 := Nat.le_trans hleBd1 (hc13).size
      replace hwr := Nat.le_trans hwr (hc13).size
      replace ho2 := ho2.no hc13
      replace hN3 := NdP.no hN3 hc13
      replace hszhN3 := Nat.le_trans hszhN3 (hc13).size
      replace hD3 := DnP.no hD3 hc13
      replace hszhD3 := Nat.le_trans hszhD3 (hc13).size
      refine Ve (Vn (Vf (VC_skip (VQ_block_normal (Vn (Vr (Vp 1 ?_)))))))
      have he2 : IntKind.wrap .i64 (((iS : Nat) : Int) + 1) = ((iS + 1 : Nat) : Int) := TDaiab
      refine Vq 140 (I6 (IntKind.wrap .i64 (((iS : Nat) : Int) + 1))) (I6 ((iS + 1 : Nat) : Int)) (by rw [he2]) (Ve (VQ_again ⟨iS + 1, X5, X6, chgN (roomsN rs) LS y1.p y1.v y1.c y1.k⟩ Su ?_ ?_))
      ·exact ⟨by (try dsimp only); omega, hN3, hD3, hS, hA, hA2, hleBd1⟩
      ·(try dsimp only); omega
     ·refine Vrp (Vie y1.d 3 (fun h5 => ?_) (fun h5 => ?_))
      ·have hnxb1 : ¬ XS b1 := NdP.nx hNSa ho2 (by decide)
       have hnyb1 : ¬ XT b1 := DnP.nx hDSb ho2 (by decide) (fun h9 => by first | exact absurd h9 (by decide) | omega)
       have hltb1 := ho2.lt
       have hs9 := drew_step w7
       have hs9z : w7.heap.size = w7.drew.heap.size := rfl
       refine Tx 7 (fun k => (fun k => XS k ∨ XT k) k ∨ w7.heap.size ≤ k) [3] [0, 1, 2, 4, 5, 6, 3] ?_
       have hzl34 := NdP.lt hNSa
       have hzl35 := DnP.lt hDSb
       have hzs17 := hS.size
       have hzl36 := ho2.lt
       have hzo5 := hleBd1
       have hzo6 := hwr
       generalize w7.drew = w36 at hs9 hs9z ⊢
       replace hNSa := NdP.no hNSa hs9
       replace hDSb := DnP.no hDSb hs9
       replace hS := Step.trans hS hs9
       replace hA := hA.no hs9
       replace hA2 := hA2.no hs9
       replace hleBd1 := Nat.le_trans hleBd1 (hs9).size
       replace hwr := Nat.le_trans hwr (hs9).size
       replace ho2 := ho2.no hs9
       refine Tp 2 (Tl (fun w37 hr13 => ho2.step hr13 (fun h9 => Or.elim h9 (fun h8 => Or.elim h8 hnxb1 hnyb1) (fun h8 => by (try simp only at h8); omega))) (Tp 2 (Tl (fun w38 hr14 => ho2.step hr14 (fun h9 => Or.elim h9 (fun h8 => Or.elim h8 hnxb1 hnyb1) (fun h8 => by (try simp only at h8); omega))) (Th ?_))))
       intro w39 hs10
       have hzhs10 := hs10.size
       replace hNSa := NdP.no hNSa hs10
       replace hDSb := DnP.no hDSb hs10
       replace hS := Step.trans hS hs10
       replace hA := hA.no hs10
       replace hA2 := hA2.no hs10
       replace hleBd1 := Nat.le_trans hleBd1 (hs10).size
       replace hwr := Nat.le_trans hwr (hs10).size
       replace ho2 := ho2.no hs10
       have hzl37 := NdP.lt hNSa
       have hzl38 := DnP.lt hDSb
       have hzs18 := hS.size
       have hzl39 := ho2.lt
       refine Tc Tryz.call14 (ndrop hNSa y1.p y1.v y1.c) ?_ ?_
       ·rintro _ w40 ⟨rfl, X7, hN4, hXg6, hc14⟩
        exact Step.mono (Step.mono (G := fun k => XS k ∨ XT k) hc14 (fun i9 hi9 => Or.inl hi9)) TDaiaa
       rintro _ w40 ⟨rfl, X7, hN4, hXg6, hc14⟩
       have hzhc14 := (Step.mono (G := fun k => XS k ∨ XT k) hc14 (fun i9 hi9 => Or.inl hi9)).size
       replace hDSb := DnP.byN hDSb hNSa hc14
       replace hS := Step.transNew hS hc14 (fun i9 hi9 hX9 => by have h8 := NdP.low hNSa hX9; omega)
       replace hA := hA.step hc14 (fun k9 hk9 hX9 => by have h8 := NdP.low hNSa hX9; omega)
       replace hA2 := hA2.keepB hc14 (fun hX9 => by have h8 := NdP.low hNSa hX9; omega)
       replace hleBd1 := Nat.le_trans hleBd1 (Step.size hc14)
       replace hwr := Nat.le_trans hwr (Step.size hc14)
       replace ho2 := ho2.step hc14 (NdP.nx hNSa ho2 (by decide))
       have hXwnd1 := fun k9 hk9 => NdP.ltX hN4 (k := k9) hk9
       have hszhN4 := Nat.le_refl w40.heap.size
       refine VT_end ?_
       intro w41 hs11
       replace hDSb := DnP.no hDSb hs11
       replace hS := Step.trans hS hs11
       replace hA := hA.no hs11
       replace hA2 := hA2.no hs11
       replace hleBd1 := Nat.le_trans hleBd1 (hs11).size
       replace hwr := Nat.le_trans hwr (hs11).size
       replace ho2 := ho2.no hs11
       replace hN4 := NdP.no hN4 hs11
       replace hszhN4 := Nat.le_trans hszhN4 (hs11).size
       refine VL_keep [1, 5, 6, 34, 35, 95, 97, 94] [(1, .slice (some ⟨sb1, so1, none⟩) m2 c2), (5, Pt nd1 0), (6, Pt nw1 0), (34, I6 ((m2 : Nat) : Int)), (35, I6 ((iS : Nat) : Int)), (95, Pt nw1 0), (97, .agg #[I6 y1.p, I6 y1.v, I6 y1.c]), (94, Bo ((findC LS y1.p y1.v y1.c).isSome))] (by kernel_rfl) ?_
       have hzl40 := DnP.lt hDSb
       have hzs19 := hS.size
       have hzl41 := ho2.lt
       have hzl42 := NdP.lt hN4
       refine VL_call (d := 98) (f := 15) (args := #[Pt nw1 0, .agg #[I6 y1.p, I6 y1.v, I6 y1.c]]) (by kernel_rfl) (by kernel_rfl) (by kernel_rfl) Tryz.call15 (dddrop hDSb y1.p y1.v y1.c) ?_
       rintro _ w42 ⟨rfl, X8, hD4, hXg7, hc15⟩
       have hzhc15 := (hc15).size
       replace hS := Step.transNew hS hc15 (fun i9 hi9 hX9 => by have h8 := DnP.low hDSb hX9; omega)
       replace hA := hA.step hc15 (fun k9 hk9 hX9 => by have h8 := DnP.low hDSb hX9; omega)
       replace hA2 := hA2.keepB hc15 (fun hX9 => by have h8 := DnP.low hDSb hX9; omega)
       replace hleBd1 := Nat.le_trans hleBd1 (Step.size hc15)
       replace hwr := Nat.le_trans hwr (Step.size hc15)
       replace ho2 := ho2.step hc15 (DnP.nx hDSb ho2 (by decide) (fun h9 => by first | exact absurd h9 (by decide) | omega))
       replace hN4 := NdP.byD hN4 hDSb hc15
       replace hszhN4 := Nat.le_trans hszhN4 (Step.size hc15)
       have hXwnw1 := fun k9 hk9 => DnP.ltX hD4 (k := k9) hk9
       have hszhD4 := Nat.le_refl w42.heap.size
       refine Ve (VQ_block_normal (Vn (Vs (Vr (VL_pure 3 [1, 5, 6, 34, 35, 134] [(1, .slice (some ⟨sb1, so1, none⟩) m2 c2), (5, Pt nd1 0), (6, Pt nw1 0), (34, I6 ((m2 : Nat) : Int)), (35, I6 ((iS : Nat) : Int)), (134, Bo (!(((findC LS y1.p y1.v y1.c).isSome) == ((findC LS y1.p y1.v y1.c).isSome))))] (by kernel_rfl) rfl (VL_known (((findC LS y1.p y1.v y1.c).isSome) == ((findC LS y1.p y1.v y1.c).isSome)) (fun bV => [(1, .slice (some ⟨sb1, so1, none⟩) m2 c2), (5, Pt nd1 0), (6, Pt nw1 0), (34, I6 ((m2 : Nat) : Int)), (35, I6 ((iS : Nat) : Int)), (134, Bo (!bV))]) true rfl (by rw [beq_iff_eq]) (Vp 5 ?_)))))))
       have hzs20 := hS.size
       have hzl43 := ho2.lt
       have hzl44 := NdP.lt hN4
       have hzl45 := DnP.lt hD4
       refine Vc 5 Tryz.call18 (dsame hN4 hD4) ?_
       rintro _ w43 ⟨rfl, hc16⟩
       replace hS := Step.trans hS hc16
       replace hA := hA.no hc16
       replace hA2 := hA2.no hc16
       replace hleBd1 := Nat.le_trans hleBd1 (hc16).size
       replace hwr := Nat.le_trans hwr (hc16).size
       replace ho2 := ho2.no hc16
       replace hN4 := NdP.no hN4 hc16
       replace hszhN4 := Nat.le_trans hszhN4 (hc16).size
       replace hD4 := DnP.no hD4 hc16
       replace hszhD4 := Nat.le_trans hszhD4 (hc16).size
       refine Ve (Vn (Vf (VC_skip (VQ_block_normal (Vn (Vr (Vp 1 ?_)))))))
       have he3 : IntKind.wrap .i64 (((iS : Nat) : Int) + 1) = ((iS + 1 : Nat) : Int) := TDaiab
       refine Vq 140 (I6 (IntKind.wrap .i64 (((iS : Nat) : Int) + 1))) (I6 ((iS + 1 : Nat) : Int)) (by rw [he3]) (Ve (VQ_again ⟨iS + 1, X7, X8, delC LS y1.p y1.v y1.c⟩ Su ?_ ?_))
       ·exact ⟨by (try dsimp only); omega, hN4, hD4, hS, hA, hA2, hleBd1⟩
       ·(try dsimp only); omega
      ·refine Vrp (Vie y1.d 4 (fun h6 => ?_) (fun h6 => ?_))
       ·refine Vs (Vr (Vl 2 ho2 (Vl 4 ho2 (Vl 6 ho2 ?_))))
        have hzl46 := NdP.lt hNSa
        have hzl47 := DnP.lt hDSb
        have hzs21 := hS.size
        have hzl48 := ho2.lt
        refine Vc 7 Tryz.call16 (nverdict hNSa y1.p y1.v y1.c y1.t y1.clp) ?_
        rintro _ w44 ⟨rfl, X9, hN5, hXg8, hc17⟩
        have hzhc17 := (hc17).size
        replace hDSb := DnP.byN hDSb hNSa hc17
        replace hS := Step.transNew hS hc17 (fun i9 hi9 hX9 => by have h8 := NdP.low hNSa hX9; omega)
        replace hA := hA.step hc17 (fun k9 hk9 hX9 => by have h8 := NdP.low hNSa hX9; omega)
        replace hA2 := hA2.keepB hc17 (fun hX9 => by have h8 := NdP.low hNSa hX9; omega)
        replace hleBd1 := Nat.le_trans hleBd1 (Step.size hc17)
        replace hwr := Nat.le_trans hwr (Step.size hc17)
        replace ho2 := ho2.step hc17 (NdP.nx hNSa ho2 (by decide))
        have hXwnd1 := fun k9 hk9 => NdP.ltX hN5 (k := k9) hk9
        have hszhN5 := Nat.le_refl w44.heap.size
        refine Ve (Vn (Vs (Vr (Vl 2 ho2 (Vl 4 ho2 (Vl 6 ho2 ?_))))))
        have hzl49 := DnP.lt hDSb
        have hzs22 := hS.size
        have hzl50 := ho2.lt
        have hzl51 := NdP.lt hN5
        refine Vc 7 Tryz.call17 (ddverdict hDSb y1.p y1.v y1.c y1.t y1.clp) ?_
        rintro _ w45 ⟨rfl, X10, hD5, hXg9, hc18⟩
        have hzhc18 := (hc18).size
        replace hS := Step.transNew hS hc18 (fun i9 hi9 hX9 => by have h8 := DnP.low hDSb hX9; omega)
        replace hA := hA.step hc18 (fun k9 hk9 hX9 => by have h8 := DnP.low hDSb hX9; omega)
        replace hA2 := hA2.keepB hc18 (fun hX9 => by have h8 := DnP.low hDSb hX9; omega)
        replace hleBd1 := Nat.le_trans hleBd1 (Step.size hc18)
        replace hwr := Nat.le_trans hwr (Step.size hc18)
        replace ho2 := ho2.step hc18 (DnP.nx hDSb ho2 (by decide) (fun h9 => by first | exact absurd h9 (by decide) | omega))
        replace hN5 := NdP.byD hN5 hDSb hc18
        replace hszhN5 := Nat.le_trans hszhN5 (Step.size hc18)
        have hXwnw1 := fun k9 hk9 => DnP.ltX hD5 (k := k9) hk9
        have hszhD5 := Nat.le_refl w45.heap.size
        refine Ve (Vn (Vr (Vp 4 (Vkn 127 ((verV LS y1.p y1.v y1.c y1.t y1.clp) == (verV LS y1.p y1.v y1.c y1.t y1.clp)) true (by rw [beq_iff_eq]) (Ve (VQ_block_normal (Vn (Vs (Vr (VL_pure 3 [1, 5, 6, 34, 35, 134] [(1, .slice (some ⟨sb1, so1, none⟩) m2 c2), (5, Pt nd1 0), (6, Pt nw1 0), (34, I6 ((m2 : Nat) : Int)), (35, I6 ((iS : Nat) : Int)), (134, Bo (!(((findC LS y1.p y1.v y1.c).isSome) == ((findC LS y1.p y1.v y1.c).isSome))))] (by kernel_rfl) rfl (VL_known (((findC LS y1.p y1.v y1.c).isSome) == ((findC LS y1.p y1.v y1.c).isSome)) (fun bV => [(1, .slice (some ⟨sb1, so1, none⟩) m2 c2), (5, Pt nd1 0), (6, Pt nw1 0), (34, I6 ((m2 : Nat) : Int)), (35, I6 ((iS : Nat) : Int)), (134, Bo (!bV))]) true rfl (by rw [beq_iff_eq]) (Vp 5 ?_))))))))))))
        have hzs23 := hS.size
        have hzl52 := ho2.lt
        have hzl53 := NdP.lt hN5
        have hzl54 := DnP.lt hD5
        refine Vc 5 Tryz.call18 (dsame hN5 hD5) ?_
        rintro _ w46 ⟨rfl, hc19⟩
        replace hS := Step.trans hS hc19
        replace hA := hA.no hc19
        replace hA2 := hA2.no hc19
        replace hleBd1 := Nat.le_trans hleBd1 (hc19).size
        replace hwr := Nat.le_trans hwr (hc19).size
        replace ho2 := ho2.no hc19
        replace hN5 := NdP.no hN5 hc19
        replace hszhN5 := Nat.le_trans hszhN5 (hc19).size
        replace hD5 := DnP.no hD5 hc19
        replace hszhD5 := Nat.le_trans hszhD5 (hc19).size
        refine Ve (Vn (Vf (VC_skip (VQ_block_normal (Vn (Vr (Vp 1 ?_)))))))
        have he4 : IntKind.wrap .i64 (((iS : Nat) : Int) + 1) = ((iS + 1 : Nat) : Int) := TDaiab
        refine Vq 140 (I6 (IntKind.wrap .i64 (((iS : Nat) : Int) + 1))) (I6 ((iS + 1 : Nat) : Int)) (by rw [he4]) (Ve (VQ_again ⟨iS + 1, X9, X10, verN LS y1.p y1.v y1.c y1.t y1.clp⟩ Su ?_ ?_))
        ·exact ⟨by (try dsimp only); omega, hN5, hD5, hS, hA, hA2, hleBd1⟩
        ·(try dsimp only); omega
       ·refine VC_skip (VQ_block_normal (Vn (Vs (Vr (Vp 5 ?_)))))
        have hzl55 := NdP.lt hNSa
        have hzl56 := DnP.lt hDSb
        have hzs24 := hS.size
        have hzl57 := ho2.lt
        refine Vc 5 Tryz.call18 (dsame hNSa hDSb) ?_
        rintro _ w47 ⟨rfl, hc20⟩
        replace hNSa := NdP.no hNSa hc20
        replace hDSb := DnP.no hDSb hc20
        replace hS := Step.trans hS hc20
        replace hA := hA.no hc20
        replace hA2 := hA2.no hc20
        replace hleBd1 := Nat.le_trans hleBd1 (hc20).size
        replace hwr := Nat.le_trans hwr (hc20).size
        replace ho2 := ho2.no hc20
        refine Ve (Vn (Vf (VC_skip (VQ_block_normal (Vn (Vr (Vp 1 ?_)))))))
        have he5 : IntKind.wrap .i64 (((iS : Nat) : Int) + 1) = ((iS + 1 : Nat) : Int) := TDaiab
        refine Vq 140 (I6 (IntKind.wrap .i64 (((iS : Nat) : Int) + 1))) (I6 ((iS + 1 : Nat) : Int)) (by rw [he5]) (Ve (VQ_again ⟨iS + 1, XS, XT, LS⟩ Su ?_ ?_))
        ·exact ⟨by (try dsimp only); omega, (NdP.more hNSa (by omega)), hDSb, hS, hA, hA2, hleBd1⟩
        ·(try dsimp only); omega
   ·refine VC_exit (VQ_then_exit (VQ_then_exit (VQ_block_hit (Vn (Vrp (VC_ret (Vr1 (Bo true) ?_)))))))
    exact ⟨rfl, hS⟩

end Go.Proofs.YthchmlidobgkoaaGreat
end
