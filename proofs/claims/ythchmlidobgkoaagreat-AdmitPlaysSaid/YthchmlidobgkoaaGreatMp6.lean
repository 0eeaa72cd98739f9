import Derived.Test.YthchmlidobgkoaaGreatProg
import Derived.Test.YthchmlidobgkoaaGreatMp5
section
/- Layer 20, the document's node: what is asked. -/
set_option linter.unusedVariables false
set_option linter.unusedSimpArgs false
set_option maxRecDepth 100000
set_option maxHeartbeats 4000000
namespace Go.Proofs.YthchmlidobgkoaaGreat
open Go.Vc Go.RowKit
theorem TDa8aa {P : Prop} (h : P := by first | exact ⟨⟨_, rfl⟩, ⟨_, rfl⟩, ⟨_, rfl⟩, trivial⟩ | trivial) : P := h
theorem TDa8ab {P : Prop} (h : P := by rw [wrap_i64 _ (by omega) (by omega)]; omega) : P := h
theorem TDa8ac {P : Prop} (h : P := by unfold befK; rw [Bool.eq_iff_iff]; simp; omega) : P := h

theorem dkright_any (p v c : Int) (w : World) :
  CV Tryz.prog 30 #[.agg #[I6 p, I6 v, I6 c]] w (fun x w1 => x = Bo (rightB p v c) ∧ Step No w w1) := by
 have hS : Step No w w := Step.refl _ _
 refine VCe Tryz.func30 (Vs (Vr ?_))
 refine Vx 0 30 #[I6 p, I6 v, I6 c] ?_
 intro b1 w1 hn1
 replace hS := Step.trans hS (hn1.step No)
 have ho1 := hn1.own
 refine Ve (Vn (Vs (Vr (Vl 1 ho1 (Vp 4 (Vand 6 10 8 [1] (decide (p ≥ 0)) (decide (p < 8)) (fun hg1 J1 => ?_) ?_))))))
 ·refine Vl 5 ho1 ?_
  exact Vp 8 (Vk [10, 1] J1)
 refine Vp 9 (Vand 11 15 13 [1] ((decide (p ≥ 0)) && (decide (p < 8))) (decide (v ≥ 0)) (fun hg2 J2 => ?_) ?_)
 ·refine Vl 10 ho1 ?_
  exact Vp 13 (Vk [15, 1] J2)
 refine Vp 14 (Vand 16 20 18 [1] (((decide (p ≥ 0)) && (decide (p < 8))) && (decide (v ≥ 0))) (decide (v < 4096)) (fun hg3 J3 => ?_) ?_)
 ·refine Vl 15 ho1 ?_
  exact Vp 18 (Vk [20, 1] J3)
 refine Vp 19 (Vand 21 25 23 [1] ((((decide (p ≥ 0)) && (decide (p < 8))) && (decide (v ≥ 0))) && (decide (v < 4096))) (decide (c ≥ 0)) (fun hg4 J4 => ?_) ?_)
 ·refine Vl 20 ho1 ?_
  exact Vp 23 (Vk [25, 1] J4)
 refine Vp 24 (Vand 26 30 28 [] (((((decide (p ≥ 0)) && (decide (p < 8))) && (decide (v ≥ 0))) && (decide (v < 4096))) && (decide (c ≥ 0))) (decide (c < 65536)) (fun hg5 J5 => ?_) ?_)
 ·refine Vl 25 ho1 ?_
  exact Vp 28 (Vk [30] J5)
 refine Ve (Vn (VC_ret (Vr1 (Bo ((((((decide (p ≥ 0)) && (decide (p < 8))) && (decide (v ≥ 0))) && (decide (v < 4096))) && (decide (c ≥ 0))) && (decide (c < 65536)))) ?_)))
 exact ⟨congrArg Value.bool (by unfold rightB; rw [Bool.eq_iff_iff]; simp [and_assoc]), hS⟩

theorem dkbefore_any (p v c p' v' c' : Int) (w : World) :
  CV Tryz.prog 38 #[.agg #[I6 p, I6 v, I6 c], .agg #[I6 p', I6 v', I6 c']] w (fun x w1 => x = Bo (befK p v c p' v' c') ∧ Step No w w1) := by
 have hS : Step No w w := Step.refl _ _
 refine VCe Tryz.func38 (Vs (Vr ?_))
 refine Vx 0 30 #[I6 p, I6 v, I6 c] ?_
 intro b1 w1 hn1
 replace hS := Step.trans hS (hn1.step No)
 have ho1 := hn1.own
 refine Vx 1 30 #[I6 p', I6 v', I6 c'] ?_
 intro b2 w2 hn2
 replace hS := Step.trans hS (hn2.step No)
 replace ho1 := ho1.no (hn2.step No)
 have ho2 := hn2.own
 refine Ve (Vn (Vs (Vs (Vr (Vl 1 ho1 (Vl 3 ho2 (Ve (Vn (Viu p p' (fun h1 => ?_) (fun h1 => ?_))))))))))
 ·refine Vs (Vr (Vl 1 ho1 (Vl 3 ho2 (Ve (Vn (VC_ret (VQ_then_ret (Vr1 (Bo (decide (p < p'))) ?_))))))))
  exact ⟨congrArg Value.bool TDa8ac, hS⟩
 ·refine VC_skip (Vn (Vs (Vs (Vr (Vl 1 ho1 (Vl 3 ho2 (Ve (Vn (Viu v v' (fun h2 => ?_) (fun h2 => ?_))))))))))
  ·refine Vs (Vr (Vl 1 ho1 (Vl 3 ho2 (Ve (Vn (VC_ret (VQ_then_ret (Vr1 (Bo (decide (v < v'))) ?_))))))))
   exact ⟨congrArg Value.bool TDa8ac, hS⟩
  ·refine VC_skip (Vn (Vs (Vr (Vl 1 ho1 (Vl 3 ho2 (Ve (Vn (VC_ret (Vr1 (Bo (decide (c < c'))) ?_)))))))))
   exact ⟨congrArg Value.bool TDa8ac, hS⟩

theorem dat_any (nd lo hi : Nat) (rooms : List Int) (l : List Dx) (rA : Option Addr) (rc : Nat) (A : Option Addr) (ca : Nat) (kp kv kc : Int) (w : World) (ho : Own w nd #[.slice rA rooms.length rc, .slice A l.length ca] 55) (hcn : l.length ≤ ca) (hhi : hi ≤ w.heap.size) (hv : Sl2 w lo hi A (flat dxc l)) (hm : l.length ≤ 64)  :
  CV Tryz.prog 32 #[.pointer (some ⟨nd, 0, none⟩), .agg #[.int .i64 kp, .int .i64 kv, .int .i64 kc]] w (fun x w1 => x = .int .i64 (atD l kp kv kc) ∧ Step No w w1) := by
 have hS : Step No w w := Step.refl _ _
 refine CV_enter Tryz.f32 _ 26 [(0, .pointer (some ⟨nd, 0, none⟩)), (1, .agg #[.int .i64 kp, .int .i64 kv, .int .i64 kc])] Tryz.func32 rfl rfl (by kernel_rfl) rfl ?_
 refine VC_seq ?_
 refine VC_region ?_
 refine VL_box (d := 3) (t := 30) (c := #[.int .i64 kp, .int .i64 kv, .int .i64 kc]) (by kernel_rfl) (by kernel_rfl) ?_
 intro b1 w1 hn1
 replace hS := Step.trans hS (hn1.step No)
 replace ho := ho.no (hn1.step No)
 replace hv := hv.step (hn1.step No) (fun k hk1 hk2 hF => hF)
 replace hhi := Nat.le_trans hhi (hn1.step No).size
 have ho1 := hn1.own
 refine VL_pure 2 [0, 3] [(0, .pointer (some ⟨nd, 0, none⟩)), (3, .pointer (some ⟨b1, 0, none⟩))] (by kernel_rfl) rfl ?_
 refine VL_end (by kernel_rfl) ?_
 refine VQ_next ?_
 refine VC_seq ?_
 refine VC_seq ?_
 refine VC_region ?_
 refine VL_pure 3 [0, 3, 8] [(0, .pointer (some ⟨nd, 0, none⟩)), (3, .pointer (some ⟨b1, 0, none⟩)), (8, .pointer (some ⟨nd, 1, none⟩))] (by kernel_rfl) rfl ?_
 refine VL_load (d := 9) (t := 53) (a := ⟨nd, 1, none⟩) (v := .slice A l.length ca) (by kernel_rfl) (by kernel_rfl) (Loads.own1 ho (by kernel_rfl) (by rfl)) ?_
 refine VL_pure 6 [0, 3, 10, 11] [(0, .pointer (some ⟨nd, 0, none⟩)), (3, .pointer (some ⟨b1, 0, none⟩)), (10, .int .i64 ((l.length : Nat) : Int)), (11, .int .i64 0)] (by kernel_rfl) rfl ?_
 refine VL_end (by kernel_rfl) ?_
 refine VQ_next ?_
 refine VC_block ?_
 refine VC_loop (σ := Nat) (fun σs => [(0, .pointer (some ⟨nd, 0, none⟩)), (3, .pointer (some ⟨b1, 0, none⟩)), (10, .int .i64 ((l.length : Nat) : Int)), (11, .int .i64 ((σs : Nat) : Int))]) (fun σs wr => σs ≤ l.length ∧ (∀ j, j < σs → ∀ x, l[j]? = some x → keyX kp kv kc x.x = false) ∧ (Step No w wr) ∧ (Own wr nd #[.slice rA rooms.length rc, .slice A l.length ca] 55) ∧ (Sl2 wr lo hi A (flat dxc l)) ∧ (hi ≤ wr.heap.size) ∧ (Own wr b1 #[.int .i64 kp, .int .i64 kv, .int .i64 kc] 30)) (fun σs wr => l.length - σs) 0 ⟨rfl, rfl, rfl, rfl, trivial⟩ ?_ ?_
 ·exact ⟨Nat.zero_le _, fun j h => absurd h (by omega), hS, ho, hv, hhi, ho1⟩
 rintro i wr ⟨hi0, hb, hS, ho, hv, hhi, ho1⟩
 try dsimp only at hi0 hb hS ho hv hhi ho1 ⊢
 refine VC_seq ?_
 refine VC_region ?_
 refine VL_pure 1 [0, 3, 10, 11, 12] [(0, .pointer (some ⟨nd, 0, none⟩)), (3, .pointer (some ⟨b1, 0, none⟩)), (10, .int .i64 ((l.length : Nat) : Int)), (11, .int .i64 ((i : Nat) : Int)), (12, .bool (decide (((i : Nat) : Int) < ((l.length : Nat) : Int))))] (by kernel_rfl) rfl ?_
 refine VL_end (by kernel_rfl) ?_
 refine VQ_next ?_
 refine VC_seq ?_
 refine VC_dec (((i : Nat) : Int) < ((l.length : Nat) : Int)) (by kernel_rfl) (fun h1 => ?_) (fun h1 => ?_)
 ·refine VC_skip ?_
  refine VQ_next ?_
  refine VC_seq ?_
  refine VC_block ?_
  refine VC_seq ?_
  refine VC_region ?_
  refine VL_pure 2 [0, 3, 10, 11, 5] [(0, .pointer (some ⟨nd, 0, none⟩)), (3, .pointer (some ⟨b1, 0, none⟩)), (10, .int .i64 ((l.length : Nat) : Int)), (11, .int .i64 ((i : Nat) : Int)), (5, .int .i64 ((i : Nat) : Int))] (by kernel_rfl) rfl ?_
  refine VL_end (by kernel_rfl) ?_
  refine VQ_next ?_
  refine VC_seq ?_
  obtain ⟨sb1, so1, rfl, hlbsb1⟩ := (Sl2.sl hv).open (by rw [flat_len dxc_len]; omega)
  obtain ⟨y1, hy1⟩ : ∃ x, l[i]? = some x := ⟨_, List.getElem?_eq_getElem (by omega)⟩
  refine VC_det [[], [0], [0, 1], [0, 1, 2], [], [0, 1, 2, 3, 4], [0, 1, 2, 3, 4, 5], [0, 1, 2, 3, 4, 5, 6], [], [0, 1, 2, 3, 4, 5, 6, 7, 8]] 9 [.pointer (some ⟨nd, 0, none⟩), .pointer (some ⟨nd, 0, none⟩), .pointer (some ⟨nd, 1, none⟩), .slice (some ⟨sb1, so1, none⟩) l.length ca, .int .i64 ((i : Nat) : Int), .pointer (some ⟨sb1, so1 + i * 10, none⟩), .pointer (some ⟨sb1, so1 + i * 10, none⟩), .agg #[.int .i64 y1.x.p, .int .i64 y1.x.v, .int .i64 y1.x.c], .agg #[.int .i64 kp, .int .i64 kv, .int .i64 kc]] [0, 1, 2, 4, 6] [3, 5, 7, 8] (by kernel_rfl) (by kernel_rfl) (by kernel_rfl) (by kernel_rfl) ?_ ?_
  ·intro w2 hs1
   replace ho := ho.no hs1
   replace hv := hv.step hs1 (fun k hk1 hk2 hF => hF)
   replace ho1 := ho1.no hs1
   exact ⟨Det1_load (d := 17) (t := 53) (a := ⟨nd, 1, none⟩) (by kernel_rfl) (by kernel_rfl) (Loads.own1 ho (by kernel_rfl) (by rfl)), Det1_index (d := 19) (b := sb1) (o := so1) (len := l.length) (sz := 10) (m := ((i : Nat) : Int)) (by kernel_rfl) (by kernel_rfl) i (by rfl) (by omega) (so1 + i * 10) (by omega), Det1_load (d := 21) (t := 30) (a := ⟨sb1, so1 + i * 10, none⟩) (by kernel_rfl) (by kernel_rfl) (Sl.flatAgg (sz := 10) (Sl2.sl hv) dxc_len hy1 0 3 (by kernel_rfl) (by decide) _ (by first | rfl | omega)), Det1_load (d := 22) (t := 30) (a := ⟨b1, 0, none⟩) (by kernel_rfl) (by kernel_rfl) (Loads.ownL ho1 (n := 3) (by kernel_rfl) (by kernel_rfl) (by kernel_rfl)), trivial⟩
  intro w2 hs1
  replace hS := Step.trans hS hs1
  replace ho := ho.no hs1
  replace hv := hv.step hs1 (fun k hk1 hk2 hF => hF)
  replace hhi := Nat.le_trans hhi (hs1).size
  replace ho1 := ho1.no hs1
  refine VL_keep [0, 3, 10, 11, 5, 21, 22] [(0, .pointer (some ⟨nd, 0, none⟩)), (3, .pointer (some ⟨b1, 0, none⟩)), (10, .int .i64 ((l.length : Nat) : Int)), (11, .int .i64 ((i : Nat) : Int)), (5, .int .i64 ((i : Nat) : Int)), (21, .agg #[.int .i64 y1.x.p, .int .i64 y1.x.v, .int .i64 y1.x.c]), (22, .agg #[.int .i64 kp, .int .i64 kv, .int .i64 kc])] (by kernel_rfl) ?_
  refine VL_agEq (d := 23) (dd := 9) (ls := ([.int .i64] ++ [.int .i64] ++ [.int .i64] ++ [])) (pos := true) (t := 30) (xs := #[.int .i64 y1.x.p, .int .i64 y1.x.v, .int .i64 y1.x.c]) (ys := #[.int .i64 kp, .int .i64 kv, .int .i64 kc]) (by kernel_rfl) (by kernel_rfl) (by kernel_rfl) (by kernel_rfl) TDa8aa TDa8aa (keyX kp kv kc y1.x) (by rw [Bool.eq_iff_iff]; simp [cellsEq, leafEq, keyX]) ?_
  refine VL_end (by kernel_rfl) ?_
  refine VQ_next ?_
  refine VC_cond (keyX kp kv kc y1.x) (by kernel_rfl) (fun h2 => ?_) (fun h2 => ?_)
  ·try simp only [Bool.and_eq_true, Bool.or_eq_true, decide_eq_true_eq, Bool.not_eq_true', decide_eq_false_iff_not, Bool.and_eq_false_iff, Bool.or_eq_false_iff, beq_iff_eq, bne_iff_ne, beq_eq_false_iff_ne, bne_eq_false_iff_eq, Bool.not_eq_eq_eq_not, Bool.not_true, Bool.not_false] at h2
   refine VC_seq ?_
   refine VC_region ?_
   refine VL_pure 2 [4] [(4, .int .i64 ((i : Nat) : Int))] (by kernel_rfl) rfl ?_
   refine VL_end (by kernel_rfl) ?_
   refine VQ_next ?_
   refine VC_ret ?_
   refine VQ_block_ret ?_
   refine VQ_then_ret ?_
   refine VQ_then_ret ?_
   refine VQ_block_ret ?_
   refine VQ_then_ret ?_
   refine VQ_ret1 (.int .i64 ((i : Nat) : Int)) (.inr rfl) rfl rfl ?_
   exact ⟨congrArg (Value.int .i64) (atD_hit hb hy1 (by first | assumption | simp_all)).symm, hS⟩
  ·try simp only [Bool.and_eq_true, Bool.or_eq_true, decide_eq_true_eq, Bool.not_eq_true', decide_eq_false_iff_not, Bool.and_eq_false_iff, Bool.or_eq_false_iff, beq_iff_eq, bne_iff_ne, beq_eq_false_iff_ne, bne_eq_false_iff_eq, Bool.not_eq_eq_eq_not, Bool.not_true, Bool.not_false] at h2
   refine VC_skip ?_
   refine VQ_block_normal ?_
   refine VQ_next ?_
   refine VC_region ?_
   refine VL_pure 1 [0, 3, 10, 25] [(0, .pointer (some ⟨nd, 0, none⟩)), (3, .pointer (some ⟨b1, 0, none⟩)), (10, .int .i64 ((l.length : Nat) : Int)), (25, .int .i64 (IntKind.wrap .i64 (((i : Nat) : Int) + 1)))] (by kernel_rfl) rfl ?_
   have he1 : IntKind.wrap .i64 (((i : Nat) : Int) + 1) = ((i + 1 : Nat) : Int) := TDa8ab
   refine VL_eq [(0, .pointer (some ⟨nd, 0, none⟩)), (3, .pointer (some ⟨b1, 0, none⟩)), (10, .int .i64 ((l.length : Nat) : Int)), (25, .int .i64 ((i + 1 : Nat) : Int))] (by rw [he1]) ?_
   refine VL_pure 2 [0, 3, 10, 11] [(0, .pointer (some ⟨nd, 0, none⟩)), (3, .pointer (some ⟨b1, 0, none⟩)), (10, .int .i64 ((l.length : Nat) : Int)), (11, .int .i64 ((i + 1 : Nat) : Int))] (by kernel_rfl) rfl ?_
   refine VL_end (by kernel_rfl) ?_
   refine VQ_again (i + 1) ⟨rfl, rfl, rfl, rfl, trivial⟩ ?_ ?_
   ·exact ⟨by omega, fun j h x hx => by
     by_cases e : j = i
     ·subst e
      rw [Option.some.inj (hx.symm.trans hy1)]
      first | assumption | simp_all
     ·exact hb j (by omega) x hx, hS, ho, hv, hhi, ho1⟩
   ·(try dsimp only); omega
 ·refine VC_exit ?_
  refine VQ_then_exit ?_
  refine VQ_then_exit ?_
  refine VQ_block_hit ?_
  refine VQ_next ?_
  refine VC_seq ?_
  refine VC_region ?_
  refine VL_pure 1 [4] [(4, .int .i64 (-1))] (by kernel_rfl) rfl ?_
  refine VL_end (by kernel_rfl) ?_
  refine VQ_next ?_
  refine VC_ret ?_
  refine VQ_ret1 (.int .i64 (-1)) (.inr rfl) rfl rfl ?_
  exact ⟨congrArg (Value.int .i64) (atD_none (fun j h => hb j (by omega))).symm, hS⟩

theorem dused_any (nd lo : Nat) (rooms : List Int) (l : List Dx) (port : Int) (kp kv kc : Int) (w : World) (hR : Dv w nd lo rooms l) (hm : l.length ≤ 64) (hU : ∀ i q, usdL (butL (l.map Dx.x) kp kv kc i) q ≤ 1152921504606846976) :
  CV Tryz.prog 41 #[Pt nd 0, I6 port, .agg #[I6 kp, I6 kv, I6 kc]] w (fun x w1 => x = I6 (usdL (delC (l.map Dx.x) kp kv kc) port) ∧ Step No w w1) := by
 have hS : Step No w w := Step.refl _ _
 obtain ⟨rA, rc, A, ca, rl, rh, hi, ho, hrc, hcn, hrh, hhi, hrw, hv⟩ := hR
 have hrv : Sl w rh rA (iL .i64 rooms) := Sl2.sl hrw
 refine VCe Tryz.func41 (Vs (Vr ?_))
 have hzk1 := hhi
 refine Vx 0 30 #[I6 kp, I6 kv, I6 kc] ?_
 intro b1 w1 hn1
 replace hS := Step.trans hS (hn1.step No)
 replace ho := ho.no (hn1.step No)
 replace hv := hv.step (hn1.step No) (fun k hk1 hk2 hF => hF)
 replace hrv := hrv.no (hn1.step No)
 replace hhi := Nat.le_trans hhi (hn1.step No).size
 replace hrh := Nat.le_trans hrh (hn1.step No).size
 have ho1 := hn1.own
 have hzhn1 := hn1.size
 have hqhn1 := hn1.eqb
 refine Ve (Vn (Vrp (Vs (Vs (Vr (Vl 3 ho (Ve (Vn (VC_block (VC_loop (σ := Nat × Int) (fun σs => [(0, Pt nd 0), (1, I6 port), (5, Pt b1 0), (13, I6 ((l.length : Nat) : Int)), (14, I6 ((σs.1 : Nat) : Int)), (7, I6 σs.2)]) (fun σs wr => σs.1 ≤ l.length ∧ σs.2 = usdL (butL (l.map Dx.x) kp kv kc σs.1) port ∧ (Step No w wr) ∧ (Own wr nd #[.slice rA rooms.length rc, .slice A l.length ca] 55) ∧ (Sl2 wr lo hi A (flat dxc l)) ∧ (Sl wr rh rA (iL .i64 rooms)) ∧ (hi ≤ wr.heap.size) ∧ (rh ≤ wr.heap.size) ∧ (Own wr b1 #[I6 kp, I6 kv, I6 kc] 30)) (fun σs wr => l.length - σs.1) ⟨0, 0⟩ Su ?_ ?_))))))))))
 ·exact ⟨Nat.zero_le _, rfl, hS, ho, hv, hrv, hhi, hrh, ho1⟩
 rintro ⟨i, s9⟩ wr ⟨hi0, hs9, hS, ho, hv, hrv, hhi, hrh, ho1⟩
 try dsimp only at hi0 hs9 hS ho hv hrv hhi hrh ho1 ⊢
 refine Vrp (Vs (Vid (((i : Nat) : Int) < ((l.length : Nat) : Int)) (fun h1 => ?_) (fun h1 => ?_)))
 ·refine VC_skip (Vn (Vs (VC_block (Vrp (Vs ?_)))))
  obtain ⟨sb1, so1, rfl, hlbsb1⟩ := (Sl2.sl hv).open (by rw [flat_len dxc_len]; omega)
  have hs1 := drew_step wr
  have hs1z : wr.heap.size = wr.drew.heap.size := rfl
  refine Tx 21 (fun k => wr.heap.size ≤ k) [] [0, 1, 2, 3, 4, 5, 6, 7, 8, 9, 10, 11, 12, 13, 14, 15, 16, 17, 18, 19, 20] ?_
  have hzl2 := ho.lt
  have hzl3 := ho1.lt
  generalize wr.drew = w2 at hs1 hs1z ⊢
  replace hS := Step.trans hS hs1
  replace ho := ho.no hs1
  replace hv := hv.step hs1 (fun k hk1 hk2 hF => hF)
  replace hrv := hrv.no hs1
  replace hhi := Nat.le_trans hhi (hs1).size
  replace hrh := Nat.le_trans hrh (hs1).size
  replace ho1 := ho1.no hs1
  refine Tp 3 (Tl (fun w3 hr1 => ho.step hr1 (by (try simp only); omega)) (Tp 1 (VT_index (d := 22) (b := sb1) (o := so1) (len := l.length) (sz := 10) (mm := ((i : Nat) : Int)) (by kernel_rfl) (by kernel_rfl) i (by rfl) (by omega) (so1 + i * 10) (by omega) (Tp 2 ?_))))
  obtain ⟨y1, hy1⟩ : ∃ x, l[i]? = some x := ⟨_, List.getElem?_eq_getElem (by omega)⟩
  refine VT_load (d := 25) (t := 3) (a := ⟨sb1, so1 + i * 10, none⟩) (v := I6 y1.x.p) (by kernel_rfl) (by kernel_rfl) ?_ ?_
  ·intro w4 hr2
   replace hv := hv.step hr2 (fun k hk1 hk2 hG => by (try simp only at hG); omega)
   exact (Sl.flatOne (sz := 10) (Sl2.sl hv) dxc_len hy1 0 (by rfl) (by decide) (by kernel_rfl) _ (by first | rfl | omega))
  refine Tp 3 ?_
  rcases Bool.eq_false_or_eq_true (y1.x.p == port) with hg1 | hg1
  ·refine Tq [(11, Bo (y1.x.p == port)), (10, Bo (y1.x.p == port))] [(11, Bo true), (10, Bo true)] (by simp only [hg1, Bool.not_true, Bool.not_false]) ?_
   try simp only [bne_iff_ne, beq_iff_eq, decide_eq_true_eq, decide_eq_false_iff_not, bne_eq_false_iff_eq, beq_eq_false_iff_ne, ne_eq] at hg1
   refine Tp 3 (Tl (fun w5 hr3 => ho.step hr3 (by (try simp only); omega)) (Tp 1 (VT_index (d := 34) (b := sb1) (o := so1) (len := l.length) (sz := 10) (mm := ((i : Nat) : Int)) (by kernel_rfl) (by kernel_rfl) i (by rfl) (by omega) (so1 + i * 10) (by omega) (Tp 1 (VT_load (d := 36) (t := 30) (a := ⟨sb1, so1 + i * 10, none⟩) (v := .agg #[I6 y1.x.p, I6 y1.x.v, I6 y1.x.c]) (by kernel_rfl) (by kernel_rfl) ?_ ?_)))))
   ·intro w6 hr4
    replace hv := hv.step hr4 (fun k hk1 hk2 hG => by (try simp only at hG); omega)
    exact (Sl.flatAgg (sz := 10) (Sl2.sl hv) dxc_len hy1 0 3 (by kernel_rfl) (by decide) _ (by first | rfl | omega))
   refine Tl (fun w7 hr5 => ho1.step hr5 (by (try simp only); omega)) (VT_end ?_)
   intro w8 hs2
   replace hS := Step.trans hS hs2
   replace ho := ho.no hs2
   replace hv := hv.step hs2 (fun k hk1 hk2 hF => hF)
   replace hrv := hrv.no hs2
   replace hhi := Nat.le_trans hhi (hs2).size
   replace hrh := Nat.le_trans hrh (hs2).size
   replace ho1 := ho1.no hs2
   refine VL_agEq (d := 38) (dd := 9) (ls := ([.int .i64] ++ [.int .i64] ++ [.int .i64] ++ [])) (pos := false) (t := 30) (xs := #[I6 y1.x.p, I6 y1.x.v, I6 y1.x.c]) (ys := #[I6 kp, I6 kv, I6 kc]) (by kernel_rfl) (by kernel_rfl) (by kernel_rfl) (by kernel_rfl) TDa8aa TDa8aa (!(keyX kp kv kc y1.x)) (by rw [Bool.eq_iff_iff]; simp [cellsEq, leafEq, keyX]) (Ve (Vn (Vif (!(keyX kp kv kc y1.x)) (fun h2 => ?_) (fun h2 => ?_))))
   ·try simp only [BB] at h2
    have hbu := hU (i + 1) port
    have hbn := usdL_nonneg (butL (l.map Dx.x) kp kv kc i) port
    have hbk := needC_le y1.x.k
    rw [butL_succ (show (l.map Dx.x)[i]? = some y1.x by rw [List.getElem?_map, hy1]; rfl), if_pos (by simp_all), ← hs9] at hbu
    rw [← hs9] at hbn
    refine Vr (Vl 4 ho (Vp 6 (VL_index (d := 46) (b := sb1) (o := so1) (len := l.length) (sz := 10) (m := ((i : Nat) : Int)) (by kernel_rfl) (by kernel_rfl) i (by rfl) (by omega) (so1 + i * 10) (by omega) (Vla 8 (t := 32) (a := ⟨sb1, so1 + i * 10 + 3, none⟩) (v := .agg #[I6 y1.x.k.kind, I6 y1.x.k.peak, I6 y1.x.k.early, I6 y1.x.k.whole, I6 y1.x.k.burst, I6 y1.x.k.least]) (Sl.flatAgg (sz := 10) (Sl2.sl hv) dxc_len hy1 3 6 (by kernel_rfl) (by decide) _ (by first | rfl | omega)) ?_))))
    refine Vc 9 Tryz.call33 (dneed_any y1.x.k _) ?_
    rintro _ w9 ⟨rfl, hc1⟩
    replace hS := Step.trans hS hc1
    replace ho := ho.no hc1
    replace hv := hv.step hc1 (fun k hk1 hk2 hF => hF)
    replace hrv := hrv.no hc1
    replace hhi := Nat.le_trans hhi (hc1).size
    replace hrh := Nat.le_trans hrh (hc1).size
    replace ho1 := ho1.no hc1
    refine Vp 11 (Vq 50 (I6 (IntKind.wrap .i64 (s9 + (needC y1.x.k)))) (I6 (s9 + needC y1.x.k)) (by rw [wrap_i64 _ (by omega) (by omega)]) (Ve (VQ_block_normal (Vn (Vr (Vp 1 ?_))))))
    have he1 : IntKind.wrap .i64 (((i : Nat) : Int) + 1) = ((i + 1 : Nat) : Int) := TDa8ab
    refine Vq 51 (I6 (IntKind.wrap .i64 (((i : Nat) : Int) + 1))) (I6 ((i + 1 : Nat) : Int)) (by rw [he1]) (Ve (VQ_again ⟨i + 1, (s9 + needC y1.x.k)⟩ Su ?_ ?_))
    ·exact ⟨by omega, by rw [butL_succ (show (l.map Dx.x)[i]? = some y1.x by rw [List.getElem?_map, hy1]; rfl), ← hs9]; split <;> simp_all, hS, ho, hv, hrv, hhi, hrh, ho1⟩
    ·(try dsimp only); omega
   ·try simp only [BB] at h2
    refine VC_skip (VQ_block_normal (Vn (Vr (Vp 1 ?_))))
    have he2 : IntKind.wrap .i64 (((i : Nat) : Int) + 1) = ((i + 1 : Nat) : Int) := TDa8ab
    refine Vq 51 (I6 (IntKind.wrap .i64 (((i : Nat) : Int) + 1))) (I6 ((i + 1 : Nat) : Int)) (by rw [he2]) (Ve (VQ_again ⟨i + 1, s9⟩ Su ?_ ?_))
    ·exact ⟨by omega, by rw [butL_succ (show (l.map Dx.x)[i]? = some y1.x by rw [List.getElem?_map, hy1]; rfl), ← hs9]; split <;> simp_all, hS, ho, hv, hrv, hhi, hrh, ho1⟩
    ·(try dsimp only); omega
  ·refine Tq [(11, Bo (y1.x.p == port)), (10, Bo (y1.x.p == port))] [(11, Bo false), (10, Bo false)] (by simp only [hg1, Bool.not_true, Bool.not_false]) ?_
   try simp only [bne_iff_ne, beq_iff_eq, decide_eq_true_eq, decide_eq_false_iff_not, bne_eq_false_iff_eq, beq_eq_false_iff_ne, ne_eq] at hg1
   refine Tp 9 (VT_end ?_)
   intro w10 hs3
   replace hS := Step.trans hS hs3
   replace ho := ho.no hs3
   replace hv := hv.step hs3 (fun k hk1 hk2 hF => hF)
   replace hrv := hrv.no hs3
   replace hhi := Nat.le_trans hhi (hs3).size
   replace hrh := Nat.le_trans hrh (hs3).size
   replace ho1 := ho1.no hs3
   refine Ve (Vn (Vf (VC_skip (VQ_block_normal (Vn (Vr (Vp 1 ?_)))))))
   have he3 : IntKind.wrap .i64 (((i : Nat) : Int) + 1) = ((i + 1 : Nat) : Int) := TDa8ab
   refine Vq 51 (I6 (IntKind.wrap .i64 (((i : Nat) : Int) + 1))) (I6 ((i + 1 : Nat) : Int)) (by rw [he3]) (Ve (VQ_again ⟨i + 1, s9⟩ Su ?_ ?_))
   ·exact ⟨by omega, by rw [butL_succ (show (l.map Dx.x)[i]? = some y1.x by rw [List.getElem?_map, hy1]; rfl), ← hs9]; split <;> simp_all, hS, ho, hv, hrv, hhi, hrh, ho1⟩
   ·(try dsimp only); omega
 ·refine VC_exit (VQ_then_exit (VQ_then_exit (VQ_block_hit (Vn (Vrp (VC_ret (Vr1 (I6 s9) ?_)))))))
  exact ⟨congrArg (Value.int .i64) (by rw [hs9, butL_all (by rw [List.length_map]; omega)]), hS⟩

end Go.Proofs.YthchmlidobgkoaaGreat
end

section
/- Layer 20, the document's node: what is left, what is booked, whether one can be taken. -/
set_option linter.unusedVariables false
set_option linter.unusedSimpArgs false
set_option maxRecDepth 100000
set_option maxHeartbeats 4000000
namespace Go.Proofs.YthchmlidobgkoaaGreat
open Go.Vc Go.RowKit

theorem dnone_any (w : World) :
  CV Tryz.prog 59 #[] w (fun x w1 => x = .agg #[.int .i64 (-1), .int .i64 0, .int .i64 0] ∧ Step No w w1) := by
 have hS : Step No w w := Step.refl _ _
 refine CV_enter Tryz.f59 _ 2 [] Tryz.func59 rfl rfl (by kernel_rfl) rfl ?_
 refine VC_seq ?_
 refine VC_region ?_
 refine VL_box (d := 0) (t := 30) (c := #[.int .i64 0, .int .i64 0, .int .i64 0]) (by kernel_rfl) (by kernel_rfl) ?_
 intro b1 w1 hn1
 replace hS := Step.trans hS (hn1.step No)
 have ho1 := hn1.own
 have hzhn1 := hn1.size
 have hqhn1 := hn1.eqb
 refine VL_end (by kernel_rfl) ?_
 refine VQ_next ?_
 refine VC_seq ?_
 refine VC_region ?_
 refine VL_pure 1 [0, 1] [(0, .pointer (some ⟨b1, 0, none⟩)), (1, .agg #[.int .i64 (-1), .int .i64 0, .int .i64 0])] (by kernel_rfl) rfl ?_
 refine VL_store (b := b1) (o := 0) (vs := [.int .i64 (-1), .int .i64 0, .int .i64 0]) (by kernel_rfl) (by kernel_rfl) ho1 (Nat.le_of_ble_eq_true (by kernel_rfl)) ?_
 intro w2 hw1
 replace hS := Step.transNew hS hw1.step (fun _ _ _ => by omega)
 have ho2 : Own w2 b1 #[.int .i64 (-1), .int .i64 0, .int .i64 0] 30 := Own.cast hw1.own (by kernel_rfl)
 refine VL_end (by kernel_rfl) ?_
 refine VQ_next ?_
 refine VC_ret ?_
 refine VQ_retC1 (T := 30) (.agg #[.int .i64 (-1), .int .i64 0, .int .i64 0]) (.inr rfl) rfl rfl (Loads.ownL ho2 (n := 3) (by kernel_rfl) (by kernel_rfl) (by kernel_rfl)) ?_
 exact ⟨rfl, hS⟩

theorem dsum_eq {rooms : List Int} {L : List Cx} (h : LI rooms L) (q : Int) : usdL (delC L (-1) 0 0) q = usdL L q := by rw [delC_none (find_neg h)]
theorem dleft_eq {rooms : List Int} {l : List Dx} (h : LI rooms (l.map Dx.x)) {i : Nat} (hi : i < rooms.length) : IntKind.wrap .i64 (rooms.getD i 0 - usdL (delC (l.map Dx.x) (-1) 0 0) (i : Nat)) = leftN rooms (l.map Dx.x) (i : Nat) := by
  have h1 : rooms[i]? = some (rooms.getD i 0) := by simp [List.getElem?_eq_getElem hi]
  have h2 := h.rooms _ (List.mem_of_getElem? h1)
  have h3 := h.fit i _ h1
  have h4 := usdL_nonneg (l.map Dx.x) (i : Int)
  rw [dsum_eq h, leftN_at h1, wrap_i64 _ (by omega) (by omega)]
theorem dleft_ou {rooms : List Int} {L : List Cx} {p : Int} (h : p < 0 ∨ p ≥ rooms.length) : 0 = leftN rooms L p := by unfold leftN; rw [if_neg (by omega)]
theorem dleft_n (nd lo : Nat) (rooms : List Int) (l : List Dx) (p : Int) (w : World) (hR : Dv w nd lo rooms l) (hli : LI rooms (l.map Dx.x)) (hp : p < 0) :
  CV Tryz.prog 34 #[Pt nd 0, I6 p] w (fun x w1 => x = I6 (leftN rooms (l.map Dx.x) p) ∧ Step No w w1) := by
 have hS : Step No w w := Step.refl _ _
 obtain ⟨rA, rc, A, ca, rl, rh, hi, ho, hrc, hcn, hrh, hhi, hrw, hv⟩ := hR
 refine VCe Tryz.func34 (Vrp (Vs (Vs (Vr (Vp 3 (Vkn 7 (decide (p < 0)) true (decide_eq_true (by omega)) (Ve (Vn (Vt (Vrp (VC_ret (VQ_then_ret (Vr1 (I6 0) ?_)))))))))))))
 exact ⟨congrArg (Value.int .i64) (dleft_ou (by omega)), hS⟩

theorem dleft_g (nd lo : Nat) (rooms : List Int) (l : List Dx) (p : Int) (w : World) (hR : Dv w nd lo rooms l) (hli : LI rooms (l.map Dx.x)) (hp : 0 ≤ p ∧ p ≥ rooms.length) :
  CV Tryz.prog 34 #[Pt nd 0, I6 p] w (fun x w1 => x = I6 (leftN rooms (l.map Dx.x) p) ∧ Step No w w1) := by
 have hS : Step No w w := Step.refl _ _
 obtain ⟨rA, rc, A, ca, rl, rh, hi, ho, hrc, hcn, hrh, hhi, hrw, hv⟩ := hR
 refine VCe Tryz.func34 (Vrp (Vs (Vs (Vr (Vp 3 (Vkn 7 (decide (p < 0)) false (decide_eq_false (by omega)) (Vl 7 ho (Ve (Vn (Vit (b := decide (p ≥ ((rooms.length : Nat) : Int))) (decide_eq_true (by omega)) (Vrp (VC_ret (VQ_then_ret (Vr1 (I6 0) ?_))))))))))))))
 exact ⟨congrArg (Value.int .i64) (dleft_ou (by omega)), hS⟩

theorem dleft_i (nd lo : Nat) (rooms : List Int) (l : List Dx) (i : Nat) (w : World) (hR : Dv w nd lo rooms l) (hli : LI rooms (l.map Dx.x)) (hi9 : i < rooms.length) :
  CV Tryz.prog 34 #[.pointer (some ⟨nd, 0, none⟩), .int .i64 ((i : Nat) : Int)] w (fun x w1 => x = .int .i64 (leftN rooms (l.map Dx.x) (i : Nat)) ∧ Step No w w1) := by
 have hS : Step No w w := Step.refl _ _
 obtain ⟨rA, rc, A, ca, rl, rh, hi, ho, hrc, hcn, hrh, hhi, hrw, hv⟩ := hR
 have hrv : Sl w rh rA (iL .i64 rooms) := Sl2.sl hrw
 have hm : l.length ≤ 64 := by have h9 := hli.len; rw [List.length_map] at h9; exact h9
 have hrm := hli.rm
 refine CV_enter Tryz.f34 _ 28 [(0, .pointer (some ⟨nd, 0, none⟩)), (1, .int .i64 ((i : Nat) : Int))] Tryz.func34 rfl rfl (by kernel_rfl) rfl ?_
 refine VC_seq ?_
 refine VC_region ?_
 refine VL_pure 1 [0, 1] [(0, .pointer (some ⟨nd, 0, none⟩)), (1, .int .i64 ((i : Nat) : Int))] (by kernel_rfl) rfl ?_
 refine VL_end (by kernel_rfl) ?_
 refine VQ_next ?_
 refine VC_seq ?_
 refine VC_seq ?_
 refine VC_region ?_
 refine VL_pure 3 [0, 1, 7] [(0, .pointer (some ⟨nd, 0, none⟩)), (1, .int .i64 ((i : Nat) : Int)), (7, .bool (decide (((i : Nat) : Int) < 0)))] (by kernel_rfl) rfl ?_
 refine VL_known (decide (((i : Nat) : Int) < 0)) (fun bV => [(0, .pointer (some ⟨nd, 0, none⟩)), (1, .int .i64 ((i : Nat) : Int)), (7, .bool bV)]) false rfl (decide_eq_false (by omega)) ?_
 refine VL_pure 7 [0, 1, 7, 8, 11] [(0, .pointer (some ⟨nd, 0, none⟩)), (1, .int .i64 ((i : Nat) : Int)), (7, .bool false), (8, .int .i64 ((i : Nat) : Int)), (11, .pointer (some ⟨nd, 0, none⟩))] (by kernel_rfl) rfl ?_
 refine VL_load (d := 12) (t := 22) (a := ⟨nd, 0, none⟩) (v := .slice rA rooms.length rc) (by kernel_rfl) (by kernel_rfl) (Loads.own1 ho (by kernel_rfl) (by rfl)) ?_
 refine VL_pure 11 [0, 1, 15] [(0, .pointer (some ⟨nd, 0, none⟩)), (1, .int .i64 ((i : Nat) : Int)), (15, .bool (decide (((i : Nat) : Int) ≥ ((rooms.length : Nat) : Int))))] (by kernel_rfl) rfl ?_
 refine VL_end (by kernel_rfl) ?_
 refine VQ_next ?_
 refine VC_is (b := decide (((i : Nat) : Int) ≥ ((rooms.length : Nat) : Int))) false (by kernel_rfl) (decide_eq_false (by omega)) ?_
 refine VC_ite_false ?_
 refine VC_skip ?_
 refine VQ_next ?_
 refine VC_seq ?_
 obtain ⟨sb1, so1, rfl, hlbsb1⟩ := hrv.open (by rw [iL_length]; omega)
 refine VC_det [[], [0], [0, 1], [0, 1, 2], [], [0, 1, 2, 3, 4], [0, 1, 2, 3, 4, 5], [], [], [], [7, 8, 9], [0, 1, 2, 3, 4, 5, 6, 7, 8, 9, 10], [0, 1, 2, 3, 4, 5, 6, 7, 8, 9, 10, 11]] 11 [.pointer (some ⟨nd, 0, none⟩), .pointer (some ⟨nd, 0, none⟩), .pointer (some ⟨nd, 0, none⟩), .slice (some ⟨sb1, so1, none⟩) rooms.length rc, .int .i64 ((i : Nat) : Int), .pointer (some ⟨sb1, so1 + i, none⟩), .int .i64 (rooms.getD i 0), .pointer (some ⟨nd, 0, none⟩), .int .i64 ((i : Nat) : Int), .agg #[.int .i64 (-1), .int .i64 0, .int .i64 0], .int .i64 (usdL (delC (l.map Dx.x) (-1) 0 0) ((i : Nat) : Int))] [0, 1, 2, 4, 7, 8] [3, 5, 6, 9, 10] (by kernel_rfl) (by kernel_rfl) (by kernel_rfl) (by kernel_rfl) ?_ ?_
 ·intro w1 hs1
  replace ho := ho.no hs1
  replace hv := hv.step hs1 (fun k hk1 hk2 hF => hF)
  replace hrv := hrv.no hs1
  replace hhi := Nat.le_trans hhi (hs1).size
  replace hrh := Nat.le_trans hrh (hs1).size
  exact ⟨Det1_load (d := 19) (t := 22) (a := ⟨nd, 0, none⟩) (by kernel_rfl) (by kernel_rfl) (Loads.own1 ho (by kernel_rfl) (by rfl)), Det1_index (d := 21) (b := sb1) (o := so1) (len := rooms.length) (sz := 1) (m := ((i : Nat) : Int)) (by kernel_rfl) (by kernel_rfl) i (by rfl) (by omega) (so1 + i) (by omega), Det1_load (d := 22) (t := 3) (a := ⟨sb1, so1 + i, none⟩) (by kernel_rfl) (by kernel_rfl) (Sl.ldI hrv (by kernel_rfl) i (by (try simp only [List.length_set, List.length_append, List.length_map, List.length_replicate, List.length_cons, List.length_nil, List.length_take, List.length_drop, List.length_range]) <;> omega)), Det1_call (d := 25) (f := 59) (args := #[]) (by kernel_rfl) (by kernel_rfl) (by kernel_rfl) Tryz.call59 (by exact dnone_any _), Det1_call (d := 26) (f := 41) (args := #[.pointer (some ⟨nd, 0, none⟩), .int .i64 ((i : Nat) : Int), .agg #[.int .i64 (-1), .int .i64 0, .int .i64 0]]) (by kernel_rfl) (by kernel_rfl) (by kernel_rfl) Tryz.call41 (by exact dused_any nd lo rooms l ((i : Nat) : Int) (-1) 0 0 _ ⟨_, _, _, _, 0, _, _, ho, hrc, hcn, hrh, hhi, sl_sl2 hrv, hv⟩ hm (butL_le hli _ _ _)), trivial⟩
 intro w1 hs1
 replace hS := Step.trans hS hs1
 refine VL_keep [22, 26] [(22, .int .i64 (rooms.getD i 0)), (26, .int .i64 (usdL (delC (l.map Dx.x) (-1) 0 0) ((i : Nat) : Int)))] (by kernel_rfl) ?_
 refine VL_pure 13 [4] [(4, .int .i64 (IntKind.wrap .i64 ((rooms.getD i 0) - (usdL (delC (l.map Dx.x) (-1) 0 0) ((i : Nat) : Int)))))] (by kernel_rfl) rfl ?_
 refine VL_end (by kernel_rfl) ?_
 refine VQ_next ?_
 refine VC_ret ?_
 refine VQ_ret1 (.int .i64 (IntKind.wrap .i64 ((rooms.getD i 0) - (usdL (delC (l.map Dx.x) (-1) 0 0) ((i : Nat) : Int))))) (.inr rfl) rfl rfl ?_
 exact ⟨congrArg (Value.int .i64) (dleft_eq hli hi9), hS⟩

theorem dleft_any (nd lo : Nat) (rooms : List Int) (l : List Dx) (p : Int) (w : World) (hR : Dv w nd lo rooms l) (hli : LI rooms (l.map Dx.x)) : CV Tryz.prog 34 #[.pointer (some ⟨nd, 0, none⟩), .int .i64 p] w fun x w1 => x = .int .i64 (leftN rooms (l.map Dx.x) p) ∧ Step No w w1 := by
  by_cases h : 0 ≤ p ∧ p < rooms.length
  · obtain ⟨i, rfl⟩ : ∃ i : Nat, p = i := ⟨p.toNat, by omega⟩
    exact dleft_i nd lo rooms l i w hR hli (by omega)
  · by_cases h0 : p < 0
    · exact dleft_n nd lo rooms l p w hR hli h0
    · exact dleft_g nd lo rooms l p w hR hli (by omega)
theorem dsum_any (nd lo : Nat) (rooms : List Int) (l : List Dx) (p : Int) (w : World) (hR : Dv w nd lo rooms l) (hli : LI rooms (l.map Dx.x))  :
  CV Tryz.prog 49 #[Pt nd 0, I6 p] w (fun x w1 => x = I6 (usdL (l.map Dx.x) p) ∧ Step No w w1) := by
 have hS : Step No w w := Step.refl _ _
 obtain ⟨rA, rc, A, ca, rl, rh, hi, ho, hrc, hcn, hrh, hhi, hrw, hv⟩ := hR
 have hrv : Sl w rh rA (iL .i64 rooms) := Sl2.sl hrw
 have hm : l.length ≤ 64 := by have h9 := hli.len; rw [List.length_map] at h9; exact h9
 refine VCe Tryz.func49 (Vrp (Vs (Vr (Vp 2 ?_))))
 refine Vc 2 Tryz.call59 (dnone_any _) ?_
 rintro _ w1 ⟨rfl, hc1⟩
 replace hS := Step.trans hS hc1
 replace ho := ho.no hc1
 replace hv := hv.step hc1 (fun k hk1 hk2 hF => hF)
 replace hrv := hrv.no hc1
 replace hhi := Nat.le_trans hhi (hc1).size
 replace hrh := Nat.le_trans hrh (hc1).size
 refine Vc 3 Tryz.call41 (dused_any nd lo rooms l p (-1) 0 0 _ ⟨_, _, _, _, 0, _, _, ho, hrc, hcn, hrh, hhi, sl_sl2 hrv, hv⟩ hm (butL_le hli _ _ _)) ?_
 rintro _ w2 ⟨rfl, hc2⟩
 replace hS := Step.trans hS hc2
 refine Ve (Vn (VC_ret (Vr1 (I6 (usdL (delC (l.map Dx.x) (-1) 0 0) p)) ?_)))
 exact ⟨congrArg (Value.int .i64) (dsum_eq hli p), hS⟩

end Go.Proofs.YthchmlidobgkoaaGreat
end

section
/- Layer 20, the document's node: whether one can be taken. -/
set_option linter.unusedVariables false
set_option linter.unusedSimpArgs false
set_option maxRecDepth 100000
set_option maxHeartbeats 4000000
namespace Go.Proofs.YthchmlidobgkoaaGreat
open Go.Vc Go.RowKit
theorem TDaaaa {P : Prop} (h : P := by first | exact .inl (.inl (by assumption)) | exact .inl (.inr (by assumption)) | exact .inr (by assumption)) : P := h

theorem right_ge {p v c : Int} (h : rightB p v c = true) : 0 ≤ p := by unfold rightB at h; have := of_decide_eq_true h; omega
theorem dwrong_3 {rooms : List Int} {p v c : Int} {k : Con} (h : (rightB p v c = false ∨ c < 32) ∨ p ≥ rooms.length) : wrongN rooms p v c k = 3 := by
  unfold wrongN; rw [if_neg]
  rintro ⟨h1, h2, h3⟩
  rcases h with (h | h) | h
  · rw [h2] at h; cases h
  · omega
  · omega
theorem dwrong_73 {rooms : List Int} {p v c : Int} {k : Con} (h : (rightB p v c = true ∧ ¬ c < 32) ∧ ¬ p ≥ rooms.length) (hk : rightC k ≠ 0) : wrongN rooms p v c k = 73 := by
  unfold wrongN; rw [if_pos ⟨⟨right_ge h.1.1, by omega⟩, h.1.1, by omega⟩, if_neg hk]
theorem dwrong_0 {rooms : List Int} {p v c : Int} {k : Con} (h : (rightB p v c = true ∧ ¬ c < 32) ∧ ¬ p ≥ rooms.length) (hk : rightC k = 0) : wrongN rooms p v c k = 0 := by
  unfold wrongN; rw [if_pos ⟨⟨right_ge h.1.1, by omega⟩, h.1.1, by omega⟩, if_pos hk]
theorem dchk_w {rooms : List Int} {L : List Cx} {p v c x : Int} {k : Con} (h : wrongN rooms p v c k = x) (hx : x ≠ 0) : x = chkN rooms L p v c k := by unfold chkN; rw [if_neg (by rw [h]; exact hx), h]
theorem at_some {l : List Dx} {p v c : Int} : atD l p v c ≥ 0 ↔ (findC (l.map Dx.x) p v c).isSome = true := by
  rcases atD_cases l p v c with ⟨h1, h2⟩ | ⟨i, d, h1, _, h2, _⟩
  · rw [h1, h2]; simp
  · rw [h1, h2]; simp
theorem dchk_35 {rooms : List Int} {l : List Dx} {p v c : Int} {k : Con} (h : wrongN rooms p v c k = 0) (h1 : atD l p v c ≥ 0) : 35 = chkN rooms (l.map Dx.x) p v c k := by unfold chkN; rw [if_pos h, if_pos (at_some.1 h1)]
theorem dchk_47 {rooms : List Int} {l : List Dx} {p v c : Int} {k : Con} (h : wrongN rooms p v c k = 0) (h1 : ¬ atD l p v c ≥ 0) (h2 : 64 ≤ l.length) : 47 = chkN rooms (l.map Dx.x) p v c k := by unfold chkN; rw [if_pos h, if_neg (fun h9 => h1 (at_some.2 h9)), if_pos (by rw [List.length_map]; exact h2)]
theorem dchk_37 {rooms : List Int} {l : List Dx} {p v c : Int} {k : Con} (h : wrongN rooms p v c k = 0) (h1 : ¬ atD l p v c ≥ 0) (h2 : ¬ 64 ≤ l.length) (h3 : needC k > leftN rooms (l.map Dx.x) p) : 37 = chkN rooms (l.map Dx.x) p v c k := by unfold chkN; rw [if_pos h, if_neg (fun h9 => h1 (at_some.2 h9)), if_neg (by rw [List.length_map]; exact h2), if_pos h3]
theorem dchk_0 {rooms : List Int} {l : List Dx} {p v c : Int} {k : Con} (h : wrongN rooms p v c k = 0) (h1 : ¬ atD l p v c ≥ 0) (h2 : ¬ 64 ≤ l.length) (h3 : ¬ needC k > leftN rooms (l.map Dx.x) p) : 0 = chkN rooms (l.map Dx.x) p v c k := by unfold chkN; rw [if_pos h, if_neg (fun h9 => h1 (at_some.2 h9)), if_neg (by rw [List.length_map]; exact h2), if_neg h3]
theorem dcheck_any (nd lo : Nat) (rooms : List Int) (l : List Dx) (p v c : Int) (k : Con) (w : World) (hR : Dv w nd lo rooms l) (hli : LI rooms (l.map Dx.x))  :
  CV Tryz.prog 9 #[Pt nd 0, .agg #[I6 p, I6 v, I6 c], .agg #[I6 k.kind, I6 k.peak, I6 k.early, I6 k.whole, I6 k.burst, I6 k.least]] w (fun x w1 => x = I6 (chkN rooms (l.map Dx.x) p v c k) ∧ Step No w w1) := by
 have hS : Step No w w := Step.refl _ _
 obtain ⟨rA, rc, A, ca, rl, rh, hi, ho, hrc, hcn, hrh, hhi, hrw, hv⟩ := hR
 have hrv : Sl w rh rA (iL .i64 rooms) := Sl2.sl hrw
 have hm : l.length ≤ 64 := by have h9 := hli.len; rw [List.length_map] at h9; exact h9
 refine VCe Tryz.func9 (Vs (Vr ?_))
 have hzl1 := ho.lt
 refine Vx 0 30 #[I6 p, I6 v, I6 c] ?_
 intro b1 w1 hn1
 replace hS := Step.trans hS (hn1.step No)
 replace ho := ho.no (hn1.step No)
 replace hv := hv.step (hn1.step No) (fun k hk1 hk2 hF => hF)
 replace hrv := hrv.no (hn1.step No)
 replace hhi := Nat.le_trans hhi (hn1.step No).size
 replace hrh := Nat.le_trans hrh (hn1.step No).size
 have ho1 := hn1.own
 have hzhn1 := hn1.size
 have hqhn1 := hn1.eqb
 refine Vx 1 32 #[I6 k.kind, I6 k.peak, I6 k.early, I6 k.whole, I6 k.burst, I6 k.least] ?_
 intro b2 w2 hn2
 replace hS := Step.trans hS (hn2.step No)
 replace ho := ho.no (hn2.step No)
 replace hv := hv.step (hn2.step No) (fun k hk1 hk2 hF => hF)
 replace hrv := hrv.no (hn2.step No)
 replace hhi := Nat.le_trans hhi (hn2.step No).size
 replace hrh := Nat.le_trans hrh (hn2.step No).size
 replace ho1 := ho1.no (hn2.step No)
 have ho2 := hn2.own
 have hzhn2 := hn2.size
 have hqhn2 := hn2.eqb
 refine Ve (Vn (Vs (Vs ?_)))
 have hs1 := drew_step w2
 have hs1z : w2.heap.size = w2.drew.heap.size := rfl
 refine Tx 16 (fun k => w2.heap.size ≤ k) [1] [0, 1, 2, 3, 4, 5, 6, 7, 8, 9, 10, 11, 12, 13, 14, 15] ?_
 generalize w2.drew = w3 at hs1 hs1z ⊢
 replace hS := Step.trans hS hs1
 replace ho := ho.no hs1
 replace hv := hv.step hs1 (fun k hk1 hk2 hF => hF)
 replace hrv := hrv.no hs1
 replace hhi := Nat.le_trans hhi (hs1).size
 replace hrh := Nat.le_trans hrh (hs1).size
 replace ho1 := ho1.no hs1
 replace ho2 := ho2.no hs1
 refine Tl (fun w4 hr1 => ho1.step hr1 (by (try simp only); omega)) (Th ?_)
 intro w5 hs2
 replace hS := Step.trans hS hs2
 replace ho := ho.no hs2
 replace hv := hv.step hs2 (fun k hk1 hk2 hF => hF)
 replace hrv := hrv.no hs2
 replace hhi := Nat.le_trans hhi (hs2).size
 replace hrh := Nat.le_trans hrh (hs2).size
 replace ho1 := ho1.no hs2
 replace ho2 := ho2.no hs2
 refine Tc Tryz.call30 (dkright_any p v c _) ?_ ?_
 ·rintro _ w6 ⟨rfl, hc1⟩
  exact Step.mono hc1 (by intro i hi; first | exact hi.elim | exact .inl hi | ((try simp only at hi ⊢); omega))
 rintro _ w6 ⟨rfl, hc1⟩
 replace hS := Step.trans hS hc1
 replace ho := ho.no hc1
 replace hv := hv.step hc1 (fun k hk1 hk2 hF => hF)
 replace hrv := hrv.no hc1
 replace hhi := Nat.le_trans hhi (hc1).size
 replace hrh := Nat.le_trans hrh (hc1).size
 replace ho1 := ho1.no hc1
 replace ho2 := ho2.no hc1
 refine Tp 2 ?_
 rcases Bool.eq_false_or_eq_true (rightB p v c) with hg1 | hg1
 ·refine Tq [(3, Bo (!(rightB p v c))), (2, Bo (!(rightB p v c))), (1, Bo (rightB p v c))] [(3, Bo false), (2, Bo false), (1, Bo true)] (by simp only [hg1, Bool.not_true, Bool.not_false]) ?_
  try simp only [bne_iff_ne, beq_iff_eq, decide_eq_true_eq, decide_eq_false_iff_not, bne_eq_false_iff_eq, beq_eq_false_iff_ne, ne_eq] at hg1
  refine Tp 1 (Tl (fun w7 hr2 => ho1.step hr2 (by (try simp only); omega)) (Tp 3 ?_))
  rcases Bool.eq_false_or_eq_true (decide (c < 32)) with hg2 | hg2
  ·refine Tq [(8, Bo (decide (c < 32))), (7, Bo (decide (c < 32))), (6, Bo (decide (c < 32)))] [(8, Bo true), (7, Bo true), (6, Bo true)] (by simp only [hg2, Bool.not_true, Bool.not_false]) ?_
   try simp only [bne_iff_ne, beq_iff_eq, decide_eq_true_eq, decide_eq_false_iff_not, bne_eq_false_iff_eq, beq_eq_false_iff_ne, ne_eq] at hg2
   refine Tp 7 (VT_end ?_)
   intro w8 hs3
   replace hS := Step.trans hS hs3
   refine Ve (Vn (Vt (Vrp (VC_ret (VQ_then_ret (Vr1 (I6 3) ?_))))))
   exact ⟨congrArg (Value.int .i64) (dchk_w (dwrong_3 TDaaaa) (by decide)), hS⟩
  ·refine Tq [(8, Bo (decide (c < 32))), (7, Bo (decide (c < 32))), (6, Bo (decide (c < 32)))] [(8, Bo false), (7, Bo false), (6, Bo false)] (by simp only [hg2, Bool.not_true, Bool.not_false]) ?_
   try simp only [bne_iff_ne, beq_iff_eq, decide_eq_true_eq, decide_eq_false_iff_not, bne_eq_false_iff_eq, beq_eq_false_iff_ne, ne_eq] at hg2
   refine Tp 1 (Tl (fun w9 hr3 => ho1.step hr3 (by (try simp only); omega)) (Tp 3 (Tl (fun w10 hr4 => ho.step hr4 (by (try simp only); omega)) (Tp 1 (VT_end ?_)))))
   intro w11 hs4
   replace hS := Step.trans hS hs4
   replace ho := ho.no hs4
   replace hv := hv.step hs4 (fun k hk1 hk2 hF => hF)
   replace hrv := hrv.no hs4
   replace hhi := Nat.le_trans hhi (hs4).size
   replace hrh := Nat.le_trans hrh (hs4).size
   replace ho1 := ho1.no hs4
   replace ho2 := ho2.no hs4
   refine Ve (Vn (Vid (p ≥ ((rooms.length : Nat) : Int)) (fun h1 => ?_) (fun h1 => ?_)))
   ·refine Vrp (VC_ret (VQ_then_ret (Vr1 (I6 3) ?_)))
    exact ⟨congrArg (Value.int .i64) (dchk_w (dwrong_3 TDaaaa) (by decide)), hS⟩
   ·refine VC_skip (Vn (Vs (Vs (Vr (Vl 0 ho2 ?_)))))
    refine Vc 1 Tryz.call31 (dright_any k _) ?_
    rintro _ w12 ⟨rfl, hc2⟩
    replace hS := Step.trans hS hc2
    replace ho := ho.no hc2
    replace hv := hv.step hc2 (fun k hk1 hk2 hF => hF)
    replace hrv := hrv.no hc2
    replace hhi := Nat.le_trans hhi (hc2).size
    replace hrh := Nat.le_trans hrh (hc2).size
    replace ho1 := ho1.no hc2
    replace ho2 := ho2.no hc2
    refine Ve (Vn (Viu (rightC k) 0 (fun h2 => ?_) (fun h2 => ?_)))
    ·refine Vrp (VC_ret (VQ_then_ret (Vr1 (I6 73) ?_)))
     exact ⟨congrArg (Value.int .i64) (dchk_w (dwrong_73 ⟨⟨by assumption, by assumption⟩, by assumption⟩ (by assumption)) (by decide)), hS⟩
    ·refine VC_skip (Vn (Vs (Vs (Vr (Vl 1 ho1 ?_)))))
     refine Vc 2 Tryz.call32 (dat_any _ _ _ _ _ _ _ _ _ p v c _ ho hcn hhi hv hm) ?_
     rintro _ w13 ⟨rfl, hc3⟩
     replace hS := Step.trans hS hc3
     replace ho := ho.no hc3
     replace hv := hv.step hc3 (fun k hk1 hk2 hF => hF)
     replace hrv := hrv.no hc3
     replace hhi := Nat.le_trans hhi (hc3).size
     replace hrh := Nat.le_trans hrh (hc3).size
     replace ho1 := ho1.no hc3
     replace ho2 := ho2.no hc3
     refine Ve (Vn (Vid ((atD l p v c) ≥ 0) (fun h3 => ?_) (fun h3 => ?_)))
     ·refine Vrp (VC_ret (VQ_then_ret (Vr1 (I6 35) ?_)))
      exact ⟨congrArg (Value.int .i64) (dchk_35 (dwrong_0 ⟨⟨by assumption, by assumption⟩, by assumption⟩ (by assumption)) (by assumption)), hS⟩
     ·refine VC_skip (Vn (Vs (Vs (Vr (Vl 3 ho (Ve (Vn (Vid (((l.length : Nat) : Int) ≥ 64) (fun h4 => ?_) (fun h4 => ?_)))))))))
      ·refine Vrp (VC_ret (VQ_then_ret (Vr1 (I6 47) ?_)))
       exact ⟨congrArg (Value.int .i64) (dchk_47 (dwrong_0 ⟨⟨by assumption, by assumption⟩, by assumption⟩ (by assumption)) (by assumption) (by omega)), hS⟩
      ·refine VC_skip (Vn (Vs (Vs (Vd 5 [(0, .agg #[I6 k.kind, I6 k.peak, I6 k.early, I6 k.whole, I6 k.burst, I6 k.least]), (1, I6 (needC k)), (4, I6 p)] [0, 1, 4] ?_ ?_))))
       ·intro w14 hs5
        replace ho1 := ho1.no hs5
        replace ho2 := ho2.no hs5
        exact ⟨Dl ho2, Dc Tryz.call33 (dneed_any k _), Dl ho1, trivial⟩
       intro w14 hs5
       replace hS := Step.trans hS hs5
       replace ho := ho.no hs5
       replace hv := hv.step hs5 (fun k hk1 hk2 hF => hF)
       replace hrv := hrv.no hs5
       replace hhi := Nat.le_trans hhi (hs5).size
       replace hrh := Nat.le_trans hrh (hs5).size
       refine VL_keep [39, 40, 42] [(39, I6 (needC k)), (40, Pt nd 0), (42, I6 p)] (by kernel_rfl) ?_
       refine Vc 5 Tryz.call34 (dleft_any nd lo rooms l p _ ⟨_, _, _, _, 0, _, _, ho, hrc, hcn, hrh, hhi, sl_sl2 hrv, hv⟩ hli) ?_
       rintro _ w15 ⟨rfl, hc4⟩
       replace hS := Step.trans hS hc4
       refine Ve (Vn (Vid ((needC k) > (leftN rooms (l.map Dx.x) p)) (fun h5 => ?_) (fun h5 => ?_)))
       ·refine Vrp (VC_ret (VQ_then_ret (Vr1 (I6 37) ?_)))
        exact ⟨congrArg (Value.int .i64) (dchk_37 (dwrong_0 ⟨⟨by assumption, by assumption⟩, by assumption⟩ (by assumption)) (by assumption) (by omega) (by assumption)), hS⟩
       ·refine VC_skip (Vn (Vrp (VC_ret (Vr1 (I6 0) ?_))))
        exact ⟨congrArg (Value.int .i64) (dchk_0 (dwrong_0 ⟨⟨by assumption, by assumption⟩, by assumption⟩ (by assumption)) (by assumption) (by omega) (by assumption)), hS⟩
 ·refine Tq [(3, Bo (!(rightB p v c))), (2, Bo (!(rightB p v c))), (1, Bo (rightB p v c))] [(3, Bo true), (2, Bo true), (1, Bo false)] (by simp only [hg1, Bool.not_true, Bool.not_false]) ?_
  try simp only [bne_iff_ne, beq_iff_eq, decide_eq_true_eq, decide_eq_false_iff_not, bne_eq_false_iff_eq, beq_eq_false_iff_ne, ne_eq] at hg1
  refine Tp 12 (VT_end ?_)
  intro w16 hs6
  replace hS := Step.trans hS hs6
  refine Ve (Vn (Vt (Vrp (VC_ret (VQ_then_ret (Vr1 (I6 3) ?_))))))
  exact ⟨congrArg (Value.int .i64) (dchk_w (dwrong_3 TDaaaa) (by decide)), hS⟩

end Go.Proofs.YthchmlidobgkoaaGreat
end

section
/- Layer 20, the document's node: drop, verdict. -/
set_option linter.unusedVariables false
set_option linter.unusedSimpArgs false
set_option maxRecDepth 100000
set_option maxHeartbeats 4000000
namespace Go.Proofs.YthchmlidobgkoaaGreat
open Go.Vc Go.RowKit
theorem TDabaa {P : Prop} (h : P := by simp only [flat_append, flat_one, List.append_assoc, List.nil_append, List.append_nil, show flat dxc [] = [] from rfl]) : P := h
theorem TDabab {P : Prop} (h : P := by simp only [List.length_take, List.length_drop]; have hq9 : l.length = l.length := rfl; omega) : P := h

theorem dmut_fin {w1 : World} {nd n m c rm rc base base2 : Nat} {rA A : Option Addr} {xs ys : List Value} (ho : Own w1 nd #[.slice rA rm rc, .slice A n c] 55) (hr : RwS w1 10 base 67 A n c xs) (hn : n = m) (hx : xs = ys) (hb : base2 ≤ base) : ∃ A2 c2, Own w1 nd #[.slice rA rm rc, .slice A2 m c2] 55 ∧ RwS w1 10 base2 67 A2 m c2 ys := by
  subst hn; subst hx
  exact ⟨A, c, ho, hr.low hb⟩
theorem ddrop_no (nd lo hi : Nat) (rooms : List Int) (l : List Dx) (rA : Option Addr) (rc : Nat) (A : Option Addr) (ca : Nat) (kp kv kc : Int) (w : World) (ho : Own w nd #[.slice rA rooms.length rc, .slice A l.length ca] 55) (hcn : l.length ≤ ca) (hhi : hi ≤ w.heap.size) (hv : Sl2 w lo hi A (flat dxc l)) (hnw : nd < lo ∨ hi ≤ nd) (hm : l.length ≤ 64) (hat : atD l kp kv kc = -1)  :
  CV Tryz.prog 15 #[Pt nd 0, .agg #[I6 kp, I6 kv, I6 kc]] w (fun x w1 => x = Bo false ∧ Step No w w1) := by
 have hS : Step No w w := Step.refl _ _
 refine VCe Tryz.func15 (Vs (Vr ?_))
 refine Vx 0 30 #[I6 kp, I6 kv, I6 kc] ?_
 intro b1 w1 hn1
 replace hS := Step.trans hS (hn1.step No)
 replace ho := ho.no (hn1.step No)
 replace hv := hv.step (hn1.step No) (fun k hk1 hk2 hF => hF)
 replace hhi := Nat.le_trans hhi (hn1.step No).size
 have ho1 := hn1.own
 refine Ve (Vn (Vs (Vr (Vl 1 ho1 ?_))))
 refine Vc 2 Tryz.call32 ((dat_any _ _ _ _ _ _ _ _ _ kp kv kc _ ho hcn hhi hv hm).mono (fun x w1 h9 => by rw [hat] at h9; exact h9)) ?_
 rintro _ w2 ⟨rfl, hc1⟩
 replace hS := Step.trans hS hc1
 refine Ve (Vn (Vs (Vrp (Vt (Vrp (VC_ret (VQ_then_ret (Vr1 (Bo false) ?_))))))))
 exact ⟨rfl, hS⟩

theorem ddrop_yes (nd lo hi : Nat) (rooms : List Int) (l : List Dx) (rA : Option Addr) (rc : Nat) (A : Option Addr) (ca : Nat) (kp kv kc : Int) (w : World) (ho : Own w nd #[.slice rA rooms.length rc, .slice A l.length ca] 55) (hcn : l.length ≤ ca) (hhi : hi ≤ w.heap.size) (hv : Sl2 w lo hi A (flat dxc l)) (hnw : nd < lo ∨ hi ≤ nd) (hm : l.length ≤ 64) (i : Nat) (y : Dx) (hat : atD l kp kv kc = (i : Nat)) (hy : l[i]? = some y)  :
  CV Tryz.prog 15 #[Pt nd 0, .agg #[I6 kp, I6 kv, I6 kc]] w (fun x w1 => x = Bo true ∧ ∃ A2 c2, Own w1 nd #[.slice rA rooms.length rc, .slice A2 (l.length - 1) c2] 55 ∧ RwS w1 10 w.heap.size 67 A2 (l.length - 1) c2 (flat dxc (l.take i ++ l.drop (i + 1))) ∧ Step (Just nd) w w1) := by
 have hS : Step (Just nd) w w := Step.refl _ _
 have hiL := (List.getElem?_eq_some_iff.1 hy).1
 refine VCe Tryz.func15 (Vs (Vr ?_))
 refine Vx 0 30 #[I6 kp, I6 kv, I6 kc] ?_
 intro b1 w1 hn1
 replace hS := Step.trans hS (Step.weak (hn1.step No))
 replace ho := ho.no (hn1.step No)
 replace hv := hv.step (hn1.step No) (fun k hk1 hk2 hF => hF)
 replace hhi := Nat.le_trans hhi (hn1.step No).size
 have ho1 := hn1.own
 have hzhn1 := hn1.size
 have hqhn1 := hn1.eqb
 refine Ve (Vn (Vs (Vr (Vl 1 ho1 ?_))))
 refine Vc 2 Tryz.call32 ((dat_any _ _ _ _ _ _ _ _ _ kp kv kc _ ho hcn hhi hv hm).mono (fun x w1 h9 => by rw [hat] at h9; exact h9)) ?_
 rintro _ w2 ⟨rfl, hc1⟩
 replace hS := Step.trans hS (Step.weak hc1)
 replace ho := ho.no hc1
 replace hv := hv.step hc1 (fun k hk1 hk2 hF => hF)
 replace hhi := Nat.le_trans hhi (hc1).size
 replace ho1 := ho1.no hc1
 refine Ve (Vn (Vs (Vrp (Viz (b := decide (((i : Nat) : Int) < 0)) (decide_eq_false (by omega)) (VC_skip (Vn (Vs ?_)))))))
 have hs1 := drew_step w2
 have hs1z : w2.heap.size = w2.drew.heap.size := rfl
 refine Tx 17 (fun k => w2.heap.size ≤ k) [1, 8, 16] [0, 2, 3, 4, 5, 6, 7, 9, 10, 11, 12, 13, 14, 15, 1, 8, 16] ?_
 have hzl4 := ho.lt
 generalize w2.drew = w3 at hs1 hs1z ⊢
 replace hS := Step.trans hS (Step.weak hs1)
 replace ho := ho.no hs1
 replace hv := hv.step hs1 (fun k hk1 hk2 hF => hF)
 replace hhi := Nat.le_trans hhi (hs1).size
 replace ho1 := ho1.no hs1
 refine Tp 4 (Tl (fun w4 hr1 => ho.step hr1 (by (try simp only); omega)) (Tp 1 (VT_sliceV (d := 18) (A := A) (sz := 10) (len := l.length) (cap := ca) (lo := none) (hi := (some ((i : Nat) : Int))) (mx := none) (by kernel_rfl) (by kernel_rfl) (fun h => by first | exact absurd rfl h | exact (fun h => by cases h)) (Sl2.sl hv) 0 i ca rfl rfl rfl (by omega) (by omega) (by omega) i (by omega) ca (by omega) _ (flat_cut dxc_len l 0 i) ?_)))
 intro A1 hsl1
 refine Tp 3 (Tl (fun w5 hr2 => ho.step hr2 (by (try simp only); omega)) (Tp 2 (VT_sliceV (d := 26) (A := A) (sz := 10) (len := l.length) (cap := ca) (lo := (some (IntKind.wrap .i64 (((i : Nat) : Int) + 1)))) (hi := none) (mx := none) (by kernel_rfl) (by kernel_rfl) (fun h => by first | exact absurd rfl h | exact (fun h => by cases h)) (Sl2.sl hv) (i + 1) l.length ca (show IntKind.wrap .i64 (((i : Nat) : Int) + 1) = ((i + 1 : Nat) : Int) from (by rw [wrap_i64 _ (by omega) (by omega)]; omega)) rfl rfl (by omega) (by omega) (by omega) (l.length - (i + 1)) (by omega) (ca - (i + 1)) (by omega) _ (flat_cut dxc_len l (i + 1) (l.length - (i + 1))) ?_)))
 intro A2 hsl2
 refine Th ?_
 intro w6 hs2
 have hzhs2 := hs2.size
 replace hS := Step.trans hS (Step.weak hs2)
 replace ho := ho.no hs2
 replace hhi := Nat.le_trans hhi (hs2).size
 replace ho1 := ho1.no hs2
 replace hsl1 := hsl1.no hs2
 replace hsl2 := hsl2.no hs2
 have hzl6 := ho.lt
 have hzk2 := hhi
 have hzl7 := ho1.lt
 refine VTc_bs (d := 12) (e := 67) (c := #[]) (len := 0) (by kernel_rfl) (by kernel_rfl) (fun b w1 hn => hn.step _) ?_
 intro b2 w7 hn2
 replace hS := Step.trans hS (Step.weak (hn2.step No))
 replace ho := ho.no (hn2.step No)
 replace hhi := Nat.le_trans hhi (hn2.step No).size
 replace hsl1 := hsl1.no (hn2.step No)
 replace hsl2 := hsl2.no (hn2.step No)
 have ho2 := hn2.own
 have hzhn2 := hn2.size
 have hqhn2 := hn2.eqb
 refine Th ?_
 intro w8 hs3
 replace hS := Step.trans hS (Step.weak hs3)
 replace ho := ho.no hs3
 replace hhi := Nat.le_trans hhi (hs3).size
 replace hsl1 := hsl1.no hs3
 replace hsl2 := hsl2.no hs3
 replace ho2 := ho2.no hs3
 have hzk4 := hhi
 have hbase1 := Nat.le_of_lt ho2.lt
 have hrowhbase1 := RwS.of_new (n := 0) (sz := 10) (base := b2) ho2 (Nat.le_refl _) (by simp [maxLen]) (by rfl)
 refine VTc_appendZ (d := 19) (e := 67) (A := (some ⟨b2, 0, none⟩)) (mm := 0) (c := 0) (A2 := A1) (m2 := i) (c2 := ca) (sz := 10) (bytes := 80) (by kernel_rfl) (by kernel_rfl) (by kernel_rfl) b2 w8.heap.size (flat dxc ([])) (flat dxc (l.take i)) hrowhbase1 (by rw [flat_len dxc_len, show (l.take i).length = i from TDabab]) (Sl.mono hsl1 (by first | exact Nat.le_refl _ | omega)) (flat_one' dxc_one _) i (by omega) (by simp only [maxLen]; omega) (by omega) (by omega) ?_ ?_
 ·intro w1 hs1; exact Step.mono hs1 (fun i hi => by obtain ⟨a9, ha9, hi9⟩ := hi; cases ha9; have hi8 : b2 = i := hi9; (try simp only); omega)
 intro A3 c1 w9 hr3 hg1
 replace hr3 : RwS w9 10 b2 67 A3 i c1 (flat dxc (l.take i)) := RwS.cast hr3 rfl TDabaa
 replace hg1 := Step.mono (G := fun k => k = b2) hg1 (fun i hi => by obtain ⟨a9, ha9, hi9⟩ := hi; cases ha9; exact hi9.symm)
 replace hS := Step.transNew hS hg1 (fun i hi hG => by (try simp only at hG); (first | show _ ∨ _ | show _ = _); omega)
 replace ho := ho.step hg1 (by (try simp only); omega)
 replace hhi := Nat.le_trans hhi (hg1).size
 replace hsl2 := hsl2.step hg1 (fun k hk hG => by (try simp only at hG); omega)
 replace hbase1 := Nat.le_trans hbase1 (hg1).size
 have hlhr3 : (l.take i).length = i := by have hq9 := RwS.len hr3; rw [flat_len dxc_len] at hq9 <;> omega
 refine Th ?_
 intro w10 hs4
 replace hS := Step.trans hS (Step.weak hs4)
 replace ho := ho.no hs4
 replace hhi := Nat.le_trans hhi (hs4).size
 replace hsl2 := hsl2.no hs4
 replace hbase1 := Nat.le_trans hbase1 (hs4).size
 replace hr3 := hr3.no hs4
 have hzk5 := hhi
 have hzk6 := hbase1
 refine VTc_appendZ (d := 27) (e := 67) (A := A3) (mm := i) (c := c1) (A2 := A2) (m2 := (l.length - (i + 1))) (c2 := (ca - (i + 1))) (sz := 10) (bytes := 80) (by kernel_rfl) (by kernel_rfl) (by kernel_rfl) b2 w10.heap.size (flat dxc (l.take i)) (flat dxc ((l.drop (i + 1)).take (l.length - (i + 1)))) hr3 (by rw [flat_len dxc_len, show ((l.drop (i + 1)).take (l.length - (i + 1))).length = (l.length - (i + 1)) from TDabab]) (Sl.mono hsl2 (by first | exact Nat.le_refl _ | omega)) (flat_one' dxc_one _) (i + (l.length - (i + 1))) (by omega) (by simp only [maxLen]; omega) (by omega) (by omega) ?_ ?_
 ·intro w1 hs1; exact Step.mono hs1 (fun i hi => by have hi1 := (RwS.lt hr3 i hi).1; (try simp only); omega)
 intro A4 c2 w11 hr4 hg2
 replace hr4 : RwS w11 10 b2 67 A4 (i + (l.length - (i + 1))) c2 (flat dxc ((l.take i) ++ ((l.drop (i + 1)).take (l.length - (i + 1))))) := RwS.cast hr4 rfl TDabaa
 replace hg2 := Step.mono (G := fun k => b2 ≤ k) hg2 (fun i hi => (RwS.lt hr3 i hi).1)
 replace hS := Step.transNew hS hg2 (fun i hi hG => by (try simp only at hG); (first | show _ ∨ _ | show _ = _); omega)
 replace ho := ho.step hg2 (by (try simp only); omega)
 have hlhr4 : ((l.take i) ++ ((l.drop (i + 1)).take (l.length - (i + 1)))).length = i + (l.length - (i + 1)) := by have hq9 := RwS.len hr4; rw [flat_len dxc_len] at hq9 <;> omega
 refine VT_end ?_
 intro w12 hs5
 replace hS := Step.trans hS (Step.weak hs5)
 replace ho := ho.no hs5
 replace hr4 := hr4.no hs5
 refine Vst 19 (o := 1) [.slice A4 (i + (l.length - (i + 1))) c2] ho #[.slice rA rooms.length rc, .slice A4 (i + (l.length - (i + 1))) c2] ?_
 intro w13 hw1
 replace hS := Step.trans hS (Step.mono hw1.step (by intro i hi; first | exact hi | exact ⟨_, by assumption, hi⟩ | (have hi9 : i = nd := hi; (first | show _ ∨ _ | show _ = _); omega)))
 replace hr4 := hr4.step hw1.step (fun k hk (hF : k = nd) => by omega)
 have ho3 := hw1.own
 refine Ve (Vn (Vrp (VC_ret (Vr1 (Bo true) ?_))))
 obtain ⟨A9, c9, q1, q2⟩ := dmut_fin (m := l.length - 1) (ys := flat dxc (l.take i ++ l.drop (i + 1))) (base2 := w.heap.size) ho3 hr4 (by omega) (by rw [List.take_of_length_le (show (l.drop (i + 1)).length ≤ _ by rw [List.length_drop]; omega)]) (by omega)
 exact ⟨rfl, A9, c9, q1, q2, hS⟩

theorem dverdict_no (nd lo hi : Nat) (rooms : List Int) (l : List Dx) (rA : Option Addr) (rc : Nat) (A : Option Addr) (ca : Nat) (kp kv kc : Int) (t clp : Int) (w : World) (ho : Own w nd #[.slice rA rooms.length rc, .slice A l.length ca] 55) (hcn : l.length ≤ ca) (hhi : hi ≤ w.heap.size) (hv : Sl2 w lo hi A (flat dxc l)) (hnw : nd < lo ∨ hi ≤ nd) (hm : l.length ≤ 64) (hat : atD l kp kv kc = -1)  :
  CV Tryz.prog 17 #[Pt nd 0, .agg #[I6 kp, I6 kv, I6 kc], I6 t, I6 clp] w (fun x w1 => x = .tuple #[I6 0, Bo false] ∧ Step No w w1) := by
 have hS : Step No w w := Step.refl _ _
 refine VCe Tryz.func17 (Vs (Vr ?_))
 refine Vx 0 30 #[I6 kp, I6 kv, I6 kc] ?_
 intro b1 w1 hn1
 replace hS := Step.trans hS (hn1.step No)
 replace ho := ho.no (hn1.step No)
 replace hv := hv.step (hn1.step No) (fun k hk1 hk2 hF => hF)
 replace hhi := Nat.le_trans hhi (hn1.step No).size
 have ho1 := hn1.own
 refine Ve (Vn (Vs (Vr (Vl 1 ho1 ?_))))
 refine Vc 2 Tryz.call32 ((dat_any _ _ _ _ _ _ _ _ _ kp kv kc _ ho hcn hhi hv hm).mono (fun x w1 h9 => by rw [hat] at h9; exact h9)) ?_
 rintro _ w2 ⟨rfl, hc1⟩
 replace hS := Step.trans hS hc1
 refine Ve (Vn (Vs (Vrp (Vt (Vrp (VC_ret (VQ_then_ret (Vr2 (I6 0) (Bo false) ?_))))))))
 exact ⟨rfl, hS⟩

theorem dverdict_yes (nd lo hi : Nat) (rooms : List Int) (l : List Dx) (rA : Option Addr) (rc : Nat) (A : Option Addr) (ca : Nat) (kp kv kc : Int) (t clp : Int) (w : World) (ho : Own w nd #[.slice rA rooms.length rc, .slice A l.length ca] 55) (hcn : l.length ≤ ca) (hhi : hi ≤ w.heap.size) (hv : Sl2 w lo hi A (flat dxc l)) (hnw : nd < lo ∨ hi ≤ nd) (hm : l.length ≤ 64) (i : Nat) (y : Dx) (hat : atD l kp kv kc = (i : Nat)) (hy : l[i]? = some y) (hpol : DPl w y.pp y.Y y.x.k y.x.rs) :
  CV Tryz.prog 17 #[Pt nd 0, .agg #[I6 kp, I6 kv, I6 kc], I6 t, I6 clp] w (fun x w1 => x = .tuple #[I6 (polV (decide (y.x.k.kind = 7)) t clp y.x.rs), Bo true] ∧ DPl w1 y.pp y.Y y.x.k (rulesT t clp y.x.rs) ∧ Step y.Y w w1) := by
 have hS : Step No w w := Step.refl _ _
 have hiL := (List.getElem?_eq_some_iff.1 hy).1
 refine VCe Tryz.func17 (Vs (Vr ?_))
 refine Vx 0 30 #[I6 kp, I6 kv, I6 kc] ?_
 intro b1 w1 hn1
 replace hS := Step.trans hS (hn1.step No)
 replace ho := ho.no (hn1.step No)
 replace hv := hv.step (hn1.step No) (fun k hk1 hk2 hF => hF)
 replace hhi := Nat.le_trans hhi (hn1.step No).size
 replace hpol := DPl.no hpol (hn1.step No)
 have ho1 := hn1.own
 refine Ve (Vn (Vs (Vr (Vl 1 ho1 ?_))))
 refine Vc 2 Tryz.call32 ((dat_any _ _ _ _ _ _ _ _ _ kp kv kc _ ho hcn hhi hv hm).mono (fun x w1 h9 => by rw [hat] at h9; exact h9)) ?_
 rintro _ w2 ⟨rfl, hc1⟩
 replace hS := Step.trans hS hc1
 replace ho := ho.no hc1
 replace hv := hv.step hc1 (fun k hk1 hk2 hF => hF)
 replace hpol := DPl.no hpol hc1
 refine Ve (Vn (Vs (Vrp (Viz (b := decide (((i : Nat) : Int) < 0)) (decide_eq_false (by omega)) (VC_skip (Vn (Vs (Vr (Vl 3 ho (Vp 5 ?_))))))))))
 obtain ⟨sb1, so1, rfl, hlbsb1⟩ := (Sl2.sl hv).open (by rw [flat_len dxc_len]; have hq9 : l.length = l.length := rfl; omega)
 refine VL_index (d := 21) (b := sb1) (o := so1) (len := l.length) (sz := 10) (m := ((i : Nat) : Int)) (by kernel_rfl) (by kernel_rfl) i (by rfl) (by omega) (so1 + i * 10) (by omega) (Vla 7 (t := 65) (a := ⟨sb1, so1 + i * 10 + 9, none⟩) (v := Pt y.pp 0) (Sl.flatOne (sz := 10) (Sl2.sl hv) dxc_len hy 9 (by rfl) (by decide) (by kernel_rfl) _ (by first | rfl | omega)) (Vp 10 ?_))
 refine Vc 10 Tryz.call46 (dtake_any t clp hpol) ?_
 rintro _ w3 ⟨rfl, hpol2, hTk⟩
 have hS2 := Step.trans (Step.mono hS (fun _ h9 => False.elim h9)) hTk
 refine Ve (Vn (VC_ret (Vr2 (I6 (polV (decide (y.x.k.kind = 7)) t clp y.x.rs)) (Bo true) ?_)))
 exact ⟨rfl, hpol2, hS2⟩

end Go.Proofs.YthchmlidobgkoaaGreat
end

section
/- Layer 20, the document's node: one is taken. -/
set_option linter.unusedVariables false
set_option linter.unusedSimpArgs false
set_option maxRecDepth 100000
set_option maxHeartbeats 4000000
namespace Go.Proofs.YthchmlidobgkoaaGreat
open Go.Vc Go.RowKit
theorem TDacaa {P : Prop} (h : P := by simp only [flat_append, flat_one, List.append_assoc, List.nil_append, List.append_nil, show flat dxc [] = [] from rfl]) : P := h
theorem TDacab {P : Prop} (h : P := by intro i hi; first | exact hi | exact ⟨_, by assumption, hi⟩ | (have hi9 : i = nd := hi; (first | show _ ∨ _ | show _ = _); omega)) : P := h
theorem TDacac {P : Prop} (h : P := by simp only [List.length_take, List.length_drop]; have hq9 : l.length = l.length := rfl; omega) : P := h
theorem TDacae {P : Prop} (h : P := by rw [hie, List.take_of_length_le (show (l.drop i).length ≤ _ by rw [List.length_drop]; omega)]; simp only [List.append_assoc, List.singleton_append, List.cons_append, List.nil_append]) : P := h
theorem TDacaf {P : Prop} (h : P := by first | exact Nat.le_refl _ | omega) : P := h
theorem TDacah {P : Prop} (h : P := by rw [flat_len dxc_len, show (l.take 0).length = 0 from (by simp only [List.length_take, List.length_drop]; have hq9 : l.length = 0 := hl0; omega)]) : P := h
theorem TDacai {P : Prop} (h : P := by simp only [maxLen]; omega) : P := h
theorem TDacaj {P : Prop} (h : P := by intro i hi; first | exact hi.elim | exact .inl hi | ((try simp only at hi ⊢); omega)) : P := h

def eD (l : List Dx) : List Ent := l.map fun d => d.x.e0
theorem eD_get {l : List Dx} {i : Nat} {d : Dx} (h : l[i]? = some d) : (eD l)[i]? = some d.x.e0 := by unfold eD; rw [List.getElem?_map, h]; rfl
theorem eD_len (l : List Dx) : (eD l).length = l.length := by unfold eD; simp
theorem dahead_step {l : List Dx} {i : Nat} {y : Dx} {p v c : Int} (hy : l[i]? = some y) (hb : befK y.x.p y.x.v y.x.c p v c = true) : aheadE ((eD l).drop i) p v c = aheadE ((eD l).drop (i + 1)) p v c + 1 := by
  obtain ⟨hi, he⟩ := List.getElem?_eq_some_iff.1 (eD_get hy)
  rw [List.drop_eq_getElem_cons hi, he, aheadE, show befK y.x.e0.p y.x.e0.v y.x.e0.c p v c = true from hb]; rfl
theorem dahead_stop {l : List Dx} {i : Nat} {y : Dx} {p v c : Int} (hy : l[i]? = some y) (hb : befK y.x.p y.x.v y.x.c p v c = false) : aheadE ((eD l).drop i) p v c = 0 := by
  obtain ⟨hi, he⟩ := List.getElem?_eq_some_iff.1 (eD_get hy)
  rw [List.drop_eq_getElem_cons hi, he, aheadE, show befK y.x.e0.p y.x.e0.v y.x.e0.c p v c = false from hb]; rfl
theorem dahead_nil {l : List Dx} {i : Nat} {p v c : Int} (h : l.length ≤ i) : aheadE ((eD l).drop i) p v c = 0 := by rw [List.drop_eq_nil_of_le (by rw [eD_len]; exact h)]; rfl
theorem RwS.tyB {w : World} {sz base n c : Nat} {T : TypeId} {A : Option Addr} {xs : List Value} (h : RwS w sz base T A n c xs) {q : Nat} (hq : ownB A q) : TyB w T q := by
  obtain ⟨a, rfl, rfl⟩ := hq
  rcases h.2 with ⟨hv, _⟩ | ⟨g, cap, cur, hv, hb, hg, rest⟩
  · cases hv
  · cases hv; exact ⟨_, _, hg⟩
theorem DPl.app {w w' : World} {pp sz base n c : Nat} {Y : Nat → Prop} {k : Con} {rs : List Rl} {A : Option Addr} {xs : List Value} (h : DPl w pp Y k rs) (hr : RwS w sz base 67 A n c xs) (hs : Step (ownB A) w w') : DPl w' pp Y k rs :=
  h.step hs fun q hq ho => by
    have h1 := RwS.tyB hr ho
    rcases h.ty hq with h2 | h2 | h2 | h2 <;> exact tyb_ne h1 h2 (by decide) rfl
theorem dntake_more (nd lo hi : Nat) (rooms : List Int) (l : List Dx) (rA : Option Addr) (rc : Nat) (A : Option Addr) (ca : Nat) (kp kv kc : Int) (w : World) (ho : Own w nd #[.slice rA rooms.length rc, .slice A l.length ca] 55) (hcn : l.length ≤ ca) (hhi : hi ≤ w.heap.size) (hv : Sl2 w lo hi A (flat dxc l)) (hnw : nd < lo ∨ hi ≤ nd) (hm : l.length ≤ 64) (rl rh : Nat) (k : Con) (hrc : rooms.length ≤ rc) (hrh : rh ≤ w.heap.size) (hrw : Sl2 w rl rh rA (iL .i64 rooms)) (hli : LI rooms (l.map Dx.x)) (he : chkN rooms (l.map Dx.x) kp kv kc k = 0) (hk : rightC k = 0) (hpos : 0 < l.length) :
  CV Tryz.prog 11 #[Pt nd 0, .agg #[I6 kp, I6 kv, I6 kc], .agg #[I6 k.kind, I6 k.peak, I6 k.early, I6 k.whole, I6 k.burst, I6 k.least]] w (fun x w1 => x = I6 0 ∧ ∃ A2 c2 pn Yn, Own w1 nd #[.slice rA rooms.length rc, .slice A2 (l.length + 1) c2] 55 ∧ RwS w1 10 w.heap.size 67 A2 (l.length + 1) c2 (flat dxc (l.take (aheadE (eD l) kp kv kc) ++ (⟨⟨kp, kv, kc, k, rulesC k⟩, pn, Yn⟩ : Dx) :: l.drop (aheadE (eD l) kp kv kc))) ∧ DPl w1 pn Yn k (rulesC k) ∧ (∀ q, Yn q → w.heap.size ≤ q) ∧ Step (Just nd) w w1) := by
 have hS : Step (Just nd) w w := Step.refl _ _
 refine VCe Tryz.func11 (Vs (Vr ?_))
 have hzk1 := hhi
 refine Vx 0 30 #[I6 kp, I6 kv, I6 kc] ?_
 intro b1 w1 hn1
 replace hS := Step.trans hS (Step.weak (hn1.step No))
 replace ho := ho.no (hn1.step No)
 replace hv := hv.step (hn1.step No) (fun k hk1 hk2 hF => hF)
 replace hhi := Nat.le_trans hhi (hn1.step No).size
 replace hrw := hrw.step (hn1.step No) (fun k hk1 hk2 hF => hF)
 replace hrh := Nat.le_trans hrh (hn1.step No).size
 have ho1 := hn1.own
 have hzhn1 := hn1.size
 have hqhn1 := hn1.eqb
 refine Vx 1 32 #[I6 k.kind, I6 k.peak, I6 k.early, I6 k.whole, I6 k.burst, I6 k.least] ?_
 intro b2 w2 hn2
 replace hS := Step.trans hS (Step.weak (hn2.step No))
 replace ho := ho.no (hn2.step No)
 replace hv := hv.step (hn2.step No) (fun k hk1 hk2 hF => hF)
 replace hhi := Nat.le_trans hhi (hn2.step No).size
 replace hrw := hrw.step (hn2.step No) (fun k hk1 hk2 hF => hF)
 replace hrh := Nat.le_trans hrh (hn2.step No).size
 replace ho1 := ho1.no (hn2.step No)
 have ho2 := hn2.own
 have hzhn2 := hn2.size
 have hqhn2 := hn2.eqb
 refine Ve (Vn (Vs (Vr (Vl 1 ho1 (Vl 2 ho2 ?_)))))
 refine Vc 3 Tryz.call9 ((dcheck_any nd lo rooms l kp kv kc k _ ⟨_, _, _, _, rl, rh, _, ho, hrc, hcn, hrh, hhi, hrw, hv⟩ hli).mono (fun x w1 h9 => by rw [he] at h9; exact h9)) ?_
 rintro _ w3 ⟨rfl, hc1⟩
 replace hS := Step.trans hS (Step.weak hc1)
 replace ho := ho.no hc1
 replace hv := hv.step hc1 (fun k hk1 hk2 hF => hF)
 replace hhi := Nat.le_trans hhi (hc1).size
 replace ho1 := ho1.no hc1
 replace ho2 := ho2.no hc1
 refine Ve (Vn (Vs (Vrp (Vf (VC_skip (Vn (Vrp (Vs (VC_block (VC_loop (σ := Nat) (fun σs => [(0, Pt nd 0), (4, Pt b1 0), (5, Pt b2 0), (8, I6 ((σs : Nat) : Int))]) (fun σs wr => σs ≤ l.length ∧ aheadE ((eD l).drop σs) kp kv kc + σs = aheadE (eD l) kp kv kc ∧ (Own wr nd #[.slice rA rooms.length rc, .slice A l.length ca] 55) ∧ (Sl2 wr lo hi A (flat dxc l)) ∧ (hi ≤ wr.heap.size) ∧ (Own wr b1 #[I6 kp, I6 kv, I6 kc] 30) ∧ (Own wr b2 #[I6 k.kind, I6 k.peak, I6 k.early, I6 k.whole, I6 k.burst, I6 k.least] 32) ∧ (Step (Just nd) w wr)) (fun σs wr => l.length - σs) 0 Su ?_ ?_))))))))))
 ·exact ⟨Nat.zero_le _, rfl, ho, hv, hhi, ho1, ho2, hS⟩
 rintro i wr ⟨hi0, hah, ho, hv, hhi, ho1, ho2, hS⟩
 try dsimp only at hi0 hah ho hv hhi ho1 ho2 hS ⊢
 refine Vs (Vs ?_)
 obtain ⟨sb1, so1, rfl, hlbsb1⟩ := (Sl2.sl hv).open (by rw [flat_len dxc_len]; omega)
 have hs1 := drew_step wr
 have hs1z : wr.heap.size = wr.drew.heap.size := rfl
 refine Tx 17 (fun k => wr.heap.size ≤ k) [] [0, 1, 2, 3, 4, 5, 6, 7, 8, 9, 10, 11, 12, 13, 14, 15, 16] ?_
 have hzl7 := ho.lt
 have hzl9 := ho2.lt
 generalize wr.drew = w4 at hs1 hs1z ⊢
 replace ho := ho.no hs1
 replace hv := hv.step hs1 (fun k hk1 hk2 hF => hF)
 replace hhi := Nat.le_trans hhi (hs1).size
 replace ho1 := ho1.no hs1
 replace ho2 := ho2.no hs1
 replace hS := Step.trans hS (Step.weak hs1)
 refine Tp 4 (Tl (fun w5 hr1 => ho.step hr1 (by (try simp only); omega)) (Tp 3 ?_))
 rcases Bool.eq_false_or_eq_true (decide (((i : Nat) : Int) < ((l.length : Nat) : Int))) with hg1 | hg1
 ·refine Tq [(7, Bo (decide (((i : Nat) : Int) < ((l.length : Nat) : Int)))), (6, Bo (decide (((i : Nat) : Int) < ((l.length : Nat) : Int))))] [(7, Bo true), (6, Bo true)] (by simp only [hg1, Bool.not_true, Bool.not_false]) ?_
  try simp only [bne_iff_ne, beq_iff_eq, decide_eq_true_eq, decide_eq_false_iff_not, bne_eq_false_iff_eq, beq_eq_false_iff_ne, ne_eq] at hg1
  refine Tp 3 (Tl (fun w6 hr2 => ho.step hr2 (by (try simp only); omega)) (Tp 1 (VT_index (d := 30) (b := sb1) (o := so1) (len := l.length) (sz := 10) (mm := ((i : Nat) : Int)) (by kernel_rfl) (by kernel_rfl) i (by rfl) (by omega) (so1 + i * 10) (by omega) (Tp 1 ?_))))
  obtain ⟨y1, hy1⟩ : ∃ x, l[i]? = some x := ⟨_, List.getElem?_eq_getElem (by omega)⟩
  refine VT_load (d := 32) (t := 30) (a := ⟨sb1, so1 + i * 10, none⟩) (v := .agg #[I6 y1.x.p, I6 y1.x.v, I6 y1.x.c]) (by kernel_rfl) (by kernel_rfl) ?_ ?_
  ·intro w7 hr3
   replace hv := hv.step hr3 (fun k hk1 hk2 hG => by (try simp only at hG); omega)
   exact (Sl.flatAgg (sz := 10) (Sl2.sl hv) dxc_len hy1 0 3 (by kernel_rfl) (by decide) _ (by first | rfl | omega))
  refine Tl (fun w8 hr4 => ho1.step hr4 (by (try simp only); omega)) (VT_end ?_)
  intro w9 hs2
  replace ho := ho.no hs2
  replace hv := hv.step hs2 (fun k hk1 hk2 hF => hF)
  replace hhi := Nat.le_trans hhi (hs2).size
  replace ho1 := ho1.no hs2
  replace ho2 := ho2.no hs2
  replace hS := Step.trans hS (Step.weak hs2)
  refine VL_keep [0, 4, 5, 8, 24, 32, 33] [(0, Pt nd 0), (4, Pt b1 0), (5, Pt b2 0), (8, I6 ((i : Nat) : Int)), (24, Bo true), (32, .agg #[I6 y1.x.p, I6 y1.x.v, I6 y1.x.c]), (33, .agg #[I6 kp, I6 kv, I6 kc])] (by kernel_rfl) ?_
  refine VL_call (d := 34) (f := 38) (args := #[.agg #[I6 y1.x.p, I6 y1.x.v, I6 y1.x.c], .agg #[I6 kp, I6 kv, I6 kc]]) (by kernel_rfl) (by kernel_rfl) (by kernel_rfl) Tryz.call38 (dkbefore_any y1.x.p y1.x.v y1.x.c kp kv kc _) ?_
  rintro _ w10 ⟨rfl, hc2⟩
  replace ho := ho.no hc2
  replace hv := hv.step hc2 (fun k hk1 hk2 hF => hF)
  replace hhi := Nat.le_trans hhi (hc2).size
  replace ho1 := ho1.no hc2
  replace ho2 := ho2.no hc2
  replace hS := Step.trans hS (Step.weak hc2)
  refine Ve (Vn (Vif (befK y1.x.p y1.x.v y1.x.c kp kv kc) (fun h1 => ?_) (fun h1 => ?_)))
  ·try simp only [BB] at h1
   refine VC_skip (Vn (VC_block (Vr (Vp 2 ?_))))
   have he1 : IntKind.wrap .i64 (((i : Nat) : Int) + 1) = ((i + 1 : Nat) : Int) := (by rw [wrap_i64 _ (by omega) (by omega)]; omega)
   refine Vq 37 (I6 (IntKind.wrap .i64 (((i : Nat) : Int) + 1))) (I6 ((i + 1 : Nat) : Int)) (by rw [he1]) (Ve (VQ_block_normal (VQ_again (i + 1) Su ?_ ?_)))
   ·exact ⟨(by (try dsimp only); omega), (by have h9 := dahead_step hy1 (by first | assumption | simp_all); omega), ho, hv, hhi, ho1, ho2, hS⟩
   ·(try dsimp only); omega
  ·try simp only [BB] at h1
   refine VC_exit (VQ_then_exit (VQ_then_exit (VQ_block_hit (Vn (Vrp (Vs ?_))))))
   have hs3 := drew_step w10
   have hs3z : w10.heap.size = w10.drew.heap.size := rfl
   refine Tx 12 (fun k => w10.heap.size ≤ k) [7, 11] [0, 1, 2, 3, 4, 5, 6, 8, 9, 10, 7, 11] ?_
   have hzl13 := ho.lt
   have hzl15 := ho2.lt
   generalize w10.drew = w11 at hs3 hs3z ⊢
   replace ho := ho.no hs3
   replace hv := hv.step hs3 (fun k hk1 hk2 hF => hF)
   replace hhi := Nat.le_trans hhi (hs3).size
   replace ho1 := ho1.no hs3
   replace ho2 := ho2.no hs3
   replace hS := Step.trans hS (Step.weak hs3)
   refine Tp 4 (Tl (fun w12 hr5 => ho.step hr5 (by (try simp only); omega)) (Tp 1 (VT_sliceV (d := 44) (A := (some ⟨sb1, so1, none⟩)) (sz := 10) (len := l.length) (cap := ca) (lo := none) (hi := (some ((i : Nat) : Int))) (mx := none) (by kernel_rfl) (by kernel_rfl) (fun h => by first | exact absurd rfl h | exact (fun h => by cases h)) (Sl2.sl hv) 0 i ca rfl rfl rfl (by omega) (by omega) (by omega) i (by omega) ca (by omega) _ (flat_cut dxc_len l 0 i) ?_)))
   intro A1 hsl1
   refine Tl (fun w13 hr6 => ho1.step hr6 (by (try simp only); omega)) (Tl (fun w14 hr7 => ho2.step hr7 (by (try simp only); omega)) (Tl (fun w15 hr8 => ho2.step hr8 (by (try simp only); omega)) (Th ?_)))
   intro w16 hs4
   have hzhs4 := hs4.size
   replace ho := ho.no hs4
   replace hv := hv.step hs4 (fun k hk1 hk2 hF => hF)
   replace hhi := Nat.le_trans hhi (hs4).size
   replace ho2 := ho2.no hs4
   replace hS := Step.trans hS (Step.weak hs4)
   replace hsl1 := hsl1.no hs4
   have hzl16 := ho.lt
   have hzl18 := ho2.lt
   obtain ⟨base1, hbase1E⟩ : ∃ x, x = w16.heap.size := ⟨_, rfl⟩
   have hbase1 : base1 ≤ w16.heap.size := Nat.le_of_eq hbase1E
   have hzk6 := hhi
   have hzk7 := hbase1
   refine VTc_appendZ (d := 45) (e := 67) (A := none) (mm := 0) (c := 0) (A2 := A1) (m2 := i) (c2 := ca) (sz := 10) (bytes := 80) (by kernel_rfl) (by kernel_rfl) (by kernel_rfl) base1 w16.heap.size (flat dxc ([])) (flat dxc (l.take i)) (RwS.nil w16 10 base1 67) (by rw [flat_len dxc_len, show (l.take i).length = i from TDacac]) (Sl.mono hsl1 TDacaf) (flat_one' dxc_one _) i (by omega) TDacai (by omega) (by omega) ?_ ?_
   ·intro w1 hs1; exact Step.mono hs1 (fun i hi => by have hi1 := (RwS.lt (RwS.nil w16 10 base1 67) i hi).1; (try simp only); omega)
   intro A2 c1 w17 hr9 hg2
   replace hr9 : RwS w17 10 base1 67 A2 i c1 (flat dxc (l.take i)) := RwS.cast hr9 rfl TDacaa
   replace hg2 := Step.mono (G := fun k => base1 ≤ k) hg2 (fun i hi => (RwS.lt (RwS.nil w16 10 base1 67) i hi).1)
   replace ho := ho.step hg2 (by (try simp only); omega)
   replace hv := hv.step hg2 (fun k hk1 hk2 hG => by (try simp only at hG); omega)
   replace hhi := Nat.le_trans hhi (hg2).size
   replace ho2 := ho2.step hg2 (by (try simp only); omega)
   replace hS := Step.transNew hS hg2 (fun i hi hG => by (try simp only at hG); (first | show _ ∨ _ | show _ = _); omega)
   replace hbase1 := Nat.le_trans hbase1 (hg2).size
   have hlhr9 : (l.take i).length = i := by have hq9 := RwS.len hr9; rw [flat_len dxc_len] at hq9 <;> omega
   refine Th ?_
   intro w18 hs5
   replace ho := ho.no hs5
   replace hv := hv.step hs5 (fun k hk1 hk2 hF => hF)
   replace hhi := Nat.le_trans hhi (hs5).size
   replace ho2 := ho2.no hs5
   replace hS := Step.trans hS (Step.weak hs5)
   replace hbase1 := Nat.le_trans hbase1 (hs5).size
   replace hr9 := hr9.no hs5
   have hzl22 := ho.lt
   have hzl24 := ho2.lt
   refine Tc Tryz.call39 (dpnew_any k hk _) ?_ ?_
   ·rintro _ w19 ⟨pn, Yn, rfl, hYn, hPn, hc3⟩
    exact Step.mono hc3 TDacaj
   rintro _ w19 ⟨pn, Yn, rfl, hYn, hPn, hc3⟩
   replace ho := ho.no hc3
   replace hv := hv.step hc3 (fun k hk1 hk2 hF => hF)
   replace hhi := Nat.le_trans hhi (hc3).size
   replace hS := Step.trans hS (Step.weak hc3)
   replace hbase1 := Nat.le_trans hbase1 (hc3).size
   replace hr9 := hr9.no hc3
   refine VT_end ?_
   intro w20 hs6
   replace ho := ho.no hs6
   replace hv := hv.step hs6 (fun k hk1 hk2 hF => hF)
   replace hhi := Nat.le_trans hhi (hs6).size
   replace hS := Step.trans hS (Step.weak hs6)
   replace hbase1 := Nat.le_trans hbase1 (hs6).size
   replace hr9 := hr9.no hs6
   replace hPn := DPl.no hPn hs6
   refine Vp 13 ?_
   refine VL_bs (d := 51) (e := 67) (c := #[I6 kp, I6 kv, I6 kc, I6 k.kind, I6 k.peak, I6 k.early, I6 k.whole, I6 k.burst, I6 k.least, Pt pn 0]) (len := 1) (by kernel_rfl) (by kernel_rfl) ?_
   intro b3 w21 hn3
   replace ho := ho.no (hn3.step No)
   replace hv := hv.step (hn3.step No) (fun k hk1 hk2 hF => hF)
   replace hhi := Nat.le_trans hhi (hn3.step No).size
   replace hS := Step.trans hS (Step.weak (hn3.step No))
   replace hbase1 := Nat.le_trans hbase1 (hn3.step No).size
   replace hr9 := hr9.no (hn3.step No)
   replace hPn := DPl.no hPn (hn3.step No)
   have ho3 := hn3.own
   have hzk11 := hbase1
   refine VL_appendZ (d := 52) (e := 67) (A := A2) (m := i) (c := c1) (A2 := (some ⟨b3, 0, none⟩)) (m2 := 1) (c2 := 1) (sz := 10) (bytes := 80) (by kernel_rfl) (by kernel_rfl) (by kernel_rfl) base1 w21.heap.size (flat dxc (l.take i)) (flat dxc [(⟨⟨kp, kv, kc, k, rulesC k⟩, pn, Yn⟩ : Dx)]) hr9 (by rw [flat_one, dxc_len]) (Sl.mono (Sl.cast (Own.sl ho3 ho3.lt) (by first | rfl | simp [flat])) TDacaf) (flat_one' dxc_one _) (i + 1) (by omega) TDacai (by omega) (by omega) ?_
   intro A3 c2 w22 hr10 hg3
   replace hr10 : RwS w22 10 base1 67 A3 (i + 1) c2 (flat dxc ((l.take i) ++ ([(⟨⟨kp, kv, kc, k, rulesC k⟩, pn, Yn⟩ : Dx)]))) := RwS.cast hr10 rfl TDacaa
   have hgO := hg3
   replace hg3 := Step.mono (G := fun k => base1 ≤ k) hg3 (fun i hi => (RwS.lt hr9 i hi).1)
   replace ho := ho.step hg3 (by (try simp only); omega)
   replace hv := hv.step hg3 (fun k hk1 hk2 hG => by (try simp only at hG); omega)
   replace hhi := Nat.le_trans hhi (hg3).size
   replace hS := Step.transNew hS hg3 (fun i hi hG => by (try simp only at hG); (first | show _ ∨ _ | show _ = _); omega)
   replace hbase1 := Nat.le_trans hbase1 (hg3).size
   replace hPn := DPl.app hPn hr9 hgO
   have hlhr10 : ((l.take i) ++ ([(⟨⟨kp, kv, kc, k, rulesC k⟩, pn, Yn⟩ : Dx)])).length = i + 1 := by have hq9 := RwS.len hr10; rw [flat_len dxc_len] at hq9 <;> omega
   refine Ve (Vn (Vs (Vr (Vl 5 ho (Vp 7 (VL_sliceV (d := 60) (A := (some ⟨sb1, so1, none⟩)) (sz := 10) (len := l.length) (cap := ca) (lo := (some ((i : Nat) : Int))) (hi := none) (mx := none) (by kernel_rfl) (by kernel_rfl) (fun h => by first | exact absurd rfl h | exact (fun h => by cases h)) (Sl2.sl hv) i l.length ca rfl rfl rfl (by omega) (by omega) (by omega) (l.length - i) (by omega) (ca - i) (by omega) _ (flat_cut dxc_len l i (l.length - i)) ?_))))))
   intro A4 hsl2
   have hzk12 := hhi
   have hzk13 := hbase1
   refine VL_appendZ (d := 61) (e := 67) (A := A3) (m := (i + 1)) (c := c2) (A2 := A4) (m2 := (l.length - i)) (c2 := (ca - i)) (sz := 10) (bytes := 80) (by kernel_rfl) (by kernel_rfl) (by kernel_rfl) base1 w22.heap.size (flat dxc ((l.take i) ++ ([(⟨⟨kp, kv, kc, k, rulesC k⟩, pn, Yn⟩ : Dx)]))) (flat dxc ((l.drop i).take (l.length - i))) hr10 (by rw [flat_len dxc_len, show ((l.drop i).take (l.length - i)).length = (l.length - i) from TDacac]) (Sl.mono hsl2 TDacaf) (flat_one' dxc_one _) (i + 1 + (l.length - i)) (by omega) TDacai (by omega) (by omega) ?_
   intro A5 c3 w23 hr11 hg4
   replace hr11 : RwS w23 10 base1 67 A5 (i + 1 + (l.length - i)) c3 (flat dxc ((l.take i) ++ ([(⟨⟨kp, kv, kc, k, rulesC k⟩, pn, Yn⟩ : Dx)]) ++ ((l.drop i).take (l.length - i)))) := RwS.cast hr11 rfl TDacaa
   have hgO := hg4
   replace hg4 := Step.mono (G := fun k => base1 ≤ k) hg4 (fun i hi => (RwS.lt hr10 i hi).1)
   replace ho := ho.step hg4 (by (try simp only); omega)
   replace hS := Step.transNew hS hg4 (fun i hi hG => by (try simp only at hG); (first | show _ ∨ _ | show _ = _); omega)
   replace hPn := DPl.app hPn hr10 hgO
   have hlhr11 : ((l.take i) ++ ([(⟨⟨kp, kv, kc, k, rulesC k⟩, pn, Yn⟩ : Dx)]) ++ ((l.drop i).take (l.length - i))).length = i + 1 + (l.length - i) := by have hq9 := RwS.len hr11; rw [flat_len dxc_len] at hq9 <;> omega
   refine Vst 11 (o := 1) [.slice A5 (i + 1 + (l.length - i)) c3] ho #[.slice rA rooms.length rc, .slice A5 (i + 1 + (l.length - i)) c3] ?_
   intro w24 hw1
   replace hS := Step.trans hS (Step.mono hw1.step TDacab)
   replace hPn := DPl.step hPn hw1.step (fun q9 hq9 hF9 => by have h8 := hYn q9 hq9; have h7 : q9 = nd := hF9; omega)
   replace hr11 := hr11.step hw1.step (fun k hk (hF : k = nd) => by omega)
   have ho4 := hw1.own
   refine Ve (Vn (Vrp (VC_ret (Vr1 (I6 0) ?_))))
   have hie : aheadE (eD l) kp kv kc = i := by
    have h9 : aheadE ((eD l).drop i) kp kv kc = 0 := by first | exact dahead_nil (by omega) | exact dahead_stop hy1 (by first | assumption | simp_all)
    omega
   obtain ⟨A9, c9, q1, q2⟩ := dmut_fin (m := l.length + 1) (ys := flat dxc (l.take (aheadE (eD l) kp kv kc) ++ (⟨⟨kp, kv, kc, k, rulesC k⟩, pn, Yn⟩ : Dx) :: l.drop (aheadE (eD l) kp kv kc))) (base2 := w.heap.size) ho4 hr11 (by omega) TDacae (by omega)
   exact ⟨rfl, A9, c9, pn, Yn, q1, q2, hPn, (fun q hq => by have h9 := hYn q hq; omega), hS⟩
 ·refine Tq [(7, Bo (decide (((i : Nat) : Int) < ((l.length : Nat) : Int)))), (6, Bo (decide (((i : Nat) : Int) < ((l.length : Nat) : Int))))] [(7, Bo false), (6, Bo false)] (by simp only [hg1, Bool.not_true, Bool.not_false]) ?_
  try simp only [bne_iff_ne, beq_iff_eq, decide_eq_true_eq, decide_eq_false_iff_not, bne_eq_false_iff_eq, beq_eq_false_iff_ne, ne_eq] at hg1
  refine Tp 9 (VT_end ?_)
  intro w25 hs7
  replace ho := ho.no hs7
  replace hv := hv.step hs7 (fun k hk1 hk2 hF => hF)
  replace hhi := Nat.le_trans hhi (hs7).size
  replace ho1 := ho1.no hs7
  replace ho2 := ho2.no hs7
  replace hS := Step.trans hS (Step.weak hs7)
  refine Ve (Vn (Vf (VC_exit (VQ_then_exit (VQ_then_exit (VQ_block_hit (Vn (Vrp (Vs ?_)))))))))
  have hs8 := drew_step w25
  have hs8z : w25.heap.size = w25.drew.heap.size := rfl
  refine Tx 12 (fun k => w25.heap.size ≤ k) [7, 11] [0, 1, 2, 3, 4, 5, 6, 8, 9, 10, 7, 11] ?_
  have hzl35 := ho.lt
  have hzl37 := ho2.lt
  generalize w25.drew = w26 at hs8 hs8z ⊢
  replace ho := ho.no hs8
  replace hv := hv.step hs8 (fun k hk1 hk2 hF => hF)
  replace hhi := Nat.le_trans hhi (hs8).size
  replace ho1 := ho1.no hs8
  replace ho2 := ho2.no hs8
  replace hS := Step.trans hS (Step.weak hs8)
  refine Tp 4 (Tl (fun w27 hr12 => ho.step hr12 (by (try simp only); omega)) (Tp 1 (VT_sliceV (d := 44) (A := (some ⟨sb1, so1, none⟩)) (sz := 10) (len := l.length) (cap := ca) (lo := none) (hi := (some ((i : Nat) : Int))) (mx := none) (by kernel_rfl) (by kernel_rfl) (fun h => by first | exact absurd rfl h | exact (fun h => by cases h)) (Sl2.sl hv) 0 i ca rfl rfl rfl (by omega) (by omega) (by omega) i (by omega) ca (by omega) _ (flat_cut dxc_len l 0 i) ?_)))
  intro A6 hsl3
  refine Tl (fun w28 hr13 => ho1.step hr13 (by (try simp only); omega)) (Tl (fun w29 hr14 => ho2.step hr14 (by (try simp only); omega)) (Tl (fun w30 hr15 => ho2.step hr15 (by (try simp only); omega)) (Th ?_)))
  intro w31 hs9
  have hzhs9 := hs9.size
  replace ho := ho.no hs9
  replace hv := hv.step hs9 (fun k hk1 hk2 hF => hF)
  replace hhi := Nat.le_trans hhi (hs9).size
  replace ho2 := ho2.no hs9
  replace hS := Step.trans hS (Step.weak hs9)
  replace hsl3 := hsl3.no hs9
  have hzl38 := ho.lt
  have hzl40 := ho2.lt
  obtain ⟨base2, hbase2E⟩ : ∃ x, x = w31.heap.size := ⟨_, rfl⟩
  have hbase2 : base2 ≤ w31.heap.size := Nat.le_of_eq hbase2E
  have hzk15 := hhi
  have hzk16 := hbase2
  refine VTc_appendZ (d := 45) (e := 67) (A := none) (mm := 0) (c := 0) (A2 := A6) (m2 := i) (c2 := ca) (sz := 10) (bytes := 80) (by kernel_rfl) (by kernel_rfl) (by kernel_rfl) base2 w31.heap.size (flat dxc ([])) (flat dxc (l.take i)) (RwS.nil w31 10 base2 67) (by rw [flat_len dxc_len, show (l.take i).length = i from TDacac]) (Sl.mono hsl3 TDacaf) (flat_one' dxc_one _) i (by omega) TDacai (by omega) (by omega) ?_ ?_
  ·intro w1 hs1; exact Step.mono hs1 (fun i hi => by have hi1 := (RwS.lt (RwS.nil w31 10 base2 67) i hi).1; (try simp only); omega)
  intro A7 c4 w32 hr16 hg5
  replace hr16 : RwS w32 10 base2 67 A7 i c4 (flat dxc (l.take i)) := RwS.cast hr16 rfl TDacaa
  replace hg5 := Step.mono (G := fun k => base2 ≤ k) hg5 (fun i hi => (RwS.lt (RwS.nil w31 10 base2 67) i hi).1)
  replace ho := ho.step hg5 (by (try simp only); omega)
  replace hv := hv.step hg5 (fun k hk1 hk2 hG => by (try simp only at hG); omega)
  replace hhi := Nat.le_trans hhi (hg5).size
  replace ho2 := ho2.step hg5 (by (try simp only); omega)
  replace hS := Step.transNew hS hg5 (fun i hi hG => by (try simp only at hG); (first | show _ ∨ _ | show _ = _); omega)
  replace hbase2 := Nat.le_trans hbase2 (hg5).size
  have hlhr16 : (l.take i).length = i := by have hq9 := RwS.len hr16; rw [flat_len dxc_len] at hq9 <;> omega
  refine Th ?_
  intro w33 hs10
  replace ho := ho.no hs10
  replace hv := hv.step hs10 (fun k hk1 hk2 hF => hF)
  replace hhi := Nat.le_trans hhi (hs10).size
  replace ho2 := ho2.no hs10
  replace hS := Step.trans hS (Step.weak hs10)
  replace hbase2 := Nat.le_trans hbase2 (hs10).size
  replace hr16 := hr16.no hs10
  have hzl44 := ho.lt
  have hzl46 := ho2.lt
  refine Tc Tryz.call39 (dpnew_any k hk _) ?_ ?_
  ·rintro _ w34 ⟨pn, Yn, rfl, hYn, hPn, hc4⟩
   exact Step.mono hc4 TDacaj
  rintro _ w34 ⟨pn, Yn, rfl, hYn, hPn, hc4⟩
  replace ho := ho.no hc4
  replace hv := hv.step hc4 (fun k hk1 hk2 hF => hF)
  replace hhi := Nat.le_trans hhi (hc4).size
  replace hS := Step.trans hS (Step.weak hc4)
  replace hbase2 := Nat.le_trans hbase2 (hc4).size
  replace hr16 := hr16.no hc4
  refine VT_end ?_
  intro w35 hs11
  replace ho := ho.no hs11
  replace hv := hv.step hs11 (fun k hk1 hk2 hF => hF)
  replace hhi := Nat.le_trans hhi (hs11).size
  replace hS := Step.trans hS (Step.weak hs11)
  replace hbase2 := Nat.le_trans hbase2 (hs11).size
  replace hr16 := hr16.no hs11
  replace hPn := DPl.no hPn hs11
  refine Vp 13 ?_
  refine VL_bs (d := 51) (e := 67) (c := #[I6 kp, I6 kv, I6 kc, I6 k.kind, I6 k.peak, I6 k.early, I6 k.whole, I6 k.burst, I6 k.least, Pt pn 0]) (len := 1) (by kernel_rfl) (by kernel_rfl) ?_
  intro b4 w36 hn4
  replace ho := ho.no (hn4.step No)
  replace hv := hv.step (hn4.step No) (fun k hk1 hk2 hF => hF)
  replace hhi := Nat.le_trans hhi (hn4.step No).size
  replace hS := Step.trans hS (Step.weak (hn4.step No))
  replace hbase2 := Nat.le_trans hbase2 (hn4.step No).size
  replace hr16 := hr16.no (hn4.step No)
  replace hPn := DPl.no hPn (hn4.step No)
  have ho5 := hn4.own
  have hzk20 := hbase2
  refine VL_appendZ (d := 52) (e := 67) (A := A7) (m := i) (c := c4) (A2 := (some ⟨b4, 0, none⟩)) (m2 := 1) (c2 := 1) (sz := 10) (bytes := 80) (by kernel_rfl) (by kernel_rfl) (by kernel_rfl) base2 w36.heap.size (flat dxc (l.take i)) (flat dxc [(⟨⟨kp, kv, kc, k, rulesC k⟩, pn, Yn⟩ : Dx)]) hr16 (by rw [flat_one, dxc_len]) (Sl.mono (Sl.cast (Own.sl ho5 ho5.lt) (by first | rfl | simp [flat])) TDacaf) (flat_one' dxc_one _) (i + 1) (by omega) TDacai (by omega) (by omega) ?_
  intro A8 c5 w37 hr17 hg6
  replace hr17 : RwS w37 10 base2 67 A8 (i + 1) c5 (flat dxc ((l.take i) ++ ([(⟨⟨kp, kv, kc, k, rulesC k⟩, pn, Yn⟩ : Dx)]))) := RwS.cast hr17 rfl TDacaa
  have hgO := hg6
  replace hg6 := Step.mono (G := fun k => base2 ≤ k) hg6 (fun i hi => (RwS.lt hr16 i hi).1)
  replace ho := ho.step hg6 (by (try simp only); omega)
  replace hv := hv.step hg6 (fun k hk1 hk2 hG => by (try simp only at hG); omega)
  replace hhi := Nat.le_trans hhi (hg6).size
  replace hS := Step.transNew hS hg6 (fun i hi hG => by (try simp only at hG); (first | show _ ∨ _ | show _ = _); omega)
  replace hbase2 := Nat.le_trans hbase2 (hg6).size
  replace hPn := DPl.app hPn hr16 hgO
  have hlhr17 : ((l.take i) ++ ([(⟨⟨kp, kv, kc, k, rulesC k⟩, pn, Yn⟩ : Dx)])).length = i + 1 := by have hq9 := RwS.len hr17; rw [flat_len dxc_len] at hq9 <;> omega
  refine Ve (Vn (Vs (Vr (Vl 5 ho (Vp 7 (VL_sliceV (d := 60) (A := (some ⟨sb1, so1, none⟩)) (sz := 10) (len := l.length) (cap := ca) (lo := (some ((i : Nat) : Int))) (hi := none) (mx := none) (by kernel_rfl) (by kernel_rfl) (fun h => by first | exact absurd rfl h | exact (fun h => by cases h)) (Sl2.sl hv) i l.length ca rfl rfl rfl (by omega) (by omega) (by omega) (l.length - i) (by omega) (ca - i) (by omega) _ (flat_cut dxc_len l i (l.length - i)) ?_))))))
  intro A9 hsl4
  have hzk21 := hhi
  have hzk22 := hbase2
  refine VL_appendZ (d := 61) (e := 67) (A := A8) (m := (i + 1)) (c := c5) (A2 := A9) (m2 := (l.length - i)) (c2 := (ca - i)) (sz := 10) (bytes := 80) (by kernel_rfl) (by kernel_rfl) (by kernel_rfl) base2 w37.heap.size (flat dxc ((l.take i) ++ ([(⟨⟨kp, kv, kc, k, rulesC k⟩, pn, Yn⟩ : Dx)]))) (flat dxc ((l.drop i).take (l.length - i))) hr17 (by rw [flat_len dxc_len, show ((l.drop i).take (l.length - i)).length = (l.length - i) from TDacac]) (Sl.mono hsl4 TDacaf) (flat_one' dxc_one _) (i + 1 + (l.length - i)) (by omega) TDacai (by omega) (by omega) ?_
  intro A10 c6 w38 hr18 hg7
  replace hr18 : RwS w38 10 base2 67 A10 (i + 1 + (l.length - i)) c6 (flat dxc ((l.take i) ++ ([(⟨⟨kp, kv, kc, k, rulesC k⟩, pn, Yn⟩ : Dx)]) ++ ((l.drop i).take (l.length - i)))) := RwS.cast hr18 rfl TDacaa
  have hgO := hg7
  replace hg7 := Step.mono (G := fun k => base2 ≤ k) hg7 (fun i hi => (RwS.lt hr17 i hi).1)
  replace ho := ho.step hg7 (by (try simp only); omega)
  replace hS := Step.transNew hS hg7 (fun i hi hG => by (try simp only at hG); (first | show _ ∨ _ | show _ = _); omega)
  replace hPn := DPl.app hPn hr17 hgO
  have hlhr18 : ((l.take i) ++ ([(⟨⟨kp, kv, kc, k, rulesC k⟩, pn, Yn⟩ : Dx)]) ++ ((l.drop i).take (l.length - i))).length = i + 1 + (l.length - i) := by have hq9 := RwS.len hr18; rw [flat_len dxc_len] at hq9 <;> omega
  refine Vst 11 (o := 1) [.slice A10 (i + 1 + (l.length - i)) c6] ho #[.slice rA rooms.length rc, .slice A10 (i + 1 + (l.length - i)) c6] ?_
  intro w39 hw2
  replace hS := Step.trans hS (Step.mono hw2.step TDacab)
  replace hPn := DPl.step hPn hw2.step (fun q9 hq9 hF9 => by have h8 := hYn q9 hq9; have h7 : q9 = nd := hF9; omega)
  replace hr18 := hr18.step hw2.step (fun k hk (hF : k = nd) => by omega)
  have ho6 := hw2.own
  refine Ve (Vn (Vrp (VC_ret (Vr1 (I6 0) ?_))))
  have hie : aheadE (eD l) kp kv kc = i := by
   have h9 : aheadE ((eD l).drop i) kp kv kc = 0 := by first | exact dahead_nil (by omega)
   omega
  obtain ⟨A9, c9, q1, q2⟩ := dmut_fin (m := l.length + 1) (ys := flat dxc (l.take (aheadE (eD l) kp kv kc) ++ (⟨⟨kp, kv, kc, k, rulesC k⟩, pn, Yn⟩ : Dx) :: l.drop (aheadE (eD l) kp kv kc))) (base2 := w.heap.size) ho6 hr18 (by omega) TDacae (by omega)
  exact ⟨rfl, A9, c9, pn, Yn, q1, q2, hPn, (fun q hq => by have h9 := hYn q hq; omega), hS⟩

theorem dntake_no (nd lo hi : Nat) (rooms : List Int) (l : List Dx) (rA : Option Addr) (rc : Nat) (A : Option Addr) (ca : Nat) (kp kv kc : Int) (w : World) (ho : Own w nd #[.slice rA rooms.length rc, .slice A l.length ca] 55) (hcn : l.length ≤ ca) (hhi : hi ≤ w.heap.size) (hv : Sl2 w lo hi A (flat dxc l)) (hnw : nd < lo ∨ hi ≤ nd) (hm : l.length ≤ 64) (rl rh : Nat) (k : Con) (hrc : rooms.length ≤ rc) (hrh : rh ≤ w.heap.size) (hrw : Sl2 w rl rh rA (iL .i64 rooms)) (hli : LI rooms (l.map Dx.x)) (e9 : Int) (he : chkN rooms (l.map Dx.x) kp kv kc k = e9) (h0 : e9 ≠ 0) :
  CV Tryz.prog 11 #[Pt nd 0, .agg #[I6 kp, I6 kv, I6 kc], .agg #[I6 k.kind, I6 k.peak, I6 k.early, I6 k.whole, I6 k.burst, I6 k.least]] w (fun x w1 => x = I6 e9 ∧ Step No w w1) := by
 have hS : Step No w w := Step.refl _ _
 refine VCe Tryz.func11 (Vs (Vr ?_))
 refine Vx 0 30 #[I6 kp, I6 kv, I6 kc] ?_
 intro b1 w1 hn1
 replace hS := Step.trans hS (hn1.step No)
 replace ho := ho.no (hn1.step No)
 replace hv := hv.step (hn1.step No) (fun k hk1 hk2 hF => hF)
 replace hhi := Nat.le_trans hhi (hn1.step No).size
 replace hrw := hrw.step (hn1.step No) (fun k hk1 hk2 hF => hF)
 replace hrh := Nat.le_trans hrh (hn1.step No).size
 have ho1 := hn1.own
 refine Vx 1 32 #[I6 k.kind, I6 k.peak, I6 k.early, I6 k.whole, I6 k.burst, I6 k.least] ?_
 intro b2 w2 hn2
 replace hS := Step.trans hS (hn2.step No)
 replace ho := ho.no (hn2.step No)
 replace hv := hv.step (hn2.step No) (fun k hk1 hk2 hF => hF)
 replace hhi := Nat.le_trans hhi (hn2.step No).size
 replace hrw := hrw.step (hn2.step No) (fun k hk1 hk2 hF => hF)
 replace hrh := Nat.le_trans hrh (hn2.step No).size
 replace ho1 := ho1.no (hn2.step No)
 have ho2 := hn2.own
 refine Ve (Vn (Vs (Vr (Vl 1 ho1 (Vl 2 ho2 ?_)))))
 refine Vc 3 Tryz.call9 ((dcheck_any nd lo rooms l kp kv kc k _ ⟨_, _, _, _, rl, rh, _, ho, hrc, hcn, hrh, hhi, hrw, hv⟩ hli).mono (fun x w1 h9 => by rw [he] at h9; exact h9)) ?_
 rintro _ w3 ⟨rfl, hc1⟩
 replace hS := Step.trans hS hc1
 refine Ve (Vn (Vs (Vrp (Vit (b := e9 != 0) (by simpa using h0) (Vrp (VC_ret (VQ_then_ret (Vr1 (I6 e9) ?_))))))))
 exact ⟨rfl, hS⟩

theorem dntake_first (nd lo hi : Nat) (rooms : List Int) (l : List Dx) (rA : Option Addr) (rc : Nat) (A : Option Addr) (ca : Nat) (kp kv kc : Int) (w : World) (ho : Own w nd #[.slice rA rooms.length rc, .slice A 0 ca] 55) (hcn : l.length ≤ ca) (hhi : hi ≤ w.heap.size) (hv : Sl2 w lo hi A (flat dxc l)) (hnw : nd < lo ∨ hi ≤ nd) (hm : l.length ≤ 64) (rl rh : Nat) (k : Con) (hrc : rooms.length ≤ rc) (hrh : rh ≤ w.heap.size) (hrw : Sl2 w rl rh rA (iL .i64 rooms)) (hli : LI rooms (l.map Dx.x)) (he : chkN rooms (l.map Dx.x) kp kv kc k = 0) (hk : rightC k = 0) (h0 : l = []) :
  CV Tryz.prog 11 #[Pt nd 0, .agg #[I6 kp, I6 kv, I6 kc], .agg #[I6 k.kind, I6 k.peak, I6 k.early, I6 k.whole, I6 k.burst, I6 k.least]] w (fun x w1 => x = I6 0 ∧ ∃ A2 c2 pn Yn, Own w1 nd #[.slice rA rooms.length rc, .slice A2 1 c2] 55 ∧ RwS w1 10 w.heap.size 67 A2 1 c2 (flat dxc [(⟨⟨kp, kv, kc, k, rulesC k⟩, pn, Yn⟩ : Dx)]) ∧ DPl w1 pn Yn k (rulesC k) ∧ (∀ q, Yn q → w.heap.size ≤ q) ∧ Step (Just nd) w w1) := by
 have hS : Step (Just nd) w w := Step.refl _ _
 have hl0 : l.length = 0 := by rw [h0]; rfl
 refine VCe Tryz.func11 (Vs (Vr ?_))
 have hzk1 := hhi
 refine Vx 0 30 #[I6 kp, I6 kv, I6 kc] ?_
 intro b1 w1 hn1
 replace hS := Step.trans hS (Step.weak (hn1.step No))
 replace ho := ho.no (hn1.step No)
 replace hv := hv.step (hn1.step No) (fun k hk1 hk2 hF => hF)
 replace hhi := Nat.le_trans hhi (hn1.step No).size
 replace hrw := hrw.step (hn1.step No) (fun k hk1 hk2 hF => hF)
 replace hrh := Nat.le_trans hrh (hn1.step No).size
 have ho1 := hn1.own
 have hzhn1 := hn1.size
 have hqhn1 := hn1.eqb
 refine Vx 1 32 #[I6 k.kind, I6 k.peak, I6 k.early, I6 k.whole, I6 k.burst, I6 k.least] ?_
 intro b2 w2 hn2
 replace hS := Step.trans hS (Step.weak (hn2.step No))
 replace ho := ho.no (hn2.step No)
 replace hv := hv.step (hn2.step No) (fun k hk1 hk2 hF => hF)
 replace hhi := Nat.le_trans hhi (hn2.step No).size
 replace hrw := hrw.step (hn2.step No) (fun k hk1 hk2 hF => hF)
 replace hrh := Nat.le_trans hrh (hn2.step No).size
 replace ho1 := ho1.no (hn2.step No)
 have ho2 := hn2.own
 have hzhn2 := hn2.size
 have hqhn2 := hn2.eqb
 refine Ve (Vn (Vs (Vr (Vl 1 ho1 (Vl 2 ho2 ?_)))))
 refine Vc 3 Tryz.call9 ((dcheck_any nd lo rooms l kp kv kc k _ ⟨_, _, _, _, rl, rh, _, by rw [hl0]; exact ho, hrc, hcn, hrh, hhi, hrw, hv⟩ hli).mono (fun x w1 h9 => by rw [he] at h9; exact h9)) ?_
 rintro _ w3 ⟨rfl, hc1⟩
 replace hS := Step.trans hS (Step.weak hc1)
 replace ho := ho.no hc1
 replace hv := hv.step hc1 (fun k hk1 hk2 hF => hF)
 replace hhi := Nat.le_trans hhi (hc1).size
 replace ho1 := ho1.no hc1
 replace ho2 := ho2.no hc1
 refine Ve (Vn (Vs (Vrp (Vf (VC_skip (Vn (Vrp (Vs (VC_block (VC_rounds (VCL_round (Vs (Vs (Vd 17 [(4, .slice A 0 ca)] [4] ?_ ?_))))))))))))))
 ·intro w4 hs1
  replace ho := ho.no hs1
  exact ⟨Dl ho, trivial⟩
 intro w4 hs1
 replace hS := Step.trans hS (Step.weak hs1)
 replace ho := ho.no hs1
 replace hv := hv.step hs1 (fun k hk1 hk2 hF => hF)
 replace hhi := Nat.le_trans hhi (hs1).size
 replace ho1 := ho1.no hs1
 replace ho2 := ho2.no hs1
 refine Ve (Vn (Vf (VC_exit (VQ_then_exit (VQ_then_exit (VQ_block_hit (Vn (Vrp (Vs ?_)))))))))
 have hs2 := drew_step w4
 have hs2z : w4.heap.size = w4.drew.heap.size := rfl
 refine Tx 12 (fun k => w4.heap.size ≤ k) [7, 11] [0, 1, 2, 3, 4, 5, 6, 8, 9, 10, 7, 11] ?_
 have hzl7 := ho.lt
 have hzl9 := ho2.lt
 generalize w4.drew = w5 at hs2 hs2z ⊢
 replace hS := Step.trans hS (Step.weak hs2)
 replace ho := ho.no hs2
 replace hv := hv.step hs2 (fun k hk1 hk2 hF => hF)
 replace hhi := Nat.le_trans hhi (hs2).size
 replace ho1 := ho1.no hs2
 replace ho2 := ho2.no hs2
 refine Tp 4 (Tl (fun w6 hr1 => ho.step hr1 (by (try simp only); omega)) (Tp 1 (VT_sliceV (d := 44) (A := A) (sz := 10) (len := 0) (cap := ca) (lo := none) (hi := (some 0)) (mx := none) (by kernel_rfl) (by kernel_rfl) (fun h => by first | exact absurd rfl h | exact (fun h => by cases h)) (Sl2.sl hv) 0 0 ca rfl rfl rfl (by omega) (by omega) (by omega) 0 (by omega) ca (by omega) _ (flat_cut dxc_len l 0 0) ?_)))
 intro A1 hsl1
 refine Tl (fun w7 hr2 => ho1.step hr2 (by (try simp only); omega)) (Tl (fun w8 hr3 => ho2.step hr3 (by (try simp only); omega)) (Tl (fun w9 hr4 => ho2.step hr4 (by (try simp only); omega)) (Th ?_)))
 intro w10 hs3
 have hzhs3 := hs3.size
 replace hS := Step.trans hS (Step.weak hs3)
 replace ho := ho.no hs3
 replace hv := hv.step hs3 (fun k hk1 hk2 hF => hF)
 replace hhi := Nat.le_trans hhi (hs3).size
 replace ho2 := ho2.no hs3
 replace hsl1 := hsl1.no hs3
 have hzl10 := ho.lt
 have hzl12 := ho2.lt
 obtain ⟨base1, hbase1E⟩ : ∃ x, x = w10.heap.size := ⟨_, rfl⟩
 have hbase1 : base1 ≤ w10.heap.size := Nat.le_of_eq hbase1E
 have hzk6 := hhi
 have hzk7 := hbase1
 refine VTc_appendZ (d := 45) (e := 67) (A := none) (mm := 0) (c := 0) (A2 := A1) (m2 := 0) (c2 := ca) (sz := 10) (bytes := 80) (by kernel_rfl) (by kernel_rfl) (by kernel_rfl) base1 w10.heap.size (flat dxc ([])) (flat dxc (l.take 0)) (RwS.nil w10 10 base1 67) TDacah (Sl.mono hsl1 TDacaf) (flat_one' dxc_one _) 0 (by omega) TDacai (by omega) (by omega) ?_ ?_
 ·intro w1 hs1; exact Step.mono hs1 (fun i hi => by have hi1 := (RwS.lt (RwS.nil w10 10 base1 67) i hi).1; (try simp only); omega)
 intro A2 c1 w11 hr5 hg1
 replace hr5 : RwS w11 10 base1 67 A2 0 c1 (flat dxc (l.take 0)) := RwS.cast hr5 rfl TDacaa
 replace hg1 := Step.mono (G := fun k => base1 ≤ k) hg1 (fun i hi => (RwS.lt (RwS.nil w10 10 base1 67) i hi).1)
 replace hS := Step.transNew hS hg1 (fun i hi hG => by (try simp only at hG); (first | show _ ∨ _ | show _ = _); omega)
 replace ho := ho.step hg1 (by (try simp only); omega)
 replace hv := hv.step hg1 (fun k hk1 hk2 hG => by (try simp only at hG); omega)
 replace hhi := Nat.le_trans hhi (hg1).size
 replace ho2 := ho2.step hg1 (by (try simp only); omega)
 replace hbase1 := Nat.le_trans hbase1 (hg1).size
 have hlhr5 : (l.take 0).length = 0 := by have hq9 := RwS.len hr5; rw [flat_len dxc_len] at hq9 <;> omega
 refine Th ?_
 intro w12 hs4
 replace hS := Step.trans hS (Step.weak hs4)
 replace ho := ho.no hs4
 replace hv := hv.step hs4 (fun k hk1 hk2 hF => hF)
 replace hhi := Nat.le_trans hhi (hs4).size
 replace ho2 := ho2.no hs4
 replace hbase1 := Nat.le_trans hbase1 (hs4).size
 replace hr5 := hr5.no hs4
 have hzl16 := ho.lt
 have hzl18 := ho2.lt
 refine Tc Tryz.call39 (dpnew_any k hk _) ?_ ?_
 ·rintro _ w13 ⟨pn, Yn, rfl, hYn, hPn, hc2⟩
  exact Step.mono hc2 TDacaj
 rintro _ w13 ⟨pn, Yn, rfl, hYn, hPn, hc2⟩
 replace hS := Step.trans hS (Step.weak hc2)
 replace ho := ho.no hc2
 replace hv := hv.step hc2 (fun k hk1 hk2 hF => hF)
 replace hhi := Nat.le_trans hhi (hc2).size
 replace hbase1 := Nat.le_trans hbase1 (hc2).size
 replace hr5 := hr5.no hc2
 refine VT_end ?_
 intro w14 hs5
 replace hS := Step.trans hS (Step.weak hs5)
 replace ho := ho.no hs5
 replace hv := hv.step hs5 (fun k hk1 hk2 hF => hF)
 replace hhi := Nat.le_trans hhi (hs5).size
 replace hbase1 := Nat.le_trans hbase1 (hs5).size
 replace hr5 := hr5.no hs5
 replace hPn := DPl.no hPn hs5
 refine Vp 13 ?_
 refine VL_bs (d := 51) (e := 67) (c := #[I6 kp, I6 kv, I6 kc, I6 k.kind, I6 k.peak, I6 k.early, I6 k.whole, I6 k.burst, I6 k.least, Pt pn 0]) (len := 1) (by kernel_rfl) (by kernel_rfl) ?_
 intro b3 w15 hn3
 replace hS := Step.trans hS (Step.weak (hn3.step No))
 replace ho := ho.no (hn3.step No)
 replace hv := hv.step (hn3.step No) (fun k hk1 hk2 hF => hF)
 replace hhi := Nat.le_trans hhi (hn3.step No).size
 replace hbase1 := Nat.le_trans hbase1 (hn3.step No).size
 replace hr5 := hr5.no (hn3.step No)
 replace hPn := DPl.no hPn (hn3.step No)
 have ho3 := hn3.own
 have hzk11 := hbase1
 refine VL_appendZ (d := 52) (e := 67) (A := A2) (m := 0) (c := c1) (A2 := (some ⟨b3, 0, none⟩)) (m2 := 1) (c2 := 1) (sz := 10) (bytes := 80) (by kernel_rfl) (by kernel_rfl) (by kernel_rfl) base1 w15.heap.size (flat dxc (l.take 0)) (flat dxc [(⟨⟨kp, kv, kc, k, rulesC k⟩, pn, Yn⟩ : Dx)]) hr5 (by rw [flat_one, dxc_len]) (Sl.mono (Sl.cast (Own.sl ho3 ho3.lt) (by first | rfl | simp [flat])) TDacaf) (flat_one' dxc_one _) 1 (by omega) TDacai (by omega) (by omega) ?_
 intro A3 c2 w16 hr6 hg2
 replace hr6 : RwS w16 10 base1 67 A3 1 c2 (flat dxc ((l.take 0) ++ ([(⟨⟨kp, kv, kc, k, rulesC k⟩, pn, Yn⟩ : Dx)]))) := RwS.cast hr6 rfl TDacaa
 have hgO := hg2
 replace hg2 := Step.mono (G := fun k => base1 ≤ k) hg2 (fun i hi => (RwS.lt hr5 i hi).1)
 replace hS := Step.transNew hS hg2 (fun i hi hG => by (try simp only at hG); (first | show _ ∨ _ | show _ = _); omega)
 replace ho := ho.step hg2 (by (try simp only); omega)
 replace hv := hv.step hg2 (fun k hk1 hk2 hG => by (try simp only at hG); omega)
 replace hhi := Nat.le_trans hhi (hg2).size
 replace hbase1 := Nat.le_trans hbase1 (hg2).size
 replace hPn := DPl.app hPn hr5 hgO
 have hlhr6 : ((l.take 0) ++ ([(⟨⟨kp, kv, kc, k, rulesC k⟩, pn, Yn⟩ : Dx)])).length = 1 := by have hq9 := RwS.len hr6; rw [flat_len dxc_len] at hq9 <;> omega
 refine Ve (Vn (Vs (Vr (Vl 5 ho (Vp 7 (VL_sliceV (d := 60) (A := A) (sz := 10) (len := 0) (cap := ca) (lo := (some 0)) (hi := none) (mx := none) (by kernel_rfl) (by kernel_rfl) (fun h => by first | exact absurd rfl h | exact (fun h => by cases h)) (Sl2.sl hv) 0 0 ca rfl rfl rfl (by omega) (by omega) (by omega) 0 (by omega) ca (by omega) _ (flat_cut dxc_len l 0 0) ?_))))))
 intro A4 hsl2
 have hzk12 := hhi
 have hzk13 := hbase1
 refine VL_appendZ (d := 61) (e := 67) (A := A3) (m := 1) (c := c2) (A2 := A4) (m2 := 0) (c2 := ca) (sz := 10) (bytes := 80) (by kernel_rfl) (by kernel_rfl) (by kernel_rfl) base1 w16.heap.size (flat dxc ((l.take 0) ++ ([(⟨⟨kp, kv, kc, k, rulesC k⟩, pn, Yn⟩ : Dx)]))) (flat dxc (l.take 0)) hr6 TDacah (Sl.mono hsl2 TDacaf) (flat_one' dxc_one _) 1 (by omega) TDacai (by omega) (by omega) ?_
 intro A5 c3 w17 hr7 hg3
 replace hr7 : RwS w17 10 base1 67 A5 1 c3 (flat dxc ((l.take 0) ++ ([(⟨⟨kp, kv, kc, k, rulesC k⟩, pn, Yn⟩ : Dx)]) ++ (l.take 0))) := RwS.cast hr7 rfl TDacaa
 have hgO := hg3
 replace hg3 := Step.mono (G := fun k => base1 ≤ k) hg3 (fun i hi => (RwS.lt hr6 i hi).1)
 replace hS := Step.transNew hS hg3 (fun i hi hG => by (try simp only at hG); (first | show _ ∨ _ | show _ = _); omega)
 replace ho := ho.step hg3 (by (try simp only); omega)
 replace hv := hv.step hg3 (fun k hk1 hk2 hG => by (try simp only at hG); omega)
 replace hPn := DPl.app hPn hr6 hgO
 have hlhr7 : ((l.take 0) ++ ([(⟨⟨kp, kv, kc, k, rulesC k⟩, pn, Yn⟩ : Dx)]) ++ (l.take 0)).length = 1 := by have hq9 := RwS.len hr7; rw [flat_len dxc_len] at hq9 <;> omega
 refine Vst 11 (o := 1) [.slice A5 1 c3] ho #[.slice rA rooms.length rc, .slice A5 1 c3] ?_
 intro w18 hw1
 replace hS := Step.trans hS (Step.mono hw1.step TDacab)
 replace hv := hv.step hw1.step (fun k hk1 hk2 (hF : k = nd) => by omega)
 replace hPn := DPl.step hPn hw1.step (fun q9 hq9 hF9 => by have h8 := hYn q9 hq9; have h7 : q9 = nd := hF9; omega)
 replace hr7 := hr7.step hw1.step (fun k hk (hF : k = nd) => by omega)
 have ho4 := hw1.own
 refine Ve (Vn (Vrp (VC_ret (Vr1 (I6 0) ?_))))
 obtain ⟨A9, c9, q1, q2⟩ := dmut_fin (m := 1) (ys := flat dxc [(⟨⟨kp, kv, kc, k, rulesC k⟩, pn, Yn⟩ : Dx)]) (base2 := w.heap.size) ho4 hr7 (by omega) (by subst h0; first | rfl | simp [flat]) (by omega)
 exact ⟨rfl, A9, c9, pn, Yn, q1, q2, hPn, (fun q hq => by have h9 := hYn q hq; omega), hS⟩

end Go.Proofs.YthchmlidobgkoaaGreat
end

section
/- The calculus: an element of a row of flat elements is laid anew. -/
set_option linter.unusedVariables false
set_option linter.unusedSimpArgs false
namespace Go.Vc
open Go.RowKit
section
variable {F : Nat → Prop} {w w' : World} {base n c sz : Nat} {e : TypeId} {xs : List Value}
theorem RwS.openG {g : Nat} (h : RwS w sz base e (some ⟨g, 0, none⟩) n c xs) : ∃ cur, base ≤ g ∧ g < w.heap.size ∧ Own w g cur e ∧ cur.size = c * sz ∧ n ≤ c ∧ c ≤ maxLen ∧ cur.toList.take (n * sz) = xs := by
  rcases h.2 with ⟨hv, hn⟩ | ⟨g, cap, cur, hv, hb', hg, hc, hm, hs, ht⟩
  · cases hv
  · cases hv
    exact ⟨cur, hb', (Array.getElem?_eq_some_iff.1 hg).1, hg, hs, hc, hm, ht⟩
variable {α : Type} {enc : α → List Value}
theorem RwS.putF {g j : Nat} {cur : Array Value} {l : List α} {y : α} (hz : ∀ x, (enc x).length = sz) (h0 : 0 < sz) (hx : cur.toList.take (n * sz) = flat enc l) (hl : l.length = n) (hw : Wr w w' g (setRow cur (j * sz) (enc y)) e) (hb : base ≤ g) (hs : cur.size = c * sz) (hn : n ≤ c) (hm : c ≤ maxLen) (hj : j < n) : RwS w' sz base e (some ⟨g, 0, none⟩) n c (flat enc (l.set j y)) := by
  refine RwS.of_own hw.own hb (by rw [size_setRow]; exact hs) hn hm ?_
  have hle : n * sz ≤ c * sz := Nat.mul_le_mul_right sz hn
  have hjs : j * sz + sz ≤ n * sz := by have := Nat.mul_le_mul_right sz (show j + 1 ≤ n from hj); rw [Nat.add_mul, Nat.one_mul] at this; exact this
  apply List.ext_getElem?
  intro q
  by_cases hq : q < n * sz
  · rw [List.getElem?_take_of_lt hq, Array.getElem?_toList, getElem?_setRow _ _ _ (by rw [hz, hs]; omega), hz]
    have hqd : q = q / sz * sz + q % sz := by have := Nat.div_add_mod q sz; rw [Nat.mul_comm] at this; exact this.symm
    have hqm : q % sz < sz := Nat.mod_lt _ h0
    have hold : cur[q]? = (flat enc l)[q]? := by rw [← hx, List.getElem?_take_of_lt hq, Array.getElem?_toList]
    rw [hold]
    have e9 := flat_get hz l (q / sz) (q % sz) hqm
    have e8 := flat_get hz (l.set j y) (q / sz) (q % sz) hqm
    rw [← hqd] at e9 e8
    rw [e9, e8, List.getElem?_set]
    by_cases e1 : j = q / sz
    · subst e1
      rw [if_pos ⟨by omega, by omega⟩, if_pos rfl, if_pos (by rw [hl]; exact hj)]
      rw [show q - q / sz * sz = q % sz by omega]; rfl
    · rw [if_neg, if_neg e1]
      rintro ⟨h1, h2⟩
      have h3 : j ≤ q / sz := (Nat.le_div_iff_mul_le h0).2 h1
      have h4 : q / sz < j + 1 := Nat.div_lt_of_lt_mul (by rw [Nat.mul_comm, Nat.add_mul, Nat.one_mul]; omega)
      omega
  · rw [List.getElem?_eq_none (by rw [List.length_take, Array.length_toList]; omega), List.getElem?_eq_none (by rw [flat_len hz, List.length_set, hl]; omega)]
end
end Go.Vc
end

section
/- Layer 20, the document's node: one is changed. -/
set_option linter.unusedVariables false
set_option linter.unusedSimpArgs false
set_option maxRecDepth 100000
set_option maxHeartbeats 4000000
namespace Go.Proofs.YthchmlidobgkoaaGreat
open Go.Vc Go.RowKit
theorem TDadaa {P : Prop} (h : P := by intro i hi; first | exact hi.elim | exact .inl hi | ((try simp only at hi ⊢); omega)) : P := h
theorem TDadab {P : Prop} (h : P := by simp only [hg1, Bool.not_true, Bool.not_false]) : P := h
theorem TDadac {P : Prop} (h : P := by exact dused_any nd lo rooms l ((ip : Nat) : Int) ((ip : Nat) : Int) kv kc _ ⟨_, _, _, _, 0, rh, _, ho, hrc, hcn, hrh, hhi, sl_sl2 hrw, hv⟩ hm (butL_le hli _ _ _)) : P := h
theorem TDadad {P : Prop} (h : P := by simp only [hg2, Bool.not_true, Bool.not_false]) : P := h

theorem dchg_eq {rooms : List Int} {l : List Dx} {i : Nat} {v c : Int} {j : Nat} {y : Dx} (h : LI rooms (l.map Dx.x)) (hi : i < rooms.length) (hy : l[j]? = some y) (hk : keyX (i : Nat) v c y.x = true) (hf : findC (l.map Dx.x) (i : Nat) v c = some y.x) : IntKind.wrap .i64 (rooms.getD i 0 - usdL (delC (l.map Dx.x) (i : Nat) v c) (i : Nat)) = leftN rooms (l.map Dx.x) (i : Nat) + needC y.x.k := by
  have h1 : rooms[i]? = some (rooms.getD i 0) := by simp [List.getElem?_eq_getElem hi]
  have h2 := h.rooms _ (List.mem_of_getElem? h1)
  have h3 := h.fit i _ h1
  have h4 := usdL_del h.one (i : Nat) v c (i : Nat)
  have h5 := usdL_nonneg (delC (l.map Dx.x) (i : Nat) v c) (i : Nat)
  have h6 := (keyX_iff.1 hk).1
  rw [hf] at h4
  simp only [h6, if_true] at h4
  have h7 := needC_le y.x.k
  rw [leftN_at h1, wrap_i64 _ (by omega) (by omega)]
  omega
theorem dchange_3a (nd lo hi : Nat) (rooms : List Int) (l : List Dx) (rA : Option Addr) (rc : Nat) (A : Option Addr) (ca : Nat) (kp kv kc : Int) (w : World) (ho : Own w nd #[.slice rA rooms.length rc, .slice A l.length ca] 55) (hcn : l.length ≤ ca) (hhi : hi ≤ w.heap.size) (hv : Sl2 w lo hi A (flat dxc l)) (hnw : nd < lo ∨ hi ≤ nd) (hm : l.length ≤ 64) (rl rh : Nat) (k : Con) (hrc : rooms.length ≤ rc) (hrh : rh ≤ w.heap.size) (hrw : Sl w rh rA (iL .i64 rooms)) (hli : LI rooms (l.map Dx.x)) (hrr : rightB kp kv kc = false)  :
  CV Tryz.prog 13 #[Pt nd 0, .agg #[I6 kp, I6 kv, I6 kc], .agg #[I6 k.kind, I6 k.peak, I6 k.early, I6 k.whole, I6 k.burst, I6 k.least]] w (fun x w1 => x = I6 3 ∧ Step No w w1) := by
 have hS : Step No w w := Step.refl _ _
 have hrm := hli.rm
 refine VCe Tryz.func13 (Vs (Vr ?_))
 have hzs1 := hS.size
 have hzl1 := ho.lt
 have hzk1 := hhi
 have hzk2 := hrh
 refine Vx 0 30 #[I6 kp, I6 kv, I6 kc] ?_
 intro b1 w1 hn1
 replace hS := Step.trans hS (hn1.step No)
 replace ho := ho.no (hn1.step No)
 replace hv := hv.step (hn1.step No) (fun k hk1 hk2 hF => hF)
 replace hhi := Nat.le_trans hhi (hn1.step No).size
 replace hrw := hrw.no (hn1.step No)
 replace hrh := Nat.le_trans hrh (hn1.step No).size
 have ho1 := hn1.own
 have hzhn1 := hn1.size
 have hqhn1 := hn1.eqb
 have hzs2 := hS.size
 have hzl2 := ho.lt
 have hzk3 := hhi
 have hzk4 := hrh
 have hzl3 := ho1.lt
 refine Vx 1 32 #[I6 k.kind, I6 k.peak, I6 k.early, I6 k.whole, I6 k.burst, I6 k.least] ?_
 intro b2 w2 hn2
 replace hS := Step.trans hS (hn2.step No)
 replace ho := ho.no (hn2.step No)
 replace hv := hv.step (hn2.step No) (fun k hk1 hk2 hF => hF)
 replace hhi := Nat.le_trans hhi (hn2.step No).size
 replace hrw := hrw.no (hn2.step No)
 replace hrh := Nat.le_trans hrh (hn2.step No).size
 replace ho1 := ho1.no (hn2.step No)
 have ho2 := hn2.own
 have hzhn2 := hn2.size
 have hqhn2 := hn2.eqb
 refine Ve (Vn (Vs (Vs ?_)))
 have hs1 := drew_step w2
 have hs1z : w2.heap.size = w2.drew.heap.size := rfl
 refine Tx 16 (fun k => w2.heap.size ≤ k) [1] [0, 1, 2, 3, 4, 5, 6, 7, 8, 9, 10, 11, 12, 13, 14, 15] ?_
 have hzs3 := hS.size
 have hzl4 := ho.lt
 have hzl5 := ho1.lt
 have hzl6 := ho2.lt
 have hzo1 := hhi
 have hzo2 := hrh
 generalize w2.drew = w3 at hs1 hs1z ⊢
 replace hS := Step.trans hS hs1
 replace ho := ho.no hs1
 replace hv := hv.step hs1 (fun k hk1 hk2 hF => hF)
 replace hhi := Nat.le_trans hhi (hs1).size
 replace hrw := hrw.no hs1
 replace hrh := Nat.le_trans hrh (hs1).size
 replace ho1 := ho1.no hs1
 replace ho2 := ho2.no hs1
 refine Tl (fun w4 hr1 => ho1.step hr1 (by (try simp only); omega)) (Th ?_)
 intro w5 hs2
 have hzhs2 := hs2.size
 replace hS := Step.trans hS hs2
 replace ho := ho.no hs2
 replace hv := hv.step hs2 (fun k hk1 hk2 hF => hF)
 replace hhi := Nat.le_trans hhi (hs2).size
 replace hrw := hrw.no hs2
 replace hrh := Nat.le_trans hrh (hs2).size
 replace ho1 := ho1.no hs2
 replace ho2 := ho2.no hs2
 have hzs4 := hS.size
 have hzl7 := ho.lt
 have hzl8 := ho1.lt
 have hzl9 := ho2.lt
 refine Tc Tryz.call30 (dkright_any kp kv kc _) ?_ ?_
 ·rintro _ w6 ⟨rfl, hc1⟩
  exact Step.mono hc1 TDadaa
 rintro _ w6 ⟨rfl, hc1⟩
 have hzhc1 := (hc1).size
 replace hS := Step.trans hS hc1
 replace ho := ho.no hc1
 replace hv := hv.step hc1 (fun k hk1 hk2 hF => hF)
 replace hhi := Nat.le_trans hhi (hc1).size
 replace hrw := hrw.no hc1
 replace hrh := Nat.le_trans hrh (hc1).size
 replace ho1 := ho1.no hc1
 replace ho2 := ho2.no hc1
 refine Tp 2 ?_
 have hg1 : (rightB kp kv kc) = false := (by rw [hrr])
 refine Tq [(3, Bo (!(rightB kp kv kc))), (2, Bo (!(rightB kp kv kc))), (1, Bo (rightB kp kv kc))] [(3, Bo true), (2, Bo true), (1, Bo false)] TDadab (Tp 12 (VT_end ?_))
 intro w7 hs3
 replace hS := Step.trans hS hs3
 replace ho := ho.no hs3
 replace hv := hv.step hs3 (fun k hk1 hk2 hF => hF)
 replace hhi := Nat.le_trans hhi (hs3).size
 replace hrw := hrw.no hs3
 replace hrh := Nat.le_trans hrh (hs3).size
 replace ho1 := ho1.no hs3
 replace ho2 := ho2.no hs3
 refine Ve (Vn (Vt (Vrp (VC_ret (VQ_then_ret (Vr1 (I6 3) ?_))))))
 exact ⟨rfl, hS⟩

theorem dchange_3b (nd lo hi : Nat) (rooms : List Int) (l : List Dx) (rA : Option Addr) (rc : Nat) (A : Option Addr) (ca : Nat) (kp kv kc : Int) (w : World) (ho : Own w nd #[.slice rA rooms.length rc, .slice A l.length ca] 55) (hcn : l.length ≤ ca) (hhi : hi ≤ w.heap.size) (hv : Sl2 w lo hi A (flat dxc l)) (hnw : nd < lo ∨ hi ≤ nd) (hm : l.length ≤ 64) (rl rh : Nat) (k : Con) (hrc : rooms.length ≤ rc) (hrh : rh ≤ w.heap.size) (hrw : Sl w rh rA (iL .i64 rooms)) (hli : LI rooms (l.map Dx.x)) (hrr : rightB kp kv kc = true) (hc : kc < 32)  :
  CV Tryz.prog 13 #[Pt nd 0, .agg #[I6 kp, I6 kv, I6 kc], .agg #[I6 k.kind, I6 k.peak, I6 k.early, I6 k.whole, I6 k.burst, I6 k.least]] w (fun x w1 => x = I6 3 ∧ Step No w w1) := by
 have hS : Step No w w := Step.refl _ _
 have hrm := hli.rm
 refine VCe Tryz.func13 (Vs (Vr ?_))
 have hzs1 := hS.size
 have hzl1 := ho.lt
 have hzk1 := hhi
 have hzk2 := hrh
 refine Vx 0 30 #[I6 kp, I6 kv, I6 kc] ?_
 intro b1 w1 hn1
 replace hS := Step.trans hS (hn1.step No)
 replace ho := ho.no (hn1.step No)
 replace hv := hv.step (hn1.step No) (fun k hk1 hk2 hF => hF)
 replace hhi := Nat.le_trans hhi (hn1.step No).size
 replace hrw := hrw.no (hn1.step No)
 replace hrh := Nat.le_trans hrh (hn1.step No).size
 have ho1 := hn1.own
 have hzhn1 := hn1.size
 have hqhn1 := hn1.eqb
 have hzs2 := hS.size
 have hzl2 := ho.lt
 have hzk3 := hhi
 have hzk4 := hrh
 have hzl3 := ho1.lt
 refine Vx 1 32 #[I6 k.kind, I6 k.peak, I6 k.early, I6 k.whole, I6 k.burst, I6 k.least] ?_
 intro b2 w2 hn2
 replace hS := Step.trans hS (hn2.step No)
 replace ho := ho.no (hn2.step No)
 replace hv := hv.step (hn2.step No) (fun k hk1 hk2 hF => hF)
 replace hhi := Nat.le_trans hhi (hn2.step No).size
 replace hrw := hrw.no (hn2.step No)
 replace hrh := Nat.le_trans hrh (hn2.step No).size
 replace ho1 := ho1.no (hn2.step No)
 have ho2 := hn2.own
 have hzhn2 := hn2.size
 have hqhn2 := hn2.eqb
 refine Ve (Vn (Vs (Vs ?_)))
 have hs1 := drew_step w2
 have hs1z : w2.heap.size = w2.drew.heap.size := rfl
 refine Tx 16 (fun k => w2.heap.size ≤ k) [1] [0, 1, 2, 3, 4, 5, 6, 7, 8, 9, 10, 11, 12, 13, 14, 15] ?_
 have hzs3 := hS.size
 have hzl4 := ho.lt
 have hzl5 := ho1.lt
 have hzl6 := ho2.lt
 have hzo1 := hhi
 have hzo2 := hrh
 generalize w2.drew = w3 at hs1 hs1z ⊢
 replace hS := Step.trans hS hs1
 replace ho := ho.no hs1
 replace hv := hv.step hs1 (fun k hk1 hk2 hF => hF)
 replace hhi := Nat.le_trans hhi (hs1).size
 replace hrw := hrw.no hs1
 replace hrh := Nat.le_trans hrh (hs1).size
 replace ho1 := ho1.no hs1
 replace ho2 := ho2.no hs1
 refine Tl (fun w4 hr1 => ho1.step hr1 (by (try simp only); omega)) (Th ?_)
 intro w5 hs2
 have hzhs2 := hs2.size
 replace hS := Step.trans hS hs2
 replace ho := ho.no hs2
 replace hv := hv.step hs2 (fun k hk1 hk2 hF => hF)
 replace hhi := Nat.le_trans hhi (hs2).size
 replace hrw := hrw.no hs2
 replace hrh := Nat.le_trans hrh (hs2).size
 replace ho1 := ho1.no hs2
 replace ho2 := ho2.no hs2
 have hzs4 := hS.size
 have hzl7 := ho.lt
 have hzl8 := ho1.lt
 have hzl9 := ho2.lt
 refine Tc Tryz.call30 (dkright_any kp kv kc _) ?_ ?_
 ·rintro _ w6 ⟨rfl, hc1⟩
  exact Step.mono hc1 TDadaa
 rintro _ w6 ⟨rfl, hc1⟩
 have hzhc1 := (hc1).size
 replace hS := Step.trans hS hc1
 replace ho := ho.no hc1
 replace hv := hv.step hc1 (fun k hk1 hk2 hF => hF)
 replace hhi := Nat.le_trans hhi (hc1).size
 replace hrw := hrw.no hc1
 replace hrh := Nat.le_trans hrh (hc1).size
 replace ho1 := ho1.no hc1
 replace ho2 := ho2.no hc1
 refine Tp 2 ?_
 have hg1 : (rightB kp kv kc) = true := (by rw [hrr])
 refine Tq [(3, Bo (!(rightB kp kv kc))), (2, Bo (!(rightB kp kv kc))), (1, Bo (rightB kp kv kc))] [(3, Bo false), (2, Bo false), (1, Bo true)] TDadab (Tp 1 (Tl (fun w7 hr2 => ho1.step hr2 (by (try simp only); omega)) (Tp 3 ?_)))
 have hg2 : (decide (kc < 32)) = true := (decide_eq_true (by omega))
 refine Tq [(8, Bo (decide (kc < 32))), (7, Bo (decide (kc < 32))), (6, Bo (decide (kc < 32)))] [(8, Bo true), (7, Bo true), (6, Bo true)] TDadad (Tp 7 (VT_end ?_))
 intro w8 hs3
 replace hS := Step.trans hS hs3
 replace ho := ho.no hs3
 replace hv := hv.step hs3 (fun k hk1 hk2 hF => hF)
 replace hhi := Nat.le_trans hhi (hs3).size
 replace hrw := hrw.no hs3
 replace hrh := Nat.le_trans hrh (hs3).size
 replace ho1 := ho1.no hs3
 replace ho2 := ho2.no hs3
 refine Ve (Vn (Vt (Vrp (VC_ret (VQ_then_ret (Vr1 (I6 3) ?_))))))
 exact ⟨rfl, hS⟩

theorem dchange_3c (nd lo hi : Nat) (rooms : List Int) (l : List Dx) (rA : Option Addr) (rc : Nat) (A : Option Addr) (ca : Nat) (kp kv kc : Int) (w : World) (ho : Own w nd #[.slice rA rooms.length rc, .slice A l.length ca] 55) (hcn : l.length ≤ ca) (hhi : hi ≤ w.heap.size) (hv : Sl2 w lo hi A (flat dxc l)) (hnw : nd < lo ∨ hi ≤ nd) (hm : l.length ≤ 64) (rl rh : Nat) (k : Con) (hrc : rooms.length ≤ rc) (hrh : rh ≤ w.heap.size) (hrw : Sl w rh rA (iL .i64 rooms)) (hli : LI rooms (l.map Dx.x)) (hrr : rightB kp kv kc = true) (hc : ¬ kc < 32) (hp : kp ≥ rooms.length)  :
  CV Tryz.prog 13 #[Pt nd 0, .agg #[I6 kp, I6 kv, I6 kc], .agg #[I6 k.kind, I6 k.peak, I6 k.early, I6 k.whole, I6 k.burst, I6 k.least]] w (fun x w1 => x = I6 3 ∧ Step No w w1) := by
 have hS : Step No w w := Step.refl _ _
 refine VCe Tryz.func13 (Vs (Vr ?_))
 have hzl1 := ho.lt
 refine Vx 0 30 #[I6 kp, I6 kv, I6 kc] ?_
 intro b1 w1 hn1
 replace hS := Step.trans hS (hn1.step No)
 replace ho := ho.no (hn1.step No)
 have ho1 := hn1.own
 have hzhn1 := hn1.size
 have hqhn1 := hn1.eqb
 refine Vx 1 32 #[I6 k.kind, I6 k.peak, I6 k.early, I6 k.whole, I6 k.burst, I6 k.least] ?_
 intro b2 w2 hn2
 replace hS := Step.trans hS (hn2.step No)
 replace ho := ho.no (hn2.step No)
 replace ho1 := ho1.no (hn2.step No)
 have hzhn2 := hn2.size
 have hqhn2 := hn2.eqb
 refine Ve (Vn (Vs (Vs ?_)))
 have hs1 := drew_step w2
 have hs1z : w2.heap.size = w2.drew.heap.size := rfl
 refine Tx 16 (fun k => w2.heap.size ≤ k) [1] [0, 1, 2, 3, 4, 5, 6, 7, 8, 9, 10, 11, 12, 13, 14, 15] ?_
 generalize w2.drew = w3 at hs1 hs1z ⊢
 replace hS := Step.trans hS hs1
 replace ho := ho.no hs1
 replace ho1 := ho1.no hs1
 refine Tl (fun w4 hr1 => ho1.step hr1 (by (try simp only); omega)) (Th ?_)
 intro w5 hs2
 replace hS := Step.trans hS hs2
 replace ho := ho.no hs2
 replace ho1 := ho1.no hs2
 refine Tc Tryz.call30 (dkright_any kp kv kc _) ?_ ?_
 ·rintro _ w6 ⟨rfl, hc1⟩
  exact Step.mono hc1 TDadaa
 rintro _ w6 ⟨rfl, hc1⟩
 replace hS := Step.trans hS hc1
 replace ho := ho.no hc1
 replace ho1 := ho1.no hc1
 refine Tp 2 ?_
 have hg1 : (rightB kp kv kc) = true := (by rw [hrr])
 refine Tq [(3, Bo (!(rightB kp kv kc))), (2, Bo (!(rightB kp kv kc))), (1, Bo (rightB kp kv kc))] [(3, Bo false), (2, Bo false), (1, Bo true)] TDadab (Tp 1 (Tl (fun w7 hr2 => ho1.step hr2 (by (try simp only); omega)) (Tp 3 ?_)))
 have hg2 : (decide (kc < 32)) = false := (decide_eq_false (by omega))
 refine Tq [(8, Bo (decide (kc < 32))), (7, Bo (decide (kc < 32))), (6, Bo (decide (kc < 32)))] [(8, Bo false), (7, Bo false), (6, Bo false)] TDadad (Tp 1 (Tl (fun w8 hr3 => ho1.step hr3 (by (try simp only); omega)) (Tp 3 (Tl (fun w9 hr4 => ho.step hr4 (by (try simp only); omega)) (Tp 1 (VT_end ?_))))))
 intro w10 hs3
 replace hS := Step.trans hS hs3
 refine Ve (Vn (Vit (b := decide (kp ≥ ((rooms.length : Nat) : Int))) (decide_eq_true (by omega)) (Vrp (VC_ret (VQ_then_ret (Vr1 (I6 3) ?_))))))
 exact ⟨rfl, hS⟩

theorem dchange_73 (nd lo hi : Nat) (rooms : List Int) (l : List Dx) (rA : Option Addr) (rc : Nat) (A : Option Addr) (ca : Nat) (kp kv kc : Int) (w : World) (ho : Own w nd #[.slice rA rooms.length rc, .slice A l.length ca] 55) (hcn : l.length ≤ ca) (hhi : hi ≤ w.heap.size) (hv : Sl2 w lo hi A (flat dxc l)) (hnw : nd < lo ∨ hi ≤ nd) (hm : l.length ≤ 64) (rl rh : Nat) (k : Con) (hrc : rooms.length ≤ rc) (hrh : rh ≤ w.heap.size) (hrw : Sl w rh rA (iL .i64 rooms)) (hli : LI rooms (l.map Dx.x)) (hrr : rightB kp kv kc = true) (hc : ¬ kc < 32) (hp : ¬ kp ≥ rooms.length) (hk : rightC k ≠ 0) :
  CV Tryz.prog 13 #[Pt nd 0, .agg #[I6 kp, I6 kv, I6 kc], .agg #[I6 k.kind, I6 k.peak, I6 k.early, I6 k.whole, I6 k.burst, I6 k.least]] w (fun x w1 => x = I6 73 ∧ Step No w w1) := by
 have hS : Step No w w := Step.refl _ _
 refine VCe Tryz.func13 (Vs (Vr ?_))
 have hzl1 := ho.lt
 refine Vx 0 30 #[I6 kp, I6 kv, I6 kc] ?_
 intro b1 w1 hn1
 replace hS := Step.trans hS (hn1.step No)
 replace ho := ho.no (hn1.step No)
 have ho1 := hn1.own
 have hzhn1 := hn1.size
 have hqhn1 := hn1.eqb
 refine Vx 1 32 #[I6 k.kind, I6 k.peak, I6 k.early, I6 k.whole, I6 k.burst, I6 k.least] ?_
 intro b2 w2 hn2
 replace hS := Step.trans hS (hn2.step No)
 replace ho := ho.no (hn2.step No)
 replace ho1 := ho1.no (hn2.step No)
 have ho2 := hn2.own
 have hzhn2 := hn2.size
 have hqhn2 := hn2.eqb
 refine Ve (Vn (Vs (Vs ?_)))
 have hs1 := drew_step w2
 have hs1z : w2.heap.size = w2.drew.heap.size := rfl
 refine Tx 16 (fun k => w2.heap.size ≤ k) [1] [0, 1, 2, 3, 4, 5, 6, 7, 8, 9, 10, 11, 12, 13, 14, 15] ?_
 generalize w2.drew = w3 at hs1 hs1z ⊢
 replace hS := Step.trans hS hs1
 replace ho := ho.no hs1
 replace ho1 := ho1.no hs1
 replace ho2 := ho2.no hs1
 refine Tl (fun w4 hr1 => ho1.step hr1 (by (try simp only); omega)) (Th ?_)
 intro w5 hs2
 replace hS := Step.trans hS hs2
 replace ho := ho.no hs2
 replace ho1 := ho1.no hs2
 replace ho2 := ho2.no hs2
 refine Tc Tryz.call30 (dkright_any kp kv kc _) ?_ ?_
 ·rintro _ w6 ⟨rfl, hc1⟩
  exact Step.mono hc1 TDadaa
 rintro _ w6 ⟨rfl, hc1⟩
 replace hS := Step.trans hS hc1
 replace ho := ho.no hc1
 replace ho1 := ho1.no hc1
 replace ho2 := ho2.no hc1
 refine Tp 2 ?_
 have hg1 : (rightB kp kv kc) = true := (by rw [hrr])
 refine Tq [(3, Bo (!(rightB kp kv kc))), (2, Bo (!(rightB kp kv kc))), (1, Bo (rightB kp kv kc))] [(3, Bo false), (2, Bo false), (1, Bo true)] TDadab (Tp 1 (Tl (fun w7 hr2 => ho1.step hr2 (by (try simp only); omega)) (Tp 3 ?_)))
 have hg2 : (decide (kc < 32)) = false := (decide_eq_false (by omega))
 refine Tq [(8, Bo (decide (kc < 32))), (7, Bo (decide (kc < 32))), (6, Bo (decide (kc < 32)))] [(8, Bo false), (7, Bo false), (6, Bo false)] TDadad (Tp 1 (Tl (fun w8 hr3 => ho1.step hr3 (by (try simp only); omega)) (Tp 3 (Tl (fun w9 hr4 => ho.step hr4 (by (try simp only); omega)) (Tp 1 (VT_end ?_))))))
 intro w10 hs3
 replace hS := Step.trans hS hs3
 replace ho2 := ho2.no hs3
 refine Ve (Vn (Viz (b := decide (kp ≥ ((rooms.length : Nat) : Int))) (decide_eq_false (by omega)) (VC_skip (Vn (Vs (Vs (Vr (Vl 0 ho2 ?_))))))))
 refine Vc 1 Tryz.call31 (dright_any k _) ?_
 rintro _ w11 ⟨rfl, hc2⟩
 replace hS := Step.trans hS hc2
 refine Ve (Vn (Vit (b := (rightC k) != 0) (by simpa using hk) (Vrp (VC_ret (VQ_then_ret (Vr1 (I6 73) ?_))))))
 exact ⟨rfl, hS⟩

theorem dchange_81 (nd lo hi : Nat) (rooms : List Int) (l : List Dx) (rA : Option Addr) (rc : Nat) (A : Option Addr) (ca : Nat) (kp kv kc : Int) (w : World) (ho : Own w nd #[.slice rA rooms.length rc, .slice A l.length ca] 55) (hcn : l.length ≤ ca) (hhi : hi ≤ w.heap.size) (hv : Sl2 w lo hi A (flat dxc l)) (hnw : nd < lo ∨ hi ≤ nd) (hm : l.length ≤ 64) (rl rh : Nat) (k : Con) (hrc : rooms.length ≤ rc) (hrh : rh ≤ w.heap.size) (hrw : Sl w rh rA (iL .i64 rooms)) (hli : LI rooms (l.map Dx.x)) (hrr : rightB kp kv kc = true) (hc : ¬ kc < 32) (hp : ¬ kp ≥ rooms.length) (hk : rightC k = 0) (hat : atD l kp kv kc = -1) :
  CV Tryz.prog 13 #[Pt nd 0, .agg #[I6 kp, I6 kv, I6 kc], .agg #[I6 k.kind, I6 k.peak, I6 k.early, I6 k.whole, I6 k.burst, I6 k.least]] w (fun x w1 => x = I6 81 ∧ Step No w w1) := by
 have hS : Step No w w := Step.refl _ _
 refine VCe Tryz.func13 (Vs (Vr ?_))
 have hzl1 := ho.lt
 refine Vx 0 30 #[I6 kp, I6 kv, I6 kc] ?_
 intro b1 w1 hn1
 replace hS := Step.trans hS (hn1.step No)
 replace ho := ho.no (hn1.step No)
 replace hv := hv.step (hn1.step No) (fun k hk1 hk2 hF => hF)
 replace hhi := Nat.le_trans hhi (hn1.step No).size
 have ho1 := hn1.own
 have hzhn1 := hn1.size
 have hqhn1 := hn1.eqb
 refine Vx 1 32 #[I6 k.kind, I6 k.peak, I6 k.early, I6 k.whole, I6 k.burst, I6 k.least] ?_
 intro b2 w2 hn2
 replace hS := Step.trans hS (hn2.step No)
 replace ho := ho.no (hn2.step No)
 replace hv := hv.step (hn2.step No) (fun k hk1 hk2 hF => hF)
 replace hhi := Nat.le_trans hhi (hn2.step No).size
 replace ho1 := ho1.no (hn2.step No)
 have ho2 := hn2.own
 have hzhn2 := hn2.size
 have hqhn2 := hn2.eqb
 refine Ve (Vn (Vs (Vs ?_)))
 have hs1 := drew_step w2
 have hs1z : w2.heap.size = w2.drew.heap.size := rfl
 refine Tx 16 (fun k => w2.heap.size ≤ k) [1] [0, 1, 2, 3, 4, 5, 6, 7, 8, 9, 10, 11, 12, 13, 14, 15] ?_
 generalize w2.drew = w3 at hs1 hs1z ⊢
 replace hS := Step.trans hS hs1
 replace ho := ho.no hs1
 replace hv := hv.step hs1 (fun k hk1 hk2 hF => hF)
 replace hhi := Nat.le_trans hhi (hs1).size
 replace ho1 := ho1.no hs1
 replace ho2 := ho2.no hs1
 refine Tl (fun w4 hr1 => ho1.step hr1 (by (try simp only); omega)) (Th ?_)
 intro w5 hs2
 replace hS := Step.trans hS hs2
 replace ho := ho.no hs2
 replace hv := hv.step hs2 (fun k hk1 hk2 hF => hF)
 replace hhi := Nat.le_trans hhi (hs2).size
 replace ho1 := ho1.no hs2
 replace ho2 := ho2.no hs2
 refine Tc Tryz.call30 (dkright_any kp kv kc _) ?_ ?_
 ·rintro _ w6 ⟨rfl, hc1⟩
  exact Step.mono hc1 TDadaa
 rintro _ w6 ⟨rfl, hc1⟩
 replace hS := Step.trans hS hc1
 replace ho := ho.no hc1
 replace hv := hv.step hc1 (fun k hk1 hk2 hF => hF)
 replace hhi := Nat.le_trans hhi (hc1).size
 replace ho1 := ho1.no hc1
 replace ho2 := ho2.no hc1
 refine Tp 2 ?_
 have hg1 : (rightB kp kv kc) = true := (by rw [hrr])
 refine Tq [(3, Bo (!(rightB kp kv kc))), (2, Bo (!(rightB kp kv kc))), (1, Bo (rightB kp kv kc))] [(3, Bo false), (2, Bo false), (1, Bo true)] TDadab (Tp 1 (Tl (fun w7 hr2 => ho1.step hr2 (by (try simp only); omega)) (Tp 3 ?_)))
 have hg2 : (decide (kc < 32)) = false := (decide_eq_false (by omega))
 refine Tq [(8, Bo (decide (kc < 32))), (7, Bo (decide (kc < 32))), (6, Bo (decide (kc < 32)))] [(8, Bo false), (7, Bo false), (6, Bo false)] TDadad (Tp 1 (Tl (fun w8 hr3 => ho1.step hr3 (by (try simp only); omega)) (Tp 3 (Tl (fun w9 hr4 => ho.step hr4 (by (try simp only); omega)) (Tp 1 (VT_end ?_))))))
 intro w10 hs3
 replace hS := Step.trans hS hs3
 replace ho := ho.no hs3
 replace hv := hv.step hs3 (fun k hk1 hk2 hF => hF)
 replace hhi := Nat.le_trans hhi (hs3).size
 replace ho1 := ho1.no hs3
 replace ho2 := ho2.no hs3
 refine Ve (Vn (Viz (b := decide (kp ≥ ((rooms.length : Nat) : Int))) (decide_eq_false (by omega)) (VC_skip (Vn (Vs (Vs (Vr (Vl 0 ho2 ?_))))))))
 refine Vc 1 Tryz.call31 ((dright_any k _).mono (fun x w1 h9 => ⟨h9.1.trans (by rw [hk]), h9.2⟩ : ∀ x w1, _ → x = I6 0 ∧ Step No _ w1)) ?_
 rintro _ w11 ⟨rfl, hc2⟩
 replace hS := Step.trans hS hc2
 replace ho := ho.no hc2
 replace hv := hv.step hc2 (fun k hk1 hk2 hF => hF)
 replace hhi := Nat.le_trans hhi (hc2).size
 replace ho1 := ho1.no hc2
 refine Ve (Vn (Vf (VC_skip (Vn (Vs (Vr (Vl 1 ho1 ?_)))))))
 refine Vc 2 Tryz.call32 ((dat_any _ _ _ _ _ _ _ _ _ kp kv kc _ ho hcn hhi hv hm).mono (fun x w1 h9 => by rw [hat] at h9; exact h9)) ?_
 rintro _ w12 ⟨rfl, hc3⟩
 replace hS := Step.trans hS hc3
 refine Ve (Vn (Vs (Vrp (Vt (Vrp (VC_ret (VQ_then_ret (Vr1 (I6 81) ?_))))))))
 exact ⟨rfl, hS⟩

theorem dchange_37 (nd lo hi : Nat) (rooms : List Int) (l : List Dx) (rA : Option Addr) (rc : Nat) (A : Option Addr) (ca : Nat) (ip : Nat) (kv kc : Int) (w : World) (ho : Own w nd #[.slice rA rooms.length rc, .slice A l.length ca] 55) (hcn : l.length ≤ ca) (hhi : hi ≤ w.heap.size) (hv : Sl2 w lo hi A (flat dxc l)) (hnw : nd < lo ∨ hi ≤ nd) (hm : l.length ≤ 64) (rl rh : Nat) (k : Con) (hrc : rooms.length ≤ rc) (hrh : rh ≤ w.heap.size) (hrw : Sl w rh rA (iL .i64 rooms)) (hli : LI rooms (l.map Dx.x)) (hrr : rightB (ip : Nat) kv kc = true) (hc : ¬ kc < 32) (hp : ip < rooms.length) (hk : rightC k = 0) (i : Nat) (y : Dx) (hat : atD l (ip : Nat) kv kc = (i : Nat)) (hy : l[i]? = some y) (hky : keyX (ip : Nat) kv kc y.x = true) (hfy : findC (l.map Dx.x) (ip : Nat) kv kc = some y.x) (hgt : needC k > leftN rooms (l.map Dx.x) (ip : Nat) + needC y.x.k) :
  CV Tryz.prog 13 #[.pointer (some ⟨nd, 0, none⟩), .agg #[.int .i64 ((ip : Nat) : Int), .int .i64 kv, .int .i64 kc], .agg #[.int .i64 k.kind, .int .i64 k.peak, .int .i64 k.early, .int .i64 k.whole, .int .i64 k.burst, .int .i64 k.least]] w (fun x w1 => x = .int .i64 37 ∧ Step No w w1) := by
 have hS : Step No w w := Step.refl _ _
 have hrm := hli.rm
 refine CV_enter Tryz.f13 _ 70 [(0, .pointer (some ⟨nd, 0, none⟩)), (1, .agg #[.int .i64 ((ip : Nat) : Int), .int .i64 kv, .int .i64 kc]), (2, .agg #[.int .i64 k.kind, .int .i64 k.peak, .int .i64 k.early, .int .i64 k.whole, .int .i64 k.burst, .int .i64 k.least])] Tryz.func13 rfl rfl (by kernel_rfl) rfl ?_
 refine VC_seq ?_
 refine VC_region ?_
 have hzl1 := ho.lt
 refine VL_box (d := 4) (t := 30) (c := #[.int .i64 ((ip : Nat) : Int), .int .i64 kv, .int .i64 kc]) (by kernel_rfl) (by kernel_rfl) ?_
 intro b1 w1 hn1
 replace hS := Step.trans hS (hn1.step No)
 replace ho := ho.no (hn1.step No)
 replace hv := hv.step (hn1.step No) (fun k hk1 hk2 hF => hF)
 replace hhi := Nat.le_trans hhi (hn1.step No).size
 replace hrw := hrw.no (hn1.step No)
 replace hrh := Nat.le_trans hrh (hn1.step No).size
 have ho1 := hn1.own
 have hzhn1 := hn1.size
 have hqhn1 := hn1.eqb
 refine VL_box (d := 5) (t := 32) (c := #[.int .i64 k.kind, .int .i64 k.peak, .int .i64 k.early, .int .i64 k.whole, .int .i64 k.burst, .int .i64 k.least]) (by kernel_rfl) (by kernel_rfl) ?_
 intro b2 w2 hn2
 replace hS := Step.trans hS (hn2.step No)
 replace ho := ho.no (hn2.step No)
 replace hv := hv.step (hn2.step No) (fun k hk1 hk2 hF => hF)
 replace hhi := Nat.le_trans hhi (hn2.step No).size
 replace hrw := hrw.no (hn2.step No)
 replace hrh := Nat.le_trans hrh (hn2.step No).size
 replace ho1 := ho1.no (hn2.step No)
 have ho2 := hn2.own
 have hzhn2 := hn2.size
 have hqhn2 := hn2.eqb
 refine VL_pure 3 [0, 4, 5] [(0, .pointer (some ⟨nd, 0, none⟩)), (4, .pointer (some ⟨b1, 0, none⟩)), (5, .pointer (some ⟨b2, 0, none⟩))] (by kernel_rfl) rfl ?_
 refine VL_end (by kernel_rfl) ?_
 refine VQ_next ?_
 refine VC_seq ?_
 refine VC_seq ?_
 have hs1 := drew_step w2
 have hs1z : w2.heap.size = w2.drew.heap.size := rfl
 refine VC_text [[], [0], [0, 1], [0, 1, 2], [0, 1, 2, 3], [0, 1, 2, 3, 4], [0, 1, 2, 3, 4, 5], [0, 1, 2, 3, 4, 5, 6], [0, 1, 2, 3, 4, 5, 6, 7], [0, 1, 2, 3, 4, 5, 6, 7, 8], [0, 1, 2, 3, 4, 5, 6, 7, 8, 9], [0, 1, 2, 3, 4, 5, 6, 7, 8], [0, 1, 2, 3, 4, 5, 6, 7, 8, 11], [0, 1, 2, 3, 4, 5, 6, 7, 8, 11, 12], [0, 1, 2, 3, 4, 5, 6, 7, 8, 11, 12, 13], [0, 1, 2, 3, 4, 5, 6, 7, 8, 11, 12, 13, 14], [0, 1, 2, 3, 4, 5, 6, 7, 8, 9, 10, 11, 12, 13, 14, 15], [0, 1, 2, 3, 4, 5, 6, 7, 8, 9, 10, 11, 12, 13, 14, 15, 16]] 16 (fun x y => Step (fun k => w2.heap.size ≤ k) x y) [1] [0, 1, 2, 3, 4, 5, 6, 7, 8, 9, 10, 11, 12, 13, 14, 15] (by kernel_rfl) (by kernel_rfl) (by kernel_rfl) (by kernel_rfl) (fun x => Step.refl _ x) (fun h k => Step.trans h k) Step.weak ?_
 generalize w2.drew = w3 at hs1 hs1z ⊢
 replace hS := Step.trans hS hs1
 replace ho := ho.no hs1
 replace hv := hv.step hs1 (fun k hk1 hk2 hF => hF)
 replace hhi := Nat.le_trans hhi (hs1).size
 replace hrw := hrw.no hs1
 replace hrh := Nat.le_trans hrh (hs1).size
 replace ho1 := ho1.no hs1
 replace ho2 := ho2.no hs1
 refine VT_load (d := 9) (t := 30) (a := ⟨b1, 0, none⟩) (v := .agg #[.int .i64 ((ip : Nat) : Int), .int .i64 kv, .int .i64 kc]) (by kernel_rfl) (by kernel_rfl) ?_ ?_
 ·intro w4 hr1
  replace ho1 := ho1.step hr1 (by (try simp only); omega)
  exact (Loads.ownL ho1 (n := 3) (by kernel_rfl) (by kernel_rfl) (by kernel_rfl))
 refine VT_chain (by kernel_rfl) ?_
 intro w5 hs2
 replace hS := Step.trans hS hs2
 replace ho := ho.no hs2
 replace hv := hv.step hs2 (fun k hk1 hk2 hF => hF)
 replace hhi := Nat.le_trans hhi (hs2).size
 replace hrw := hrw.no hs2
 replace hrh := Nat.le_trans hrh (hs2).size
 replace ho1 := ho1.no hs2
 replace ho2 := ho2.no hs2
 refine VTc_call (d := 10) (f := 30) (args := #[.agg #[.int .i64 ((ip : Nat) : Int), .int .i64 kv, .int .i64 kc]]) (by kernel_rfl) (by kernel_rfl) (by kernel_rfl) Tryz.call30 (dkright_any ((ip : Nat) : Int) kv kc _) ?_ ?_
 ·rintro _ w6 ⟨rfl, hc1⟩
  exact Step.mono hc1 TDadaa
 rintro _ w6 ⟨rfl, hc1⟩
 replace hS := Step.trans hS hc1
 replace ho := ho.no hc1
 replace hv := hv.step hc1 (fun k hk1 hk2 hF => hF)
 replace hhi := Nat.le_trans hhi (hc1).size
 replace hrw := hrw.no hc1
 replace hrh := Nat.le_trans hrh (hc1).size
 replace ho1 := ho1.no hc1
 replace ho2 := ho2.no hc1
 refine VT_pures 2 (kn' := [(3, .bool (!(rightB ((ip : Nat) : Int) kv kc))), (2, .bool (!(rightB ((ip : Nat) : Int) kv kc))), (1, .bool (rightB ((ip : Nat) : Int) kv kc)), (0, .agg #[.int .i64 ((ip : Nat) : Int), .int .i64 kv, .int .i64 kc])]) (by kernel_rfl) ?_
 have hg1 : (rightB ((ip : Nat) : Int) kv kc) = true := (by rw [hrr])
 refine VT_eq [(3, .bool false), (2, .bool false), (1, .bool true), (0, .agg #[.int .i64 ((ip : Nat) : Int), .int .i64 kv, .int .i64 kc])] TDadab ?_
 refine VT_pures 1 (kn' := [(4, .pointer (some ⟨b1, 2, none⟩)), (3, .bool false), (2, .bool false), (1, .bool true), (0, .agg #[.int .i64 ((ip : Nat) : Int), .int .i64 kv, .int .i64 kc])]) (by kernel_rfl) ?_
 refine VT_load (d := 14) (t := 3) (a := ⟨b1, 2, none⟩) (v := .int .i64 kc) (by kernel_rfl) (by kernel_rfl) ?_ ?_
 ·intro w7 hr2
  replace ho1 := ho1.step hr2 (by (try simp only); omega)
  exact (Loads.own1 ho1 (by kernel_rfl) (by rfl))
 refine VT_pures 3 (kn' := [(8, .bool (decide (kc < 32))), (7, .bool (decide (kc < 32))), (6, .bool (decide (kc < 32))), (5, .int .i64 kc), (4, .pointer (some ⟨b1, 2, none⟩)), (3, .bool false), (2, .bool false), (1, .bool true), (0, .agg #[.int .i64 ((ip : Nat) : Int), .int .i64 kv, .int .i64 kc])]) (by kernel_rfl) ?_
 have hg2 : (decide (kc < 32)) = false := (decide_eq_false (by omega))
 refine VT_eq [(8, .bool false), (7, .bool false), (6, .bool false), (5, .int .i64 kc), (4, .pointer (some ⟨b1, 2, none⟩)), (3, .bool false), (2, .bool false), (1, .bool true), (0, .agg #[.int .i64 ((ip : Nat) : Int), .int .i64 kv, .int .i64 kc])] TDadad ?_
 refine VT_pures 1 (kn' := [(9, .pointer (some ⟨b1, 0, none⟩)), (8, .bool false), (7, .bool false), (6, .bool false), (5, .int .i64 kc), (4, .pointer (some ⟨b1, 2, none⟩)), (3, .bool false), (2, .bool false), (1, .bool true), (0, .agg #[.int .i64 ((ip : Nat) : Int), .int .i64 kv, .int .i64 kc])]) (by kernel_rfl) ?_
 refine VT_load (d := 19) (t := 3) (a := ⟨b1, 0, none⟩) (v := .int .i64 ((ip : Nat) : Int)) (by kernel_rfl) (by kernel_rfl) ?_ ?_
 ·intro w8 hr3
  replace ho1 := ho1.step hr3 (by (try simp only); omega)
  exact (Loads.own1 ho1 (by kernel_rfl) (by rfl))
 refine VT_pures 3 (kn' := [(13, .pointer (some ⟨nd, 0, none⟩)), (12, .pointer (some ⟨nd, 0, none⟩)), (11, .pointer (some ⟨nd, 0, none⟩)), (10, .int .i64 ((ip : Nat) : Int)), (9, .pointer (some ⟨b1, 0, none⟩)), (8, .bool false), (7, .bool false), (6, .bool false), (5, .int .i64 kc), (4, .pointer (some ⟨b1, 2, none⟩)), (3, .bool false), (2, .bool false), (1, .bool true), (0, .agg #[.int .i64 ((ip : Nat) : Int), .int .i64 kv, .int .i64 kc])]) (by kernel_rfl) ?_
 refine VT_load (d := 23) (t := 22) (a := ⟨nd, 0, none⟩) (v := .slice rA rooms.length rc) (by kernel_rfl) (by kernel_rfl) ?_ ?_
 ·intro w9 hr4
  replace ho := ho.step hr4 (by (try simp only); omega)
  exact (Loads.own1 ho (by kernel_rfl) (by rfl))
 refine VT_pures 1 (kn' := [(15, .int .i64 ((rooms.length : Nat) : Int)), (14, .slice rA rooms.length rc), (13, .pointer (some ⟨nd, 0, none⟩)), (12, .pointer (some ⟨nd, 0, none⟩)), (11, .pointer (some ⟨nd, 0, none⟩)), (10, .int .i64 ((ip : Nat) : Int)), (9, .pointer (some ⟨b1, 0, none⟩)), (8, .bool false), (7, .bool false), (6, .bool false), (5, .int .i64 kc), (4, .pointer (some ⟨b1, 2, none⟩)), (3, .bool false), (2, .bool false), (1, .bool true), (0, .agg #[.int .i64 ((ip : Nat) : Int), .int .i64 kv, .int .i64 kc])]) (by kernel_rfl) ?_
 refine VT_end ?_
 intro w10 hs3
 replace hS := Step.trans hS hs3
 replace ho := ho.no hs3
 replace hv := hv.step hs3 (fun k hk1 hk2 hF => hF)
 replace hhi := Nat.le_trans hhi (hs3).size
 replace hrw := hrw.no hs3
 replace hrh := Nat.le_trans hrh (hs3).size
 replace ho1 := ho1.no hs3
 replace ho2 := ho2.no hs3
 refine VL_keep [0, 4, 5, 17, 19, 24] [(0, .pointer (some ⟨nd, 0, none⟩)), (4, .pointer (some ⟨b1, 0, none⟩)), (5, .pointer (some ⟨b2, 0, none⟩)), (17, .bool false), (19, .int .i64 ((ip : Nat) : Int)), (24, .int .i64 ((rooms.length : Nat) : Int))] (by kernel_rfl) ?_
 refine VL_pure 18 [0, 4, 5, 26] [(0, .pointer (some ⟨nd, 0, none⟩)), (4, .pointer (some ⟨b1, 0, none⟩)), (5, .pointer (some ⟨b2, 0, none⟩)), (26, .bool (decide (((ip : Nat) : Int) ≥ ((rooms.length : Nat) : Int))))] (by kernel_rfl) rfl ?_
 refine VL_end (by kernel_rfl) ?_
 refine VQ_next ?_
 refine VC_is (b := decide (((ip : Nat) : Int) ≥ ((rooms.length : Nat) : Int))) false (by kernel_rfl) (decide_eq_false (by omega)) ?_
 refine VC_ite_false ?_
 refine VC_skip ?_
 refine VQ_next ?_
 refine VC_seq ?_
 refine VC_seq ?_
 refine VC_region ?_
 refine VL_load (d := 27) (t := 32) (a := ⟨b2, 0, none⟩) (v := .agg #[.int .i64 k.kind, .int .i64 k.peak, .int .i64 k.early, .int .i64 k.whole, .int .i64 k.burst, .int .i64 k.least]) (by kernel_rfl) (by kernel_rfl) (Loads.ownL ho2 (n := 6) (by kernel_rfl) (by kernel_rfl) (by kernel_rfl)) ?_
 refine VL_call (d := 28) (f := 31) (args := #[.agg #[.int .i64 k.kind, .int .i64 k.peak, .int .i64 k.early, .int .i64 k.whole, .int .i64 k.burst, .int .i64 k.least]]) (by kernel_rfl) (by kernel_rfl) (by kernel_rfl) Tryz.call31 ((dright_any k _).mono (fun x w1 h9 => ⟨h9.1.trans (by rw [hk]), h9.2⟩ : ∀ x w1, _ → x = .int .i64 0 ∧ Step No _ w1)) ?_
 rintro _ w11 ⟨rfl, hc2⟩
 replace hS := Step.trans hS hc2
 replace ho := ho.no hc2
 replace hv := hv.step hc2 (fun k hk1 hk2 hF => hF)
 replace hhi := Nat.le_trans hhi (hc2).size
 replace hrw := hrw.no hc2
 replace hrh := Nat.le_trans hrh (hc2).size
 replace ho1 := ho1.no hc2
 replace ho2 := ho2.no hc2
 refine VL_pure 3 [0, 4, 5, 29] [(0, .pointer (some ⟨nd, 0, none⟩)), (4, .pointer (some ⟨b1, 0, none⟩)), (5, .pointer (some ⟨b2, 0, none⟩)), (29, .bool false)] (by kernel_rfl) rfl ?_
 refine VL_end (by kernel_rfl) ?_
 refine VQ_next ?_
 refine VC_false (by kernel_rfl) ?_
 refine VC_skip ?_
 refine VQ_next ?_
 refine VC_seq ?_
 refine VC_region ?_
 refine VL_pure 1 [0, 4, 5, 30] [(0, .pointer (some ⟨nd, 0, none⟩)), (4, .pointer (some ⟨b1, 0, none⟩)), (5, .pointer (some ⟨b2, 0, none⟩)), (30, .pointer (some ⟨nd, 0, none⟩))] (by kernel_rfl) rfl ?_
 refine VL_load (d := 31) (t := 30) (a := ⟨b1, 0, none⟩) (v := .agg #[.int .i64 ((ip : Nat) : Int), .int .i64 kv, .int .i64 kc]) (by kernel_rfl) (by kernel_rfl) (Loads.ownL ho1 (n := 3) (by kernel_rfl) (by kernel_rfl) (by kernel_rfl)) ?_
 refine VL_call (d := 32) (f := 32) (args := #[.pointer (some ⟨nd, 0, none⟩), .agg #[.int .i64 ((ip : Nat) : Int), .int .i64 kv, .int .i64 kc]]) (by kernel_rfl) (by kernel_rfl) (by kernel_rfl) Tryz.call32 ((dat_any _ _ _ _ _ _ _ _ _ (ip : Nat) kv kc _ ho hcn hhi hv hm).mono (fun x w1 h9 => by rw [hat] at h9; exact h9)) ?_
 rintro _ w12 ⟨rfl, hc3⟩
 replace hS := Step.trans hS hc3
 replace ho := ho.no hc3
 replace hv := hv.step hc3 (fun k hk1 hk2 hF => hF)
 replace hhi := Nat.le_trans hhi (hc3).size
 replace hrw := hrw.no hc3
 replace hrh := Nat.le_trans hrh (hc3).size
 replace ho1 := ho1.no hc3
 replace ho2 := ho2.no hc3
 refine VL_pure 4 [0, 4, 5, 7] [(0, .pointer (some ⟨nd, 0, none⟩)), (4, .pointer (some ⟨b1, 0, none⟩)), (5, .pointer (some ⟨b2, 0, none⟩)), (7, .int .i64 ((i : Nat) : Int))] (by kernel_rfl) rfl ?_
 refine VL_end (by kernel_rfl) ?_
 refine VQ_next ?_
 refine VC_seq ?_
 refine VC_seq ?_
 refine VC_region ?_
 refine VL_pure 2 [0, 4, 5, 7, 34] [(0, .pointer (some ⟨nd, 0, none⟩)), (4, .pointer (some ⟨b1, 0, none⟩)), (5, .pointer (some ⟨b2, 0, none⟩)), (7, .int .i64 ((i : Nat) : Int)), (34, .bool (decide (((i : Nat) : Int) < 0)))] (by kernel_rfl) rfl ?_
 refine VL_end (by kernel_rfl) ?_
 refine VQ_next ?_
 refine VC_is (b := decide (((i : Nat) : Int) < 0)) false (by kernel_rfl) (decide_eq_false (by omega)) ?_
 refine VC_ite_false ?_
 refine VC_skip ?_
 refine VQ_next ?_
 refine VC_seq ?_
 refine VC_seq ?_
 obtain ⟨sb1, so1, rfl, hlbsb1⟩ := hrw.open (by rw [iL_length]; omega)
 refine VC_det [[], [0], [], [2], [2, 3], [2, 3, 4], [], [6], [2, 3, 4, 5, 6, 7], [2, 3, 4, 5, 6, 7, 8], [], [], [11], [], [0, 1, 10, 11, 12, 13], [0, 1, 2, 3, 4, 5, 6, 7, 8, 9, 10, 11, 12, 13, 14], [0, 1, 2, 3, 4, 5, 6, 7, 8, 9, 10, 11, 12, 13, 14, 15]] 15 [.agg #[.int .i64 k.kind, .int .i64 k.peak, .int .i64 k.early, .int .i64 k.whole, .int .i64 k.burst, .int .i64 k.least], .int .i64 (needC k), .pointer (some ⟨nd, 0, none⟩), .pointer (some ⟨nd, 0, none⟩), .pointer (some ⟨nd, 0, none⟩), .slice (some ⟨sb1, so1, none⟩) rooms.length rc, .pointer (some ⟨b1, 0, none⟩), .int .i64 ((ip : Nat) : Int), .pointer (some ⟨sb1, so1 + ip, none⟩), .int .i64 (rooms.getD ip 0), .pointer (some ⟨nd, 0, none⟩), .pointer (some ⟨b1, 0, none⟩), .int .i64 ((ip : Nat) : Int), .agg #[.int .i64 ((ip : Nat) : Int), .int .i64 kv, .int .i64 kc], .int .i64 (usdL (delC (l.map Dx.x) ((ip : Nat) : Int) kv kc) ((ip : Nat) : Int))] [2, 3, 4, 6, 10, 11] [0, 1, 5, 7, 8, 9, 12, 13, 14] (by kernel_rfl) (by kernel_rfl) (by kernel_rfl) (by kernel_rfl) ?_ ?_
 ·intro w13 hs4
  replace ho := ho.no hs4
  replace hv := hv.step hs4 (fun k hk1 hk2 hF => hF)
  replace hhi := Nat.le_trans hhi (hs4).size
  replace hrw := hrw.no hs4
  replace hrh := Nat.le_trans hrh (hs4).size
  replace ho1 := ho1.no hs4
  replace ho2 := ho2.no hs4
  exact ⟨Det1_load (d := 35) (t := 32) (a := ⟨b2, 0, none⟩) (by kernel_rfl) (by kernel_rfl) (Loads.ownL ho2 (n := 6) (by kernel_rfl) (by kernel_rfl) (by kernel_rfl)), Det1_call (d := 36) (f := 33) (args := #[.agg #[.int .i64 k.kind, .int .i64 k.peak, .int .i64 k.early, .int .i64 k.whole, .int .i64 k.burst, .int .i64 k.least]]) (by kernel_rfl) (by kernel_rfl) (by kernel_rfl) Tryz.call33 (by exact dneed_any k _), Det1_load (d := 40) (t := 22) (a := ⟨nd, 0, none⟩) (by kernel_rfl) (by kernel_rfl) (Loads.own1 ho (by kernel_rfl) (by rfl)), Det1_load (d := 42) (t := 3) (a := ⟨b1, 0, none⟩) (by kernel_rfl) (by kernel_rfl) (Loads.own1 ho1 (by kernel_rfl) (by rfl)), Det1_index (d := 43) (b := sb1) (o := so1) (len := rooms.length) (sz := 1) (m := ((ip : Nat) : Int)) (by kernel_rfl) (by kernel_rfl) ip (by rfl) (by omega) (so1 + ip) (by omega), Det1_load (d := 44) (t := 3) (a := ⟨sb1, so1 + ip, none⟩) (by kernel_rfl) (by kernel_rfl) (Sl.ldI hrw (by kernel_rfl) ip (by (try simp only [List.length_set, List.length_append, List.length_map, List.length_replicate, List.length_cons, List.length_nil, List.length_take, List.length_drop, List.length_range]) <;> omega)), Det1_load (d := 47) (t := 3) (a := ⟨b1, 0, none⟩) (by kernel_rfl) (by kernel_rfl) (Loads.own1 ho1 (by kernel_rfl) (by rfl)), Det1_load (d := 48) (t := 30) (a := ⟨b1, 0, none⟩) (by kernel_rfl) (by kernel_rfl) (Loads.ownL ho1 (n := 3) (by kernel_rfl) (by kernel_rfl) (by kernel_rfl)), Det1_call (d := 49) (f := 41) (args := #[.pointer (some ⟨nd, 0, none⟩), .int .i64 ((ip : Nat) : Int), .agg #[.int .i64 ((ip : Nat) : Int), .int .i64 kv, .int .i64 kc]]) (by kernel_rfl) (by kernel_rfl) (by kernel_rfl) Tryz.call41 TDadac, trivial⟩
 intro w13 hs4
 replace hS := Step.trans hS hs4
 refine VL_keep [0, 4, 5, 7, 36, 44, 49] [(0, .pointer (some ⟨nd, 0, none⟩)), (4, .pointer (some ⟨b1, 0, none⟩)), (5, .pointer (some ⟨b2, 0, none⟩)), (7, .int .i64 ((i : Nat) : Int)), (36, .int .i64 (needC k)), (44, .int .i64 (rooms.getD ip 0)), (49, .int .i64 (usdL (delC (l.map Dx.x) ((ip : Nat) : Int) kv kc) ((ip : Nat) : Int)))] (by kernel_rfl) ?_
 refine VL_pure 16 [0, 4, 5, 7, 36, 50] [(0, .pointer (some ⟨nd, 0, none⟩)), (4, .pointer (some ⟨b1, 0, none⟩)), (5, .pointer (some ⟨b2, 0, none⟩)), (7, .int .i64 ((i : Nat) : Int)), (36, .int .i64 (needC k)), (50, .int .i64 (IntKind.wrap .i64 ((rooms.getD ip 0) - (usdL (delC (l.map Dx.x) ((ip : Nat) : Int) kv kc) ((ip : Nat) : Int)))))] (by kernel_rfl) rfl ?_
 refine VL_eq [(0, .pointer (some ⟨nd, 0, none⟩)), (4, .pointer (some ⟨b1, 0, none⟩)), (5, .pointer (some ⟨b2, 0, none⟩)), (7, .int .i64 ((i : Nat) : Int)), (36, .int .i64 (needC k)), (50, .int .i64 (leftN rooms (l.map Dx.x) (ip : Nat) + needC y.x.k))] (by rw [dchg_eq hli hp hy hky hfy]) ?_
 refine VL_pure 17 [0, 4, 5, 7, 51] [(0, .pointer (some ⟨nd, 0, none⟩)), (4, .pointer (some ⟨b1, 0, none⟩)), (5, .pointer (some ⟨b2, 0, none⟩)), (7, .int .i64 ((i : Nat) : Int)), (51, .bool (decide ((needC k) > (leftN rooms (l.map Dx.x) (ip : Nat) + needC y.x.k))))] (by kernel_rfl) rfl ?_
 refine VL_end (by kernel_rfl) ?_
 refine VQ_next ?_
 refine VC_is (b := decide ((needC k) > (leftN rooms (l.map Dx.x) (ip : Nat) + needC y.x.k))) true (by kernel_rfl) (decide_eq_true (by omega)) ?_
 refine VC_ite_true ?_
 refine VC_seq ?_
 refine VC_region ?_
 refine VL_pure 1 [6] [(6, .int .i64 37)] (by kernel_rfl) rfl ?_
 refine VL_end (by kernel_rfl) ?_
 refine VQ_next ?_
 refine VC_ret ?_
 refine VQ_then_ret ?_
 refine VQ_ret1 (.int .i64 37) (.inr rfl) rfl rfl ?_
 exact ⟨rfl, hS⟩

theorem dchange_yes (nd lo hi : Nat) (rooms : List Int) (l : List Dx) (rA : Option Addr) (rc : Nat) (A : Option Addr) (ca : Nat) (ip : Nat) (kv kc : Int) (w : World) (ho : Own w nd #[.slice rA rooms.length rc, .slice A l.length ca] 55) (hcn : l.length ≤ ca) (hhi : hi ≤ w.heap.size) (hv : Sl2 w lo hi A (flat dxc l)) (hnw : nd < lo ∨ hi ≤ nd) (hm : l.length ≤ 64) (rl rh : Nat) (k : Con) (hrc : rooms.length ≤ rc) (hrh : rh ≤ w.heap.size) (hrw : Sl w rh rA (iL .i64 rooms)) (hli : LI rooms (l.map Dx.x)) (hrr : rightB (ip : Nat) kv kc = true) (hc : ¬ kc < 32) (hp : ip < rooms.length) (hk : rightC k = 0) (i : Nat) (y : Dx) (hat : atD l (ip : Nat) kv kc = (i : Nat)) (hy : l[i]? = some y) (hky : keyX (ip : Nat) kv kc y.x = true) (hfy : findC (l.map Dx.x) (ip : Nat) kv kc = some y.x) (hle : ¬ needC k > leftN rooms (l.map Dx.x) (ip : Nat) + needC y.x.k) :
  CV Tryz.prog 13 #[.pointer (some ⟨nd, 0, none⟩), .agg #[.int .i64 ((ip : Nat) : Int), .int .i64 kv, .int .i64 kc], .agg #[.int .i64 k.kind, .int .i64 k.peak, .int .i64 k.early, .int .i64 k.whole, .int .i64 k.burst, .int .i64 k.least]] w (fun x w1 => x = .int .i64 0 ∧ ∃ A2 c2 pn Yn, Own w1 nd #[.slice rA rooms.length rc, .slice A2 l.length c2] 55 ∧ RwS w1 10 w.heap.size 67 A2 l.length c2 (flat dxc (l.set i (⟨⟨(ip : Nat), kv, kc, k, rulesC k⟩, pn, Yn⟩ : Dx))) ∧ DPl w1 pn Yn k (rulesC k) ∧ (∀ q, Yn q → w.heap.size ≤ q) ∧ Step (Just nd) w w1) := by
 have hS : Step (Just nd) w w := Step.refl _ _
 have hrm := hli.rm
 have hiL := (List.getElem?_eq_some_iff.1 hy).1
 refine CV_enter Tryz.f13 _ 70 [(0, .pointer (some ⟨nd, 0, none⟩)), (1, .agg #[.int .i64 ((ip : Nat) : Int), .int .i64 kv, .int .i64 kc]), (2, .agg #[.int .i64 k.kind, .int .i64 k.peak, .int .i64 k.early, .int .i64 k.whole, .int .i64 k.burst, .int .i64 k.least])] Tryz.func13 rfl rfl (by kernel_rfl) rfl ?_
 refine VC_seq ?_
 refine VC_region ?_
 have hzl1 := ho.lt
 refine VL_box (d := 4) (t := 30) (c := #[.int .i64 ((ip : Nat) : Int), .int .i64 kv, .int .i64 kc]) (by kernel_rfl) (by kernel_rfl) ?_
 intro b1 w1 hn1
 replace hS := Step.trans hS (Step.weak (hn1.step No))
 replace ho := ho.no (hn1.step No)
 replace hv := hv.step (hn1.step No) (fun k hk1 hk2 hF => hF)
 replace hhi := Nat.le_trans hhi (hn1.step No).size
 replace hrw := hrw.no (hn1.step No)
 replace hrh := Nat.le_trans hrh (hn1.step No).size
 have ho1 := hn1.own
 have hzhn1 := hn1.size
 have hqhn1 := hn1.eqb
 refine VL_box (d := 5) (t := 32) (c := #[.int .i64 k.kind, .int .i64 k.peak, .int .i64 k.early, .int .i64 k.whole, .int .i64 k.burst, .int .i64 k.least]) (by kernel_rfl) (by kernel_rfl) ?_
 intro b2 w2 hn2
 replace hS := Step.trans hS (Step.weak (hn2.step No))
 replace ho := ho.no (hn2.step No)
 replace hv := hv.step (hn2.step No) (fun k hk1 hk2 hF => hF)
 replace hhi := Nat.le_trans hhi (hn2.step No).size
 replace hrw := hrw.no (hn2.step No)
 replace hrh := Nat.le_trans hrh (hn2.step No).size
 replace ho1 := ho1.no (hn2.step No)
 have ho2 := hn2.own
 have hzhn2 := hn2.size
 have hqhn2 := hn2.eqb
 refine VL_pure 3 [0, 4, 5] [(0, .pointer (some ⟨nd, 0, none⟩)), (4, .pointer (some ⟨b1, 0, none⟩)), (5, .pointer (some ⟨b2, 0, none⟩))] (by kernel_rfl) rfl ?_
 refine VL_end (by kernel_rfl) ?_
 refine VQ_next ?_
 refine VC_seq ?_
 refine VC_seq ?_
 have hs1 := drew_step w2
 have hs1z : w2.heap.size = w2.drew.heap.size := rfl
 refine VC_text [[], [0], [0, 1], [0, 1, 2], [0, 1, 2, 3], [0, 1, 2, 3, 4], [0, 1, 2, 3, 4, 5], [0, 1, 2, 3, 4, 5, 6], [0, 1, 2, 3, 4, 5, 6, 7], [0, 1, 2, 3, 4, 5, 6, 7, 8], [0, 1, 2, 3, 4, 5, 6, 7, 8, 9], [0, 1, 2, 3, 4, 5, 6, 7, 8], [0, 1, 2, 3, 4, 5, 6, 7, 8, 11], [0, 1, 2, 3, 4, 5, 6, 7, 8, 11, 12], [0, 1, 2, 3, 4, 5, 6, 7, 8, 11, 12, 13], [0, 1, 2, 3, 4, 5, 6, 7, 8, 11, 12, 13, 14], [0, 1, 2, 3, 4, 5, 6, 7, 8, 9, 10, 11, 12, 13, 14, 15], [0, 1, 2, 3, 4, 5, 6, 7, 8, 9, 10, 11, 12, 13, 14, 15, 16]] 16 (fun x y => Step (fun k => w2.heap.size ≤ k) x y) [1] [0, 1, 2, 3, 4, 5, 6, 7, 8, 9, 10, 11, 12, 13, 14, 15] (by kernel_rfl) (by kernel_rfl) (by kernel_rfl) (by kernel_rfl) (fun x => Step.refl _ x) (fun h k => Step.trans h k) Step.weak ?_
 generalize w2.drew = w3 at hs1 hs1z ⊢
 replace hS := Step.trans hS (Step.weak hs1)
 replace ho := ho.no hs1
 replace hv := hv.step hs1 (fun k hk1 hk2 hF => hF)
 replace hhi := Nat.le_trans hhi (hs1).size
 replace hrw := hrw.no hs1
 replace hrh := Nat.le_trans hrh (hs1).size
 replace ho1 := ho1.no hs1
 replace ho2 := ho2.no hs1
 refine VT_load (d := 9) (t := 30) (a := ⟨b1, 0, none⟩) (v := .agg #[.int .i64 ((ip : Nat) : Int), .int .i64 kv, .int .i64 kc]) (by kernel_rfl) (by kernel_rfl) ?_ ?_
 ·intro w4 hr1
  replace ho1 := ho1.step hr1 (by (try simp only); omega)
  exact (Loads.ownL ho1 (n := 3) (by kernel_rfl) (by kernel_rfl) (by kernel_rfl))
 refine VT_chain (by kernel_rfl) ?_
 intro w5 hs2
 replace hS := Step.trans hS (Step.weak hs2)
 replace ho := ho.no hs2
 replace hv := hv.step hs2 (fun k hk1 hk2 hF => hF)
 replace hhi := Nat.le_trans hhi (hs2).size
 replace hrw := hrw.no hs2
 replace hrh := Nat.le_trans hrh (hs2).size
 replace ho1 := ho1.no hs2
 replace ho2 := ho2.no hs2
 refine VTc_call (d := 10) (f := 30) (args := #[.agg #[.int .i64 ((ip : Nat) : Int), .int .i64 kv, .int .i64 kc]]) (by kernel_rfl) (by kernel_rfl) (by kernel_rfl) Tryz.call30 (dkright_any ((ip : Nat) : Int) kv kc _) ?_ ?_
 ·rintro _ w6 ⟨rfl, hc1⟩
  exact Step.mono hc1 TDadaa
 rintro _ w6 ⟨rfl, hc1⟩
 replace hS := Step.trans hS (Step.weak hc1)
 replace ho := ho.no hc1
 replace hv := hv.step hc1 (fun k hk1 hk2 hF => hF)
 replace hhi := Nat.le_trans hhi (hc1).size
 replace hrw := hrw.no hc1
 replace hrh := Nat.le_trans hrh (hc1).size
 replace ho1 := ho1.no hc1
 replace ho2 := ho2.no hc1
 refine VT_pures 2 (kn' := [(3, .bool (!(rightB ((ip : Nat) : Int) kv kc))), (2, .bool (!(rightB ((ip : Nat) : Int) kv kc))), (1, .bool (rightB ((ip : Nat) : Int) kv kc)), (0, .agg #[.int .i64 ((ip : Nat) : Int), .int .i64 kv, .int .i64 kc])]) (by kernel_rfl) ?_
 have hg1 : (rightB ((ip : Nat) : Int) kv kc) = true := (by rw [hrr])
 refine VT_eq [(3, .bool false), (2, .bool false), (1, .bool true), (0, .agg #[.int .i64 ((ip : Nat) : Int), .int .i64 kv, .int .i64 kc])] TDadab ?_
 refine VT_pures 1 (kn' := [(4, .pointer (some ⟨b1, 2, none⟩)), (3, .bool false), (2, .bool false), (1, .bool true), (0, .agg #[.int .i64 ((ip : Nat) : Int), .int .i64 kv, .int .i64 kc])]) (by kernel_rfl) ?_
 refine VT_load (d := 14) (t := 3) (a := ⟨b1, 2, none⟩) (v := .int .i64 kc) (by kernel_rfl) (by kernel_rfl) ?_ ?_
 ·intro w7 hr2
  replace ho1 := ho1.step hr2 (by (try simp only); omega)
  exact (Loads.own1 ho1 (by kernel_rfl) (by rfl))
 refine VT_pures 3 (kn' := [(8, .bool (decide (kc < 32))), (7, .bool (decide (kc < 32))), (6, .bool (decide (kc < 32))), (5, .int .i64 kc), (4, .pointer (some ⟨b1, 2, none⟩)), (3, .bool false), (2, .bool false), (1, .bool true), (0, .agg #[.int .i64 ((ip : Nat) : Int), .int .i64 kv, .int .i64 kc])]) (by kernel_rfl) ?_
 have hg2 : (decide (kc < 32)) = false := (decide_eq_false (by omega))
 refine VT_eq [(8, .bool false), (7, .bool false), (6, .bool false), (5, .int .i64 kc), (4, .pointer (some ⟨b1, 2, none⟩)), (3, .bool false), (2, .bool false), (1, .bool true), (0, .agg #[.int .i64 ((ip : Nat) : Int), .int .i64 kv, .int .i64 kc])] TDadad ?_
 refine VT_pures 1 (kn' := [(9, .pointer (some ⟨b1, 0, none⟩)), (8, .bool false), (7, .bool false), (6, .bool false), (5, .int .i64 kc), (4, .pointer (some ⟨b1, 2, none⟩)), (3, .bool false), (2, .bool false), (1, .bool true), (0, .agg #[.int .i64 ((ip : Nat) : Int), .int .i64 kv, .int .i64 kc])]) (by kernel_rfl) ?_
 refine VT_load (d := 19) (t := 3) (a := ⟨b1, 0, none⟩) (v := .int .i64 ((ip : Nat) : Int)) (by kernel_rfl) (by kernel_rfl) ?_ ?_
 ·intro w8 hr3
  replace ho1 := ho1.step hr3 (by (try simp only); omega)
  exact (Loads.own1 ho1 (by kernel_rfl) (by rfl))
 refine VT_pures 3 (kn' := [(13, .pointer (some ⟨nd, 0, none⟩)), (12, .pointer (some ⟨nd, 0, none⟩)), (11, .pointer (some ⟨nd, 0, none⟩)), (10, .int .i64 ((ip : Nat) : Int)), (9, .pointer (some ⟨b1, 0, none⟩)), (8, .bool false), (7, .bool false), (6, .bool false), (5, .int .i64 kc), (4, .pointer (some ⟨b1, 2, none⟩)), (3, .bool false), (2, .bool false), (1, .bool true), (0, .agg #[.int .i64 ((ip : Nat) : Int), .int .i64 kv, .int .i64 kc])]) (by kernel_rfl) ?_
 refine VT_load (d := 23) (t := 22) (a := ⟨nd, 0, none⟩) (v := .slice rA rooms.length rc) (by kernel_rfl) (by kernel_rfl) ?_ ?_
 ·intro w9 hr4
  replace ho := ho.step hr4 (by (try simp only); omega)
  exact (Loads.own1 ho (by kernel_rfl) (by rfl))
 refine VT_pures 1 (kn' := [(15, .int .i64 ((rooms.length : Nat) : Int)), (14, .slice rA rooms.length rc), (13, .pointer (some ⟨nd, 0, none⟩)), (12, .pointer (some ⟨nd, 0, none⟩)), (11, .pointer (some ⟨nd, 0, none⟩)), (10, .int .i64 ((ip : Nat) : Int)), (9, .pointer (some ⟨b1, 0, none⟩)), (8, .bool false), (7, .bool false), (6, .bool false), (5, .int .i64 kc), (4, .pointer (some ⟨b1, 2, none⟩)), (3, .bool false), (2, .bool false), (1, .bool true), (0, .agg #[.int .i64 ((ip : Nat) : Int), .int .i64 kv, .int .i64 kc])]) (by kernel_rfl) ?_
 refine VT_end ?_
 intro w10 hs3
 replace hS := Step.trans hS (Step.weak hs3)
 replace ho := ho.no hs3
 replace hv := hv.step hs3 (fun k hk1 hk2 hF => hF)
 replace hhi := Nat.le_trans hhi (hs3).size
 replace hrw := hrw.no hs3
 replace hrh := Nat.le_trans hrh (hs3).size
 replace ho1 := ho1.no hs3
 replace ho2 := ho2.no hs3
 refine VL_keep [0, 4, 5, 17, 19, 24] [(0, .pointer (some ⟨nd, 0, none⟩)), (4, .pointer (some ⟨b1, 0, none⟩)), (5, .pointer (some ⟨b2, 0, none⟩)), (17, .bool false), (19, .int .i64 ((ip : Nat) : Int)), (24, .int .i64 ((rooms.length : Nat) : Int))] (by kernel_rfl) ?_
 refine VL_pure 18 [0, 4, 5, 26] [(0, .pointer (some ⟨nd, 0, none⟩)), (4, .pointer (some ⟨b1, 0, none⟩)), (5, .pointer (some ⟨b2, 0, none⟩)), (26, .bool (decide (((ip : Nat) : Int) ≥ ((rooms.length : Nat) : Int))))] (by kernel_rfl) rfl ?_
 refine VL_end (by kernel_rfl) ?_
 refine VQ_next ?_
 refine VC_is (b := decide (((ip : Nat) : Int) ≥ ((rooms.length : Nat) : Int))) false (by kernel_rfl) (decide_eq_false (by omega)) ?_
 refine VC_ite_false ?_
 refine VC_skip ?_
 refine VQ_next ?_
 refine VC_seq ?_
 refine VC_seq ?_
 refine VC_region ?_
 refine VL_load (d := 27) (t := 32) (a := ⟨b2, 0, none⟩) (v := .agg #[.int .i64 k.kind, .int .i64 k.peak, .int .i64 k.early, .int .i64 k.whole, .int .i64 k.burst, .int .i64 k.least]) (by kernel_rfl) (by kernel_rfl) (Loads.ownL ho2 (n := 6) (by kernel_rfl) (by kernel_rfl) (by kernel_rfl)) ?_
 refine VL_call (d := 28) (f := 31) (args := #[.agg #[.int .i64 k.kind, .int .i64 k.peak, .int .i64 k.early, .int .i64 k.whole, .int .i64 k.burst, .int .i64 k.least]]) (by kernel_rfl) (by kernel_rfl) (by kernel_rfl) Tryz.call31 ((dright_any k _).mono (fun x w1 h9 => ⟨h9.1.trans (by rw [hk]), h9.2⟩ : ∀ x w1, _ → x = .int .i64 0 ∧ Step No _ w1)) ?_
 rintro _ w11 ⟨rfl, hc2⟩
 replace hS := Step.trans hS (Step.weak hc2)
 replace ho := ho.no hc2
 replace hv := hv.step hc2 (fun k hk1 hk2 hF => hF)
 replace hhi := Nat.le_trans hhi (hc2).size
 replace hrw := hrw.no hc2
 replace hrh := Nat.le_trans hrh (hc2).size
 replace ho1 := ho1.no hc2
 replace ho2 := ho2.no hc2
 refine VL_pure 3 [0, 4, 5, 29] [(0, .pointer (some ⟨nd, 0, none⟩)), (4, .pointer (some ⟨b1, 0, none⟩)), (5, .pointer (some ⟨b2, 0, none⟩)), (29, .bool false)] (by kernel_rfl) rfl ?_
 refine VL_end (by kernel_rfl) ?_
 refine VQ_next ?_
 refine VC_false (by kernel_rfl) ?_
 refine VC_skip ?_
 refine VQ_next ?_
 refine VC_seq ?_
 refine VC_region ?_
 refine VL_pure 1 [0, 4, 5, 30] [(0, .pointer (some ⟨nd, 0, none⟩)), (4, .pointer (some ⟨b1, 0, none⟩)), (5, .pointer (some ⟨b2, 0, none⟩)), (30, .pointer (some ⟨nd, 0, none⟩))] (by kernel_rfl) rfl ?_
 refine VL_load (d := 31) (t := 30) (a := ⟨b1, 0, none⟩) (v := .agg #[.int .i64 ((ip : Nat) : Int), .int .i64 kv, .int .i64 kc]) (by kernel_rfl) (by kernel_rfl) (Loads.ownL ho1 (n := 3) (by kernel_rfl) (by kernel_rfl) (by kernel_rfl)) ?_
 refine VL_call (d := 32) (f := 32) (args := #[.pointer (some ⟨nd, 0, none⟩), .agg #[.int .i64 ((ip : Nat) : Int), .int .i64 kv, .int .i64 kc]]) (by kernel_rfl) (by kernel_rfl) (by kernel_rfl) Tryz.call32 ((dat_any _ _ _ _ _ _ _ _ _ (ip : Nat) kv kc _ ho hcn hhi hv hm).mono (fun x w1 h9 => by rw [hat] at h9; exact h9)) ?_
 rintro _ w12 ⟨rfl, hc3⟩
 replace hS := Step.trans hS (Step.weak hc3)
 replace ho := ho.no hc3
 replace hv := hv.step hc3 (fun k hk1 hk2 hF => hF)
 replace hhi := Nat.le_trans hhi (hc3).size
 replace hrw := hrw.no hc3
 replace hrh := Nat.le_trans hrh (hc3).size
 replace ho1 := ho1.no hc3
 replace ho2 := ho2.no hc3
 refine VL_pure 4 [0, 4, 5, 7] [(0, .pointer (some ⟨nd, 0, none⟩)), (4, .pointer (some ⟨b1, 0, none⟩)), (5, .pointer (some ⟨b2, 0, none⟩)), (7, .int .i64 ((i : Nat) : Int))] (by kernel_rfl) rfl ?_
 refine VL_end (by kernel_rfl) ?_
 refine VQ_next ?_
 refine VC_seq ?_
 refine VC_seq ?_
 refine VC_region ?_
 refine VL_pure 2 [0, 4, 5, 7, 34] [(0, .pointer (some ⟨nd, 0, none⟩)), (4, .pointer (some ⟨b1, 0, none⟩)), (5, .pointer (some ⟨b2, 0, none⟩)), (7, .int .i64 ((i : Nat) : Int)), (34, .bool (decide (((i : Nat) : Int) < 0)))] (by kernel_rfl) rfl ?_
 refine VL_end (by kernel_rfl) ?_
 refine VQ_next ?_
 refine VC_is (b := decide (((i : Nat) : Int) < 0)) false (by kernel_rfl) (decide_eq_false (by omega)) ?_
 refine VC_ite_false ?_
 refine VC_skip ?_
 refine VQ_next ?_
 refine VC_seq ?_
 refine VC_seq ?_
 obtain ⟨sb1, so1, rfl, hlbsb1⟩ := hrw.open (by rw [iL_length]; omega)
 refine VC_det [[], [0], [], [2], [2, 3], [2, 3, 4], [], [6], [2, 3, 4, 5, 6, 7], [2, 3, 4, 5, 6, 7, 8], [], [], [11], [], [0, 1, 10, 11, 12, 13], [0, 1, 2, 3, 4, 5, 6, 7, 8, 9, 10, 11, 12, 13, 14], [0, 1, 2, 3, 4, 5, 6, 7, 8, 9, 10, 11, 12, 13, 14, 15]] 15 [.agg #[.int .i64 k.kind, .int .i64 k.peak, .int .i64 k.early, .int .i64 k.whole, .int .i64 k.burst, .int .i64 k.least], .int .i64 (needC k), .pointer (some ⟨nd, 0, none⟩), .pointer (some ⟨nd, 0, none⟩), .pointer (some ⟨nd, 0, none⟩), .slice (some ⟨sb1, so1, none⟩) rooms.length rc, .pointer (some ⟨b1, 0, none⟩), .int .i64 ((ip : Nat) : Int), .pointer (some ⟨sb1, so1 + ip, none⟩), .int .i64 (rooms.getD ip 0), .pointer (some ⟨nd, 0, none⟩), .pointer (some ⟨b1, 0, none⟩), .int .i64 ((ip : Nat) : Int), .agg #[.int .i64 ((ip : Nat) : Int), .int .i64 kv, .int .i64 kc], .int .i64 (usdL (delC (l.map Dx.x) ((ip : Nat) : Int) kv kc) ((ip : Nat) : Int))] [2, 3, 4, 6, 10, 11] [0, 1, 5, 7, 8, 9, 12, 13, 14] (by kernel_rfl) (by kernel_rfl) (by kernel_rfl) (by kernel_rfl) ?_ ?_
 ·intro w13 hs4
  replace ho := ho.no hs4
  replace hv := hv.step hs4 (fun k hk1 hk2 hF => hF)
  replace hhi := Nat.le_trans hhi (hs4).size
  replace hrw := hrw.no hs4
  replace hrh := Nat.le_trans hrh (hs4).size
  replace ho1 := ho1.no hs4
  replace ho2 := ho2.no hs4
  exact ⟨Det1_load (d := 35) (t := 32) (a := ⟨b2, 0, none⟩) (by kernel_rfl) (by kernel_rfl) (Loads.ownL ho2 (n := 6) (by kernel_rfl) (by kernel_rfl) (by kernel_rfl)), Det1_call (d := 36) (f := 33) (args := #[.agg #[.int .i64 k.kind, .int .i64 k.peak, .int .i64 k.early, .int .i64 k.whole, .int .i64 k.burst, .int .i64 k.least]]) (by kernel_rfl) (by kernel_rfl) (by kernel_rfl) Tryz.call33 (by exact dneed_any k _), Det1_load (d := 40) (t := 22) (a := ⟨nd, 0, none⟩) (by kernel_rfl) (by kernel_rfl) (Loads.own1 ho (by kernel_rfl) (by rfl)), Det1_load (d := 42) (t := 3) (a := ⟨b1, 0, none⟩) (by kernel_rfl) (by kernel_rfl) (Loads.own1 ho1 (by kernel_rfl) (by rfl)), Det1_index (d := 43) (b := sb1) (o := so1) (len := rooms.length) (sz := 1) (m := ((ip : Nat) : Int)) (by kernel_rfl) (by kernel_rfl) ip (by rfl) (by omega) (so1 + ip) (by omega), Det1_load (d := 44) (t := 3) (a := ⟨sb1, so1 + ip, none⟩) (by kernel_rfl) (by kernel_rfl) (Sl.ldI hrw (by kernel_rfl) ip (by (try simp only [List.length_set, List.length_append, List.length_map, List.length_replicate, List.length_cons, List.length_nil, List.length_take, List.length_drop, List.length_range]) <;> omega)), Det1_load (d := 47) (t := 3) (a := ⟨b1, 0, none⟩) (by kernel_rfl) (by kernel_rfl) (Loads.own1 ho1 (by kernel_rfl) (by rfl)), Det1_load (d := 48) (t := 30) (a := ⟨b1, 0, none⟩) (by kernel_rfl) (by kernel_rfl) (Loads.ownL ho1 (n := 3) (by kernel_rfl) (by kernel_rfl) (by kernel_rfl)), Det1_call (d := 49) (f := 41) (args := #[.pointer (some ⟨nd, 0, none⟩), .int .i64 ((ip : Nat) : Int), .agg #[.int .i64 ((ip : Nat) : Int), .int .i64 kv, .int .i64 kc]]) (by kernel_rfl) (by kernel_rfl) (by kernel_rfl) Tryz.call41 TDadac, trivial⟩
 intro w13 hs4
 replace hS := Step.trans hS (Step.weak hs4)
 replace ho := ho.no hs4
 replace hv := hv.step hs4 (fun k hk1 hk2 hF => hF)
 replace hhi := Nat.le_trans hhi (hs4).size
 replace ho1 := ho1.no hs4
 replace ho2 := ho2.no hs4
 refine VL_keep [0, 4, 5, 7, 36, 44, 49] [(0, .pointer (some ⟨nd, 0, none⟩)), (4, .pointer (some ⟨b1, 0, none⟩)), (5, .pointer (some ⟨b2, 0, none⟩)), (7, .int .i64 ((i : Nat) : Int)), (36, .int .i64 (needC k)), (44, .int .i64 (rooms.getD ip 0)), (49, .int .i64 (usdL (delC (l.map Dx.x) ((ip : Nat) : Int) kv kc) ((ip : Nat) : Int)))] (by kernel_rfl) ?_
 refine VL_pure 16 [0, 4, 5, 7, 36, 50] [(0, .pointer (some ⟨nd, 0, none⟩)), (4, .pointer (some ⟨b1, 0, none⟩)), (5, .pointer (some ⟨b2, 0, none⟩)), (7, .int .i64 ((i : Nat) : Int)), (36, .int .i64 (needC k)), (50, .int .i64 (IntKind.wrap .i64 ((rooms.getD ip 0) - (usdL (delC (l.map Dx.x) ((ip : Nat) : Int) kv kc) ((ip : Nat) : Int)))))] (by kernel_rfl) rfl ?_
 refine VL_eq [(0, .pointer (some ⟨nd, 0, none⟩)), (4, .pointer (some ⟨b1, 0, none⟩)), (5, .pointer (some ⟨b2, 0, none⟩)), (7, .int .i64 ((i : Nat) : Int)), (36, .int .i64 (needC k)), (50, .int .i64 (leftN rooms (l.map Dx.x) (ip : Nat) + needC y.x.k))] (by rw [dchg_eq hli hp hy hky hfy]) ?_
 refine VL_pure 17 [0, 4, 5, 7, 51] [(0, .pointer (some ⟨nd, 0, none⟩)), (4, .pointer (some ⟨b1, 0, none⟩)), (5, .pointer (some ⟨b2, 0, none⟩)), (7, .int .i64 ((i : Nat) : Int)), (51, .bool (decide ((needC k) > (leftN rooms (l.map Dx.x) (ip : Nat) + needC y.x.k))))] (by kernel_rfl) rfl ?_
 refine VL_end (by kernel_rfl) ?_
 refine VQ_next ?_
 refine VC_is (b := decide ((needC k) > (leftN rooms (l.map Dx.x) (ip : Nat) + needC y.x.k))) false (by kernel_rfl) (decide_eq_false (by omega)) ?_
 refine VC_ite_false ?_
 refine VC_skip ?_
 refine VQ_next ?_
 refine VC_seq ?_
 refine VC_region ?_
 have hzl16 := ho.lt
 have hzl18 := ho2.lt
 refine VL_bs (d := 52) (e := 67) (c := #[]) (len := 0) (by kernel_rfl) (by kernel_rfl) ?_
 intro b3 w14 hn3
 replace hS := Step.trans hS (Step.weak (hn3.step No))
 replace ho := ho.no (hn3.step No)
 replace hv := hv.step (hn3.step No) (fun k hk1 hk2 hF => hF)
 replace hhi := Nat.le_trans hhi (hn3.step No).size
 replace ho1 := ho1.no (hn3.step No)
 replace ho2 := ho2.no (hn3.step No)
 have ho3 := hn3.own
 have hzhn3 := hn3.size
 have hqhn3 := hn3.eqb
 refine VL_pure 4 [0, 4, 5, 7, 52, 55] [(0, .pointer (some ⟨nd, 0, none⟩)), (4, .pointer (some ⟨b1, 0, none⟩)), (5, .pointer (some ⟨b2, 0, none⟩)), (7, .int .i64 ((i : Nat) : Int)), (52, .slice (some ⟨b3, 0, none⟩) 0 0), (55, .pointer (some ⟨nd, 1, none⟩))] (by kernel_rfl) rfl ?_
 refine VL_load (d := 56) (t := 53) (a := ⟨nd, 1, none⟩) (v := .slice A l.length ca) (by kernel_rfl) (by kernel_rfl) (Loads.own1 ho (by kernel_rfl) (by rfl)) ?_
 have hzk7 := hhi
 have hbase1 := Nat.le_of_lt ho3.lt
 have hrowhbase1 := RwS.of_new (n := 0) (sz := 10) (base := b3) ho3 (Nat.le_refl _) (by simp [maxLen]) (by rfl)
 refine VL_appendZ (d := 57) (e := 67) (A := (some ⟨b3, 0, none⟩)) (m := 0) (c := 0) (A2 := A) (m2 := l.length) (c2 := ca) (sz := 10) (bytes := 80) (by kernel_rfl) (by kernel_rfl) (by kernel_rfl) b3 w14.heap.size (flat dxc ([])) (flat dxc l) hrowhbase1 (by rw [flat_len dxc_len, show l.length = l.length from rfl]) (Sl.mono (Sl2.sl hv) (by first | exact Nat.le_refl _ | omega)) (flat_one' dxc_one _) l.length (by omega) (by simp only [maxLen]; omega) (by omega) (by omega) ?_
 intro A1 c1 w15 hr5 hg3
 replace hr5 : RwS w15 10 b3 67 A1 l.length c1 (flat dxc (l)) := RwS.cast hr5 rfl (by simp only [flat_append, flat_one, List.append_assoc, List.nil_append, List.append_nil, show flat dxc [] = [] from rfl])
 replace hg3 := Step.mono (G := fun k => k = b3) hg3 (fun i hi => by obtain ⟨a9, ha9, hi9⟩ := hi; cases ha9; exact hi9.symm)
 have hzhg3 := hg3.size
 replace hS := Step.transNew hS hg3 (fun i hi hG => by (try simp only at hG); (first | show _ ∨ _ | show _ = _); omega)
 replace ho := ho.step hg3 (by (try simp only); omega)
 replace ho1 := ho1.step hg3 (by (try simp only); omega)
 replace ho2 := ho2.step hg3 (by (try simp only); omega)
 have hlhr5 : (l).length = l.length := by have hq9 := RwS.len hr5; rw [flat_len dxc_len] at hq9 <;> omega
 refine VL_pure 7 [0, 4, 5, 7, 8] [(0, .pointer (some ⟨nd, 0, none⟩)), (4, .pointer (some ⟨b1, 0, none⟩)), (5, .pointer (some ⟨b2, 0, none⟩)), (7, .int .i64 ((i : Nat) : Int)), (8, .slice A1 l.length c1)] (by kernel_rfl) rfl ?_
 refine VL_end (by kernel_rfl) ?_
 refine VQ_next ?_
 refine VC_seq ?_
 obtain ⟨g1, cur1, rfl, hgbg1, hglg1, -⟩ := RwS.open hr5 (by omega)
 have hs5 := drew_step w15
 have hs5z : w15.heap.size = w15.drew.heap.size := rfl
 refine VC_text [[], [], [], [], [], [4], [2, 3, 4, 5], [0, 1, 2, 3, 4, 5, 6], [0, 1, 2, 3, 4, 5, 6, 7]] 7 (fun x y => Step (fun k => w15.heap.size ≤ k) x y) [5] [0, 1, 2, 3, 4, 5, 6] (by kernel_rfl) (by kernel_rfl) (by kernel_rfl) (by kernel_rfl) (fun x => Step.refl _ x) (fun h k => Step.trans h k) Step.weak ?_
 have hzl25 := ho2.lt
 have hzo6 := hglg1
 generalize w15.drew = w16 at hs5 hs5z ⊢
 replace hS := Step.trans hS (Step.weak hs5)
 replace ho := ho.no hs5
 replace ho1 := ho1.no hs5
 replace ho2 := ho2.no hs5
 replace hr5 := hr5.no hs5
 refine VT_pures 2 (kn' := [(1, .int .i64 ((i : Nat) : Int)), (0, .slice (some ⟨g1, 0, none⟩) l.length c1)]) (by kernel_rfl) ?_
 refine VT_load (d := 60) (t := 30) (a := ⟨b1, 0, none⟩) (v := .agg #[.int .i64 ((ip : Nat) : Int), .int .i64 kv, .int .i64 kc]) (by kernel_rfl) (by kernel_rfl) ?_ ?_
 ·intro w17 hr6
  replace ho1 := ho1.step hr6 (by (try simp only); omega)
  exact (Loads.ownL ho1 (n := 3) (by kernel_rfl) (by kernel_rfl) (by kernel_rfl))
 refine VT_load (d := 61) (t := 32) (a := ⟨b2, 0, none⟩) (v := .agg #[.int .i64 k.kind, .int .i64 k.peak, .int .i64 k.early, .int .i64 k.whole, .int .i64 k.burst, .int .i64 k.least]) (by kernel_rfl) (by kernel_rfl) ?_ ?_
 ·intro w18 hr7
  replace ho2 := ho2.step hr7 (by (try simp only); omega)
  exact (Loads.ownL ho2 (n := 6) (by kernel_rfl) (by kernel_rfl) (by kernel_rfl))
 refine VT_load (d := 62) (t := 32) (a := ⟨b2, 0, none⟩) (v := .agg #[.int .i64 k.kind, .int .i64 k.peak, .int .i64 k.early, .int .i64 k.whole, .int .i64 k.burst, .int .i64 k.least]) (by kernel_rfl) (by kernel_rfl) ?_ ?_
 ·intro w19 hr8
  replace ho2 := ho2.step hr8 (by (try simp only); omega)
  exact (Loads.ownL ho2 (n := 6) (by kernel_rfl) (by kernel_rfl) (by kernel_rfl))
 refine VT_chain (by kernel_rfl) ?_
 intro w20 hs6
 have hzhs6 := hs6.size
 replace hS := Step.trans hS (Step.weak hs6)
 replace ho := ho.no hs6
 replace hr5 := hr5.no hs6
 have hzl26 := ho.lt
 refine VTc_call (d := 63) (f := 39) (args := #[.agg #[.int .i64 k.kind, .int .i64 k.peak, .int .i64 k.early, .int .i64 k.whole, .int .i64 k.burst, .int .i64 k.least]]) (by kernel_rfl) (by kernel_rfl) (by kernel_rfl) Tryz.call39 (dpnew_any k hk _) ?_ ?_
 ·rintro _ w21 ⟨pn, Yn, rfl, hYn, hPn, hc4⟩
  exact Step.mono hc4 TDadaa
 rintro _ w21 ⟨pn, Yn, rfl, hYn, hPn, hc4⟩
 replace hS := Step.trans hS (Step.weak hc4)
 replace ho := ho.no hc4
 replace hr5 := hr5.no hc4
 refine VT_pures 1 (kn' := [(6, .agg #[.int .i64 ((ip : Nat) : Int), .int .i64 kv, .int .i64 kc, .int .i64 k.kind, .int .i64 k.peak, .int .i64 k.early, .int .i64 k.whole, .int .i64 k.burst, .int .i64 k.least, .pointer (some ⟨pn, 0, none⟩)]), (5, .pointer (some ⟨pn, 0, none⟩)), (4, .agg #[.int .i64 k.kind, .int .i64 k.peak, .int .i64 k.early, .int .i64 k.whole, .int .i64 k.burst, .int .i64 k.least]), (3, .agg #[.int .i64 k.kind, .int .i64 k.peak, .int .i64 k.early, .int .i64 k.whole, .int .i64 k.burst, .int .i64 k.least]), (2, .agg #[.int .i64 ((ip : Nat) : Int), .int .i64 kv, .int .i64 kc]), (1, .int .i64 ((i : Nat) : Int)), (0, .slice (some ⟨g1, 0, none⟩) l.length c1)]) (by kernel_rfl) ?_
 refine VT_end ?_
 intro w22 hs7
 replace hS := Step.trans hS (Step.weak hs7)
 replace ho := ho.no hs7
 replace hr5 := hr5.no hs7
 replace hPn := DPl.no hPn hs7
 refine VL_keep [0, 8, 58, 59, 64] [(0, .pointer (some ⟨nd, 0, none⟩)), (8, .slice (some ⟨g1, 0, none⟩) l.length c1), (58, .slice (some ⟨g1, 0, none⟩) l.length c1), (59, .int .i64 ((i : Nat) : Int)), (64, .agg #[.int .i64 ((ip : Nat) : Int), .int .i64 kv, .int .i64 kc, .int .i64 k.kind, .int .i64 k.peak, .int .i64 k.early, .int .i64 k.whole, .int .i64 k.burst, .int .i64 k.least, .pointer (some ⟨pn, 0, none⟩)])] (by kernel_rfl) ?_
 refine VL_index (d := 65) (b := g1) (o := 0) (len := l.length) (sz := 10) (m := ((i : Nat) : Int)) (by kernel_rfl) (by kernel_rfl) i (by rfl) (by omega) (i * 10) (by omega) ?_
 obtain ⟨cur2, hgbcur2, hglcur2, howcur2, hcscur2, hcncur2, hcmcur2, hctcur2⟩ := RwS.openG hr5
 refine VL_store (b := g1) (o := (i * 10)) (vs := [.int .i64 ((ip : Nat) : Int), .int .i64 kv, .int .i64 kc, .int .i64 k.kind, .int .i64 k.peak, .int .i64 k.early, .int .i64 k.whole, .int .i64 k.burst, .int .i64 k.least, .pointer (some ⟨pn, 0, none⟩)]) (by kernel_rfl) (by kernel_rfl) howcur2 (by simp only [List.length_cons, List.length_nil]; omega) ?_
 intro w23 hw1
 replace hS := Step.transNew hS hw1.step (fun _ _ _ => by omega)
 replace ho := ho.step hw1.step (show ¬ nd = g1 by omega)
 replace hPn := DPl.step hPn hw1.step (fun q9 hq9 hF9 => by have h8 := hYn q9 hq9; have h7 : q9 = g1 := hF9; omega)
 have ho4 := RwS.putF (y := (⟨⟨((ip : Nat) : Int), kv, kc, k, rulesC k⟩, pn, Yn⟩ : Dx)) dxc_len (by decide) hctcur2 hlhr5 hw1 hgbcur2 hcscur2 hcncur2 hcmcur2 (j := i) (by omega)
 refine VL_end (by kernel_rfl) ?_
 refine VQ_next ?_
 refine VC_seq ?_
 refine VC_region ?_
 refine VL_pure 4 [67, 69] [(67, .slice (some ⟨g1, 0, none⟩) l.length c1), (69, .pointer (some ⟨nd, 1, none⟩))] (by kernel_rfl) rfl ?_
 refine VL_store (b := nd) (o := 1) (vs := [.slice (some ⟨g1, 0, none⟩) l.length c1]) (by kernel_rfl) (by kernel_rfl) ho (Nat.le_of_ble_eq_true (by kernel_rfl)) ?_
 intro w24 hw2
 replace hS := Step.trans hS (Step.mono hw2.step (by intro i hi; first | exact hi | exact ⟨_, by assumption, hi⟩ | (have hi9 : i = nd := hi; (first | show _ ∨ _ | show _ = _); omega)))
 replace hPn := DPl.step hPn hw2.step (fun q9 hq9 hF9 => by have h8 := hYn q9 hq9; have h7 : q9 = nd := hF9; omega)
 replace ho4 := ho4.keepG hw2.step (show ¬ g1 = nd by omega)
 have ho5 : Own w24 nd #[.slice (some ⟨sb1, so1, none⟩) rooms.length rc, .slice (some ⟨g1, 0, none⟩) l.length c1] 55 := Own.cast hw2.own (by kernel_rfl)
 refine VL_end (by kernel_rfl) ?_
 refine VQ_next ?_
 refine VC_seq ?_
 refine VC_region ?_
 refine VL_pure 1 [6] [(6, .int .i64 0)] (by kernel_rfl) rfl ?_
 refine VL_end (by kernel_rfl) ?_
 refine VQ_next ?_
 refine VC_ret ?_
 refine VQ_ret1 (.int .i64 0) (.inr rfl) rfl rfl ?_
 obtain ⟨A9, c9, q1, q2⟩ := dmut_fin (m := l.length) (ys := flat dxc (l.set i (⟨⟨(ip : Nat), kv, kc, k, rulesC k⟩, pn, Yn⟩ : Dx))) (base2 := w.heap.size) ho5 ho4 (by omega) (by first | rfl | (rw [List.take_of_length_le (by omega)]; rfl) | simp) (by omega)
 exact ⟨rfl, A9, c9, pn, Yn, q1, q2, hPn, (fun q hq => by have h9 := hYn q hq; omega), hS⟩

end Go.Proofs.YthchmlidobgkoaaGreat
end

section
/- Layer 20, the document's node: none is there. -/
set_option linter.unusedVariables false
set_option linter.unusedSimpArgs false
set_option maxRecDepth 100000
set_option maxHeartbeats 4000000
namespace Go.Proofs.YthchmlidobgkoaaGreat
open Go.Vc Go.RowKit

theorem rooms_succ {rs : List Int} {i : Nat} (hi : i < rs.length) : (rs.take (i + 1)).map rmC = (rs.take i).map rmC ++ [rmC (rs.getD i 0)] := by
  rw [List.take_add_one, List.map_append]
  simp [List.getElem?_eq_getElem hi]
theorem dnnew_any (A : Option Addr) (m c Bd : Nat) (rs : List Int) (w : World) (hn : rs.length = m) (hA : Sl w Bd A (iL .i64 rs)) (hB : Bd ≤ w.heap.size) (hnc : m ≤ c) (hmx : m ≤ maxLen) :
  CV Tryz.prog 7 #[.slice A m c] w (fun x w1 => ∃ nd rA rc base, x = Pt nd 0 ∧ w.heap.size ≤ nd ∧ Own w1 nd #[.slice rA (roomsN rs).length rc, .slice none 0 0] 55 ∧ w.heap.size ≤ base ∧ Rw w1 base 3 rA (roomsN rs).length rc (iL .i64 (roomsN rs)) ∧ Step No w w1) := by
 have hS : Step No w w := Step.refl _ _
 refine VCe Tryz.func7 (Vrp (Vs (Vr (Vp 1 ?_))))
 have hzk1 := hB
 refine Vx 1 55 #[.slice none 0 0, .slice none 0 0] ?_
 intro b1 w1 hn1
 replace hS := Step.trans hS (hn1.step No)
 replace hA := hA.no (hn1.step No)
 replace hB := Nat.le_trans hB (hn1.step No).size
 have ho1 := hn1.own
 have hzhn1 := hn1.size
 have hqhn1 := hn1.eqb
 refine Ve (Vn (Vs (Vrp (VC_block ?_))))
 obtain ⟨base1, hbE⟩ : ∃ x, x = w1.heap.size := ⟨_, rfl⟩
 have hbl : base1 ≤ w1.heap.size := Nat.le_of_eq hbE
 have hrn := RwS.nil w1 1 base1 3
 refine VC_loop (σ := Nat × (Option Addr) × Nat) (fun σs => [(0, .slice A m c), (3, Pt b1 0), (4, I6 ((σs.1 : Nat) : Int))]) (fun σs w2 => (σs.1 ≤ min m 8) ∧ (Step No w w2) ∧ (Sl w2 Bd A (iL .i64 rs)) ∧ (Bd ≤ w2.heap.size) ∧ (base1 ≤ w2.heap.size) ∧ (Own w2 b1 #[.slice σs.2.1 σs.1 σs.2.2, .slice none 0 0] 55) ∧ (Rw w2 base1 3 σs.2.1 σs.1 σs.2.2 (iL .i64 ((rs.take σs.1).map rmC)))) (fun σs w2 => min m 8 - σs.1) ⟨0, none, 0⟩ Su ?_ ?_
 ·exact ⟨Nat.zero_le _, hS, hA, hB, hbl, (Own.cast ho1 (by rfl)), hrn⟩
 rintro ⟨i, Ar, cr⟩ w2 ⟨hi, hS, hA, hB, hbl, ho2, hrr⟩
 try dsimp only at hi hS hA hB hbl ho2 hrr ⊢
 refine Vs (Vs (Vr (VL_pure 5 [0, 3, 4, 11] [(0, .slice A m c), (3, Pt b1 0), (4, I6 ((i : Nat) : Int)), (11, Bo (decide (((i : Nat) : Int) < ((m : Nat) : Int))))] (by kernel_rfl) rfl (VL_dec (((i : Nat) : Int) < ((m : Nat) : Int)) (fun bV => [(0, .slice A m c), (3, Pt b1 0), (4, I6 ((i : Nat) : Int)), (11, Bo bV)]) rfl (fun hg1 => ?_) (fun hg1 => ?_)))))
 ·refine Ve (Vn (Vid (((i : Nat) : Int) < 8) (fun h1 => ?_) (fun h1 => ?_)))
  ·refine VC_skip (Vn (Vs (VC_block ?_)))
   obtain ⟨sb1, so1, rfl, hlbsb1⟩ := hA.open (by rw [iL_length]; omega)
   have hs1 := drew_step w2
   have hs1z : w2.heap.size = w2.drew.heap.size := rfl
   refine Tx 13 (fun k => base1 ≤ k ∨ w2.heap.size ≤ k) [11, 12] [0, 1, 2, 3, 4, 5, 6, 7, 8, 9, 10, 11, 12] ?_
   have hzl1 := ho2.lt
   generalize w2.drew = w3 at hs1 hs1z ⊢
   replace hS := Step.trans hS hs1
   replace hA := hA.no hs1
   replace hB := Nat.le_trans hB (hs1).size
   replace hbl := Nat.le_trans hbl (hs1).size
   replace ho2 := ho2.no hs1
   replace hrr := hrr.no hs1
   refine Tp 4 (Tl (fun w4 hr1 => ho2.step hr1 (by (try simp only); omega)) (Tp 2 (VT_index (d := 24) (b := sb1) (o := so1) (len := m) (sz := 1) (mm := ((i : Nat) : Int)) (by kernel_rfl) (by kernel_rfl) i (by rfl) (by omega) (so1 + i) (by omega) (VT_load (d := 25) (t := 3) (a := ⟨sb1, so1 + i, none⟩) (v := I6 (rs.getD i 0)) (by kernel_rfl) (by kernel_rfl) ?_ ?_))))
   ·intro w5 hr2
    replace hA := hA.keepB hr2 (by (try simp only); omega)
    exact (Sl.ldI hA (by kernel_rfl) i (by (try simp only [List.length_set, List.length_append, List.length_map, List.length_replicate, List.length_cons, List.length_nil, List.length_take, List.length_drop, List.length_range]) <;> omega))
   refine Tp 2 (Th ?_)
   intro w6 hs2
   replace hS := Step.trans hS hs2
   replace hA := hA.no hs2
   replace hB := Nat.le_trans hB (hs2).size
   replace hbl := Nat.le_trans hbl (hs2).size
   replace ho2 := ho2.no hs2
   replace hrr := hrr.no hs2
   refine VTc_bs (d := 28) (e := 3) (c := #[I6 (imax 0 (imin (rs.getD i 0) 1152921504606846976))]) (len := 1) (by kernel_rfl) (by kernel_rfl) (fun b w1 hn => hn.step _) ?_
   intro b2 w7 hn2
   replace hS := Step.trans hS (hn2.step No)
   replace hA := hA.no (hn2.step No)
   replace hB := Nat.le_trans hB (hn2.step No).size
   replace hbl := Nat.le_trans hbl (hn2.step No).size
   replace ho2 := ho2.no (hn2.step No)
   replace hrr := hrr.no (hn2.step No)
   have ho3 := hn2.own
   refine Th ?_
   intro w8 hs3
   replace hS := Step.trans hS hs3
   replace hA := hA.no hs3
   replace hB := Nat.le_trans hB (hs3).size
   replace hbl := Nat.le_trans hbl (hs3).size
   replace ho2 := ho2.no hs3
   replace hrr := hrr.no hs3
   replace ho3 := ho3.no hs3
   have hzk7 := hbl
   refine VTc_appendS (d := 29) (e := 3) (A := Ar) (mm := i) (c := cr) (A2 := (some ⟨b2, 0, none⟩)) (m2 := 1) (c2 := 1) (bytes := 8) (by kernel_rfl) (by kernel_rfl) (by kernel_rfl) base1 w8.heap.size (iL .i64 ((rs.take i).map rmC)) (iL .i64 ([imax 0 (imin (rs.getD i 0) 1152921504606846976)])) hrr (by rw [iL_length]; first | done | exact rfl) (Sl.mono (Own.sl ho3 ho3.lt) (by first | exact Nat.le_refl _ | omega)) iL_one (i + 1) (by omega) (by simp only [maxLen]; omega) (by omega) (by omega) ?_ ?_
   ·intro w1 hs1; exact Step.mono hs1 (by intro i hi; (try simp only at hi ⊢); omega)
   intro A1 c1 w9 hr3 hg2
   replace hr3 : Rw w9 base1 3 A1 (i + 1) c1 (iL .i64 (((rs.take i).map rmC) ++ ([imax 0 (imin (rs.getD i 0) 1152921504606846976)]))) := Rw.cast hr3 rfl (by simp only [iL, List.map_append, List.map_cons, List.map_nil, List.append_assoc, List.cons_append, List.nil_append, List.append_nil])
   replace hS := Step.transNew hS hg2 (fun i hi hG => by (try simp only at hG); omega)
   replace hA := hA.keepB hg2 (by (try simp only); omega)
   replace hB := Nat.le_trans hB (hg2).size
   replace hbl := Nat.le_trans hbl (hg2).size
   replace ho2 := ho2.step hg2 (by (try simp only); omega)
   refine VT_end ?_
   intro w10 hs4
   replace hS := Step.trans hS hs4
   replace hA := hA.no hs4
   replace hB := Nat.le_trans hB (hs4).size
   replace hbl := Nat.le_trans hbl (hs4).size
   replace ho2 := ho2.no hs4
   replace hr3 := hr3.no hs4
   refine Vst 15 (o := 0) [.slice A1 (i + 1) c1] ho2 #[.slice A1 (i + 1) c1, .slice none 0 0] ?_
   intro w11 hw1
   replace hS := Step.transNew hS hw1.step (fun _ _ _ => by omega)
   replace hA := hA.keepB hw1.step (show ¬ sb1 = b1 by omega)
   replace hB := Nat.le_trans hB (hw1.step).size
   replace hbl := Nat.le_trans hbl (hw1.step).size
   replace hr3 := hr3.step hw1.step (fun k hk (hF : k = b1) => by omega)
   have ho4 := hw1.own
   refine Ve (VQ_block_normal (Vn (Vr (Vp 2 ?_))))
   have he1 : IntKind.wrap .i64 (((i : Nat) : Int) + 1) = ((i + 1 : Nat) : Int) := (by rw [wrap_i64 _ (by omega) (by omega)]; omega)
   refine Vq 16 (I6 (IntKind.wrap .i64 (((i : Nat) : Int) + 1))) (I6 ((i + 1 : Nat) : Int)) (by rw [he1]) (Ve (VQ_again ⟨i + 1, A1, c1⟩ Su ?_ ?_))
   ·exact ⟨(by omega), hS, hA, hB, hbl, (Own.cast ho4 (by rfl)), (Rw.cast hr3 rfl (by rw [rooms_succ (by omega)]; rfl))⟩
   ·(try dsimp only); omega
  ·refine VC_exit (VQ_then_exit (VQ_then_exit (VQ_block_hit (Vn (Vrp (VC_ret (Vr1 (Pt b1 0) ?_)))))))
   have hin : i = min m 8 := by omega
   have hlen : (roomsN rs).length = min m 8 := by rw [roomsN_len, hn]
   exact ⟨b1, Ar, cr, base1, rfl, by omega, Own.cast ho2 (by rw [hlen, hin]), by omega, by rw [hlen, ← hin]; exact Rw.cast hrr rfl (by unfold roomsN; rw [hn, hin]), hS⟩
 ·refine Ve (Vn (Vf (VC_exit (VQ_then_exit (VQ_then_exit (VQ_block_hit (Vn (Vrp (VC_ret (Vr1 (Pt b1 0) ?_))))))))))
  have hin : i = min m 8 := by omega
  have hlen : (roomsN rs).length = min m 8 := by rw [roomsN_len, hn]
  exact ⟨b1, Ar, cr, base1, rfl, by omega, Own.cast ho2 (by rw [hlen, hin]), by omega, by rw [hlen, ← hin]; exact Rw.cast hrr rfl (by unfold roomsN; rw [hn, hin]), hS⟩

end Go.Proofs.YthchmlidobgkoaaGreat
end

section
/- Layer 20, the document's side: what a node answers, and what it is then. -/
set_option linter.unusedVariables false
set_option linter.unusedSimpArgs false
namespace Go.Proofs.YthchmlidobgkoaaGreat
open Go.Vc Go.RowKit
abbrev ApD (d e : Dx) : Prop := ∀ q, d.Y q → ¬ e.Y q
theorem ApD.symm {d e : Dx} (h : ApD d e) : ApD e d := fun q h1 h2 => h q h2 h1
theorem apart_ins {l P S : List Dx} {d : Dx} (hl : l.Pairwise ApD) (hsub : (P ++ S).Sublist l) (hd : ∀ e ∈ P ++ S, ApD d e) : (P ++ d :: S).Pairwise ApD :=
  (List.Perm.pairwise_iff (fun h => ApD.symm h) List.perm_middle).2 (List.pairwise_cons.2 ⟨hd, hl.sublist hsub⟩)
theorem sub_cut (l : List Dx) (i : Nat) : (l.take i ++ l.drop (i + 1)).Sublist l := by
  have h : (l.take i ++ l.drop (i + 1)).Sublist (l.take i ++ l.drop i) := List.Sublist.append_left (List.drop_sublist_drop_left l (by omega)) _
  rwa [List.take_append_drop] at h
def DNext (w : World) (nd : Nat) (X : Nat → Prop) (lo Bd : Nat) (rooms : List Int) (L : List Cx) (w1 : World) : Prop := ∃ X9, DnP w1 nd X9 lo Bd rooms L ∧ (∀ q, X9 q → X q ∨ w.heap.size ≤ q) ∧ Step X w w1
section
variable {w w1 w' : World} {F X : Nat → Prop} {nd lo Bd : Nat} {rooms : List Int} {l l2 : List Dx} {L : List Cx} {rA A A2 : Option Addr} {rc c c2 : Nat}
theorem DNext.of_no (h : DnP w nd X lo Bd rooms L) (hs : Step No w w1) : DNext w nd X lo Bd rooms L w1 := ⟨X, h.no hs, fun q hq => .inl hq, hs.weak⟩
theorem DnX.raw (h : DnX w nd X lo Bd rooms l rA rc A c) : ∃ lo hi, hi ≤ w.heap.size ∧ Sl2 w lo hi A (flat dxc l) ∧ (nd < lo ∨ hi ≤ nd) := by
  rcases h.lrow with he | ⟨b, rfl, hr, hb⟩
  · refine ⟨0, 0, Nat.zero_le _, fun h0 => ?_, .inr (Nat.zero_le _)⟩
    rw [he] at h0; simp at h0
  · have hne : nd ≠ b := tyb_ne h.own.tyB hr.ty (by decide)
    exact ⟨b, b + 1, hr.lt, hr.sl, by omega⟩
theorem DnX.rawr (h : DnX w nd X lo Bd rooms l rA rc A c) : ∃ rl rh, rh ≤ w.heap.size ∧ Sl2 w rl rh rA (iL .i64 rooms) := by
  obtain ⟨hi, h1, h2⟩ := h.rrow.sl2 h.low
  exact ⟨_, hi, h1, h2⟩
theorem DnX.lo_le (h : DnX w nd X lo Bd rooms l rA rc A c) : lo ≤ w.heap.size := by have := h.low nd h.inN; have := h.own.lt; omega
theorem DnX.remake {base : Nat} (h : DnX w nd X lo Bd rooms l rA rc A c) (hs : Step (Just nd) w w1) (ho : Own w1 nd #[.slice rA rooms.length rc, .slice A2 l2.length c2] 55) (hr : RwS w1 10 base 67 A2 l2.length c2 (flat dxc l2)) (hb : w.heap.size ≤ base)
    (hp : ∀ d ∈ l2, DPl w1 d.pp d.Y d.x.k d.x.rs ∧ ∀ q, d.Y q → X q ∨ w.heap.size ≤ q) (ha : l2.Pairwise ApD) (hc : l2.length ≤ c2) : ∃ X9, DnX w1 nd X9 lo Bd rooms l2 rA rc A2 c2 ∧ (∀ q, X9 q → X q ∨ w.heap.size ≤ q) ∧ Step X w w1 := by
  have hX : ∀ q, X q → DNT w1 q := by
    intro q hq
    by_cases e : q = nd
    · subst e; exact .inl ho.tyB
    · exact (h.ty q hq).step hs e
  refine ⟨fun q => X q ∨ (w.heap.size ≤ q ∧ (TyB w1 67 q ∨ DT w1 q)), ⟨ho, ?_, ?_, ?_, ha, .inl h.inN, ?_, ?_, ?_, h.rcap, hc⟩, ?_, hs.mono fun q hq => by rw [show q = nd from hq]; exact h.inN⟩
  · rcases h.rrow with he | ⟨b, rfl, hr, hb⟩
    · exact .inl he
    · exact .inr ⟨b, rfl, hr.step hs (fun e => tyb_ne hr.ty h.own.tyB (by decide) e), .inl hb⟩
  · refine rowOf.of_rw hr (fun h0 => ?_) (fun b hob h0 => .inr ⟨?_, .inl (RwS.tyB hr hob)⟩)
    · rw [List.length_eq_zero_iff.1 h0]; rfl
    · have := (RwS.lt hr b hob).1; omega
  · intro d hd
    refine ⟨(hp d hd).1, fun q hq => ?_⟩
    rcases (hp d hd).2 q hq with h1 | h1
    · exact .inl h1
    · exact .inr ⟨h1, .inr ((hp d hd).1.ty hq)⟩
  · rintro q (hq | ⟨_, hq | hq⟩)
    · exact hX q hq
    · exact .inr (.inl hq)
    · exact .inr (.inr (.inr hq))
  · rintro q (hq | ⟨hq, _⟩)
    · exact h.low q hq
    · have := h.lo_le; omega
  · rintro q (hq | ⟨hq, h1⟩) ht
    · by_cases e : q = nd
      · subst e; exact absurd rfl (tyb_ne ho.tyB ht (by decide))
      · exact h.up q hq (tyb_back ht hs (h.ty q hq).lt e)
    · exfalso
      rcases h1 with h1 | h1 | h1 | h1 | h1 <;> exact absurd rfl (tyb_ne h1 ht (by decide))
  · rintro q (hq | ⟨hq, _⟩)
    · exact .inl hq
    · exact .inr hq
theorem pol_keep (h : DnX w nd X lo Bd rooms l rA rc A c) (hs : Step (Just nd) w w1) : ∀ d ∈ l, DPl w1 d.pp d.Y d.x.k d.x.rs ∧ ∀ q, d.Y q → X q ∨ w.heap.size ≤ q := fun d hd =>
  ⟨(h.pol d hd).1.step hs fun q hq e => by rcases (h.pol d hd).1.ty hq with h1 | h1 | h1 | h1 <;> exact tyb_ne h1 h.own.tyB (by decide) e, fun q hq => .inl ((h.pol d hd).2 q hq)⟩
theorem olds (h : DnX w nd X lo Bd rooms l rA rc A c) {d e : Dx} (he : e ∈ l) (hd : ∀ q, d.Y q → w.heap.size ≤ q) : ApD d e := fun q h1 h2 => by
  have := ((h.pol e he).1.ty h2).lt
  have := hd q h1
  omega
abbrev KVd (p v c : Int) : Value := .agg #[.int .i64 p, .int .i64 v, .int .i64 c]
abbrev CVd (k : Con) : Value := .agg #[.int .i64 k.kind, .int .i64 k.peak, .int .i64 k.early, .int .i64 k.whole, .int .i64 k.burst, .int .i64 k.least]
theorem len64 (h : LI rooms (l.map Dx.x)) : l.length ≤ 64 := by have := h.len; rwa [List.length_map] at this
theorem ddcheck (h : DnP w nd X lo Bd rooms L) (p v c : Int) (k : Con) : CV Tryz.prog 9 #[.pointer (some ⟨nd, 0, none⟩), KVd p v c, CVd k] w fun x w1 => x = .int .i64 (chkN rooms L p v c k) ∧ Step No w w1 := by
  obtain ⟨h0, l, rA, rc, A, ca, rfl, hX⟩ := h
  exact dcheck_any nd lo rooms l p v c k w hX.dv h0
theorem map_ins {p v c : Int} {k : Con} {pn : Nat} {Yn : Nat → Prop} : (l.take (aheadE (eD l) p v c) ++ (⟨⟨p, v, c, k, rulesC k⟩, pn, Yn⟩ : Dx) :: l.drop (aheadE (eD l) p v c)).map Dx.x = insC (l.map Dx.x) ⟨p, v, c, k, rulesC k⟩ := by
  unfold insC aheadC
  rw [List.map_append, List.map_cons, List.map_take, List.map_drop, show (l.map Dx.x).map Cx.e0 = eD l by unfold eD; rw [List.map_map]; rfl]
theorem dddrop (h : DnP w nd X lo Bd rooms L) (p v c : Int) : CV Tryz.prog 15 #[.pointer (some ⟨nd, 0, none⟩), KVd p v c] w fun x w1 => x = .bool (findC L p v c).isSome ∧ DNext w nd X lo Bd rooms (delC L p v c) w1 := by
  have hD := h
  obtain ⟨h0, l, rA, rc, A, ca, rfl, hX⟩ := h
  obtain ⟨l0, h1, h2, h3, h4⟩ := hX.raw
  rcases atD_cases l p v c with ⟨ha, hf⟩ | ⟨i, y, ha, hy, hf, hk⟩
  · refine (ddrop_no nd l0 h1 rooms l rA rc A ca p v c w hX.own hX.lcap h2 h3 h4 (len64 h0) ha).mono ?_
    rintro x w1 ⟨rfl, hs⟩
    rw [hf]
    exact ⟨rfl, by rw [delC_none hf]; exact DNext.of_no hD hs⟩
  · refine (ddrop_yes nd l0 h1 rooms l rA rc A ca p v c w hX.own hX.lcap h2 h3 h4 (len64 h0) i y ha hy).mono ?_
    rintro x w1 ⟨rfl, A2, c2, ho, hr, hs⟩
    have hiL := (List.getElem?_eq_some_iff.1 hy).1
    have hlen : (l.take i ++ l.drop (i + 1)).length = l.length - 1 := by simp only [List.length_append, List.length_take, List.length_drop]; omega
    have hcap : l.length - 1 ≤ c2 := by
      rcases hr.2 with ⟨hv, hn⟩ | ⟨g, cap, cur, hv, _, _, hc, _⟩
      · omega
      · cases hv; exact hc
    rw [← hlen] at ho hr hcap
    obtain ⟨X9, q1, q2, q3⟩ := hX.remake hs ho hr (Nat.le_refl _) (fun d hd => pol_keep hX hs d ((sub_cut l i).subset hd)) (hX.apart.sublist (sub_cut l i)) hcap
    have hmap : (l.take i ++ l.drop (i + 1)).map Dx.x = delC (l.map Dx.x) p v c := by
      rw [List.map_append, List.map_take, List.map_drop]
      exact del_take h0.one (by rw [List.getElem?_map, hy]; rfl) hk
    rw [hf]
    exact ⟨rfl, X9, ⟨h0.drop p v c, _, rA, rc, A2, c2, hmap.symm, q1⟩, q2, q3⟩
theorem ddtake (h : DnP w nd X lo Bd rooms L) (p v c : Int) (k : Con) (he : chkN rooms L p v c k = 0) : CV Tryz.prog 11 #[.pointer (some ⟨nd, 0, none⟩), KVd p v c, CVd k] w fun x w1 => x = .int .i64 0 ∧ DNext w nd X lo Bd rooms (takeN rooms L p v c k) w1 := by
  obtain ⟨h0, l, rA, rc, A, ca, rfl, hX⟩ := h
  obtain ⟨l0, h1, h2, h3, h4⟩ := hX.raw
  obtain ⟨rl, rh, r1, r2⟩ := hX.rawr
  have hk : rightC k = 0 := (wrongN_zero (chkN_zero he).1).2.2.2
  have hT : takeN rooms (l.map Dx.x) p v c k = insC (l.map Dx.x) ⟨p, v, c, k, rulesC k⟩ := by unfold takeN; rw [if_pos he]
  have hLI := h0.take p v c k
  have fin : ∀ (w1 : World) (A2 : Option Addr) (c2 pn : Nat) (Yn : Nat → Prop) (l2 : List Dx), l2 = l.take (aheadE (eD l) p v c) ++ (⟨⟨p, v, c, k, rulesC k⟩, pn, Yn⟩ : Dx) :: l.drop (aheadE (eD l) p v c) → Own w1 nd #[.slice rA rooms.length rc, .slice A2 l2.length c2] 55 → RwS w1 10 w.heap.size 67 A2 l2.length c2 (flat dxc l2) → DPl w1 pn Yn k (rulesC k) → (∀ q, Yn q → w.heap.size ≤ q) → Step (Just nd) w w1 → DNext w nd X lo Bd rooms (takeN rooms (l.map Dx.x) p v c k) w1 := by
    intro w1 A2 c2 pn Yn l2 e2 ho hr hP hY hs
    have hcap : l2.length ≤ c2 := by
      rcases hr.2 with ⟨hv, hn⟩ | ⟨g, cap, cur, hv, _, _, hc, _⟩
      · omega
      · cases hv; exact hc
    have hsub : (l.take (aheadE (eD l) p v c) ++ l.drop (aheadE (eD l) p v c)).Sublist l := by rw [List.take_append_drop]; exact List.Sublist.refl _
    obtain ⟨X9, q1, q2, q3⟩ := hX.remake hs ho hr (Nat.le_refl _) (fun d hd => by
      rw [e2] at hd
      rcases List.mem_append.1 hd with hd | hd
      · exact pol_keep hX hs d (List.mem_of_mem_take hd)
      · rcases List.mem_cons.1 hd with rfl | hd
        · exact ⟨hP, fun q hq => .inr (hY q hq)⟩
        · exact pol_keep hX hs d (List.mem_of_mem_drop hd)) (by rw [e2]; exact apart_ins hX.apart hsub fun e he => olds hX (hsub.subset he) hY) hcap
    exact ⟨X9, ⟨hLI, l2, rA, rc, A2, c2, by rw [hT, e2, map_ins], q1⟩, q2, q3⟩
  rcases Nat.eq_zero_or_pos l.length with hz | hz
  · have hn := List.length_eq_zero_iff.1 hz
    have ho0 := hX.own
    rw [hz] at ho0
    refine (dntake_first nd l0 h1 rooms l rA rc A ca p v c w ho0 hX.lcap h2 h3 h4 (len64 h0) rl rh k hX.rcap r1 r2 h0 he hk hn).mono ?_
    rintro x w1 ⟨rfl, A2, c2, pn, Yn, ho, hr, hP, hY, hs⟩
    refine ⟨rfl, fin w1 A2 c2 pn Yn [⟨⟨p, v, c, k, rulesC k⟩, pn, Yn⟩] ?_ ho hr hP hY hs⟩
    subst hn; rfl
  · refine (dntake_more nd l0 h1 rooms l rA rc A ca p v c w hX.own hX.lcap h2 h3 h4 (len64 h0) rl rh k hX.rcap r1 r2 h0 he hk hz).mono ?_
    rintro x w1 ⟨rfl, A2, c2, pn, Yn, ho, hr, hP, hY, hs⟩
    have hlen : (l.take (aheadE (eD l) p v c) ++ (⟨⟨p, v, c, k, rulesC k⟩, pn, Yn⟩ : Dx) :: l.drop (aheadE (eD l) p v c)).length = l.length + 1 := by
      rw [List.length_append, List.length_cons, List.length_take, List.length_drop]; omega
    rw [← hlen] at ho hr
    exact ⟨rfl, fin w1 A2 c2 pn Yn _ rfl ho hr hP hY hs⟩
theorem ddtake_any (h : DnP w nd X lo Bd rooms L) (p v c : Int) (k : Con) : CV Tryz.prog 11 #[.pointer (some ⟨nd, 0, none⟩), KVd p v c, CVd k] w fun x w1 => x = .int .i64 (chkN rooms L p v c k) ∧ DNext w nd X lo Bd rooms (takeN rooms L p v c k) w1 := by
  by_cases he : chkN rooms L p v c k = 0
  · rw [he]; exact ddtake h p v c k he
  · have hD := h
    obtain ⟨h0, l, rA, rc, A, ca, rfl, hX⟩ := h
    obtain ⟨l0, h1, h2, h3, h4⟩ := hX.raw
    obtain ⟨rl, rh, r1, r2⟩ := hX.rawr
    refine (dntake_no nd l0 h1 rooms l rA rc A ca p v c w hX.own hX.lcap h2 h3 h4 (len64 h0) rl rh k hX.rcap r1 r2 h0 _ rfl he).mono ?_
    rintro x w1 ⟨rfl, hs⟩
    refine ⟨rfl, ?_⟩
    unfold takeN
    rw [if_neg he]
    exact DNext.of_no hD hs
theorem map_set {i : Nat} {y d : Dx} {p v c : Int} {f : Cx → Cx} (h : OneK (l.map Dx.x)) (hy : l[i]? = some y) (hk : keyX p v c y.x = true) (hd : d.x = f y.x) : (l.set i d).map Dx.x = setC (l.map Dx.x) p v c f := by
  rw [List.map_set, hd]
  exact set_setC h (by rw [List.getElem?_map, hy]; rfl) hk f
theorem set_cut {i : Nat} (hi : i < l.length) (d : Dx) : l.set i d = l.take i ++ d :: l.drop (i + 1) := List.set_eq_take_append_cons_drop ▸ (if_pos hi)
theorem ddverdict (h : DnP w nd X lo Bd rooms L) (p v c t clp : Int) : CV Tryz.prog 17 #[.pointer (some ⟨nd, 0, none⟩), KVd p v c, .int .i64 t, .int .i64 clp] w fun x w1 => x = .tuple #[.int .i64 (verV L p v c t clp), .bool (findC L p v c).isSome] ∧ DNext w nd X lo Bd rooms (verN L p v c t clp) w1 := by
  have hD := h
  obtain ⟨h0, l, rA, rc, A, ca, rfl, hX⟩ := h
  obtain ⟨l0, h1, h2, h3, h4⟩ := hX.raw
  rcases atD_cases l p v c with ⟨ha, hf⟩ | ⟨i, y, ha, hy, hf, hk⟩
  · refine (dverdict_no nd l0 h1 rooms l rA rc A ca p v c t clp w hX.own hX.lcap h2 h3 h4 (len64 h0) ha).mono ?_
    rintro x w1 ⟨rfl, hs⟩
    unfold verV verN
    rw [hf, setC_none hf]
    exact ⟨rfl, DNext.of_no hD hs⟩
  · have hym := List.mem_of_getElem? hy
    have hiL := (List.getElem?_eq_some_iff.1 hy).1
    refine (dverdict_yes nd l0 h1 rooms l rA rc A ca p v c t clp w hX.own hX.lcap h2 h3 h4 (len64 h0) i y ha hy (hX.pol y hym).1).mono ?_
    rintro x w1 ⟨rfl, hP, hs⟩
    have hty : ∀ q, y.Y q → DT w q := fun q hq => (hX.pol y hym).1.ty hq
    have hnd : ¬ y.Y nd := fun hq => by rcases hty _ hq with h9 | h9 | h9 | h9 <;> exact absurd rfl (tyb_ne h9 hX.own.tyB (by decide))
    have hkr : rightC y.x.k = 0 := (h0.key y.x (List.mem_map_of_mem hym)).2.2.2
    have hmap : (l.set i ⟨newR t clp y.x, y.pp, y.Y⟩).map Dx.x = verN (l.map Dx.x) p v c t clp := map_set h0.one hy hk rfl
    have hfl : flat dxc (l.set i ⟨newR t clp y.x, y.pp, y.Y⟩) = flat dxc l := by
      refine flat_map dxc _ _ ?_
      rw [List.map_set]
      apply List.ext_getElem?
      intro j
      rw [List.getElem?_set]
      by_cases e : i = j
      · subst e; rw [if_pos rfl, if_pos (by rw [List.length_map]; exact hiL), List.getElem?_map, hy]; rfl
      · rw [if_neg e]
    have hsub : (l.take i ++ l.drop (i + 1)).Sublist l := sub_cut l i
    have hset := set_cut hiL (⟨newR t clp y.x, y.pp, y.Y⟩ : Dx)
    have hyc : l = l.take i ++ y :: l.drop (i + 1) := by
      have := set_cut hiL y
      have hse : l.set i y = l := by rw [← (List.getElem?_eq_some_iff.1 hy).2]; exact List.set_getElem_self hiL
      rwa [hse] at this
    have hoth : ∀ e ∈ l.take i ++ l.drop (i + 1), ApD y e := by
      have hp := hX.apart
      rw [hyc] at hp
      exact (List.pairwise_cons.1 ((List.Perm.pairwise_iff (fun h => ApD.symm h) List.perm_middle).1 hp)).1
    have hrow : ∀ {T : TypeId} {A : Option Addr} {xs : List Value}, rowOf w T X A xs → (∀ b, TyB w T b → ¬ y.Y b) → rowOf w1 T X A xs := by
      intro T A xs hr hne
      rcases hr with he | ⟨b, rfl, hr, hb⟩
      · exact .inl he
      · exact .inr ⟨b, rfl, hr.step hs (hne b hr.ty), hb⟩
    have ntT : ∀ {T : TypeId} {b : Nat}, TyB w T b → T ≠ 96 ∧ T ≠ 100 ∧ T ≠ 97 ∧ T ≠ 126 → ¬ y.Y b := by
      intro T b ht hT hq
      rcases hty b hq with h9 | h9 | h9 | h9
      · exact absurd rfl (tyb_ne ht h9 hT.1)
      · exact absurd rfl (tyb_ne ht h9 hT.2.1)
      · exact absurd rfl (tyb_ne ht h9 hT.2.2.1)
      · exact absurd rfl (tyb_ne ht h9 hT.2.2.2)
    unfold verV
    rw [hf]
    refine ⟨by simp only [Option.isSome_some, alwaysC, hkr]; simp, X, ⟨h0.verdict p v c t clp, l.set i ⟨newR t clp y.x, y.pp, y.Y⟩, rA, rc, A, ca, hmap.symm, ⟨?_, hrow hX.rrow fun b hb => ntT hb (by decide), ?_, ?_, ?_, hX.inN, ?_, hX.low, ?_, hX.rcap, by rw [List.length_set]; exact hX.lcap⟩⟩, fun q hq => .inl hq, hs.mono fun q hq => (hX.pol y hym).2 q hq⟩
    · rw [List.length_set]; exact hX.own.step hs hnd
    · rw [hfl]; exact hrow hX.lrow fun b hb => ntT hb (by decide)
    · intro d hd
      rw [hset] at hd
      rcases List.mem_append.1 hd with hd' | hd'
      · have hm := List.mem_of_mem_take hd'
        exact ⟨(hX.pol d hm).1.step hs fun q hq h9 => hoth d (List.mem_append_left _ hd') q h9 hq, (hX.pol d hm).2⟩
      · rcases List.mem_cons.1 hd' with rfl | hd'
        · exact ⟨hP, (hX.pol y hym).2⟩
        · have hm := List.mem_of_mem_drop hd'
          exact ⟨(hX.pol d hm).1.step hs fun q hq h9 => hoth d (List.mem_append_right _ hd') q h9 hq, (hX.pol d hm).2⟩
    · rw [hset]
      exact apart_ins hX.apart hsub fun e he => hoth e he
    · intro q hq
      by_cases e : y.Y q
      · exact .inr (.inr (.inr (hP.ty e)))
      · exact (hX.ty q hq).step hs e
    · intro q hq ht
      by_cases e : y.Y q
      · rcases hP.ty e with h9 | h9 | h9 | h9 <;> exact absurd rfl (tyb_ne h9 ht (by decide))
      · exact hX.up q hq (tyb_back ht hs (hX.ty q hq).lt e)
theorem ddchange (h : DnP w nd X lo Bd rooms L) (p v c : Int) (k : Con) : CV Tryz.prog 13 #[.pointer (some ⟨nd, 0, none⟩), KVd p v c, CVd k] w fun x w1 => x = .int .i64 (chgK rooms L p v c k) ∧ DNext w nd X lo Bd rooms (chgN rooms L p v c k) w1 := by
  have hD := h
  obtain ⟨h0, l, rA, rc, A, ca, rfl, hX⟩ := h
  obtain ⟨l0, h1, h2, h3, h4⟩ := hX.raw
  obtain ⟨rl, rh, r1, r2⟩ := hX.rawr
  have r2' := Sl2.sl r2
  have no : ∀ e : Int, e ≠ 0 → chgK rooms (l.map Dx.x) p v c k = e → CV Tryz.prog 13 #[.pointer (some ⟨nd, 0, none⟩), KVd p v c, CVd k] w (fun x w1 => x = .int .i64 e ∧ Step No w w1) → CV Tryz.prog 13 #[.pointer (some ⟨nd, 0, none⟩), KVd p v c, CVd k] w fun x w1 => x = .int .i64 (chgK rooms (l.map Dx.x) p v c k) ∧ DNext w nd X lo Bd rooms (chgN rooms (l.map Dx.x) p v c k) w1 := by
    intro e he hK hc
    refine hc.mono ?_
    rintro x w1 ⟨rfl, hs⟩
    rw [hK]
    refine ⟨rfl, ?_⟩
    unfold chgN
    rw [if_neg (by rw [hK]; exact he)]
    exact DNext.of_no hD hs
  have wr : ∀ e : Int, e ≠ 0 → wrongN rooms p v c k = e → chgK rooms (l.map Dx.x) p v c k = e := by
    intro e he hw
    unfold chgK; rw [if_neg (by rw [hw]; exact he), hw]
  cases hrr : rightB p v c with
  | false => exact no 3 (by decide) (wr 3 (by decide) (dwrong_3 (.inl (.inl hrr)))) (dchange_3a nd l0 h1 rooms l rA rc A ca p v c w hX.own hX.lcap h2 h3 h4 (len64 h0) rl rh k hX.rcap r1 r2' h0 hrr)
  | true =>
    by_cases hc : c < 32
    · exact no 3 (by decide) (wr 3 (by decide) (dwrong_3 (.inl (.inr hc)))) (dchange_3b nd l0 h1 rooms l rA rc A ca p v c w hX.own hX.lcap h2 h3 h4 (len64 h0) rl rh k hX.rcap r1 r2' h0 hrr hc)
    · by_cases hp : p ≥ rooms.length
      · exact no 3 (by decide) (wr 3 (by decide) (dwrong_3 (.inr hp))) (dchange_3c nd l0 h1 rooms l rA rc A ca p v c w hX.own hX.lcap h2 h3 h4 (len64 h0) rl rh k hX.rcap r1 r2' h0 hrr hc hp)
      · by_cases hk : rightC k = 0
        · have hw0 : wrongN rooms p v c k = 0 := dwrong_0 ⟨⟨hrr, hc⟩, hp⟩ hk
          rcases atD_cases l p v c with ⟨ha, hf⟩ | ⟨i, y, ha, hy, hf, hky⟩
          · exact no 81 (by decide) (by unfold chgK; rw [if_pos hw0, hf]) (dchange_81 nd l0 h1 rooms l rA rc A ca p v c w hX.own hX.lcap h2 h3 h4 (len64 h0) rl rh k hX.rcap r1 r2' h0 hrr hc hp hk ha)
          · have hp0 := right_ge hrr
            obtain ⟨ip, rfl⟩ : ∃ ip : Nat, p = ip := ⟨p.toNat, by omega⟩
            by_cases hgt : needC k > leftN rooms (l.map Dx.x) (ip : Nat) + needC y.x.k
            · exact no 37 (by decide) (by unfold chgK; rw [if_pos hw0, hf]; simp only; rw [if_pos hgt]) (dchange_37 nd l0 h1 rooms l rA rc A ca ip v c w hX.own hX.lcap h2 h3 h4 (len64 h0) rl rh k hX.rcap r1 r2' h0 hrr hc (by omega) hk i y ha hy hky hf hgt)
            · have hK : chgK rooms (l.map Dx.x) (ip : Nat) v c k = 0 := by unfold chgK; rw [if_pos hw0, hf]; simp only; rw [if_neg hgt]
              have hLI := h0.change (ip : Nat) v c k
              have hN : chgN rooms (l.map Dx.x) (ip : Nat) v c k = setC (l.map Dx.x) (ip : Nat) v c (newK k) := by unfold chgN; rw [if_pos hK]
              refine (dchange_yes nd l0 h1 rooms l rA rc A ca ip v c w hX.own hX.lcap h2 h3 h4 (len64 h0) rl rh k hX.rcap r1 r2' h0 hrr hc (by omega) hk i y ha hy hky hf hgt).mono ?_
              rintro x w1 ⟨rfl, A2, c2, pn, Yn, ho, hr, hP, hY, hs⟩
              have hiL := (List.getElem?_eq_some_iff.1 hy).1
              have hset := set_cut hiL (⟨⟨(ip : Nat), v, c, k, rulesC k⟩, pn, Yn⟩ : Dx)
              have hlen : (l.set i (⟨⟨(ip : Nat), v, c, k, rulesC k⟩, pn, Yn⟩ : Dx)).length = l.length := List.length_set
              rw [← hlen] at ho hr
              have hcap : (l.set i (⟨⟨(ip : Nat), v, c, k, rulesC k⟩, pn, Yn⟩ : Dx)).length ≤ c2 := by
                rcases hr.2 with ⟨hv, hn⟩ | ⟨g, cap, cur, hv, _, _, hc, _⟩
                · omega
                · cases hv; exact hc
              obtain ⟨X9, q1, q2, q3⟩ := hX.remake hs ho hr (Nat.le_refl _) (fun d hd => by
                rw [hset] at hd
                rcases List.mem_append.1 hd with hd | hd
                · exact pol_keep hX hs d (List.mem_of_mem_take hd)
                · rcases List.mem_cons.1 hd with rfl | hd
                  · exact ⟨hP, fun q hq => .inr (hY q hq)⟩
                  · exact pol_keep hX hs d (List.mem_of_mem_drop hd)) (by rw [hset]; exact apart_ins hX.apart (sub_cut l i) fun e he => olds hX ((sub_cut l i).subset he) hY) hcap
              have e1 := keyX_iff.1 hky
              refine ⟨by rw [hK], X9, ⟨hLI, _, rA, rc, A2, c2, ?_, q1⟩, q2, q3⟩
              rw [hN]
              refine (map_set (f := newK k) h0.one hy hky ?_).symm
              unfold newK
              rw [← e1.1, ← e1.2.1, ← e1.2.2]
        · exact no 73 (by decide) (wr 73 (by decide) (dwrong_73 ⟨⟨hrr, hc⟩, hp⟩ hk)) (dchange_73 nd l0 h1 rooms l rA rc A ca p v c w hX.own hX.lcap h2 h3 h4 (len64 h0) rl rh k hX.rcap r1 r2' h0 hrr hc hp hk)
theorem ddnew {A : Option Addr} {m c Bd : Nat} {rs : List Int} (hn : rs.length = m) (hA : Sl w Bd A (iL .i64 rs)) (hB : Bd ≤ w.heap.size) (hnc : m ≤ c) (hmx : m ≤ maxLen) : CV Tryz.prog 7 #[.slice A m c] w fun x w1 => ∃ nd X, x = .pointer (some ⟨nd, 0, none⟩) ∧ DnP w1 nd X w.heap.size w1.heap.size (roomsN rs) [] ∧ Step No w w1 := by
  refine (dnnew_any A m c Bd rs w hn hA hB hnc hmx).mono ?_
  rintro x w1 ⟨nd, rA, rc, base, rfl, hb, ho, hbase, hr, hs⟩
  have hok := roomsN_ok rs
  have hrc : (roomsN rs).length ≤ rc := by
    rcases hr.2 with ⟨hv, hn⟩ | ⟨g, cap, cur, hv, _, _, hc, _⟩
    · omega
    · cases hv; exact hc
  refine ⟨nd, fun q => q = nd ∨ ownB rA q ∧ 0 < (roomsN rs).length, rfl, ⟨LI.nil hok.1 hok.2, [], rA, rc, none, 0, rfl, ⟨ho, ?_, .inl rfl, (fun d hd => by cases hd), .nil, .inl rfl, ?_, ?_, ?_, hrc, Nat.le_refl _⟩⟩, hs⟩
  · exact rowOf.of_rw hr (fun h0 => by rw [List.length_eq_zero_iff.1 h0]; rfl) fun b hb h0 => .inr ⟨hb, h0⟩
  · rintro q (rfl | ⟨hq, _⟩)
    · exact .inl ho.tyB
    · exact .inr (.inr (.inl (RwS.tyB hr hq)))
  · rintro q (rfl | ⟨hq, _⟩)
    · exact hb
    · have := (RwS.lt hr q hq).1; omega
  · rintro q (rfl | ⟨hq, _⟩) ht
    · exact ho.lt
    · exact (RwS.lt hr q hq).2
end
end Go.Proofs.YthchmlidobgkoaaGreat
end

section
/- Layer 20: the sums by link; a contract of a key that is there. -/
set_option linter.unusedVariables false
set_option linter.unusedSimpArgs false
namespace Go.Proofs.YthchmlidobgkoaaGreat
open Go.Vc Go.RowKit
theorem usdL_next {L : List Cx} {k : Nat} {y : Cx} (hy : L[k]? = some y) (i : Int) : usdL (L.take (k + 1)) i = usdL (L.take k) i + (if y.p = i then needC y.k else 0) := by
  rw [takeC_next hy, usdL_append]; simp [usdL]
theorem usdL_take (L : List Cx) (k : Nat) (i : Int) : usdL (L.take k) i ≤ usdL L i := by
  have h := usdL_append (L.take k) (L.drop k) i
  rw [List.take_append_drop] at h
  have := usdL_nonneg (L.drop k) i
  omega
/-- What is known of a key's connection. -/
theorem NdP.at {w : World} {nd lo : Nat} {X : Nat → Prop} {rooms : List Int} {L : List Cx} {n k : Nat} {y : Cx} (h : NdP w nd X lo rooms L n) (hy : L[k]? = some y) : ∃ i : Nat, y.p = (i : Int) ∧ i < rooms.length ∧ i < 8 ∧ rightC y.k = 0 ∧ 0 ≤ usdL (L.take k) (i : Int) ∧ 0 ≤ needC y.k ∧ usdL (L.take k) (i : Int) + needC y.k ≤ 1152921504606846976 := by
  obtain ⟨⟨a1, a2⟩, _, _, a5⟩ := h.li.key y (List.mem_of_getElem? hy)
  obtain ⟨i, r, hp, hi, hr⟩ := port_nat ⟨a1, a2⟩
  have h1 := h.li.fit i r hr
  have h2 := (h.li.rooms r (List.mem_of_getElem? hr)).2
  have h3 := usdL_take L (k + 1) (i : Int)
  rw [usdL_next hy, if_pos hp] at h3
  have h4 := h.li.rm
  exact ⟨i, hp, hi, by omega, a5, usdL_nonneg _ _, (needC_le y.k).1, by omega⟩
theorem NdP.port {w : World} {nd lo : Nat} {X : Nat → Prop} {rs : List Int} {L : List Cx} {n m j : Nat} (h : NdP w nd X lo (roomsN rs) L n) (hm : rs.length = m) (hj : j < min 8 m) : usedN (roomsN rs) L (j : Int) = usdL L (j : Int) ∧ usdL L (j : Int) ≤ imax 0 (imin (rs.getD j 0) 1152921504606846976) ∧ leftN (roomsN rs) L (j : Int) = imax 0 (imin (rs.getD j 0) 1152921504606846976) - usdL L (j : Int) ∧ 0 ≤ usdL L (j : Int) ∧ imax 0 (imin (rs.getD j 0) 1152921504606846976) ≤ 1152921504606846976 := by
  have hr := roomsN_at hm (show j < min m 8 by omega)
  have e : (rs.take (min m 8)).getD j 0 = rs.getD j 0 := by simp [List.getD, List.getElem?_take, show j < min m 8 by omega]
  rw [e] at hr
  have hl := (List.getElem?_eq_some_iff.1 hr).1
  exact ⟨by unfold usedN; rw [if_pos ⟨by omega, by omega⟩], h.li.fit j _ hr, leftN_at hr, usdL_nonneg _ _, (h.li.rooms _ (List.mem_of_getElem? hr)).2⟩
end Go.Proofs.YthchmlidobgkoaaGreat
end

section
/- Layer 20, plain: when a connection is taken, and what then is there. -/
set_option linter.unusedVariables false
set_option linter.unusedSimpArgs false
namespace Go.Proofs.YthchmlidobgkoaaGreat
open Go.Vc Go.RowKit
/-- What a connection that was taken leaves. -/
theorem taken {rooms : List Int} {L : List Cx} {p v c : Int} {k : Con} (h : LI rooms L) (h0 : chkN rooms L p v c k = 0) : (takeN rooms L p v c k).length = L.length + 1 ∧ leftN rooms (takeN rooms L p v c k) p = leftN rooms L p - needC k ∧ (findC (takeN rooms L p v c k) p v c).isSome = true ∧ conN (takeN rooms L p v c k) p v c = k ∧ chkN rooms (takeN rooms L p v c k) p v c k = 35 := by
  have hI := h.take p v c k
  obtain ⟨h1, h2, h3, h4⟩ := chkN_zero h0
  obtain ⟨a1, a2, a3, a4⟩ := wrongN_zero h1
  have e : takeN rooms L p v c k = insC L ⟨p, v, c, k, rulesC k⟩ := by unfold takeN; rw [if_pos h0]
  rw [e] at hI ⊢
  have hf : findC (insC L ⟨p, v, c, k, rulesC k⟩) p v c = some ⟨p, v, c, k, rulesC k⟩ := findC_mem (x := ⟨p, v, c, k, rulesC k⟩) hI.one (mem_insC.2 (.inl rfl))
  refine ⟨len_insC _ _, ?_, by rw [hf]; rfl, by unfold conN; rw [hf], ?_⟩
  · unfold leftN
    have e2 := usdL_ins L ⟨p, v, c, k, rulesC k⟩ p
    rw [if_pos rfl] at e2
    dsimp only at e2
    rw [if_pos a1, if_pos a1, e2]; omega
  · unfold chkN
    rw [if_pos h1, hf]; rfl
theorem kept {rooms : List Int} {L : List Cx} {p v c : Int} {k : Con} (h0 : ¬ chkN rooms L p v c k = 0) : takeN rooms L p v c k = L := by unfold takeN; rw [if_neg h0]
end Go.Proofs.YthchmlidobgkoaaGreat
end
